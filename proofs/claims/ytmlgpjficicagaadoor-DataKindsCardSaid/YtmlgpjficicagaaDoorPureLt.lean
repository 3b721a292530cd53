import Derived.Test.YtmlgpjficicagaaDoorPureLd
import Derived.Test.YtmlgpjficicagaaDoorPureLc
set_option linter.unusedVariables false
set_option linter.unusedSimpArgs false
namespace Go.Sx
open Go
/-! ## the lexers' great loop -/
def lastB (l : List Token) : Bool := (l.getLast?.map closedB).getD false
def LexP (R : LexR) (r : Value) (H : Hp) : Prop := ∃ v, r = .tuple #[v, .int .i64 R.at_, .int .i64 R.e] ∧ RdSl H 3 Token.cells v R.l
theorem quoteV_cases {s : Str} {q : Option (Str × Str)} {v : Value} (h : v = quoteV s q) : (q = none ∧ v = .tuple #[gs [], .int .i64 0, .bool false]) ∨ ∃ t r, q = some (t, r) ∧ v = .tuple #[gs t, .int .i64 ((s.length : Int) - r.length), .bool true] := by
  subst h
  cases q with
  | none => exact .inl ⟨rfl, rfl⟩
  | some x => exact .inr ⟨x.1, x.2, rfl, rfl⟩
theorem lexS_long {s : Str} (h : (16384 : Int) < s.length) : lexS s = ⟨[], 0, 200⟩ := by unfold lexS; rw [if_pos h]
theorem runL_bound (s : Str) {k : Int} (h0 : 0 ≤ k) (h1 : k ≤ s.length) : (k + (runL nameC (s.drop k.toNat) : Nat) ≤ s.length) ∧ (k + (runL (fun c => !decide (c = 10)) (s.drop k.toNat) : Nat) ≤ s.length) ∧ (k < s.length → k + 1 + (runL digitB (s.drop (k + 1).toNat) : Nat) ≤ s.length) := by
  have h2 := runL_le nameC (s.drop k.toNat)
  have h3 := runL_le (fun c => !decide (c = 10)) (s.drop k.toNat)
  have h4 := runL_le digitB (s.drop (k + 1).toNat)
  simp only [List.length_drop] at h2 h3 h4
  omega
theorem signL_le (s : Str) : signL s ≤ s.length := by
  cases s with
  | nil => exact Nat.le_refl _
  | cons c r =>
    rw [signL_cons]
    split
    · rename_i h2
      have : r ≠ [] := by rintro rfl; simp at h2
      have := List.length_pos_iff.2 this
      simp; omega
    split <;> simp
theorem signL_bound (s : Str) {k : Int} (h0 : 0 ≤ k) (h1 : k < s.length) : k + (((s.drop k.toNat).take (signL (s.drop k.toNat))).length : Nat) ≤ s.length ∧ ((s.drop k.toNat).take (signL (s.drop k.toNat))).length = signL (s.drop k.toNat) := by
  have := signL_le (s.drop k.toNat)
  simp only [List.length_drop] at this
  rw [List.length_take, List.length_drop]
  omega
theorem getLast {α : Type} {l : List α} (h : ¬ (l.length : Int) = 0) : ∃ x, l[((l.length : Int) - 1).toNat]? = some x := by
  have : ((l.length : Int) - 1).toNat < l.length := by omega
  exact ⟨_, List.getElem?_eq_getElem this⟩
theorem lastB_at {l : List Token} {t : Token} (h : l[((l.length : Int) - 1).toNat]? = some t) : lastB l = closedB t := by
  unfold lastB
  rw [List.getLast?_eq_getElem?, show l.length - 1 = ((l.length : Int) - 1).toNat by omega, h]; rfl
theorem u8_34 {c : UInt8} : ((c.toNat : Int) = 34) ↔ c = 34 := u8_eq (n := 34)
theorem u8_35 {c : UInt8} : ((c.toNat : Int) = 35) ↔ c = 35 := u8_eq (n := 35)
theorem u8_45 {c : UInt8} : ((c.toNat : Int) = 45) ↔ c = 45 := u8_eq (n := 45)
section
variable {s : Str} {k : Int} {c d : UInt8} {l : List Token}
theorem minus_0 (h : decide ((c.toNat : Int) = 45) = false) : false = (decide (c = 45) && ((((s.drop (k + 1).toNat).head?).map digitB).getD false && !(lastB l))) := by
  have : ¬ c = 45 := fun e => (of_decide_eq_false h) (u8_45.2 e)
  simp [this]
theorem minus_1 (h : ¬ k + 1 < s.length) : false = (decide (c = 45) && ((((s.drop (k + 1).toNat).head?).map digitB).getD false && !(lastB l))) := by
  rw [drop_end h]; simp
theorem head_drop {i : Nat} (h : s[i]? = some d) : (s.drop i).head? = some d := by
  rw [drop_of h]; rfl
theorem minus_2 (hd : s[(k + 1).toNat]? = some d) (h : digitB d = false) : false = (decide (c = 45) && ((((s.drop (k + 1).toNat).head?).map digitB).getD false && !(lastB l))) := by
  rw [head_drop hd]; simp [h]
theorem minus_3 (h0 : decide ((c.toNat : Int) = 45) = true) (hd : s[(k + 1).toNat]? = some d) (h : digitB d = true) (hl : decide ((l.length : Int) = 0) = true) : true = (decide (c = 45) && ((((s.drop (k + 1).toNat).head?).map digitB).getD false && !(lastB l))) := by
  have hc : c = 45 := u8_45.1 (of_decide_eq_true h0)
  have : l = [] := List.length_eq_zero_iff.1 (by have := of_decide_eq_true hl; omega)
  subst this
  rw [head_drop hd]; simp [h, hc, lastB]
theorem minus_4 {tl : Token} (h0 : decide ((c.toNat : Int) = 45) = true) (hd : s[(k + 1).toNat]? = some d) (h : digitB d = true) (hl : l[((l.length : Int) - 1).toNat]? = some tl) : (!closedB tl) = (decide (c = 45) && ((((s.drop (k + 1).toNat).head?).map digitB).getD false && !(lastB l))) := by
  have hc : c = 45 := u8_45.1 (of_decide_eq_true h0)
  rw [head_drop hd, lastB_at hl]; simp [h, hc]
theorem blank_1 (h : decide ((c.toNat : Int) = 32) = true) : true = blankB c := by
  have : c = 32 := (u8_eq (n := 32)).1 (of_decide_eq_true h)
  simp [blankB, this]
theorem blank_2 (h : decide ((c.toNat : Int) = 9) = true) : true = blankB c := by
  have : c = 9 := (u8_eq (n := 9)).1 (of_decide_eq_true h)
  simp [blankB, this]
theorem blank_3 (h : decide ((c.toNat : Int) = 32) = false) (h2 : decide ((c.toNat : Int) = 9) = false) : decide ((c.toNat : Int) = 10) = blankB c := by
  have h3 : ¬ c = 32 := fun e => of_decide_eq_false h ((u8_eq (n := 32)).2 e)
  have h4 : ¬ c = 9 := fun e => of_decide_eq_false h2 ((u8_eq (n := 9)).2 e)
  have h5 : ((c.toNat : Int) = 10) ↔ c = 10 := u8_eq (n := 10)
  simp [blankB, h3, h4, h5]
theorem runL_pos {p : UInt8 → Bool} (k0 : 0 ≤ k) (hc : s[k.toNat]? = some c) (hp : p c = true) : 1 ≤ runL p (s.drop k.toNat) := by
  rw [runL_at_cons k0 hc, if_pos hp]; omega
theorem nameC_of (h : letterB c = true) : nameC c = true := by unfold nameC; rw [h]; rfl
theorem sign_pos {n : Nat} {x : Str} (h : x.length = n) (hx : ¬ x = []) : 1 ≤ n := by
  have := List.length_pos_iff.2 hx; omega
theorem tok1_err_ne {after : Bool} {s : Str} {e : Int} (h : tok1 after s = .err e) : e ≠ 0 := by
  rintro rfl
  cases s with
  | nil => cases h
  | cons c r =>
    rw [tok1_cons] at h
    split at h
    · cases h
    split at h
    · split at h <;> cases h
    split at h
    · exact absurd (qTk_err h) (by decide)
    · split at h <;> cases h
theorem lx_blank (k0 : 0 ≤ k) (hc : s[k.toNat]? = some c) (hb : blankB c = true) (hN : lexN false 0 s = LexR.after l (lexN (lastB l) k (s.drop k.toNat))) : lexN false 0 s = LexR.after l (lexN (lastB l) (k + 1) (s.drop (k + 1).toNat)) := by
  rw [hN, drop_at k0 hc, lexN_blank hb]
theorem lx_note (k0 : 0 ≤ k) (hc : s[k.toNat]? = some c) (hb : blankB c = false) (h : (c.toNat : Int) = 35) (hN : lexN false 0 s = LexR.after l (lexN (lastB l) k (s.drop k.toNat))) :
    lexN false 0 s = LexR.after l (lexN (lastB l) (k + (runL (fun c => !decide (c = 10)) (s.drop k.toNat) : Nat)) (s.drop (k + (runL (fun c => !decide (c = 10)) (s.drop k.toNat) : Nat)).toNat)) := by
  have hd := drop_at k0 hc
  rw [u8_35.1 h] at hd
  rw [hN, hd, lexN_note, ← hd, List.drop_drop]
  congr 3
  omega
theorem lx_ok {kd k2 : Int} {t : Str} {n : Nat} (k0 : 0 ≤ k) (hc : s[k.toNat]? = some c) (hb : blankB c = false) (h : ¬ (c.toNat : Int) = 35) (ht : tok1 (lastB l) (s.drop k.toNat) = .ok kd t n) (hk : k2 = k + n) (hN : lexN false 0 s = LexR.after l (lexN (lastB l) k (s.drop k.toNat))) :
    lexN false 0 s = LexR.after (l ++ [⟨kd, t, k⟩]) (lexN (lastB (l ++ [⟨kd, t, k⟩])) k2 (s.drop k2.toNat)) := by
  subst hk
  have hd := drop_at k0 hc
  rw [hN]
  rw [hd] at ht ⊢
  rw [lexN_ok hb (fun e => h (u8_35.2 e)) ht, LexR.after_after, ← hd, List.drop_drop]
  have e1 : lastB (l ++ [⟨kd, t, k⟩]) = closedB ⟨kd, t, k⟩ := by unfold lastB; simp
  rw [e1]
  congr 3
  omega
theorem lx_err {e : Int} (k0 : 0 ≤ k) (hc : s[k.toNat]? = some c) (hb : blankB c = false) (h : ¬ (c.toNat : Int) = 35) (ht : tok1 (lastB l) (s.drop k.toNat) = .err e) (hN : lexN false 0 s = LexR.after l (lexN (lastB l) k (s.drop k.toNat))) : lexN false 0 s = ⟨[], k, e⟩ := by
  have hne := tok1_err_ne ht
  have hd := drop_at k0 hc
  rw [hN]
  rw [hd] at ht ⊢
  rw [lexN_err hb (fun e => h (u8_35.2 e)) ht]
  unfold LexR.after
  rw [if_neg hne]
theorem lx_end (h : ¬ k < s.length) (hN : lexN false 0 s = LexR.after l (lexN (lastB l) k (s.drop k.toNat))) : lexN false 0 s = ⟨l, 0, 0⟩ := by
  rw [hN, drop_end h, lexN_nil]
  unfold LexR.after; simp
theorem LexP.err {H : Hp} {e : Int} (hS : lexS s = lexN false 0 s) (h : lexN false 0 s = ⟨[], k, e⟩) : LexP (lexS s) (.tuple #[.slice none 0 0, .int .i64 k, .int .i64 e]) H := by
  rw [hS, h]
  exact ⟨_, rfl, RdSl.nil⟩
theorem tk_word {after : Bool} (k0 : 0 ≤ k) (hc : s[k.toNat]? = some c) (h : letterB c = true) : tok1 after (s.drop k.toNat) = .ok 0 ((s.take (k + (runL nameC (s.drop k.toNat) : Nat)).toNat).drop k.toNat) (runL nameC (s.drop k.toNat)) := by
  rw [two_take (c := c) k0 _ (by omega), drop_at k0 hc, tok1_cons, if_pos h]
  simp
theorem tk_num {after : Bool} (k0 : 0 ≤ k) (hc : s[k.toNat]? = some c) (h : letterB c = false) (h2 : (digitB c || (decide (c = 45) && ((((s.drop (k + 1).toNat).head?).map digitB).getD false && !after))) = true)
    (hn : numeralB ((s.take (k + 1 + (runL digitB (s.drop (k + 1).toNat) : Nat)).toNat).drop k.toNat) = true) : tok1 after (s.drop k.toNat) = .ok 1 ((s.take (k + 1 + (runL digitB (s.drop (k + 1).toNat) : Nat)).toNat).drop k.toNat) (runL digitB (s.drop (k + 1).toNat) + 1) := by
  rw [show k + 1 + (runL digitB (s.drop (k + 1).toNat) : Nat) = k + ((runL digitB (s.drop (k + 1).toNat) + 1 : Nat) : Int) by push_cast; omega, two_take (c := c) k0 _ (by omega)] at hn ⊢
  rw [drop_at k0 hc] at hn ⊢
  simp only [Int.toNat_natCast] at hn ⊢
  rw [tok1_cons, if_neg (by simp [h]), if_pos h2, if_pos hn]
theorem tk_nonum {after : Bool} (k0 : 0 ≤ k) (hc : s[k.toNat]? = some c) (h : letterB c = false) (h2 : (digitB c || (decide (c = 45) && ((((s.drop (k + 1).toNat).head?).map digitB).getD false && !after))) = true)
    (hn : numeralB ((s.take (k + 1 + (runL digitB (s.drop (k + 1).toNat) : Nat)).toNat).drop k.toNat) = false) : tok1 after (s.drop k.toNat) = .err 202 := by
  rw [show k + 1 + (runL digitB (s.drop (k + 1).toNat) : Nat) = k + ((runL digitB (s.drop (k + 1).toNat) + 1 : Nat) : Int) by push_cast; omega, two_take (c := c) k0 _ (by omega)] at hn
  rw [drop_at k0 hc] at hn ⊢
  simp only [Int.toNat_natCast] at hn
  rw [tok1_cons, if_neg (by simp [h]), if_pos h2, if_neg (by rw [hn]; decide)]
theorem tk_quote {after : Bool} {qt qr : Str} (k0 : 0 ≤ k) (hc : s[k.toNat]? = some c) (h : letterB c = false) (h2 : (digitB c || (decide (c = 45) && ((((s.drop (k + 1).toNat).head?).map digitB).getD false && !after))) = false) (h3 : (c.toNat : Int) = 34) (hq : quoteL (s.drop (k + 1).toNat) = some (qt, qr)) :
    tok1 after (s.drop k.toNat) = .ok 2 qt (s.length - k.toNat - qr.length) := by
  have hl := ix_lt hc
  rw [drop_at k0 hc, tok1_cons, if_neg (by simp [h]), if_neg (by simp only [h2]; decide), if_pos (u8_34.1 h3), hq]
  simp only [qTk, List.length_drop]
  congr 1
  omega
theorem tk_noquote {after : Bool} (k0 : 0 ≤ k) (hc : s[k.toNat]? = some c) (h : letterB c = false) (h2 : (digitB c || (decide (c = 45) && ((((s.drop (k + 1).toNat).head?).map digitB).getD false && !after))) = false) (h3 : (c.toNat : Int) = 34) (hq : quoteL (s.drop (k + 1).toNat) = none) :
    tok1 after (s.drop k.toNat) = .err 203 := by
  rw [drop_at k0 hc, tok1_cons, if_neg (by simp [h]), if_neg (by simp only [h2]; decide), if_pos (u8_34.1 h3), hq]; rfl
theorem tk_sign {after : Bool} (k0 : 0 ≤ k) (hc : s[k.toNat]? = some c) (h : letterB c = false) (h2 : (digitB c || (decide (c = 45) && ((((s.drop (k + 1).toNat).head?).map digitB).getD false && !after))) = false) (h3 : ¬ (c.toNat : Int) = 34) (hs : ¬ (s.drop k.toNat).take (signL (s.drop k.toNat)) = []) :
    tok1 after (s.drop k.toNat) = .ok 3 ((s.take (k + (((s.drop k.toNat).take (signL (s.drop k.toNat))).length : Nat)).toNat).drop k.toNat) (signL (s.drop k.toNat)) := by
  have hl := (signL_bound s k0 (ix_lt hc)).2
  rw [hl, two_take (c := c) k0 _ (by omega), Int.toNat_natCast]
  have h0 : ¬ signL (s.drop k.toNat) = 0 := fun e => hs (by rw [e]; rfl)
  rw [drop_at k0 hc] at h0 ⊢
  rw [tok1_cons, if_neg (by simp [h]), if_neg (by simp only [h2]; decide), if_neg (fun e => h3 (u8_34.2 e)), if_neg h0]
theorem tk_nosign {after : Bool} (k0 : 0 ≤ k) (hc : s[k.toNat]? = some c) (h : letterB c = false) (h2 : (digitB c || (decide (c = 45) && ((((s.drop (k + 1).toNat).head?).map digitB).getD false && !after))) = false) (h3 : ¬ (c.toNat : Int) = 34) (hs : (s.drop k.toNat).take (signL (s.drop k.toNat)) = []) :
    tok1 after (s.drop k.toNat) = .err 201 := by
  have hl := (signL_bound s k0 (ix_lt hc)).2
  rw [hs] at hl
  rw [drop_at k0 hc] at hl ⊢
  rw [tok1_cons, if_neg (by simp [h]), if_neg (by simp only [h2]; decide), if_neg (fun e => h3 (u8_34.2 e)), if_pos (show signL _ = 0 from hl.symm)]
end
end Go.Sx
