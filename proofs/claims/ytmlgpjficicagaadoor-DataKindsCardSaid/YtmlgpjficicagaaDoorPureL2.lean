import Derived.Test.YtmlgpjficicagaaDoorPureLw
import Derived.Test.YtmlgpjficicagaaDoorPureLb
set_option linter.unusedVariables false
set_option linter.unusedSimpArgs false
namespace Go.Sx
open Go
/-! ## the laws of layer 2 -/
def eqT (at_ : Bool) (x y : Token) : Bool := decide (x.kind = y.kind) && (decide (x.text = y.text) && (!at_ || decide (x.at_ = y.at_)))
def sameT (at_ : Bool) : List Token → List Token → Bool
  | [], [] => true
  | x :: a, y :: b => eqT at_ x y && sameT at_ a b
  | _, _ => false
theorem sameT_len {at_ : Bool} : ∀ {a b : List Token}, a.length ≠ b.length → sameT at_ a b = false
  | [], [], h => absurd rfl h
  | [], _ :: _, _ => rfl
  | _ :: _, [], _ => rfl
  | x :: a, y :: b, h => by
    simp only [sameT]
    rw [sameT_len (by simpa using h), Bool.and_false]
theorem sameT_step {at_ : Bool} {a b : List Token} {k : Int} {x y : Token} (k0 : 0 ≤ k) (hx : a[k.toNat]? = some x) (hy : b[k.toNat]? = some y) : sameT at_ (a.drop k.toNat) (b.drop k.toNat) = (eqT at_ x y && sameT at_ (a.drop (k + 1).toNat) (b.drop (k + 1).toNat)) := by
  rw [drop_at k0 hx, drop_at k0 hy]; rfl
theorem sameT_refl (at_ : Bool) : ∀ a : List Token, sameT at_ a a = true
  | [] => rfl
  | x :: a => by simp [sameT, eqT, sameT_refl at_ a]
def kt (t : Token) : Int × Str := (t.kind, t.text)
theorem sameT_kt : ∀ {a b : List Token}, a.map kt = b.map kt → sameT false a b = true
  | [], [], _ => rfl
  | [], _ :: _, h => by simp at h
  | _ :: _, [], h => by simp at h
  | x :: a, y :: b, h => by
    simp only [List.map_cons, List.cons.injEq, kt, Prod.mk.injEq] at h
    simp [sameT, eqT, h.1.1, h.1.2, sameT_kt h.2]
theorem placed_kt : ∀ (l : List Token) (p : Bool) (a : Int), (placedW p a l).map kt = l.map kt
  | [], _, _ => rfl
  | t :: l, p, a => by simp [placedW, placed_kt l, kt]
theorem fst_a : lexS [120, 45, 49] = ⟨[⟨0, [120], 0⟩, ⟨3, [45], 1⟩, ⟨1, [49], 2⟩], 0, 0⟩ := by kernel_rfl
theorem fst_b : lexS [61, 32, 45, 49] = ⟨[⟨3, [61], 0⟩, ⟨1, [45, 49], 2⟩], 0, 0⟩ := by kernel_rfl
/-! ### two texts joined -/
theorem lexN_semi (after : Bool) (p : Int) (b : Str) : lexN after p (59 :: 10 :: b) = LexR.after [⟨3, [59], p⟩] (lexN false (p + 2) b) := by
  have ht : tok1 after (59 :: 10 :: b) = .ok 3 [59] 1 := by
    rw [tok1_cons, if_neg (by decide), if_neg (by simp [show digitB 59 = false by decide]), if_neg (by decide)]
    have : signL (59 :: 10 :: b) = 1 := by rw [signL_cons, if_neg (by simp), if_pos (by decide)]
    rw [this]; rfl
  rw [lexN_ok (by decide) (by decide) ht]
  simp only [List.drop_succ_cons, List.drop_zero]
  rw [lexN_blank (by decide)]
  have : closedB ⟨3, [59], p⟩ = false := rfl
  rw [this]
  congr 2
  push_cast; omega
theorem lexS_joined {a b : Str} (ha : a.length ≤ 1000) (hb : b.length ≤ 1000) : lexS ((a ++ [10, 59, 10]) ++ b) =
    if (lexS a).e = 0 then LexR.after ((lexS a).l ++ [⟨3, [59], (a.length : Int) + 1⟩]) ((lexS b).shift ((a.length : Int) + 3)) else lexS a := by
  rw [lexS_N (s := a) (by omega), lexS_N (s := b) (by omega), lexS_N (by simp; omega)]
  have e : (a ++ [10, 59, 10]) ++ b = a ++ 10 :: (59 :: 10 :: b) := by simp
  rw [e, lexN_join (59 :: 10 :: b) _ a (Nat.le_refl _)]
  split
  · rw [lexN_semi, LexR.after_after]
    congr 1
    · simp
    · rw [show (0 : Int) + a.length + 1 + 2 = 0 + ((a.length : Int) + 3) by omega]
      exact lexN_shift _ b (Nat.le_refl _) false 0 _
  · rfl
theorem joined_1 {a b : Str} (ha : a.length ≤ 1000) (hb : b.length ≤ 1000) (h : ¬ (lexS a).e = 0) : lexS ((a ++ [10, 59, 10]) ++ b) = lexS a ∧ (lexS a).l = [] := by
  refine ⟨by rw [lexS_joined ha hb, if_neg h], ?_⟩
  rw [lexS_N (s := a) (by omega)] at h ⊢
  exact (lexN_e _ a (Nat.le_refl _) false 0).2 h
theorem joined_2 {a b : Str} (ha : a.length ≤ 1000) (hb : b.length ≤ 1000) (h : (lexS a).e = 0) (h2 : ¬ (lexS b).e = 0) :
    (lexS ((a ++ [10, 59, 10]) ++ b)).e = (lexS b).e ∧ (lexS ((a ++ [10, 59, 10]) ++ b)).at_ = (a.length : Int) + 3 + (lexS b).at_ ∧ (lexS ((a ++ [10, 59, 10]) ++ b)).l = [] := by
  have hl : (lexS b).l = [] := by
    rw [lexS_N (s := b) (by omega)] at h2 ⊢
    exact (lexN_e _ b (Nat.le_refl _) false 0).2 h2
  rw [lexS_joined ha hb, if_pos h]
  have hs : (lexS b).shift ((a.length : Int) + 3) = ⟨(lexS b).l, (lexS b).at_ + ((a.length : Int) + 3), (lexS b).e⟩ := by unfold LexR.shift; rw [if_neg h2]
  rw [hs]
  unfold LexR.after
  rw [if_neg h2]
  exact ⟨rfl, by show _ + _ = _; omega, hl⟩
theorem joined_3 {a b : Str} (ha : a.length ≤ 1000) (hb : b.length ≤ 1000) (h : (lexS a).e = 0) (h2 : (lexS b).e = 0) :
    (lexS ((a ++ [10, 59, 10]) ++ b)).e = 0 ∧ sameT false (lexS ((a ++ [10, 59, 10]) ++ b)).l (((([] ++ (lexS a).l) ++ [⟨3, [59], 0⟩])) ++ (lexS b).l) = true := by
  rw [lexS_joined ha hb, if_pos h]
  have hs : ((lexS b).shift ((a.length : Int) + 3)).e = 0 ∧ ((lexS b).shift ((a.length : Int) + 3)).l.map kt = (lexS b).l.map kt := by
    unfold LexR.shift; rw [if_pos h2]; exact ⟨h2, by simp [kt, Function.comp_def]⟩
  unfold LexR.after
  rw [if_pos hs.1]
  refine ⟨hs.1, sameT_kt ?_⟩
  simp only [List.map_append, hs.2, List.nil_append]
  rfl
/-! ### written and read again -/
theorem lexN_sum (m : Nat) (s : Str) (hm : s.length ≤ m) (after : Bool) (a : Int) : sumW (lexN after a s).l ≤ 7 * s.length ∧ (lexN after a s).l.length ≤ s.length := by
  refine lexN_ind (P := fun after a s r => sumW r.l ≤ 7 * s.length ∧ r.l.length ≤ s.length) ?_ ?_ ?_ ?_ ?_ m s hm after a
  · intro _ _; exact ⟨Nat.le_refl _, Nat.le_refl _⟩
  · intro _ _ _ r _ h; simp only [List.length_cons]; omega
  · intro _ _ r n _ h1 h2 h; simp only [List.length_drop, List.length_cons] at h ⊢; omega
  · intro _ _ c r _ _ _ _; exact ⟨Nat.zero_le _, Nat.zero_le _⟩
  · intro after a c r k t n _ _ ht h
    have hn := tok1_len ht
    have htl : t.length ≤ n := by
      obtain ⟨_, _, h3, h4⟩ := tok1_right (a := a) ht
      split at h4
      · rename_i hk
        unfold bodyW at h3
        rw [if_pos hk] at h3
        have := (quotedL_len t).1
        have hq : 4 * t.length ≤ 4 * n := by
          subst hk
          rw [tok1_cons] at ht
          split at ht
          · cases ht
          split at ht
          · split at ht <;> cases ht
          split at ht
          · obtain ⟨r2, hq, _, rfl⟩ := qTk_ok ht
            have := quoteL_size hq
            omega
          · split at ht <;> cases ht
        omega
      · omega
    unfold LexR.after
    split
    · simp only [List.length_drop, List.length_cons, List.cons_append, List.nil_append, sumW, List.map_cons, List.sum_cons] at h hn ⊢
      omega
    · simp only [List.length_drop, List.length_cons] at h hn ⊢
      omega
theorem lexS_sum {s : Str} (h : s.length ≤ 16384) : sumW (lexS s).l ≤ 100000000000000 := by
  rw [lexS_N (by omega)]
  have := (lexN_sum _ s (Nat.le_refl _) false 0).1
  omega
theorem lexS_err {s : Str} (h : s.length ≤ 16384) (he : ¬ (lexS s).e = 0) : (lexS s).l = [] := by
  rw [lexS_N (by omega)] at he ⊢
  exact (lexN_e _ s (Nat.le_refl _) false 0).2 he
theorem lexS_again {s : Str} (h : s.length ≤ 2000) (he : (lexS s).e = 0) : (writeS (lexS s).l).2 = 0 ∧ (writeS (lexS s).l).1.length ≤ 10000 ∧ (lexS (([32, 35, 32, 120, 10] ++ (writeS (lexS s).l).1) ++ [9, 35, 121])).e = 0 ∧ sameT false (lexS s).l (lexS (([32, 35, 32, 120, 10] ++ (writeS (lexS s).l).1) ++ [9, 35, 121])).l = true := by
  have hN := lexS_N (s := s) (by omega)
  rw [hN] at he ⊢
  obtain ⟨x, hx, hl⟩ := lexN_writes _ s (Nat.le_refl _) false 0 he none rfl
  have hw : writeS (lexN false 0 s).l = (x, 0) := by unfold writeS; rw [hx]
  rw [hw]
  refine ⟨rfl, by show x.length ≤ _; omega, ?_⟩
  simp only
  rw [lexS_N (by simp; omega)]
  have e : ([32, 35, 32, 120, 10] ++ x) ++ [9, 35, 121] = 32 :: 35 :: 32 :: 120 :: 10 :: (x ++ [9, 35, 121]) := by simp
  have hn : runL (fun c => !decide (c = 10)) (35 :: 32 :: 120 :: 10 :: (x ++ [9, 35, 121])) = 3 := by simp [runL]
  rw [e, lexN_blank (by decide), lexN_note, hn]
  simp only [List.drop_succ_cons, List.drop_zero]
  rw [lexN_blank (by decide)]
  have hwr := lexN_write (lexN false 0 s).l none x [9, 35, 121] hx (.inr ⟨9, _, rfl, by decide⟩) (0 + 1 + ((3 : Nat) : Int) + 1)
  simp only [Option.map_none, Option.getD_none, Option.isSome_none] at hwr
  rw [hwr]
  have ht : ∀ (after : Bool) (a : Int), lexN after a [9, 35, 121] = ⟨[], 0, 0⟩ := fun after a => by
    rw [lexN_blank (by decide), lexN_note]; rfl
  rw [ht]
  unfold LexR.after
  simp only [if_true, List.append_nil]
  exact ⟨trivial, sameT_kt (placed_kt _ _ _).symm⟩
theorem lexS_back {l : List Token} (he : (writeS l).2 = 0) (hl : ((writeS l).1.length : Int) ≤ 16384) : (lexS (writeS l).1).e = 0 ∧ (lexS (writeS l).1).at_ = 0 ∧ sameT false (lexS (writeS l).1).l l = true := by
  cases hw : writeF none l with
  | none => unfold writeS at he; rw [hw] at he; exact absurd he (by decide)
  | some x =>
    have hws : writeS l = (x, 0) := by unfold writeS; rw [hw]
    rw [hws] at hl ⊢
    simp only at hl ⊢
    rw [lexS_N hl]
    have hwr := lexN_write l none x [] hw (.inl rfl) 0
    simp only [Option.map_none, Option.getD_none, Option.isSome_none, List.append_nil] at hwr
    rw [hwr, lexN_nil]
    unfold LexR.after
    simp only [if_true, List.append_nil]
    exact ⟨trivial, trivial, sameT_kt (placed_kt _ _ _)⟩
theorem writeS_err (l : List Token) : (writeS l).2 = 0 ∨ ((writeS l).2 = 204 ∧ (writeS l).1 = []) := by
  unfold writeS
  cases writeF none l with
  | none => exact .inr ⟨rfl, rfl⟩
  | some x => exact .inl rfl
/-! ### names are words -/
theorem name_right {a : Str} (h : nameMay a = true) : rightB ⟨0, a, 0⟩ = true ∧ a.length ≤ 12 := by
  unfold nameMay at h
  split at h
  · cases h
  split at h
  · cases h
  split at h
  · cases h
  split at h
  · cases h
  rename_i h1 h2 h3 h4
  refine ⟨?_, by omega⟩
  cases a with
  | nil => simp at h1
  | cons c r =>
    have hl : letterB c = true := by simpa using h3
    have hr : runL nameC r = r.length := runL_all (by simpa using h)
    unfold rightB
    rw [if_pos rfl]
    simp [hl, runL, nameC_of hl, hr]
theorem words_write {a b : Str} (ha : nameMay a = true) (hb : nameMay b = true) : writeF none [⟨0, a, 0⟩, ⟨0, b, 0⟩, ⟨0, [115, 97, 121], 0⟩] = some (((a ++ [32]) ++ b) ++ [32, 115, 97, 121]) := by
  have h1 := (name_right ha).1; have h2 := (name_right hb).1
  have h3 : rightB ⟨0, [115, 97, 121], 0⟩ = true := by decide +kernel
  have hb0 : ∀ (p : Option Token) (x : Str), rightB ⟨0, x, 0⟩ = true → badW p ⟨0, x, 0⟩ = false := fun p x h => by unfold badW; rw [h]; simp
  have hbd : ∀ x : Str, bodyW ⟨0, x, 0⟩ = x := fun x => by unfold bodyW; rw [if_neg (show ¬ (0 : Int) = 2 by decide)]
  simp [writeF, hb0 _ _ h1, hb0 _ _ h2, hb0 _ _ h3, hbd]
theorem lexS_words {a b : Str} (ha : nameMay a = true) (hb : nameMay b = true) : lexS (((a ++ [32]) ++ b) ++ [32, 115, 97, 121]) = ⟨[⟨0, a, 0⟩, ⟨0, b, (a.length : Int) + 1⟩, ⟨0, [115, 97, 121], (a.length : Int) + b.length + 2⟩], 0, 0⟩ := by
  have h1 := (name_right ha).2; have h2 := (name_right hb).2
  have hbd : ∀ x : Str, bodyW ⟨0, x, 0⟩ = x := fun x => by unfold bodyW; rw [if_neg (show ¬ (0 : Int) = 2 by decide)]
  rw [lexS_N (by simp; omega)]
  have hwr := lexN_write [⟨0, a, 0⟩, ⟨0, b, 0⟩, ⟨0, [115, 97, 121], 0⟩] none _ [] (words_write ha hb) (.inl rfl) 0
  simp only [Option.map_none, Option.getD_none, Option.isSome_none, List.append_nil] at hwr
  rw [hwr, lexN_nil]
  unfold LexR.after
  simp only [if_true, List.append_nil, placedW, hbd]
  have e1 : (0 : Int) + a.length + 1 = (a.length : Int) + 1 := by omega
  have e2 : (a.length : Int) + 1 + b.length + 1 = (a.length : Int) + b.length + 2 := by omega
  simp [e1, e2]
end Go.Sx
