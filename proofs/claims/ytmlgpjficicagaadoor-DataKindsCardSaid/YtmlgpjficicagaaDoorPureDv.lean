import Derived.Test.YtmlgpjficicagaaDoorPureEv
import Derived.Test.YtmlgpjficicagaaDoorPureLq
import Derived.Test.YtmlgpjficicagaaDoorPureNu
import Derived.Lib.ItoaNum
import Derived.Lib.Join
import Derived.Lib.Small
import Derived.Lib.Strings
import Derived.Shelf.Strings.FieldsAny
import Derived.Sort.Walk0
set_option linter.unusedVariables false
set_option linter.unusedSimpArgs false
namespace Go.Sx
open Go
/-! ## values: their order, their texts, and what a text means -/
def lessLL : List Int → List Int → Bool
  | _, [] => false
  | [], _ :: _ => true
  | x :: a, y :: b => if x = y then lessLL a b else decide (x < y)
def lessV (a b : Val) : Bool :=
  if a.k = b.k then (if a.n = b.n then (if a.s = b.s then lessLL a.l b.l else Op.bytesLess a.s b.s) else decide (a.n < b.n)) else decide (a.k < b.k)
section
variable {a b : List Int} {k x y : Int}
theorem less_over (hk : 0 ≤ k) (hx : a[k.toNat]? = some x) (h : lessLL a b = lessLL (a.drop k.toNat) (b.drop k.toNat)) (hb : ¬ k < b.length) : lessLL a b = false := by
  rw [h, List.drop_of_length_le (l := b) (by omega)]; cases a.drop k.toNat <;> rfl
theorem less_ne (hk : 0 ≤ k) (hx : a[k.toNat]? = some x) (hy : b[k.toNat]? = some y) (hn : ¬ x = y) (h : lessLL a b = lessLL (a.drop k.toNat) (b.drop k.toNat)) : lessLL a b = decide (x < y) := by
  rw [h, drop_of hx, drop_of hy, lessLL, if_neg hn]
theorem less_next (hk : 0 ≤ k) (hx : a[k.toNat]? = some x) (hy : b[k.toNat]? = some y) (hn : x = y) (h : lessLL a b = lessLL (a.drop k.toNat) (b.drop k.toNat)) : lessLL a b = lessLL (a.drop (k + 1).toNat) (b.drop (k + 1).toNat) := by
  rw [h, drop_of hx, drop_of hy, lessLL, if_pos hn, show (k + 1).toNat = k.toNat + 1 by omega]
theorem less_end (hk : 0 ≤ k) (hl : k ≤ a.length) (he : ¬ k < a.length) (h : lessLL a b = lessLL (a.drop k.toNat) (b.drop k.toNat)) : lessLL a b = decide ((a.length : Int) < b.length) := by
  rw [h, List.drop_of_length_le (l := a) (by omega)]
  have hka : k.toNat = a.length := by omega
  rw [hka]
  by_cases hb : a.length < b.length
  · rw [List.drop_eq_getElem_cons hb]; simp [lessLL]; omega
  · rw [List.drop_of_length_le (by omega)]; simp [lessLL]; omega
/-- the end where the shorter row ends -/
theorem less_end2 (hk : 0 ≤ k) (hl : k ≤ a.length) (hl2 : k ≤ b.length) (he : ¬ (k < a.length ∧ k < b.length)) (h : lessLL a b = lessLL (a.drop k.toNat) (b.drop k.toNat)) : lessLL a b = decide ((a.length : Int) < b.length) := by
  by_cases h1 : k < a.length
  · rw [h, List.drop_of_length_le (l := b) (by omega)]
    have : lessLL (a.drop k.toNat) [] = false := by cases a.drop k.toNat <;> rfl
    rw [this]; simp; omega
  · exact less_end hk hl h1 h
end
theorem lessLL_irr : ∀ a : List Int, lessLL a a = false
  | [] => rfl
  | x :: a => by rw [lessLL, if_pos rfl]; exact lessLL_irr a
theorem lessLL_asym : ∀ a b : List Int, lessLL a b = true → lessLL b a = false
  | _, [], h => by cases h2 : ‹List Int› <;> simp [lessLL] at h
  | [], _ :: _, _ => rfl
  | x :: a, y :: b, h => by
    rw [lessLL] at h ⊢
    by_cases e : x = y
    · subst e; rw [if_pos rfl] at h ⊢; exact lessLL_asym a b h
    · rw [if_neg e] at h; rw [if_neg (Ne.symm e)]
      have := of_decide_eq_true h
      exact decide_eq_false (by omega)
theorem lessLL_tri : ∀ a b : List Int, lessLL a b = false → lessLL b a = false → a = b
  | [], [], _, _ => rfl
  | [], _ :: _, h, _ => by simp [lessLL] at h
  | _ :: _, [], _, h => by simp [lessLL] at h
  | x :: a, y :: b, h1, h2 => by
    rw [lessLL] at h1 h2
    by_cases e : x = y
    · subst e; rw [if_pos rfl] at h1 h2; rw [lessLL_tri a b h1 h2]
    · rw [if_neg e] at h1; rw [if_neg (Ne.symm e)] at h2
      have := of_decide_eq_false h1; have := of_decide_eq_false h2; omega
theorem lessLL_trans : ∀ a b c : List Int, lessLL a b = true → lessLL b c = true → lessLL a c = true
  | _, _, [], _, h => by cases h2 : ‹List Int› <;> simp [lessLL] at h
  | _, [], _ :: _, h, _ => by cases h2 : ‹List Int› <;> simp [lessLL] at h
  | [], _ :: _, _ :: _, _, _ => rfl
  | x :: a, y :: b, z :: c, h1, h2 => by
    rw [lessLL] at h1 h2 ⊢
    by_cases e : x = y
    · subst e
      rw [if_pos rfl] at h1
      by_cases e2 : x = z
      · subst e2; rw [if_pos rfl] at h2 ⊢; exact lessLL_trans a b c h1 h2
      · rw [if_neg e2] at h2 ⊢; exact h2
    · rw [if_neg e] at h1
      have h1 := of_decide_eq_true h1
      by_cases e2 : y = z
      · subst e2; rw [if_neg e]; exact decide_eq_true h1
      · rw [if_neg e2] at h2
        have h2 := of_decide_eq_true h2
        rw [if_neg (by omega)]; exact decide_eq_true (by omega)
theorem bl_irr (s : Str) : Op.bytesLess s s = false := by rw [Go.Proofs.bytesLess_eq]; exact decide_eq_false (List.lt_irrefl s)
theorem bl_trans {a b c : Str} (h1 : Op.bytesLess a b = true) (h2 : Op.bytesLess b c = true) : Op.bytesLess a c = true := by
  rw [Go.Proofs.bytesLess_eq] at *; exact decide_eq_true (List.lt_trans (of_decide_eq_true h1) (of_decide_eq_true h2))
theorem bl_asym {a b : Str} (h : Op.bytesLess a b = true) : Op.bytesLess b a = false := by
  cases h2 : Op.bytesLess b a with
  | false => rfl
  | true => have := bl_trans h h2; rw [bl_irr] at this; cases this
theorem bl_tri : ∀ {a b : Str}, Op.bytesLess a b = false → Op.bytesLess b a = false → a = b
  | [], [], _, _ => rfl
  | [], _ :: _, h, _ => by simp [Op.bytesLess] at h
  | _ :: _, [], _, h => by simp [Op.bytesLess] at h
  | x :: a, y :: b, h1, h2 => by
    simp only [Op.bytesLess, Bool.or_eq_false_iff, decide_eq_false_iff_not, Bool.and_eq_false_iff, beq_eq_false_iff_ne] at h1 h2
    have e : x = y := by
      have := h1.1; have := h2.1
      exact UInt8.le_antisymm (UInt8.not_lt.1 h2.1) (UInt8.not_lt.1 h1.1)
    subst e
    rw [bl_tri (h1.2.resolve_left (by simp)) (h2.2.resolve_left (by simp))]
theorem lessV_irr (a : Val) : lessV a a = false := by
  unfold lessV; rw [if_pos rfl, if_pos rfl, if_pos rfl]; exact lessLL_irr _
theorem lessV_asym {a b : Val} (h : lessV a b = true) : lessV b a = false := by
  unfold lessV at h ⊢
  by_cases e : a.k = b.k
  · rw [if_pos e] at h; rw [if_pos e.symm]
    by_cases e1 : a.n = b.n
    · rw [if_pos e1] at h; rw [if_pos e1.symm]
      by_cases e2 : a.s = b.s
      · rw [if_pos e2] at h; rw [if_pos e2.symm]; exact lessLL_asym _ _ h
      · rw [if_neg e2] at h; rw [if_neg (Ne.symm e2)]; exact bl_asym h
    · rw [if_neg e1] at h; rw [if_neg (Ne.symm e1)]; have := of_decide_eq_true h; exact decide_eq_false (by omega)
  · rw [if_neg e] at h; rw [if_neg (Ne.symm e)]; have := of_decide_eq_true h; exact decide_eq_false (by omega)
theorem sameV_iff (a b : Val) : sameV a b = true ↔ a = b := by
  cases a; cases b; simp [sameV]
theorem lessV_tri {a b : Val} (h : lessV a b = false) (h2 : lessV b a = false) : sameV a b = true := by
  rw [sameV_iff]
  unfold lessV at h h2
  by_cases e : a.k = b.k
  · rw [if_pos e] at h; rw [if_pos e.symm] at h2
    by_cases e1 : a.n = b.n
    · rw [if_pos e1] at h; rw [if_pos e1.symm] at h2
      by_cases e2 : a.s = b.s
      · rw [if_pos e2] at h; rw [if_pos e2.symm] at h2
        have e3 := lessLL_tri _ _ h h2
        cases a; cases b; simp_all
      · rw [if_neg e2] at h; rw [if_neg (Ne.symm e2)] at h2; exact absurd (bl_tri h h2) e2
    · rw [if_neg e1] at h; rw [if_neg (Ne.symm e1)] at h2; have := of_decide_eq_false h; have := of_decide_eq_false h2; omega
  · rw [if_neg e] at h; rw [if_neg (Ne.symm e)] at h2; have := of_decide_eq_false h; have := of_decide_eq_false h2; omega
theorem lessV_trans {a b c : Val} (h1 : lessV a b = true) (h2 : lessV b c = true) : lessV a c = true := by
  unfold lessV at *
  by_cases e : a.k = b.k
  · rw [if_pos e] at h1; rw [e]
    by_cases f : b.k = c.k
    · rw [if_pos f] at h2 ⊢
      by_cases e1 : a.n = b.n
      · rw [if_pos e1] at h1; rw [e1]
        by_cases f1 : b.n = c.n
        · rw [if_pos f1] at h2 ⊢
          by_cases e2 : a.s = b.s
          · rw [if_pos e2] at h1; rw [e2]
            by_cases f2 : b.s = c.s
            · rw [if_pos f2] at h2 ⊢; exact lessLL_trans _ _ _ h1 h2
            · rw [if_neg f2] at h2 ⊢; exact h2
          · rw [if_neg e2] at h1
            by_cases f2 : b.s = c.s
            · rw [← f2, if_neg e2]; exact h1
            · rw [if_neg f2] at h2
              have h3 := bl_trans h1 h2
              rw [if_neg (fun e3 => by rw [e3, bl_irr] at h3; cases h3)]; exact h3
        · rw [if_neg f1] at h2 ⊢; exact h2
      · rw [if_neg e1] at h1
        have h1 := of_decide_eq_true h1
        by_cases f1 : b.n = c.n
        · rw [← f1, if_neg e1]; exact decide_eq_true h1
        · rw [if_neg f1] at h2; have h2 := of_decide_eq_true h2; rw [if_neg (by omega)]; exact decide_eq_true (by omega)
    · rw [if_neg f] at h2 ⊢; exact h2
  · rw [if_neg e] at h1
    have h1 := of_decide_eq_true h1
    by_cases f : b.k = c.k
    · rw [← f, if_neg e]; exact decide_eq_true h1
    · rw [if_neg f] at h2; have h2 := of_decide_eq_true h2; rw [if_neg (by omega)]; exact decide_eq_true (by omega)
/-! ## texts -/
def showV (a : Val) : Str :=
  if mayV a = true then
    if a.k = 0 then [117, 110, 105, 116]
    else if a.k = 1 then Lib.itoa a.n
    else if a.k = 2 then (if a.n = 1 then [116, 114, 117, 101] else [102, 97, 108, 115, 101])
    else if a.k = 3 then quotedL a.s
    else if a.k = 4 then ([91] ++ Lib.join (a.l.map Lib.itoa) [32]) ++ [93]
    else (a.s ++ [58]) ++ Lib.itoa a.n
  else []
def numsF : List Int → List Str → Option (List Int)
  | acc, [] => some acc
  | acc, w :: r => match Lib.parseIntB 64 w with
    | .ok n => if (acc.length : Int) = 16 then none else numsF (acc ++ [n]) r
    | _ => none
def innerL (s : Str) : Str := (s.take ((s.length : Int) - 1).toNat).drop (1 : Int).toNat
def intV (s : Str) : Val := match Lib.parseIntB 64 s with | .ok n => ⟨1, n, [], []⟩ | _ => v0
def listV (s : Str) : Val := match numsF [] (Lib.fieldsD (innerL s)) with | some l => ⟨4, 0, [], l⟩ | none => v0
def textV (s : Str) : Val := if (lexS s).e = 0 ∧ ((lexS s).l.length : Int) = 1 then ⟨3, 0, ((lexS s).l.headD ⟨0, [], 0⟩).text, []⟩ else v0
def guessV (s : Str) : Val :=
  if s = [116, 114, 117, 101] then ⟨2, 1, [], []⟩
  else if s = [102, 97, 108, 115, 101] then ⟨2, 0, [], []⟩
  else if Lib.hasPrefix s [34] = true then textV s
  else if (Lib.hasPrefix s [91] && Lib.hasSuffix s [93]) = true then listV s
  else intV s
def readV (s : Str) : Val × Int := if showV (guessV s) = s ∧ s ≠ [] then (guessV s, 0) else (v0, 300)
def i64V (a : Val) : Prop := i64ok a.n ∧ ∀ n ∈ a.l, i64ok n
theorem i64_0 : i64ok 0 := ⟨by decide, by decide⟩
theorem i64_1 : i64ok 1 := ⟨by decide, by decide⟩
theorem i64V_v0 : i64V v0 := ⟨i64_0, fun n h => by cases h⟩
/-! ### digits -/
theorem decNe (u : Nat) : Lib.decDigits u ≠ [] := by
  rw [Lib.decDigits]; split <;> simp
theorem dec_all : ∀ u : Nat, (Lib.decDigits u).all digitB = true
  | u => by
    rw [Lib.decDigits]
    split
    · simp [digitB]; omega
    · rename_i h
      rw [List.all_append, dec_all (u / 10)]
      simp [digitB]; omega
theorem dec_nat : ∀ u : Nat, natS (Lib.decDigits u) = u
  | u => by
    rw [Lib.decDigits]
    split
    · simp [natS, stepN]; omega
    · rename_i h
      have ih := dec_nat (u / 10)
      unfold natS at ih ⊢
      rw [List.foldl_append, ih]
      simp [stepN]; omega
theorem parse_itoa {n : Int} (h : i64ok n) : Lib.parseIntB 64 (Lib.itoa n) = .ok n := by
  obtain ⟨h0, h1⟩ := h
  unfold Lib.itoa
  by_cases hn : n < 0
  · rw [if_pos hn, Lib.parseIntB_minus, parseMag_digits (decNe _) (dec_all _), dec_nat, if_pos (by omega)]
    unfold Lib.signedC
    simp only
    rw [if_neg (by omega)]
    congr 1; omega
  · rw [if_neg hn]
    have hd := dec_all n.toNat
    have hp := parseMag_digits (decNe _) (dec_all n.toNat)
    rw [dec_nat] at hp
    cases hs : Lib.decDigits n.toNat with
    | nil => exact absurd hs (decNe _)
    | cons c r =>
      rw [hs] at hd hp
      simp only [List.all_cons, Bool.and_eq_true] at hd
      have hc := digit_nat hd.1
      rw [Lib.parseIntB_plain 64 c r (by omega) (by omega), hp, if_pos (by omega)]
      unfold Lib.signlessC
      simp only
      rw [if_neg (by omega)]
      congr 1; omega
theorem parse_range {s : Str} {v : Int} (h : Lib.parseIntB 64 s = .ok v) : i64ok v := by
  cases s with
  | nil => simp [Lib.parseIntB] at h
  | cons c r =>
    simp only [Lib.parseIntB] at h
    split at h
    · cases h
    · cases h
    · split at h
      · cases h
      · split at h
        · cases h
        · cases h
          unfold i64ok
          simp only [show (64 : Nat) - 1 = 63 from rfl, show (2 : Nat) ^ 63 = 9223372036854775808 from by decide] at *
          split <;> omega
/-- the bytes of a number -/
def numC (c : UInt8) : Bool := decide (c = 45) || digitB c
theorem itoa_bytes (n : Int) : (Lib.itoa n).all numC = true := by
  have h : ∀ u, (Lib.decDigits u).all numC = true := fun u => by
    have := dec_all u
    rw [List.all_eq_true] at *
    intro x hx; simp [numC, this x hx]
  unfold Lib.itoa; split
  · rw [List.all_cons, h]; rfl
  · exact h _
theorem itoa_ne (n : Int) : Lib.itoa n ≠ [] := by
  unfold Lib.itoa; split
  · simp
  · exact decNe _
theorem numC_nat {c : UInt8} (h : numC c = true) : c.toNat = 45 ∨ (48 ≤ c.toNat ∧ c.toNat ≤ 57) := by
  unfold numC at h
  rw [Bool.or_eq_true] at h
  rcases h with h | h
  · left; rw [of_decide_eq_true h]; rfl
  · right; exact digit_nat h
theorem itoa_len {n : Int} (h : i64ok n) : (Lib.itoa n).length ≤ 21 := by
  have hd : ∀ k u : Nat, u < 10 ^ k → (Lib.decDigits u).length ≤ max k 1 := by
    intro k
    induction k with
    | zero => intro u h; have : u = 0 := by simpa using h
              subst this; rw [Lib.decDigits_one (by decide)]; simp
    | succ k ih =>
      intro u h
      by_cases h10 : u < 10
      · rw [Lib.decDigits_one h10]; simp
      · rw [Lib.decDigits, dif_neg h10]
        have := ih (u / 10) (by rw [Nat.pow_succ] at h; omega)
        simp only [List.length_append, List.length_cons, List.length_nil]
        rcases Nat.eq_zero_or_pos k with rfl | hk
        · simp at h; omega
        · omega
  have e : (10 : Nat) ^ 20 = 100000000000000000000 := by decide
  obtain ⟨h0, h1⟩ := h
  unfold Lib.itoa
  split
  · have := hd 20 n.natAbs (by omega)
    simp only [List.length_cons]; omega
  · have := hd 20 n.toNat (by omega)
    omega
/-! ### the words of a joined row -/
def wordB (w : Str) : Prop := w ≠ [] ∧ ∀ c ∈ w, Lib.isSp c = false
theorem fieldsGo_word : ∀ (w cur rest : Str), (∀ c ∈ w, Lib.isSp c = false) → Lib.fieldsGo cur (w ++ rest) = Lib.fieldsGo (cur ++ w) rest
  | [], cur, rest, _ => by simp
  | c :: w, cur, rest, h => by
    rw [List.cons_append, Lib.fieldsGo, h c (by simp)]
    simp only [Bool.false_eq_true, if_false]
    rw [fieldsGo_word w (cur ++ [c]) rest (fun x hx => h x (by simp [hx]))]
    simp
theorem fieldsGo_tail : ∀ (r : List Str) (cur : Str), cur ≠ [] → (∀ w ∈ r, wordB w) → Lib.fieldsGo cur (Lib.joinTail [32] r) = cur :: r
  | [], cur, hc, _ => by
    simp [Lib.joinTail, Lib.fieldsGo, hc]
  | w :: r, cur, hc, h => by
    have hw := h w (by simp)
    have e : Lib.joinTail [32] (w :: r) = 32 :: (w ++ Lib.joinTail [32] r) := by simp [Lib.joinTail]
    rw [e, Lib.fieldsGo, show Lib.isSp 32 = true by decide, if_pos rfl, if_neg (by simp [hc]), fieldsGo_word w [] _ hw.2, List.nil_append, fieldsGo_tail r w hw.1 (fun x hx => h x (by simp [hx]))]
theorem fields_join (r : List Str) (h : ∀ w ∈ r, wordB w) : Lib.fields (Lib.join r [32]) = r := by
  cases r with
  | nil => rfl
  | cons w r =>
    have hw := h w (by simp)
    unfold Lib.fields
    rw [Lib.join_cons, fieldsGo_word w [] _ hw.2, List.nil_append, fieldsGo_tail r w hw.1 (fun x hx => h x (by simp [hx]))]
theorem itoa_word (n : Int) : wordB (Lib.itoa n) := by
  refine ⟨itoa_ne n, fun c hc => ?_⟩
  have := numC_nat (List.all_eq_true.1 (itoa_bytes n) c hc)
  have e : ∀ k : UInt8, k.toNat < 45 → (c == k) = false := fun k hk => by
    rw [beq_eq_false_iff_ne]; rintro rfl; omega
  simp [Lib.isSp, e 9 (by decide), e 10 (by decide), e 11 (by decide), e 12 (by decide), e 13 (by decide), e 32 (by decide)]
theorem joinTail_all {p : UInt8 → Bool} {sep : Str} (hs : sep.all p = true) : ∀ r : List Str, (∀ w ∈ r, w.all p = true) → (Lib.joinTail sep r).all p = true
  | [], _ => rfl
  | w :: r, h => by
    have e : Lib.joinTail sep (w :: r) = sep ++ w ++ Lib.joinTail sep r := by simp [Lib.joinTail]
    rw [e, List.all_append, List.all_append, hs, h w (by simp), joinTail_all hs r (fun x hx => h x (by simp [hx]))]; rfl
theorem join_all {p : UInt8 → Bool} {sep : Str} (hs : sep.all p = true) (r : List Str) (h : ∀ w ∈ r, w.all p = true) : (Lib.join r sep).all p = true := by
  cases r with
  | nil => rfl
  | cons w r => rw [Lib.join_cons, List.all_append, h w (by simp), joinTail_all hs r (fun x hx => h x (by simp [hx]))]; rfl
theorem joinTail_len {m : Nat} : ∀ r : List Str, (∀ w ∈ r, w.length ≤ m) → (Lib.joinTail [32] r).length ≤ (m + 1) * r.length
  | [], _ => by simp [Lib.joinTail]
  | w :: r, h => by
    have e : Lib.joinTail [32] (w :: r) = [32] ++ w ++ Lib.joinTail [32] r := by simp [Lib.joinTail]
    have := joinTail_len r (fun x hx => h x (by simp [hx]))
    have := h w (by simp)
    rw [e]
    simp only [List.length_append, List.length_cons, List.length_nil, Nat.mul_add]
    omega
theorem join_len {m : Nat} (r : List Str) (h : ∀ w ∈ r, w.length ≤ m) : (Lib.join r [32]).length ≤ (m + 1) * r.length := by
  cases r with
  | nil => simp [Lib.join_nil]
  | cons w r =>
    have := joinTail_len r (fun x hx => h x (by simp [hx]))
    have := h w (by simp)
    rw [Lib.join_cons]
    simp only [List.length_append, List.length_cons, Nat.mul_add]
    omega
theorem nums_itoa : ∀ (l acc : List Int), (∀ n ∈ l, i64ok n) → acc.length + l.length ≤ 16 → numsF acc (l.map Lib.itoa) = some (acc ++ l)
  | [], acc, _, _ => by simp [numsF]
  | n :: l, acc, h, hl => by
    simp only [List.length_cons] at hl
    rw [List.map_cons, numsF, parse_itoa (h n (by simp))]
    simp only
    rw [if_neg (by omega), nums_itoa l (acc ++ [n]) (fun x hx => h x (by simp [hx])) (by simp; omega)]
    simp
theorem nums_range : ∀ (ws : List Str) (acc l : List Int), (∀ n ∈ acc, i64ok n) → acc.length ≤ 16 → numsF acc ws = some l → (∀ n ∈ l, i64ok n) ∧ l.length ≤ 16
  | [], acc, l, h, hl, e => by simp [numsF] at e; subst e; exact ⟨h, hl⟩
  | w :: ws, acc, l, h, hl, e => by
    rw [numsF] at e
    split at e
    · rename_i n hn
      split at e
      · cases e
      · refine nums_range ws (acc ++ [n]) l (fun x hx => ?_) (by simp; omega) e
        rcases List.mem_append.1 hx with hx | hx
        · exact h x hx
        · simp at hx; subst hx; exact parse_range hn
    · cases e
theorem guess_i64 (s : Str) : i64V (guessV s) := by
  unfold guessV
  split
  · exact ⟨i64_1, fun n h => by cases h⟩
  split
  · exact ⟨i64_0, fun n h => by cases h⟩
  split
  · unfold textV; split
    · exact ⟨i64_0, fun n h => by cases h⟩
    · exact i64V_v0
  split
  · unfold listV; split
    · rename_i l hl
      exact ⟨i64_0, (nums_range _ [] l (fun n h => by cases h) (by simp) hl).1⟩
    · exact i64V_v0
  · unfold intV; split
    · rename_i n hn; exact ⟨parse_range hn, fun n h => by cases h⟩
    · exact i64V_v0
theorem guess_kind (s : Str) : (guessV s).k ≠ 5 := by
  unfold guessV textV listV intV v0
  repeat' split
  all_goals simp
/-! ### what is shown is guessed -/
theorem may_k {a : Val} (h : mayV a = true) : a.k = 0 ∨ a.k = 1 ∨ a.k = 2 ∨ a.k = 3 ∨ a.k = 4 ∨ a.k = 5 := by
  unfold mayV at h
  by_cases h0 : a.k = 0; · simp [h0]
  by_cases h1 : a.k = 1; · simp [h1]
  by_cases h2 : a.k = 2; · simp [h2]
  by_cases h3 : a.k = 3; · simp [h3]
  by_cases h4 : a.k = 4; · simp [h4]
  by_cases h5 : a.k = 5; · simp [h5]
  simp [h0, h1, h2, h3, h4, h5] at h
theorem may_all {a : Val} (h : mayV a = true) : (a.k = 0 → a = v0) ∧ (a.k = 1 → a = ⟨1, a.n, [], []⟩) ∧ (a.k = 2 → a = ⟨2, 0, [], []⟩ ∨ a = ⟨2, 1, [], []⟩) ∧ (a.k = 3 → a = ⟨3, 0, a.s, []⟩ ∧ a.s.length ≤ 24) ∧ (a.k = 4 → a = ⟨4, 0, [], a.l⟩ ∧ a.l.length ≤ 16)
    ∧ (a.k = 5 → a = ⟨5, a.n, a.s, []⟩ ∧ a.s ≠ [] ∧ 0 ≤ a.n ∧ a.n < 5) := by
  obtain ⟨k, n, s, l⟩ := a
  unfold mayV at h
  refine ⟨?_, ?_, ?_, ?_, ?_, ?_⟩ <;> (intro e; simp only at e; subst e; simp [v0] at h ⊢)
  · obtain ⟨h1, h2, h3⟩ := h; exact ⟨h1, h2, h3⟩
  · exact h
  · obtain ⟨h1 | h1, h2, h3⟩ := h
    · exact .inl ⟨h1, h2, h3⟩
    · exact .inr ⟨h1, h2, h3⟩
  · obtain ⟨h1, h2, h3⟩ := h; exact ⟨⟨h2, h3⟩, by omega⟩
  · obtain ⟨h1, h2, h3⟩ := h; exact ⟨⟨h2, h3⟩, by omega⟩
  · obtain ⟨h1, h2, h3, h4⟩ := h; exact ⟨h4, h1, h2, h3⟩
theorem hp_num {c p : UInt8} {r : Str} (hc : numC c = true) (hp : p.toNat ≠ 45) (h2 : ¬ (48 ≤ p.toNat ∧ p.toNat ≤ 57)) : Lib.hasPrefix (c :: r) [p] = false := by
  have := numC_nat hc
  have e : ¬ p = c := by rintro rfl; omega
  simp [Lib.hasPrefix, List.isPrefixOf, e]
theorem inner_list (j : Str) : innerL (([91] ++ j) ++ [93]) = j := by
  unfold innerL
  have : ((((([91] ++ j) ++ [93] : Str).length : Nat) : Int) - 1).toNat = j.length + 1 := by simp
  rw [this]
  simp
theorem guess_show {a : Val} (h : mayV a = true) (hi : i64V a) (hk : a.k ≠ 5) : guessV (showV a) = a := by
  obtain ⟨m0, m1, m2, m3, m4, m5⟩ := may_all h
  unfold showV
  rw [if_pos h]
  rcases may_k h with e | e | e | e | e | e
  · rw [if_pos e, m0 e]
    rfl
  · rw [if_neg (by omega), if_pos e]
    have hb := itoa_bytes a.n
    have hp := parse_itoa hi.1
    have hne := itoa_ne a.n
    cases hs : Lib.itoa a.n with
    | nil => exact absurd hs hne
    | cons c r =>
      rw [hs] at hb hp
      simp only [List.all_cons, Bool.and_eq_true] at hb
      have hc := numC_nat hb.1
      unfold guessV
      rw [if_neg (by rintro e2; injection e2 with e3 _; subst e3; revert hc; decide), if_neg (by rintro e2; injection e2 with e3 _; subst e3; revert hc; decide),
        if_neg (by rw [hp_num hb.1 (by decide) (by decide)]; decide), if_neg (by rw [hp_num hb.1 (by decide) (by decide)]; simp)]
      unfold intV
      rw [hp]
      exact (m1 e).symm
  · rw [if_neg (by omega), if_neg (by omega), if_pos e]
    rcases m2 e with h2 | h2 <;> rw [h2] <;> rfl
  · rw [if_neg (by omega), if_neg (by omega), if_neg (by omega), if_pos e]
    obtain ⟨h3, h4⟩ := m3 e
    unfold guessV
    have hp : Lib.hasPrefix (quotedL a.s) [34] = true := by simp [quotedL, Lib.hasPrefix, List.isPrefixOf]
    rw [if_neg (by unfold quotedL; intro e2; injection e2 with e3 _; revert e3; decide), if_neg (by unfold quotedL; intro e2; injection e2 with e3 _; revert e3; decide), if_pos hp]
    unfold textV
    rw [lexS_quoted (by omega), if_pos (by simp)]
    exact h3.symm
  · rw [if_neg (by omega), if_neg (by omega), if_neg (by omega), if_neg (by omega), if_pos e]
    obtain ⟨h3, h4⟩ := m4 e
    unfold guessV
    have hp : Lib.hasPrefix (([91] ++ Lib.join (a.l.map Lib.itoa) [32]) ++ [93]) [91] = true := by simp [Lib.hasPrefix, List.isPrefixOf]
    have hq : Lib.hasPrefix (([91] ++ Lib.join (a.l.map Lib.itoa) [32]) ++ [93]) [34] = false := by simp [Lib.hasPrefix, List.isPrefixOf]
    have hs : Lib.hasSuffix (([91] ++ Lib.join (a.l.map Lib.itoa) [32]) ++ [93]) [93] = true := by
      unfold Lib.hasSuffix; rw [List.isSuffixOf_iff_suffix]; exact ⟨_, rfl⟩
    rw [if_neg (by intro e2; simp at e2), if_neg (by intro e2; simp at e2), if_neg (by rw [hq]; decide), if_pos (by rw [hp, hs]; rfl)]
    unfold listV
    rw [inner_list]
    have ha : ∀ b ∈ Lib.join (a.l.map Lib.itoa) [32], b.toNat < 128 := by
      have hall := join_all (p := fun c => decide (c.toNat < 128)) (sep := [32]) (by decide) (a.l.map Lib.itoa) (by
        intro w hw
        obtain ⟨n, _, rfl⟩ := List.mem_map.1 hw
        rw [List.all_eq_true]
        intro c hc
        have := numC_nat (List.all_eq_true.1 (itoa_bytes n) c hc)
        exact decide_eq_true (by omega))
      intro b hb
      exact of_decide_eq_true (List.all_eq_true.1 hall b hb)
    rw [Lib.fieldsD_ascii _ ha, fields_join _ (by
      intro w hw
      obtain ⟨n, _, rfl⟩ := List.mem_map.1 hw
      exact itoa_word n), nums_itoa a.l [] hi.2 (by simpa using h4)]
    exact h3.symm
  · exact absurd e hk
theorem quotedNe (s : Str) : quotedL s ≠ [] := by unfold quotedL; simp
theorem show_ne {a : Val} (h : mayV a = true) : showV a ≠ [] := by
  unfold showV
  rw [if_pos h]
  split; · simp
  split; · exact itoa_ne _
  split; · split <;> simp
  split; · exact quotedNe _
  split; · simp
  simp
theorem show_may {a : Val} (h : showV a ≠ []) : mayV a = true := by
  unfold showV at h
  by_cases hm : mayV a = true
  · exact hm
  · rw [if_neg hm] at h; exact absurd rfl h
/-- reading what is shown -/
theorem read_show {a : Val} (h : mayV a = true) (hi : i64V a) (hk : a.k ≠ 5) : readV (showV a) = (a, 0) := by
  unfold readV
  rw [guess_show h hi hk, if_pos ⟨rfl, show_ne h⟩]
theorem read_ok {s : Str} (h : (readV s).2 = 0) : mayV (readV s).1 = true ∧ (readV s).1.k ≠ 5 ∧ showV (readV s).1 = s ∧ i64V (readV s).1 := by
  unfold readV at h ⊢
  split at h
  · rename_i hc
    rw [if_pos hc]
    exact ⟨show_may (by rw [hc.1]; exact hc.2), guess_kind s, hc.1, guess_i64 s⟩
  · exact absurd h (by decide)
theorem show_same {a b : Val} (ha : mayV a = true) (hb : mayV b = true) (ia : i64V a) (ib : i64V b) (ka : a.k ≠ 5) (kb : b.k ≠ 5) : decide (showV a = showV b) = sameV a b := by
  by_cases e : a = b
  · subst e; rw [decide_eq_true rfl, (sameV_iff a a).2 rfl]
  · have h1 : sameV a b = false := by
      cases h : sameV a b with
      | false => rfl
      | true => exact absurd ((sameV_iff a b).1 h) e
    rw [h1]
    refine decide_eq_false (fun h => e ?_)
    have h2 := guess_show ha ia ka
    rw [h, guess_show hb ib kb] at h2
    exact h2.symm
end Go.Sx
