import Derived.Test.YtepbjoagighhhaaPureTq
set_option linter.unusedVariables false
set_option linter.unusedSimpArgs false
namespace Go.Sx
open Go
/-! ## the reference's evaluation -/
theorem ops_zero {k : Int} (h : operandsI k = 0) : k = 0 ∨ k = 1 ∨ k = 2 ∨ k = 3 ∨ k = 4 ∨ k = 5 := by
  rcases kind_cases (by omega : 0 ≤ operandsI k) with e | e | e | e | e | e | e | e | e | e | e | e | e | e | e | e | e | e | e | e <;> first | omega | (rw [e] at h; exact absurd h (by decide))
theorem ops_one {k : Int} (h : operandsI k = 1) : k = 15 ∨ k = 16 := by
  rcases kind_cases (by omega : 0 ≤ operandsI k) with e | e | e | e | e | e | e | e | e | e | e | e | e | e | e | e | e | e | e | e <;> first | omega | (rw [e] at h; exact absurd h (by decide))
theorem ops_two {k : Int} (h : operandsI k = 2) : k = 6 ∨ k = 7 ∨ k = 8 ∨ k = 9 ∨ k = 10 ∨ k = 11 ∨ k = 12 ∨ k = 13 ∨ k = 14 ∨ k = 17 ∨ k = 18 ∨ k = 19 := by
  rcases kind_cases (by omega : 0 ≤ operandsI k) with e | e | e | e | e | e | e | e | e | e | e | e | e | e | e | e | e | e | e | e <;> first | omega | (rw [e] at h; exact absurd h (by decide))
theorem leaf_bool {t : Term} {env : List Bind} (hk : t.kind = 2) (hf : fieldsB t = true) : (truthV (decide (t.n = 1)), 0) = leafV t env := by
  unfold leafV
  rw [if_neg (by omega), if_pos hk]
  unfold fieldsB at hf
  simp [hk] at hf
  rcases hf.2.2 with h | h <;> simp [truthV, h]
theorem bool_n {x : Val} (h : mayV x = true) (hk : x.k = 2) : x.n = 0 ∨ x.n = 1 := by
  unfold mayV at h; simp [hk] at h; exact h.1
theorem text_len {x : Val} (h : mayV x = true) (hk : x.k = 3) : x.s.length ≤ 24 := by
  unfold mayV at h; simp [hk] at h; omega
theorem wrap_u (x : Int) : IntKind.i64.wrap (IntKind.u64.wrap x) = IntKind.i64.wrap x := by
  have : IntKind.u64.wrap x = x % 18446744073709551616 := by simp [IntKind.wrap, IntKind.bits, IntKind.signed]
  rw [this]; exact wrap_cong (by omega)
theorem wrapu_diff (x : Int) : (IntKind.u64.wrap x - x) % 18446744073709551616 = 0 := by
  have : IntKind.u64.wrap x = x % 18446744073709551616 := by simp [IntKind.wrap, IntKind.bits, IntKind.signed]
  rw [this]; omega
theorem conv_add (a b : Int) : IntKind.i64.wrap (IntKind.u64.wrap (IntKind.u64.wrap a + IntKind.u64.wrap b)) = w64 (a + b) := by
  rw [wrap_u]
  have := wrapu_diff a; have := wrapu_diff b
  exact wrap_cong (by omega)
theorem conv_sub (a b : Int) : IntKind.i64.wrap (IntKind.u64.wrap (IntKind.u64.wrap a - IntKind.u64.wrap b)) = w64 (a - b) := by
  rw [wrap_u]
  have := wrapu_diff a; have := wrapu_diff b
  exact wrap_cong (by omega)
theorem conv_mul (a b : Int) : IntKind.i64.wrap (IntKind.u64.wrap (IntKind.u64.wrap a * IntKind.u64.wrap b)) = w64 (a * b) := by
  rw [wrap_u]
  refine wrap_cong ?_
  obtain ⟨c, hc⟩ := Int.dvd_of_emod_eq_zero (wrapu_diff a)
  obtain ⟨d, hd⟩ := Int.dvd_of_emod_eq_zero (wrapu_diff b)
  have e1 : IntKind.u64.wrap a = a + 18446744073709551616 * c := by omega
  have e2 : IntKind.u64.wrap b = b + 18446744073709551616 * d := by omega
  rw [e1, e2]
  refine Int.emod_eq_zero_of_dvd ⟨a * d + c * b + c * (18446744073709551616 * d), ?_⟩
  have hx : (a + 18446744073709551616 * c) * (b + 18446744073709551616 * d) = a * b + 18446744073709551616 * (a * d + c * b + c * (18446744073709551616 * d)) := by
    rw [Int.add_mul, Int.mul_add, Int.mul_add, Int.mul_add, Int.mul_add]
    rw [Int.mul_left_comm a 18446744073709551616 d, Int.mul_assoc 18446744073709551616 c b, Int.mul_assoc 18446744073709551616 c (18446744073709551616 * d)]
    omega
  rw [hx]; omega
theorem conv_neg (a : Int) : IntKind.i64.wrap (IntKind.u64.wrap (0 - IntKind.u64.wrap a)) = w64 (a.tdiv (-1)) := by
  rw [wrap_u]
  have := wrapu_diff a
  have e : a.tdiv (-1) = -a := by rw [Int.tdiv_neg, Int.tdiv_one]
  rw [e]
  exact wrap_cong (by omega)
theorem rem_neg (a : Int) : a.tmod (-1) = 0 := by rw [Int.tmod_neg, Int.tmod_one]
def two1 (k : Int) (a b : Val) : Bool := decide (k = 11) && (decide (a.k = b.k) && !decide (a.k = 5))
def two2 (k : Int) (a b : Val) : Bool := (decide (k = 13) || decide (k = 14)) && (decide (a.k = 2) && decide (b.k = 2))
def two3 (k : Int) (a b : Val) : Bool := decide (k = 19) && (decide (a.k = 3) && decide (b.k = 3))
def two4 (k : Int) (a b : Val) : Bool := (decide (k = 17) || decide (k = 18)) && (decide (a.k = 4) && decide (b.k = 1))
def two5 (k : Int) (a b : Val) : Bool := (decide (k ≤ 10) || decide (k = 12)) && (decide (a.k = 1) && decide (b.k = 1))
theorem two1_T {k : Int} {a b : Val} (h : two1 k a b = true) : applyV k a b = (truthV (sameV a b), 0) := by
  simp only [two1, Bool.and_eq_true, decide_eq_true_eq, Bool.not_eq_true', decide_eq_false_iff_not] at h
  obtain ⟨rfl, h1, h2⟩ := h
  show (if ¬ a.k = b.k ∨ a.k = 5 then wrongV else (truthV (sameV a b), 0)) = _
  rw [if_neg (by simp [h1] at h2 ⊢; exact h2)]
theorem two2_T {k : Int} {a b : Val} {c : Bool} (h : two2 k a b = true) (hc : c = if k = 13 then decide (a.n = 1) && decide (b.n = 1) else decide (a.n = 1) || decide (b.n = 1)) : applyV k a b = (truthV c, 0) := by
  simp only [two2, Bool.and_eq_true, Bool.or_eq_true, decide_eq_true_eq] at h
  obtain ⟨h1 | h1, h2, h3⟩ := h
  · subst h1
    show (if ¬ a.k = 2 ∨ ¬ b.k = 2 then wrongV else (truthV (decide (a.n = 1) && decide (b.n = 1)), 0)) = _
    rw [if_neg (by simp [h2, h3]), hc]; rfl
  · subst h1
    show (if ¬ a.k = 2 ∨ ¬ b.k = 2 then wrongV else (truthV (decide (a.n = 1) || decide (b.n = 1)), 0)) = _
    rw [if_neg (by simp [h2, h3]), hc]; rfl
theorem two3_T {k : Int} {a b : Val} (h : two3 k a b = true) : applyV k a b = joinV a b := by
  simp only [two3, Bool.and_eq_true, decide_eq_true_eq] at h
  obtain ⟨rfl, h1, h2⟩ := h
  show (if ¬ a.k = 3 ∨ ¬ b.k = 3 then wrongV else joinV a b) = _
  rw [if_neg (by simp [h1, h2])]
theorem two4_T {k : Int} {a b : Val} (h : two4 k a b = true) : applyV k a b = if k = 17 then atV a b else pushV a b := by
  simp only [two4, Bool.and_eq_true, Bool.or_eq_true, decide_eq_true_eq] at h
  obtain ⟨h1 | h1, h2, h3⟩ := h
  · subst h1
    show (if ¬ a.k = 4 ∨ ¬ b.k = 1 then wrongV else if (17 : Int) = 17 then atV a b else pushV a b) = _
    rw [if_neg (by simp [h2, h3])]
  · subst h1
    show (if ¬ a.k = 4 ∨ ¬ b.k = 1 then wrongV else if (18 : Int) = 17 then atV a b else pushV a b) = _
    rw [if_neg (by simp [h2, h3])]
theorem two5_T {k : Int} {a b : Val} (ho : operandsI k = 2) (h : two5 k a b = true) : applyV k a b = numV k a.n b.n ∧ isNumOp k = true := by
  simp only [two5, Bool.and_eq_true, Bool.or_eq_true, decide_eq_true_eq] at h
  obtain ⟨h1, h2, h3⟩ := h
  have hk : isNumOp k = true := by
    rcases ops_two ho with e | e | e | e | e | e | e | e | e | e | e | e <;> first | (subst e; rfl) | omega
  refine ⟨?_, hk⟩
  unfold applyV
  rw [if_pos hk, if_neg (by simp [h2, h3])]
theorem two_F {k : Int} {a b : Val} (ho : operandsI k = 2) (h1 : two1 k a b = false) (h2 : two2 k a b = false) (h3 : two3 k a b = false) (h4 : two4 k a b = false) (h5 : two5 k a b = false) : applyV k a b = (v0, 402) := by
  unfold two1 at h1; unfold two2 at h2; unfold two3 at h3; unfold two4 at h4; unfold two5 at h5
  rcases ops_two ho with e | e | e | e | e | e | e | e | e | e | e | e <;> subst e <;> simp at h1 h2 h3 h4 h5 <;> simp [applyV, isNumOp, wrongV] <;> (try omega) <;> (intro a1; first | (intro a2; omega) | (simp_all; done) | omega)
theorem numV_div {a b : Int} : numV 9 a b = if b = 0 then (v0, 403) else (⟨1, w64 (a.tdiv b), [], []⟩, 0) := rfl
theorem numV_mod {a b : Int} : numV 10 a b = if b = 0 then (v0, 403) else (⟨1, a.tmod b, [], []⟩, 0) := rfl
/-- a value, copied -/
def CopyV (x : Val) (v : Value) (H : Hp) : Prop := ∃ lv, v = .agg (x.cells lv).toArray ∧ RdV H lv x
end Go.Sx
