import Derived.Test.YtjnlogbbcceaoaaPuA
import Derived.KernelRfl
import Derived.Sort.Walk0
import Derived.Test.YtjnlogbbcceaoaaSxB
import Derived.Lib.ItoaNum
set_option linter.unusedVariables false
set_option linter.unusedSimpArgs false
namespace Go.Sx
open Go
/-! ## the laws of layer 4: what the terms come to -/
instance : DecidableEq Val := fun a b => decidable_of_iff (a.k = b.k ∧ a.n = b.n ∧ a.s = b.s ∧ a.l = b.l) (by cases a; cases b; simp)
def numT (n : Int) : Term := ⟨1, [], n, [], -1, -1⟩
def varT (s : Str) : Term := ⟨0, s, 0, [], -1, -1⟩
def twoT (k l r : Int) : Term := ⟨k, [], 0, [], l, r⟩
theorem first4_a : evalS [numT 7, numT 0, twoT 9 0 1] 2 [] = (v0, 403) := by decide +kernel
theorem first4_b {lv : Value} : evalS [numT 7, varT [120], twoT 6 0 1] 2 [⟨[120], ⟨1, 5, [], []⟩, lv⟩] = (⟨1, 12, [], []⟩, 0) := by kernel_rfl
theorem first4_c : mayB [numT 1] 0 = true := by decide +kernel
theorem first4_d : mayB [] 0 = false := by decide +kernel

/-! two numbers -/
theorem nums_6 (a b : Int) : evalS [numT a, numT b, twoT 6 0 1] 2 [] = numV 6 a b := by kernel_rfl
theorem nums_7 (a b : Int) : evalS [numT a, numT b, twoT 7 0 1] 2 [] = numV 7 a b := by kernel_rfl
theorem nums_8 (a b : Int) : evalS [numT a, numT b, twoT 8 0 1] 2 [] = numV 8 a b := by kernel_rfl
theorem nums_9 (a b : Int) : evalS [numT a, numT b, twoT 9 0 1] 2 [] = numV 9 a b := by kernel_rfl
theorem nums_10 (a b : Int) : evalS [numT a, numT b, twoT 10 0 1] 2 [] = numV 10 a b := by kernel_rfl
theorem nums_12 (a b : Int) : evalS [numT a, numT b, twoT 12 0 1] 2 [] = numV 12 a b := by kernel_rfl
theorem nums_eval (k a b : Int) (h : isNumOp k = true) : evalS [numT a, numT b, twoT k 0 1] 2 [] = numV k a b := by
  have h6 : k = 6 ∨ k = 7 ∨ k = 8 ∨ k = 9 ∨ k = 10 ∨ k = 12 := by unfold isNumOp at h; simpa using h
  rcases h6 with rfl | rfl | rfl | rfl | rfl | rfl
  · exact nums_6 a b
  · exact nums_7 a b
  · exact nums_8 a b
  · exact nums_9 a b
  · exact nums_10 a b
  · exact nums_12 a b

theorem nums_facts (a b : Int) : numV 6 a b = (⟨1, w64 (a + b), [], []⟩, 0) ∧ numV 7 a b = (⟨1, w64 (a - b), [], []⟩, 0) ∧ numV 8 a b = (⟨1, w64 (a * b), [], []⟩, 0) ∧ numV 12 a b = (truthV (decide (a < b)), 0) ∧
    (b = 0 → (numV 9 a b).2 = 403 ∧ (numV 10 a b).2 = 403) ∧ (¬ b = 0 → numV 9 a b = (⟨1, w64 (a.tdiv b), [], []⟩, 0) ∧ numV 10 a b = (⟨1, a.tmod b, [], []⟩, 0)) := by
  have e9 : numV 9 a b = if b = 0 then (v0, 403) else (⟨1, w64 (a.tdiv b), [], []⟩, 0) := rfl
  have e10 : numV 10 a b = if b = 0 then (v0, 403) else (⟨1, a.tmod b, [], []⟩, 0) := rfl
  refine ⟨rfl, rfl, rfl, rfl, fun h => ?_, fun h => ?_⟩
  · rw [e9, e10, if_pos h, if_pos h]; exact ⟨rfl, rfl⟩
  · rw [e9, e10, if_neg h]; exact ⟨rfl, by rw [if_neg h]⟩

theorem wrap_i64_of {x : Int} (h : i64ok x) : IntKind.i64.wrap x = x := wrap64_in h.1 h.2
theorem wrap_cong {x y : Int} (h : (x - y) % 18446744073709551616 = 0) : IntKind.i64.wrap x = IntKind.i64.wrap y := by
  rw [IntKind.wrap_i64, IntKind.wrap_i64]; omega
theorem wrap_diff (x : Int) : (IntKind.i64.wrap x - x) % 18446744073709551616 = 0 := by
  rw [IntKind.wrap_i64]; omega
/-- quotient and remainder of two numbers, as the law asks for them -/
theorem nums_small (a b : Int) (ha : i64ok a) (hb : i64ok b) (h : ¬ b = 0) :
    IntKind.i64.wrap (IntKind.i64.wrap (IntKind.i64.wrap (a.tdiv b) * b) + a.tmod b) = a ∧
    (0 < a.tmod b → (0 < b ∧ a.tmod b < b) ∨ (b < 0 ∧ a.tmod b ≤ - (b + 1))) ∧
    (a.tmod b ≤ 0 → (0 < b ∧ -b < a.tmod b) ∨ (b < 0 ∧ b < a.tmod b)) ∧
    (¬ a.tmod b = 0 → decide (a.tmod b < 0) = decide (a < 0)) ∧ (b < 0 → IntKind.i64.wrap (b + 1) = b + 1 ∧ IntKind.i64.wrap (-(b + 1)) = -(b + 1)) ∧ (0 < b → IntKind.i64.wrap (-b) = -b) := by
  have e1 : b * a.tdiv b + a.tmod b = a := Int.mul_tdiv_add_tmod a b
  have hlt : (a.tmod b).natAbs < b.natAbs := by
    rw [Int.natAbs_tmod]; exact Nat.mod_lt _ (by omega)
  have hpos : 0 ≤ a → 0 ≤ a.tmod b := fun h0 => Int.tmod_nonneg b h0
  have hneg : a ≤ 0 → a.tmod b ≤ 0 := fun h0 => by
    have := Int.tmod_nonneg b (show 0 ≤ -a by omega)
    rw [Int.neg_tmod] at this; omega
  obtain ⟨a1, a2⟩ := ha; obtain ⟨b1, b2⟩ := hb
  refine ⟨?_, fun hr => ?_, fun hr => ?_, fun hr => ?_, fun hr => ?_, fun hr => ?_⟩
  · have d1 := wrap_diff (a.tdiv b)
    have d2 := wrap_diff (IntKind.i64.wrap (a.tdiv b) * b)
    generalize IntKind.i64.wrap (a.tdiv b) = q at *
    have d3 : ((q - a.tdiv b) * b) % 18446744073709551616 = 0 := by
      obtain ⟨c, hc⟩ := Int.dvd_of_emod_eq_zero d1
      exact Int.emod_eq_zero_of_dvd ⟨c * b, by rw [hc, Int.mul_assoc]⟩
    rw [Int.sub_mul] at d3
    have e2 : a.tdiv b * b + a.tmod b = a := by rw [Int.mul_comm]; exact e1
    generalize q * b = m at *
    generalize a.tdiv b * b = m2 at *
    exact (wrap_cong (y := a) (by omega)).trans (wrap_i64_of ⟨a1, a2⟩)
  · rcases Int.lt_or_lt_of_ne h with hb0 | hb0
    · right; exact ⟨hb0, by omega⟩
    · left; exact ⟨hb0, by omega⟩
  · rcases Int.lt_or_lt_of_ne h with hb0 | hb0
    · right; exact ⟨hb0, by omega⟩
    · left; exact ⟨hb0, by omega⟩
  · by_cases h1 : a < 0
    · simp [h1]; have := hneg (by omega); omega
    · simp [h1]; have := hpos (by omega); omega
  · exact ⟨wrap64_in (by omega) (by omega), wrap64_in (by omega) (by omega)⟩
  · exact wrap64_in (by omega) (by omega)

/-! two values, in both orders -/
def qpT (k : Int) : List Term := [varT [113], varT [112], twoT k 0 1]
theorem pqT_eq (k : Int) : pqT k = [varT [112], varT [113], twoT k 0 1] := rfl
theorem qp_may {k : Int} (h : 6 ≤ k ∧ k ≤ 19) (h1 : ¬ k = 15) (h2 : ¬ k = 16) : mayB (qpT k) 2 = true := by
  rcases two_cases h h1 h2 with rfl | rfl | rfl | rfl | rfl | rfl | rfl | rfl | rfl | rfl | rfl | rfl <;> decide +kernel
theorem qp_eval {k : Int} {a b : Val} {la lb : Value} (h : 6 ≤ k ∧ k ≤ 19) (h1 : ¬ k = 15) (h2 : ¬ k = 16) (ha : mayV a = true) (hb : mayV b = true) : evalS (qpT k) 2 (pqE a b la lb) = applyV k b a := by
  obtain ⟨_, _, w⟩ := two_ask h h1 h2
  unfold evalS
  rw [if_pos (qp_may h h1 h2)]
  have e0 : evalW (qpT k) (pqE a b la lb) 2 1 = (a, 0) := by
    rw [evalW_leaf (t := varT [112]) rfl rfl]
    simp only [varT, leafV, holdV, pqE]
    rw [if_neg (by decide), if_neg (by decide), if_neg (by decide), if_neg (by decide), if_neg (by decide), if_pos trivial, if_pos ha]
  have e1 : evalW (qpT k) (pqE a b la lb) 2 0 = (b, 0) := by
    rw [evalW_leaf (t := varT [113]) rfl rfl]
    simp only [varT, leafV, holdV, pqE]
    rw [if_neg (by decide), if_neg (by decide), if_neg (by decide), if_neg (by decide), if_neg (by decide), if_neg (by decide), if_pos trivial, if_pos hb]
  show evalW (qpT k) (pqE a b la lb) (2 + 1) 2 = _
  rw [evalW_2 (t := twoT k 0 1) rfl (by show ¬ operandsI k = 0; omega) (by show (evalW (qpT k) _ 2 0).2 = 0; rw [e1]) w (by show (evalW (qpT k) _ 2 1).2 = 0; rw [e0])]
  show applyV k (evalW (qpT k) _ 2 0).1 (evalW (qpT k) _ 2 1).1 = _
  rw [e0, e1]
def swapK (k : Int) : Prop := k = 6 ∨ k = 8 ∨ k = 13 ∨ k = 14 ∨ k = 11
theorem sameV_comm (a b : Val) : sameV a b = sameV b a := by
  unfold sameV
  rw [Bool.eq_iff_iff]; simp only [Bool.and_eq_true, decide_eq_true_eq]
  constructor <;> (rintro ⟨h1, h2, h3, h4⟩; exact ⟨h1.symm, h2.symm, h3.symm, h4.symm⟩)
theorem sameV_refl (a : Val) : sameV a a = true := by simp [sameV]
theorem swap_comm {k : Int} {a b : Val} (hk : swapK k) : applyV k a b = applyV k b a := by
  rcases hk with rfl | rfl | rfl | rfl | rfl
  · show (if ¬ a.k = 1 ∨ ¬ b.k = 1 then wrongV else numV 6 a.n b.n) = (if ¬ b.k = 1 ∨ ¬ a.k = 1 then wrongV else numV 6 b.n a.n)
    rw [show numV 6 a.n b.n = (⟨1, w64 (a.n + b.n), [], []⟩, 0) from rfl, show numV 6 b.n a.n = (⟨1, w64 (b.n + a.n), [], []⟩, 0) from rfl, Int.add_comm a.n b.n]
    by_cases h1 : a.k = 1 <;> by_cases h2 : b.k = 1 <;> simp [h1, h2]
  · show (if ¬ a.k = 1 ∨ ¬ b.k = 1 then wrongV else numV 8 a.n b.n) = (if ¬ b.k = 1 ∨ ¬ a.k = 1 then wrongV else numV 8 b.n a.n)
    rw [show numV 8 a.n b.n = (⟨1, w64 (a.n * b.n), [], []⟩, 0) from rfl, show numV 8 b.n a.n = (⟨1, w64 (b.n * a.n), [], []⟩, 0) from rfl, Int.mul_comm a.n b.n]
    by_cases h1 : a.k = 1 <;> by_cases h2 : b.k = 1 <;> simp [h1, h2]
  · show (if ¬ a.k = 2 ∨ ¬ b.k = 2 then wrongV else (truthV (decide (a.n = 1) && decide (b.n = 1)), 0)) = (if ¬ b.k = 2 ∨ ¬ a.k = 2 then wrongV else (truthV (decide (b.n = 1) && decide (a.n = 1)), 0))
    rw [Bool.and_comm]
    by_cases h1 : a.k = 2 <;> by_cases h2 : b.k = 2 <;> simp [h1, h2]
  · show (if ¬ a.k = 2 ∨ ¬ b.k = 2 then wrongV else (truthV (decide (a.n = 1) || decide (b.n = 1)), 0)) = (if ¬ b.k = 2 ∨ ¬ a.k = 2 then wrongV else (truthV (decide (b.n = 1) || decide (a.n = 1)), 0))
    rw [Bool.or_comm]
    by_cases h1 : a.k = 2 <;> by_cases h2 : b.k = 2 <;> simp [h1, h2]
  · show (if ¬ a.k = b.k ∨ a.k = 5 then wrongV else (truthV (sameV a b), 0)) = (if ¬ b.k = a.k ∨ b.k = 5 then wrongV else (truthV (sameV b a), 0))
    rw [sameV_comm]
    by_cases h1 : a.k = b.k
    · rw [h1]
    · rw [if_pos (.inl h1), if_pos (.inl (fun e => h1 e.symm))]
/-- the five kinds of TermSwaps -/
theorem swap_pick (i : Int) (h : 0 ≤ i ∧ i < 5) : ∃ k, swapK k ∧ ([.int .i64 6, .int .i64 8, .int .i64 13, .int .i64 14, .int .i64 11] : List Value)[0 + i.toNat * 1]? = some (.int .i64 k) := by
  have : i = 0 ∨ i = 1 ∨ i = 2 ∨ i = 3 ∨ i = 4 := by omega
  rcases this with rfl | rfl | rfl | rfl | rfl
  · exact ⟨6, .inl rfl, rfl⟩
  · exact ⟨8, .inr (.inl rfl), rfl⟩
  · exact ⟨13, .inr (.inr (.inl rfl)), rfl⟩
  · exact ⟨14, .inr (.inr (.inr (.inl rfl))), rfl⟩
  · exact ⟨11, .inr (.inr (.inr (.inr rfl))), rfl⟩
theorem swapK_in {k : Int} (h : swapK k) : (6 ≤ k ∧ k ≤ 19) ∧ ¬ k = 15 ∧ ¬ k = 16 := by
  unfold swapK at h; omega
/-- less-than, in both orders -/
theorem less_row {a b : Val} (ha : mayV a = true) (hb : mayV b = true) :
    ((applyV 12 a b).2 = 402 ∧ (applyV 12 b a).2 = 402) ∨
    ((applyV 12 a b).2 = 0 ∧ (applyV 12 b a).2 = 0 ∧ ((applyV 12 a b).1.n = 0 ∨ (applyV 12 a b).1.n = 1) ∧ ((applyV 12 b a).1.n = 0 ∨ (applyV 12 b a).1.n = 1) ∧ (applyV 12 a b).1.n + (applyV 12 b a).1.n ≤ 1 ∧
      decide ((applyV 12 a b).1.n + (applyV 12 b a).1.n = 0) = sameV a b ∧ IntKind.i64.wrap ((applyV 12 a b).1.n + (applyV 12 b a).1.n) = (applyV 12 a b).1.n + (applyV 12 b a).1.n) := by
  have w0 : IntKind.i64.wrap 0 = 0 := by decide
  have w1 : IntKind.i64.wrap 1 = 1 := by decide
  have e : ∀ a b : Val, applyV 12 a b = if ¬ a.k = 1 ∨ ¬ b.k = 1 then wrongV else (truthV (decide (a.n < b.n)), 0) := fun _ _ => rfl
  rw [e, e]
  by_cases h1 : a.k = 1
  · by_cases h2 : b.k = 1
    · right
      rw [if_neg (by simp [h1, h2]), if_neg (by simp [h1, h2])]
      have s1 : a.s = [] ∧ a.l = [] := by unfold mayV at ha; simpa [h1] using ha
      have s2 : b.s = [] ∧ b.l = [] := by unfold mayV at hb; simpa [h2] using hb
      have hs : sameV a b = decide (a.n = b.n) := by unfold sameV; simp [h1, h2, s1, s2]
      rw [hs]
      simp only [truthV]
      by_cases hlt : a.n < b.n
      · have : ¬ b.n < a.n := by omega
        have h3 : ¬ a.n = b.n := by omega
        simp [hlt, this, h3, w0, w1]
      · by_cases hgt : b.n < a.n
        · have h3 : ¬ a.n = b.n := by omega
          simp [hlt, hgt, h3, w0, w1]
        · have h3 : a.n = b.n := by omega
          simp [hlt, hgt, h3, w0, w1]
    · left; rw [if_pos (.inr h2), if_pos (.inl h2)]; exact ⟨rfl, rfl⟩
  · left; rw [if_pos (.inl h1), if_pos (.inr h1)]; exact ⟨rfl, rfl⟩
/-! some: few binds, of few numbers -/
def someL (env : List Bind) : Bool := env.all fun b => decide ((b.v.l.length : Int) ≤ 40)
def someB (env : List Bind) : Bool := someL env && decide ((env.length : Int) ≤ 40)
theorem someL_snoc {l : List Bind} {x : Bind} (h : someL l = true) (hx : ¬ 40 < (x.v.l.length : Int)) : someL (l ++ [x]) = true := by
  unfold someL at *
  simp only [List.all_append, h, Bool.true_and, List.all_cons, List.all_nil, Bool.and_true, decide_eq_true_eq]
  omega
theorem someB_F {env : List Bind} {i : Nat} {x : Bind} (hx : env[i]? = some x) (h : 40 < (x.v.l.length : Int)) : someB env = false := by
  have : someL env = false := by
    unfold someL
    rw [List.all_eq_false]
    exact ⟨x, List.mem_of_getElem? hx, by simpa using h⟩
  unfold someB; rw [this]; rfl
theorem someB_end {env : List Bind} (h : someL env = true) : someB env = decide ((env.length : Int) ≤ 40) := by unfold someB; rw [h]; rfl
theorem someB_T {env : List Bind} (h : someB env = true) : (env.length : Int) ≤ 40 ∧ ∀ b ∈ env, b.v.l.length ≤ 100000 := by
  unfold someB someL at h
  simp only [Bool.and_eq_true, List.all_eq_true, decide_eq_true_eq] at h
  exact ⟨h.2, fun b hb => by have := h.1 b hb; omega⟩
/-! texts -/
def txR : List Term := [varT [112], varT [113], twoT 19 0 1, varT [114], twoT 19 2 3]
def txC : List Term := [varT [112], varT [113], varT [114], twoT 19 1 2, twoT 19 0 3]
def txE (a b c : Str) : List Bind := [⟨[112], ⟨3, 0, a, []⟩, .slice none 0 0⟩, ⟨[113], ⟨3, 0, b, []⟩, .slice none 0 0⟩, ⟨[114], ⟨3, 0, c, []⟩, .slice none 0 0⟩]
theorem tx_env {H : Hp} (a b c : Str) : EnvOk H (txE a b c) := by
  intro z hz
  simp only [txE, List.mem_cons, List.not_mem_nil, or_false] at hz
  rcases hz with rfl | rfl | rfl <;> exact RdSl.nil
theorem tx_len (a b c : Str) : ∀ z ∈ txE a b c, z.v.l.length ≤ 100000 := by
  intro z hz
  simp only [txE, List.mem_cons, List.not_mem_nil, or_false] at hz
  rcases hz with rfl | rfl | rfl <;> simp
theorem may_text {a : Str} (h : a.length ≤ 24) : mayV ⟨3, 0, a, []⟩ = true := by simp [mayV]; omega
theorem holdV_hit {b : Bind} {r : List Bind} (hm : mayV b.v = true) : holdV (b :: r) b.name = (b.v, 0) := by unfold holdV; rw [if_pos rfl, if_pos hm]
theorem holdV_miss {b : Bind} {r : List Bind} {s : Str} (h : ¬ b.name = s) : holdV (b :: r) s = holdV r s := by rw [holdV, if_neg h]
theorem holdV_pass {p s : Str} {v : Val} {lv : Value} {r : List Bind} (h : decide (p = s) = false) : holdV (⟨p, v, lv⟩ :: r) s = holdV r s := holdV_miss (of_decide_eq_false h)
theorem evalW_var {l : List Term} {env : List Bind} {f : Nat} {at_ : Int} {s : Str} (hx : l[at_.toNat]? = some (varT s)) : evalW l env (f + 1) at_ = holdV env s := by
  rw [evalW_leaf hx rfl]; rfl
theorem evalW_num {l : List Term} {env : List Bind} {f : Nat} {at_ n : Int} (hx : l[at_.toNat]? = some (numT n)) : evalW l env (f + 1) at_ = (⟨1, n, [], []⟩, 0) := by
  rw [evalW_leaf hx rfl]; rfl
theorem evalW_two {l : List Term} {env : List Bind} {f : Nat} {at_ k i j : Int} {a b : Val} (hx : l[at_.toNat]? = some (twoT k i j)) (hk : operandsI k = 2) (ha : evalW l env f i = (a, 0)) (hb : evalW l env f j = (b, 0)) : evalW l env (f + 1) at_ = applyV k a b := by
  have ha' : evalW l env f (twoT k i j).l = (a, 0) := ha
  have hb' : evalW l env f (twoT k i j).r = (b, 0) := hb
  rw [evalW_2 hx (by show ¬ operandsI k = 0; omega) (by rw [ha']) hk (by rw [hb']), ha', hb']; rfl
theorem evalW_twoA {l : List Term} {env : List Bind} {f : Nat} {at_ k i j e : Int} {a : Val} (hx : l[at_.toNat]? = some (twoT k i j)) (hk : operandsI k = 2) (ha : evalW l env f i = (a, e)) (he : ¬ e = 0) : evalW l env (f + 1) at_ = (v0, e) := by
  have ha' : evalW l env f (twoT k i j).l = (a, e) := ha
  rw [evalW_a hx (by show ¬ operandsI k = 0; omega) (by rw [ha']; exact he), ha']
theorem evalW_twoB {l : List Term} {env : List Bind} {f : Nat} {at_ k i j e : Int} {a b : Val} (hx : l[at_.toNat]? = some (twoT k i j)) (hk : operandsI k = 2) (ha : evalW l env f i = (a, 0)) (hb : evalW l env f j = (b, e)) (he : ¬ e = 0) : evalW l env (f + 1) at_ = (v0, e) := by
  have ha' : evalW l env f (twoT k i j).l = (a, 0) := ha
  have hb' : evalW l env f (twoT k i j).r = (b, e) := hb
  rw [evalW_b hx (by show ¬ operandsI k = 0; omega) (by rw [ha']) hk (by rw [hb']; exact he), hb']
theorem evalW_one {l : List Term} {env : List Bind} {f : Nat} {at_ k i : Int} {a : Val} (hx : l[at_.toNat]? = some ⟨k, [], 0, [], i, -1⟩) (hk : operandsI k = 1) (ha : evalW l env f i = (a, 0)) : evalW l env (f + 1) at_ = applyV k a v0 := by
  have ha' : evalW l env f (⟨k, [], 0, [], i, -1⟩ : Term).l = (a, 0) := ha
  rw [evalW_1 hx (by show ¬ operandsI k = 0; omega) (by rw [ha']) (by show ¬ operandsI k = 2; omega), ha']
theorem join_texts (a b : Str) : applyV 19 ⟨3, 0, a, []⟩ ⟨3, 0, b, []⟩ = if 24 < (a.length : Int) + b.length then (v0, 405) else (⟨3, 0, a ++ b, []⟩, 0) := rfl
theorem tx_a {a b c : Str} (ha : a.length ≤ 24) : holdV (txE a b c) [112] = (⟨3, 0, a, []⟩, 0) := holdV_hit (b := ⟨[112], ⟨3, 0, a, []⟩, .slice none 0 0⟩) (may_text ha)
theorem tx_b {a b c : Str} (hb : b.length ≤ 24) : holdV (txE a b c) [113] = (⟨3, 0, b, []⟩, 0) := by
  unfold txE
  rw [holdV_pass rfl]
  exact holdV_hit (b := ⟨[113], ⟨3, 0, b, []⟩, .slice none 0 0⟩) (may_text hb)
theorem tx_c {a b c : Str} (hc : c.length ≤ 24) : holdV (txE a b c) [114] = (⟨3, 0, c, []⟩, 0) := by
  unfold txE
  rw [holdV_pass rfl, holdV_pass rfl]
  exact holdV_hit (b := ⟨[114], ⟨3, 0, c, []⟩, .slice none 0 0⟩) (may_text hc)
def txV (a b c : Str) : Val × Int := if 24 < (a.length : Int) + b.length + c.length then (v0, 405) else (⟨3, 0, a ++ (b ++ c), []⟩, 0)
theorem tx_RW {a b c : Str} {l : List Term} {f : Nat} (ha : a.length ≤ 24) (hb : b.length ≤ 24) (hc : c.length ≤ 24) (h0 : l[0]? = some (varT [112])) (h1 : l[1]? = some (varT [113])) (h2 : l[2]? = some (twoT 19 0 1)) (h3 : l[3]? = some (varT [114])) (h4 : l[4]? = some (twoT 19 2 3)) :
    evalW l (txE a b c) (f + 3) 4 = txV a b c := by
  have e0 : ∀ f, evalW l (txE a b c) (f + 1) 0 = (⟨3, 0, a, []⟩, 0) := fun f => (evalW_var h0).trans (tx_a ha)
  have e1 : ∀ f, evalW l (txE a b c) (f + 1) 1 = (⟨3, 0, b, []⟩, 0) := fun f => (evalW_var h1).trans (tx_b hb)
  have e3 : ∀ f, evalW l (txE a b c) (f + 1) 3 = (⟨3, 0, c, []⟩, 0) := fun f => (evalW_var h3).trans (tx_c hc)
  have e2 : evalW l (txE a b c) (f + 2) 2 = if 24 < (a.length : Int) + b.length then (v0, 405) else (⟨3, 0, a ++ b, []⟩, 0) := by
    rw [evalW_two h2 rfl (e0 f) (e1 f), join_texts]
  unfold txV
  by_cases h : 24 < (a.length : Int) + b.length
  · rw [if_pos h] at e2
    rw [evalW_twoA h4 rfl e2 (by decide), if_pos (by omega)]
  · rw [if_neg h] at e2
    rw [evalW_two h4 rfl e2 (e3 (f + 1)), join_texts]
    simp only [List.length_append, Int.natCast_add, List.append_assoc]
theorem tx_R {a b c : Str} (ha : a.length ≤ 24) (hb : b.length ≤ 24) (hc : c.length ≤ 24) : evalS txR 4 (txE a b c) = txV a b c := by
  unfold evalS
  rw [if_pos (show mayB txR 4 = true by decide +kernel)]
  exact tx_RW (f := 2) ha hb hc rfl rfl rfl rfl rfl
theorem tx_C {a b c : Str} (ha : a.length ≤ 24) (hb : b.length ≤ 24) (hc : c.length ≤ 24) : evalS txC 4 (txE a b c) = txV a b c := by
  unfold evalS
  rw [if_pos (show mayB txC 4 = true by decide +kernel)]
  show evalW txC (txE a b c) (3 + 1 + 1) 4 = _
  have e0 : evalW txC (txE a b c) (3 + 1) 0 = (⟨3, 0, a, []⟩, 0) := (evalW_var rfl).trans (tx_a ha)
  have e1 : evalW txC (txE a b c) 3 1 = (⟨3, 0, b, []⟩, 0) := (evalW_var (f := 2) rfl).trans (tx_b hb)
  have e2 : evalW txC (txE a b c) 3 2 = (⟨3, 0, c, []⟩, 0) := (evalW_var (f := 2) rfl).trans (tx_c hc)
  have e3 : evalW txC (txE a b c) (3 + 1) 3 = if 24 < (b.length : Int) + c.length then (v0, 405) else (⟨3, 0, b ++ c, []⟩, 0) := by
    rw [evalW_two rfl rfl e1 e2, join_texts]
  unfold txV
  by_cases h : 24 < (b.length : Int) + c.length
  · rw [if_pos h] at e3
    rw [evalW_twoB rfl rfl e0 e3 (by decide), if_pos (by omega)]
  · rw [if_neg h] at e3
    rw [evalW_two rfl rfl e0 e3, join_texts]
    simp only [List.length_append, Int.natCast_add, ← Int.add_assoc]
theorem tx_L {a b c : Str} (ha : a.length ≤ 24) (hb : b.length ≤ 24) (hc : c.length ≤ 24) : evalS (txR ++ [⟨16, [], 0, [], 4, -1⟩]) 5 (txE a b c) = if 24 < (a.length : Int) + b.length + c.length then (v0, 405) else (⟨1, (a.length : Int) + b.length + c.length, [], []⟩, 0) := by
  unfold evalS
  rw [if_pos (show mayB (txR ++ [⟨16, [], 0, [], 4, -1⟩]) 5 = true by decide +kernel)]
  show evalW _ (txE a b c) (5 + 1) 5 = _
  have e := tx_RW (l := txR ++ [⟨16, [], 0, [], 4, -1⟩]) (f := 2) ha hb hc rfl rfl rfl rfl rfl
  unfold txV at e
  split at e
  · rename_i h
    rw [if_pos h]
    have ha' : evalW (txR ++ [⟨16, [], 0, [], 4, -1⟩]) (txE a b c) 5 (⟨16, [], 0, [], 4, -1⟩ : Term).l = (v0, 405) := e
    have hx : (txR ++ [⟨16, [], 0, [], 4, -1⟩])[(5 : Int).toNat]? = some (⟨16, [], 0, [], 4, -1⟩ : Term) := rfl
    rw [evalW_a hx (by decide) (by rw [ha']; decide), ha']
  · rename_i h
    rw [if_neg h, evalW_one rfl rfl e]
    show ((⟨1, ((a ++ (b ++ c)).length : Int), [], []⟩ : Val), (0 : Int)) = _
    simp only [List.length_append, Int.natCast_add, ← Int.add_assoc]

/-! lists -/
theorem wrapU_in {a : Int} (h1 : 0 ≤ a) (h2 : a ≤ 18446744073709551615) : IntKind.u64.wrap a = a := by
  have : IntKind.u64.wrap a = a % 18446744073709551616 := by simp [IntKind.wrap, IntKind.bits, IntKind.signed]
  rw [this]; omega
def lsE (xs : List Int) (n : Int) (v : Value) : List Bind := [⟨[108], ⟨4, 0, [], xs⟩, v⟩, ⟨[110], ⟨1, n, [], []⟩, .slice none 0 0⟩]
def lsR : List Term := [varT [108], varT [110], twoT 18 0 1]
def lsA (k : Int) : List Term := [varT [108], varT [110], twoT 18 0 1, numT k, twoT 17 2 3]
def lsB (m : Int) : List Term := [varT [108], numT m, twoT 17 0 1]
def lsN : List Term := [varT [108], varT [110], twoT 18 0 1, ⟨16, [], 0, [], 2, -1⟩]
theorem ls_env {H : Hp} {xs : List Int} {n : Int} {v : Value} (h : RdSl H 1 I64.cells v xs) : EnvOk H (lsE xs n v) := by
  intro z hz
  simp only [lsE, List.mem_cons, List.not_mem_nil, or_false] at hz
  rcases hz with rfl | rfl
  · exact h
  · exact RdSl.nil
theorem ls_len {xs : List Int} {n : Int} {v : Value} (h : xs.length ≤ 16) : ∀ z ∈ lsE xs n v, z.v.l.length ≤ 100000 := by
  intro z hz
  simp only [lsE, List.mem_cons, List.not_mem_nil, or_false] at hz
  rcases hz with rfl | rfl
  · show xs.length ≤ _; omega
  · simp
theorem may_list {xs : List Int} (h : xs.length ≤ 16) : mayV ⟨4, 0, [], xs⟩ = true := by simp [mayV]; omega
theorem ls_l {xs : List Int} {n : Int} {v : Value} (h : xs.length ≤ 16) : holdV (lsE xs n v) [108] = (⟨4, 0, [], xs⟩, 0) := holdV_hit (b := ⟨[108], ⟨4, 0, [], xs⟩, v⟩) (may_list h)
theorem ls_n {xs : List Int} {n : Int} {v : Value} : holdV (lsE xs n v) [110] = (⟨1, n, [], []⟩, 0) := by
  unfold lsE
  rw [holdV_pass rfl]
  exact holdV_hit (b := ⟨[110], ⟨1, n, [], []⟩, .slice none 0 0⟩) (may_int n)
def lsP (xs : List Int) (n : Int) : Val × Int := pushV ⟨4, 0, [], xs⟩ ⟨1, n, [], []⟩
theorem lsP_lt {xs : List Int} (n : Int) (h : xs.length < 16) : lsP xs n = (⟨4, 0, [], xs ++ [n]⟩, 0) := by
  unfold lsP pushV; rw [if_neg (by simp; omega)]
theorem ls_PW {xs : List Int} {n : Int} {v : Value} {l : List Term} {f : Nat} (h : xs.length ≤ 16) (h0 : l[0]? = some (varT [108])) (h1 : l[1]? = some (varT [110])) (h2 : l[2]? = some (twoT 18 0 1)) : evalW l (lsE xs n v) (f + 2) 2 = lsP xs n := by
  have e0 : evalW l (lsE xs n v) (f + 1) 0 = _ := (evalW_var h0).trans (ls_l h)
  have e1 : evalW l (lsE xs n v) (f + 1) 1 = _ := (evalW_var h1).trans ls_n
  rw [evalW_two h2 rfl e0 e1]; rfl
theorem ls_R {xs : List Int} (n : Int) (h : xs.length ≤ 16) (v : Value) : evalS lsR 2 (lsE xs n v) = lsP xs n := by
  unfold evalS
  rw [if_pos (show mayB lsR 2 = true by decide +kernel)]
  exact ls_PW (f := 1) h rfl rfl rfl
theorem lsA_may (k : Int) : mayB (lsA k) 4 = true := by kernel_rfl
theorem lsB_may (m : Int) : mayB (lsB m) 2 = true := by kernel_rfl
theorem ls_A {xs : List Int} (n k : Int) (h : xs.length < 16) (hk : 0 ≤ k) (v : Value) : evalS (lsA k) 4 (lsE xs n v) = atV ⟨4, 0, [], xs ++ [n]⟩ ⟨1, k, [], []⟩ := by
  unfold evalS
  rw [if_pos (lsA_may k)]
  show evalW (lsA k) (lsE xs n v) (4 + 1) 4 = _
  have e2 := (ls_PW (l := lsA k) (v := v) (n := n) (f := 2) (by omega : xs.length ≤ 16) rfl rfl rfl).trans (lsP_lt n h)
  have e3 : evalW (lsA k) (lsE xs n v) (3 + 1) 3 = (⟨1, k, [], []⟩, 0) := evalW_num rfl
  rw [evalW_two rfl rfl e2 e3]; rfl
theorem ls_B {xs : List Int} (n m : Int) (h : xs.length ≤ 16) (v : Value) : evalS (lsB m) 2 (lsE xs n v) = atV ⟨4, 0, [], xs⟩ ⟨1, m, [], []⟩ := by
  unfold evalS
  rw [if_pos (lsB_may m)]
  show evalW (lsB m) (lsE xs n v) (2 + 1) 2 = _
  have e0 : evalW (lsB m) (lsE xs n v) (1 + 1) 0 = _ := (evalW_var rfl).trans (ls_l h)
  have e1 : evalW (lsB m) (lsE xs n v) (1 + 1) 1 = (⟨1, m, [], []⟩, 0) := evalW_num rfl
  rw [evalW_two rfl rfl e0 e1]; rfl
theorem ls_N {xs : List Int} (n : Int) (h : xs.length < 16) (v : Value) : evalS lsN 3 (lsE xs n v) = (⟨1, (xs.length : Int) + 1, [], []⟩, 0) := by
  unfold evalS
  rw [if_pos (show mayB lsN 3 = true by decide +kernel)]
  show evalW lsN (lsE xs n v) (3 + 1) 3 = _
  have e2 := (ls_PW (l := lsN) (v := v) (n := n) (f := 1) (by omega : xs.length ≤ 16) rfl rfl rfl).trans (lsP_lt n h)
  rw [evalW_one rfl rfl e2]
  show ((⟨1, ((xs ++ [n]).length : Int), [], []⟩ : Val), (0 : Int)) = _
  simp
theorem ls_full {xs : List Int} (n : Int) (h : xs.length = 16) : lsP xs n = (v0, 405) := by
  unfold lsP pushV; rw [if_pos (by simp; omega)]
theorem ls_push {xs : List Int} (n : Int) (h : xs.length < 16) : (lsP xs n).2 = 0 ∧ ((lsP xs n).1.l.length : Int) = xs.length + 1 ∧ (lsP xs n).1.l[((xs.length : Int)).toNat]? = some n := by
  rw [lsP_lt n h]; simp
theorem ls_beyond (xs : List Int) {k : Int} (h : 0 ≤ k) : atV ⟨4, 0, [], xs⟩ ⟨1, xs.length + k, [], []⟩ = (v0, 404) := by
  unfold atV; rw [if_pos (by simp; omega)]
theorem ls_at {xs : List Int} {k x : Int} (n : Int) (hk : 0 ≤ k) (hx : xs[k.toNat]? = some x) : atV ⟨4, 0, [], xs ++ [n]⟩ ⟨1, k, [], []⟩ = (⟨1, x, [], []⟩, 0) := by
  have hlt := (List.getElem?_eq_some_iff.1 hx).1
  unfold atV
  rw [if_neg (by simp; omega)]
  show ((⟨1, (xs ++ [n])[k.toNat]?.getD 0, [], []⟩ : Val), (0 : Int)) = _
  rw [List.getElem?_append_left hlt, hx]; rfl
theorem ls_end {xs : List Int} {k : Int} (n : Int) (hk : k = xs.length) : atV ⟨4, 0, [], xs ++ [n]⟩ ⟨1, k, [], []⟩ = (⟨1, n, [], []⟩, 0) := by
  subst hk
  unfold atV
  rw [if_neg (by simp; omega)]
  simp
end Go.Sx

set_option linter.unusedVariables false
set_option linter.unusedSimpArgs false
namespace Go.Sx
open Go
/-! ## laws of layer 4 about trees -/
/-! binds in cells, whatever their lists are -/
def slN : Value → Value
  | .slice a n c => .slice a n c
  | _ => .slice none 0 0
def Bind.cells2 (b : Bind) : List Value := [gs b.name, .int .i64 b.v.k, .int .i64 b.v.n, gs b.v.s, slN b.lv]
theorem slN_one (v : Value) : (slN v).oneCell' = true := by
  cases v <;> rfl
instance : Cells 5 Bind.cells2 := ⟨fun _ => rfl, by decide, fun x => by simp [Bind.cells2, slN_one]; exact ⟨rfl, rfl, rfl, rfl⟩⟩
def SlB (env : List Bind) : Prop := ∀ b ∈ env, slN b.lv = b.lv
theorem EnvOk.slb {H : Hp} {env : List Bind} (h : EnvOk H env) : SlB env := fun b hb => by
  obtain ⟨a, c, e⟩ := RdSl.len (h b hb)
  rw [e]; rfl
theorem cells2_eq {b : Bind} (h : slN b.lv = b.lv) : b.cells2 = b.cells := by unfold Bind.cells2 Bind.cells; rw [h]
theorem RdSl.to2 {H : Hp} {v : Value} {env : List Bind} (h : RdSl H 5 Bind.cells v env) (hs : SlB env) : RdSl H 5 Bind.cells2 v env :=
  ⟨h.len, h.max, h.addr, fun i x hx j u hu => h.get i x hx j u (by rw [← cells2_eq (hs x (List.mem_of_getElem? hx))]; exact hu), h.room⟩
theorem RdSl.of2 {H : Hp} {v : Value} {env : List Bind} (h : RdSl H 5 Bind.cells2 v env) (hs : SlB env) : RdSl H 5 Bind.cells v env :=
  ⟨h.len, h.max, h.addr, fun i x hx j u hu => h.get i x hx j u (by rw [cells2_eq (hs x (List.mem_of_getElem? hx))]; exact hu), h.room⟩
/-! all values are valid -/
theorem applyV_may (k : Int) (a b : Val) : (applyV k a b).2 = 0 → mayV (applyV k a b).1 = true := by
  unfold applyV numV atV pushV joinV wrongV
  (repeat' split) <;> intro h <;> simp_all [mayV, truthV, v0] <;> first | omega | (split <;> simp)
theorem holdV_may (env : List Bind) (s : Str) : (holdV env s).2 = 0 → mayV (holdV env s).1 = true := by
  induction env with
  | nil => intro h; exact absurd h (by simp [holdV])
  | cons b r ih =>
    unfold holdV
    split
    · split
      · rename_i h; intro _; exact h
      · intro h; exact absurd h (by simp)
    · exact ih
theorem leafV_may {t : Term} (env : List Bind) (hf : fieldsB t = true) : (leafV t env).2 = 0 → mayV (leafV t env).1 = true := by
  unfold leafV
  split
  · intro _; exact may_int _
  split
  · rename_i h2
    intro _
    unfold fieldsB at hf
    simp [h2] at hf
    unfold mayV; simp; exact hf.2.2
  split
  · rename_i h3
    intro _
    unfold fieldsB at hf
    simp [h3] at hf
    unfold mayV; simp; omega
  split
  · intro _; decide
  split
  · intro _; decide
  · exact holdV_may env t.name
theorem evalW_may {l : List Term} {env : List Bind} : ∀ (f : Nat) (at_ : Int), Tr l f at_ → (evalW l env f at_).2 = 0 → mayV (evalW l env f at_).1 = true
  | 0, _, h => h.elim
  | f + 1, at_, h => by
    obtain ⟨_, t, hx, _, hf, _⟩ := h
    simp only [evalW, hx]
    split
    · exact leafV_may env hf
    split
    · rename_i h1; intro h2; exact absurd h2 h1
    split
    · split
      · rename_i h1; intro h2; exact absurd h2 h1
      · exact applyV_may _ _ _
    · exact applyV_may _ _ _
theorem evalS_may {l : List Term} {root : Int} {env : List Bind} : (evalS l root env).2 = 0 → mayV (evalS l root env).1 = true := by
  unfold evalS
  split
  · rename_i h; exact evalW_may _ _ (mayB_Tr h)
  · intro h; exact absurd h (by decide)
/-! a subterm put as a literal -/
def litT (v : Val) : Term := if v.k = 1 then numT v.n else if v.k = 2 then ⟨2, [], v.n, [], -1, -1⟩ else ⟨3, [], 0, v.s, -1, -1⟩
theorem lit_leaf {v : Val} (hm : mayV v = true) (hk : v.k = 1 ∨ v.k = 2 ∨ v.k = 3) : LeafT (litT v) := by
  unfold litT
  rcases hk with h | h | h
  · rw [if_pos h]; exact ⟨rfl, by simp [fieldsB, numT], rfl, rfl⟩
  · rw [if_neg (by omega), if_pos h]
    unfold mayV at hm; simp [h] at hm
    exact ⟨rfl, by simp [fieldsB]; exact hm.1, rfl, rfl⟩
  · rw [if_neg (by omega), if_neg (by omega)]
    unfold mayV at hm; simp [h] at hm
    exact ⟨rfl, by simp [fieldsB]; omega, rfl, rfl⟩
theorem lit_val {v : Val} {env : List Bind} (hm : mayV v = true) (hk : v.k = 1 ∨ v.k = 2 ∨ v.k = 3) : leafV (litT v) env = (v, 0) := by
  obtain ⟨k, n, s, l⟩ := v
  simp only at hk
  unfold litT leafV
  rcases hk with rfl | rfl | rfl
  · simp [numT]; simp [mayV] at hm; exact ⟨hm.1, hm.2⟩
  · simp; simp [mayV] at hm; exact ⟨hm.2.1, hm.2.2⟩
  · simp; simp [mayV] at hm; exact ⟨hm.2.1.symm, hm.2.2⟩
theorem evalS_at {l : List Term} {env : List Bind} {i : Nat} (h : mayB l i = true) : evalS l i env = evalW l env (i + 1) i := by
  unfold evalS; rw [if_pos h]; rfl
theorem inside {l : List Term} {root : Int} {env : List Bind} {d : List Int} {k : Nat} (h : mayB l root = true) (hd : treeS l root = some d) (hk : 0 < d[k]?.getD 0) :
    (¬ (evalS l k env).2 = 0 → ¬ (evalS l root env).2 = 0) ∧
    ((evalS l k env).2 = 0 → (evalS l k env).1.k = 1 ∨ (evalS l k env).1.k = 2 ∨ (evalS l k env).1.k = 3 →
      mayB (l.set k (litT (evalS l k env).1)) root = true ∧ evalS (l.set k (litT (evalS l k env).1)) root env = evalS l root env) := by
  obtain ⟨h1, p, hp, hn⟩ := mayB_iff.1 h
  have hkp := tree_in hd hp hk
  have hmk := mayB_sub h hp hkp
  have e := evalS_at (env := env) hmk
  refine ⟨fun he => ?_, fun h0 hkd => ?_⟩
  · rw [e] at he
    have := err_in _ _ _ _ hp k hkp he root rfl
    unfold evalS; rw [if_pos h]; exact this
  · have hmv := evalS_may h0
    have hval : (evalS l k env) = ((evalS l k env).1, 0) := by rw [← h0]
    refine put_may (e1 := env) (fun i t ht => ?_) (by simp) h
    by_cases hik : i = k
    · subst hik
      have hlt := (List.getElem?_eq_some_iff.1 ht).1
      refine ⟨litT (evalS l i env).1, by simp [hlt], .inr ⟨lit_leaf hmv hkd, fun f q dd hq a ha => ?_⟩⟩
      rw [lit_val hmv hkd, ← hval, e]
      obtain ⟨_, pk, hpk, _⟩ := mayB_iff.1 hmk
      rw [evalW_fuel _ _ _ _ hq (i + 1) 1 pk (by simpa using hpk) a ha]
      have : a.toNat = ((i : Int)).toNat := by rw [ha]; simp
      simp only [evalW, this]
    · refine ⟨t, ?_, .inl ⟨rfl, fun _ => rfl⟩⟩
      rw [List.getElem?_set]; simp [Ne.symm hik, ht]
/-! a variable's number put in its place -/
def putN (name : Str) (n : Int) (t : Term) : Term := if t.kind = 0 ∧ t.name = name then numT n else t
theorem putN_R (l : List Term) (name : Str) (n : Int) (env : List Bind) (lv : Value) : PutR l (l.map (putN name n)) (⟨name, ⟨1, n, [], []⟩, lv⟩ :: env) env := by
  intro i t ht
  refine ⟨putN name n t, by simp [ht], ?_⟩
  unfold putN
  by_cases h : t.kind = 0 ∧ t.name = name
  · right
    rw [if_pos h]
    refine ⟨⟨rfl, by simp [fieldsB, numT], rfl, rfl⟩, fun f q d hq a ha => ?_⟩
    cases f with
    | zero => simp [preL] at hq
    | succ f =>
      have hx : l[a.toNat]? = some t := by rw [ha]; exact ht
      rw [evalW_leaf hx (by rw [h.1]; decide), leafV_var (by omega) (by omega) (by omega) (by omega) (by omega), h.2]
      exact holdV_hit (b := ⟨name, ⟨1, n, [], []⟩, lv⟩) (may_int n)
  · left
    rw [if_neg h]
    refine ⟨rfl, fun ho => ?_⟩
    unfold leafV
    (repeat' split) <;> try rfl
    rename_i h1 h2 h3 h4 h5
    have hk : t.kind = 0 := by
      rcases kind_cases (by omega : 0 ≤ operandsI t.kind) with e | e | e | e | e | e | e | e | e | e | e | e | e | e | e | e | e | e | e | e <;> first | exact e | omega | (rw [e] at ho; exact absurd ho (by decide))
    have hne : ¬ name = t.name := fun e => h ⟨hk, e.symm⟩
    exact holdV_miss hne
theorem vars_in {l : List Term} : ∀ (f : Nat) (at_ : Int) (s : Str), s ∈ varsW l f at_ → ∃ t ∈ l, t.kind = 0 ∧ t.name = s
  | 0, _, _, h => by cases h
  | f + 1, at_, s, h => by
    unfold varsW at h
    split at h
    · cases h
    · split at h
      · cases h
      · rename_i t hx
        rcases List.mem_append.1 h with h | h
        · exact vars_in f _ s h
        rcases List.mem_append.1 h with h | h
        · exact vars_in f _ s h
        · split at h
          · rename_i hk
            exact ⟨t, List.mem_of_getElem? hx, hk, (List.mem_singleton.1 h).symm⟩
          · cases h
theorem putN_vars (l : List Term) (name : Str) (n root : Int) : hasS (varsS (l.map (putN name n)) root) name = false := by
  unfold hasS
  rw [decide_eq_false_iff_not]
  intro h
  by_cases hm : mayB (l.map (putN name n)) root = true
  · obtain ⟨t, ht, hk, hn⟩ := vars_in _ _ _ ((mem_varsS hm).1 h)
    obtain ⟨u, hu, rfl⟩ := List.mem_map.1 ht
    unfold putN at hk hn
    by_cases hc : u.kind = 0 ∧ u.name = name
    · rw [if_pos hc] at hk; exact absurd hk (show ¬ (1 : Int) = 0 by decide)
    · rw [if_neg hc] at hk hn; exact hc ⟨hk, hn⟩
  · rw [varsS_none hm] at h; cases h
theorem puts {l : List Term} {root : Int} (name : Str) (n : Int) (env : List Bind) (lv : Value) (h : mayB l root = true) :
    mayB (l.map (putN name n)) root = true ∧ evalS (l.map (putN name n)) root env = evalS l root (⟨name, ⟨1, n, [], []⟩, lv⟩ :: env) ∧ hasS (varsS (l.map (putN name n)) root) name = false :=
  ⟨(put_may (putN_R l name n env lv) (by simp) h).1, (put_may (putN_R l name n env lv) (by simp) h).2, putN_vars l name n root⟩
/-! other binds -/
def oneV (env : List Bind) (s : Str) : Bool := env.any fun b => decide (b.name = s)
def keepB (l : List Str) (more : List Bind) : List Bind := more.filter fun b => !hasS l b.name
def junkV (b : Bind) : Bind := ⟨b.name, ⟨77, 0, [], []⟩, .slice none 0 0⟩
theorem keepB_snoc {l : List Str} {a : List Bind} {t : Bind} : keepB l (a ++ [t]) = if hasS l t.name then keepB l a else keepB l a ++ [t] := by
  unfold keepB
  rw [List.filter_append]
  cases hb : hasS l t.name <;> simp [hb]
theorem keepB_len (l : List Str) (a : List Bind) : (keepB l a).length ≤ a.length := List.length_filter_le _ _
theorem hold_none {env : List Bind} {s : Str} (h : oneV env s = false) : holdV env s = (v0, 401) := by
  induction env with
  | nil => rfl
  | cons t r ih =>
    simp only [oneV, List.any_cons, Bool.or_eq_false_iff, decide_eq_false_iff_not] at h
    rw [holdV_miss h.1]; exact ih h.2
theorem hold_app {a b : List Bind} {s : Str} (h : oneV a s = true) : holdV (a ++ b) s = holdV a s := by
  induction a with
  | nil => simp [oneV] at h
  | cons t r ih =>
    simp only [List.cons_append, holdV]
    by_cases ht : t.name = s
    · rw [if_pos ht, if_pos ht]
    · rw [if_neg ht, if_neg ht]
      exact ih (by simpa [oneV, ht] using h)
theorem hold_past {a b : List Bind} {s : Str} (h : oneV a s = false) : holdV (a ++ b) s = holdV b s := by
  induction a with
  | nil => rfl
  | cons t r ih =>
    simp only [oneV, List.any_cons, Bool.or_eq_false_iff, decide_eq_false_iff_not] at h
    simp only [List.cons_append]; rw [holdV_miss h.1]; exact ih h.2
theorem evalW_env {l : List Term} {env env' : List Bind} : ∀ (f : Nat) (at_ : Int), Tr l f at_ → (∀ s ∈ varsW l f at_, holdV env s = holdV env' s) → evalW l env f at_ = evalW l env' f at_
  | 0, _, h, _ => h.elim
  | f + 1, at_, h, hv => by
    obtain ⟨h0, t, hx, hop, _, hl, hl', hr, hr'⟩ := h
    rw [varsW_at (by omega) hx] at hv
    simp only [evalW, hx]
    by_cases ho : operandsI t.kind = 0
    · rw [if_pos ho, if_pos ho]
      unfold leafV
      (repeat' split) <;> try rfl
      rename_i h1 h2 h3 h4 h5
      have hk : t.kind = 0 := by
        rcases kind_cases hop with e | e | e | e | e | e | e | e | e | e | e | e | e | e | e | e | e | e | e | e <;> first | exact e | omega | (rw [e] at ho; exact absurd ho (by decide))
      exact hv t.name (by rw [if_pos hk]; simp)
    · rw [if_neg ho, if_neg ho, evalW_env f t.l (hl (by omega)) (fun s hs => hv s (by simp [hs]))]
      by_cases h2 : operandsI t.kind = 2
      · rw [evalW_env f t.r (hr (by omega)) (fun s hs => hv s (by simp [hs]))]
      · simp only [if_neg h2]
theorem others (l : List Term) (root : Int) (env more : List Bind) : evalS l root ((keepB (varsS l root) more ++ env) ++ env.map junkV) = evalS l root env := by
  unfold evalS
  by_cases hm : mayB l root = true
  · rw [if_pos hm, if_pos hm]
    refine evalW_env _ _ (mayB_Tr hm) (fun s hs => ?_)
    have hs' := (mem_varsS hm).2 hs
    have hkeep : oneV (keepB (varsS l root) more) s = false := by
      unfold oneV keepB
      rw [List.any_eq_false]
      intro t ht
      simp only [List.mem_filter, Bool.not_eq_true', hasS, decide_eq_false_iff_not] at ht
      simp only [decide_eq_true_eq]
      rintro rfl
      exact ht.2 hs'
    rw [List.append_assoc, hold_past hkeep]
    cases hb : oneV env s with
    | true => exact hold_app hb
    | false =>
      rw [hold_past hb, hold_none hb]
      refine hold_none ?_
      unfold oneV at *
      rw [List.any_map]
      exact hb
  · rw [if_neg hm, if_neg hm]
/-! terms that are appended -/
theorem more_R (l r : List Term) (e : List Bind) : PutR l (l ++ r) e e := fun i t ht => ⟨t, by rw [List.getElem?_append_left (List.getElem?_eq_some_iff.1 ht).1]; exact ht, .inl ⟨rfl, fun _ => rfl⟩⟩
theorem more_may {l r : List Term} {root : Int} {env : List Bind} (h : mayB l root = true) (hlen : ((l ++ r).length : Int) ≤ 160) : mayB (l ++ r) root = true ∧ evalS (l ++ r) root env = evalS l root env := by
  obtain ⟨h1, p, hp, hn⟩ := mayB_iff.1 h
  obtain ⟨p', e1', e2', e3⟩ := put_pre (more_R l r env) _ _ _ _ hp
  have hm : mayB (l ++ r) root = true := mayB_iff.2 ⟨⟨hlen, h1.2.1, by simp; omega⟩, p', e1', hn.sublist e2'⟩
  refine ⟨hm, ?_⟩
  unfold evalS
  rw [if_pos hm, if_pos h]
  exact e3 root rfl
theorem varsW_more {l r : List Term} : ∀ (f : Nat) (at_ : Int), Tr l f at_ → varsW (l ++ r) f at_ = varsW l f at_
  | 0, _, h => h.elim
  | f + 1, at_, h => by
    obtain ⟨h0, t, hx, hop, _, hl, hl', hr, hr'⟩ := h
    have hx' : (l ++ r)[at_.toNat]? = some t := by rw [List.getElem?_append_left (List.getElem?_eq_some_iff.1 hx).1]; exact hx
    rw [varsW_at (by omega) hx, varsW_at (by omega) hx']
    have e0 : varsW (l ++ r) f t.l = varsW l f t.l := by
      by_cases h1 : 1 ≤ operandsI t.kind
      · exact varsW_more f t.l (hl h1)
      · rw [varsW_neg (by have := hl' (by omega); omega), varsW_neg (by have := hl' (by omega); omega)]
    have e1 : varsW (l ++ r) f t.r = varsW l f t.r := by
      by_cases h1 : 2 ≤ operandsI t.kind
      · exact varsW_more f t.r (hr h1)
      · rw [varsW_neg (by have := hr' (by omega); omega), varsW_neg (by have := hr' (by omega); omega)]
    rw [e0, e1]
theorem varsS_more {l r : List Term} {root : Int} (h : mayB l root = true) (hlen : ((l ++ r).length : Int) ≤ 160) : varsS (l ++ r) root = varsS l root := by
  unfold varsS
  rw [if_pos (more_may (env := []) h hlen).1, if_pos h, varsW_more _ _ (mayB_Tr h)]
theorem twice_no {l : List Term} {root : Int} (h0 : 0 ≤ root) : mayB (l ++ [twoT 6 root root]) l.length = false := by
  cases hb : mayB (l ++ [twoT 6 root root]) l.length with
  | false => rfl
  | true =>
    exfalso
    obtain ⟨_, p, hp, hn⟩ := mayB_iff.1 hb
    simp only [Int.toNat_natCast] at hp
    obtain ⟨t, p0, q0, hx, hok, a0, a1, rfl⟩ := preL_some hp
    have ht : t = twoT 6 root root := by simpa using hx.symm
    subst ht
    have o : operandsI (twoT 6 root root).kind = 2 := rfl
    rw [if_neg (by omega)] at a0 a1
    have m0 : root.toNat ∈ p0 := preL_self a0
    have m1 : root.toNat ∈ q0 := preL_self a1
    have := (List.nodup_cons.1 hn).2
    exact (List.nodup_append.1 this).2.2 _ m0 _ m1 rfl
theorem deep_len {l : List Term} : ∀ (f at_ : Nat) (deep : Int) (p : List Nat), preL l f at_ deep = some p → 1 ≤ deep → preL l f at_ (deep + 1) = none → (25 : Int) - deep ≤ p.length := by
  intro f
  induction f with
  | zero => intro at_ deep p h; simp [preL] at h
  | succ f ih =>
    intro at_ deep p h hd hno
    obtain ⟨t, p0, q0, hx, hok, h0, h1, rfl⟩ := preL_some h
    have hle := okT_ops hok
    by_cases h24 : deep = 24
    · simp; omega
    · have hok' : okT t at_ (deep + 1) = true := okT_deep hok (by omega)
      by_cases c0 : operandsI t.kind < 1
      · exfalso
        rw [preL_mk (p0 := []) (q0 := []) hx hok' (by rw [if_pos c0]) (by rw [if_pos (by omega)])] at hno
        cases hno
      · rw [if_neg c0] at h0
        cases a0 : preL l f t.l.toNat (deep + 1 + 1) with
        | none =>
          have := ih _ _ _ h0 (by omega) a0
          simp; omega
        | some p0' =>
          by_cases c1 : operandsI t.kind < 2
          · exfalso
            rw [preL_mk (p0 := p0') (q0 := []) hx hok' (by rw [if_neg c0]; exact a0) (by rw [if_pos c1])] at hno
            cases hno
          · rw [if_neg c1] at h1
            cases a1 : preL l f t.r.toNat (deep + 1 + 1) with
            | none =>
              have := ih _ _ _ h1 (by omega) a1
              simp; omega
            | some q0' =>
              exfalso
              rw [preL_mk (p0 := p0') (q0 := q0') hx hok' (by rw [if_neg c0]; exact a0) (by rw [if_neg c1]; exact a1)] at hno
              cases hno
theorem nodup_len {n : Nat} : ∀ {p : List Nat}, p.Nodup → (∀ i ∈ p, i < n) → p.length ≤ n := by
  induction n with
  | zero => intro p hn h; cases p with
    | nil => simp
    | cons x p => exact absurd (h x (by simp)) (by omega)
  | succ n ih =>
    intro p hn h
    have h1 := ih (p := p.erase n) (hn.erase n) (fun i hi => by
      have := h i (List.mem_of_mem_erase hi)
      have hne : i ≠ n := fun e => by subst e; exact (hn.not_mem_erase) hi
      omega)
    rw [List.length_erase] at h1
    split at h1 <;> omega
theorem once_may {l : List Term} {root : Int} (h : mayB l root = true) (hlen : (l.length : Int) ≤ 100) (h24 : (l.length : Int) < 24) : mayB (l ++ [⟨16, [], 0, [], root, -1⟩]) l.length = true := by
  obtain ⟨h1, p, hp, hn⟩ := mayB_iff.1 h
  have hall : ∀ i ∈ p, i < l.length := fun i hi => by
    have := preL_le _ _ _ _ hp i hi
    omega
  cases h2 : preL l (root.toNat + 1) root.toNat (1 + 1) with
  | none =>
    exfalso
    have a := deep_len _ _ _ _ hp (by omega) h2
    have b := nodup_len hn hall
    omega
  | some q =>
    have hqp : q = p := by
      have := preL_up _ _ _ 1 _ h2 (by omega)
      rw [hp] at this; exact (Option.some.inj this).symm
    subst hqp
    obtain ⟨p', e1, e2, _⟩ := put_pre (more_R l [⟨16, [], 0, [], root, -1⟩] []) _ _ _ _ h2
    have hsub : ∀ i ∈ p', i < l.length := fun i hi => hall i (e2.subset hi)
    refine mayB_iff.2 ⟨⟨by simp; omega, by omega, by simp; omega⟩, l.length :: (p' ++ []), ?_, ?_⟩
    · simp only [Int.toNat_natCast]
      refine preL_mk (t := ⟨16, [], 0, [], root, -1⟩) (by simp) (okT_of (show 0 ≤ operandsI 16 by decide) rfl (by decide) (fun h => absurd h (show ¬ operandsI 16 < 1 by decide)) (fun _ => ⟨h1.2.1, by show root < (l.length : Int); exact h1.2.2⟩) (fun _ => rfl) (fun h => absurd (show operandsI 16 < 2 by decide) h)) ?_ ?_
      · rw [if_neg (show ¬ operandsI 16 < 1 by decide)]
        exact preL_any _ _ _ _ e1 _ (by omega)
      · rw [if_pos (show operandsI 16 < 2 by decide)]
    · rw [List.append_nil]
      exact List.nodup_cons.2 ⟨fun hm => absurd (hsub _ hm) (by omega), hn.sublist e2⟩
theorem sameNames_next {a b : List Str} {k : Int} {x y : Str} (hk : 0 ≤ k) (h : a.take k.toNat = b.take k.toNat) (hx : a[k.toNat]? = some x) (hy : b[k.toNat]? = some y) (e : x = y) : a.take (k + 1).toNat = b.take (k + 1).toNat := by
  rw [take_snoc hk hx, take_snoc hk hy, h, e]
theorem sameNames_end {a b : List Str} {k : Int} (h : a.take k.toNat = b.take k.toNat) (hl : (a.length : Int) = b.length) (hk : ¬ k < a.length) (h0 : 0 ≤ k) : a = b := by
  rw [List.take_of_length_le (by omega), List.take_of_length_le (by omega)] at h; exact h
theorem sameNames_ne {a b : List Str} {k : Int} {x y : Str} (hx : a[k.toNat]? = some x) (hy : b[k.toNat]? = some y) (h : ¬ x = y) : ¬ a = b := by
  rintro rfl
  rw [hx] at hy; exact h (Option.some.inj hy)
/-! a row of binds put together -/
theorem others_env {H : Hp} {env more : List Bind} {V : List Str} (he : EnvOk H env) (hm : EnvOk H more) (k i : Nat) : EnvOk H ((keepB V (more.take k) ++ env) ++ (env.take i).map junkV) := by
  intro b hb
  rcases List.mem_append.1 hb with hb | hb
  · rcases List.mem_append.1 hb with hb | hb
    · exact hm b (List.mem_of_mem_take (List.mem_filter.1 hb).1)
    · exact he b hb
  · obtain ⟨c, _, rfl⟩ := List.mem_map.1 hb
    exact RdSl.nil
theorem others_len {env more : List Bind} {V : List Str} (he : ∀ b ∈ env, b.v.l.length ≤ 100000) (hm : ∀ b ∈ more, b.v.l.length ≤ 100000) (k i : Nat) : ∀ b ∈ ((keepB V (more.take k) ++ env) ++ (env.take i).map junkV), b.v.l.length ≤ 100000 := by
  intro b hb
  rcases List.mem_append.1 hb with hb | hb
  · rcases List.mem_append.1 hb with hb | hb
    · exact hm b (List.mem_of_mem_take (List.mem_filter.1 hb).1)
    · exact he b hb
  · obtain ⟨c, _, rfl⟩ := List.mem_map.1 hb
    simp [junkV]
/-! the places of a tree, as bools -/
def boolC (b : Bool) : List Value := [.bool b]
def posB (x : Int) : Bool := decide (0 < x)
def treeQ (d : List Int) (k n : Nat) : List Bool := (d.take k).map posB ++ List.replicate (n - k) false
theorem treeQ_zero (d : List Int) (n : Nat) : treeQ d (0 : Int).toNat n = List.replicate n false := by simp [treeQ]
theorem treeQ_set {d : List Int} {k : Int} {n : Nat} {x : Int} (h0 : 0 ≤ k) (hk : k < n) (hx : d[k.toNat]? = some x) (hd : d.length = n) :
    ((treeQ d k.toNat n).map Value.bool).set (0 + k.toNat * 1) (.bool (decide (0 < x))) = (treeQ d (k + 1).toNat n).map Value.bool := by
  have hlt : k.toNat < d.length := by omega
  rw [bools_set]
  congr 1
  unfold treeQ
  rw [take_snoc h0 hx, List.map_append, List.set_append_right (h := by simp; omega)]
  have e : k.toNat - (List.map posB (List.take k.toNat d)).length = 0 := by simp; omega
  rw [e, show n - k.toNat = (n - (k + 1).toNat) + 1 by omega, List.replicate_succ, List.set_cons_zero, List.append_assoc]
  rfl
theorem treeQ_all {d : List Int} {k : Int} {n : Nat} (h : ¬ k < n) (hd : d.length = n) (h0 : 0 ≤ k) : treeQ d k.toNat n = d.map posB := by
  unfold treeQ
  rw [List.take_of_length_le (by omega), show n - k.toNat = 0 by omega]
  simp
theorem treeQ_len {d : List Int} {k n : Nat} (h : k ≤ n) (hd : d.length = n) : (treeQ d k n).length = n := by
  unfold treeQ; simp; omega
theorem RdSl.bools {H : Hp} {b cap : Nat} {d : List Bool} (h : ∀ o v, (d.map Value.bool)[o]? = some v → H b o = some v) (hm : d.length ≤ 9223372036854775807) (hcap : d.length ≤ cap := by first | exact Nat.le_refl _ | omega | (simp; done) | (simp; omega)) : RdSl H 1 boolC (.slice (some ⟨b, 0, none⟩) d.length cap) d := by
  refine ⟨⟨_, _, rfl⟩, hm, fun _ => ⟨_, rfl⟩, fun i x hx j u hu => ?_, fun a n c e => by injection e with _ _ e; omega⟩
  cases j with
  | zero =>
    simp only [boolC, List.getElem?_cons_zero, Option.some.injEq] at hu
    subst hu
    refine h _ _ ?_
    simp [off, hx]
  | succ j => simp [boolC] at hu
def TreeB (r : Option (List Int)) (n : Nat) (v : Value) (H' : Hp) : Prop := match r with
  | none => v = .tuple #[.slice none 0 0, .bool false]
  | some d => ∃ sv, v = .tuple #[sv, .bool true] ∧ RdSl H' 1 boolC sv (d.map posB) ∧ d.length = n
theorem pos_at {d : List Int} {k : Nat} {b : Bool} (h : (d.map posB)[k]? = some b) (hb : b = true) : 0 < d[k]?.getD 0 := by
  rw [List.getElem?_map] at h
  cases hx : d[k]? with
  | none => rw [hx] at h; cases h
  | some x =>
    rw [hx] at h
    have : posB x = b := by simpa using h
    rw [hb] at this
    simpa [posB] using this
/-! an element of a slice of one's own is set -/
theorem OwnSl.open_ {α : Type} {k : Nat} {enc : α → List Value} {a : Option Addr} {n c : Nat} {xs : List α} {ob : Blks} (h : OwnSl k enc (.slice a n c) xs ob) (hx : xs ≠ []) :
    ∃ b cs, a = some ⟨b, 0, none⟩ ∧ ob = [(b, cs)] ∧ cs.length = c * k ∧ cs.take (xs.length * k) = xs.flatMap enc ∧ xs.length ≤ c ∧ c ≤ 9223372036854775807 ∧ n = xs.length := by
  rcases h with ⟨_, e, _⟩ | ⟨b, cap, cs, e, h1, h2, h3, h4, h5⟩
  · exact absurd e hx
  · injection e with e1 e2 e3
    subst e3
    exact ⟨b, cs, e1, h1, h2, h3, h4, h5, e2⟩
theorem flat_set {α : Type} {enc : α → List Value} {k : Nat} (hk : ∀ x, (enc x).length = k) : ∀ (xs : List α) (i : Nat) (t : α), i < xs.length → setCells (xs.flatMap enc) (i * k) (enc t) = (xs.set i t).flatMap enc
  | [], i, t, h => by simp at h
  | x :: xs, 0, t, _ => by
    rw [setCells_eq _ _ _ (by simp [hk])]
    simp [hk]
  | x :: xs, i + 1, t, h => by
    have hl := flat_len (l := xs) (fun y _ => hk y)
    have hi : i < xs.length := by simpa using h
    have hle : i * k + k ≤ xs.length * k := by rw [← Nat.succ_mul]; exact Nat.mul_le_mul_right _ hi
    have ih := flat_set hk xs i t hi
    rw [setCells_eq _ _ _ (by rw [hk, hl]; omega)] at ih
    rw [setCells_eq _ _ _ (by simp [hk, hl, Nat.succ_mul]; omega)]
    simp only [List.flatMap_cons, List.set_cons_succ]
    rw [← ih, show (i + 1) * k = (enc x).length + i * k by rw [hk, Nat.succ_mul]; omega, List.take_append, List.drop_append]
    have e1 : List.drop (k + i * k + k) (enc x) = [] := List.drop_eq_nil_of_le (by rw [hk]; omega)
    have e2 : List.take (k + i * k) (enc x) = enc x := List.take_of_length_le (by rw [hk]; omega)
    simp [hk, e1, e2]
    rw [Nat.add_comm k (i * k)]
theorem OwnSl.set {α : Type} {k : Nat} {enc : α → List Value} [hc : Cells k enc] {b c : Nat} {cs : List Value} {xs : List α} {i : Nat} {t : α} (hcl : cs.length = c * k) (htk : cs.take (xs.length * k) = xs.flatMap enc) (hle : xs.length ≤ c) (hcm : c ≤ 9223372036854775807) (hi : i < xs.length) :
    OwnSl k enc (.slice (some ⟨b, 0, none⟩) xs.length c) (xs.set i t) [(b, setCells cs (i * k) (enc t))] := by
  have h1 : i * k + (enc t).length ≤ cs.length := by
    rw [hc.len, hcl, ← Nat.succ_mul]; exact Nat.mul_le_mul_right _ (by omega)
  have h2 : i * k + k ≤ xs.length * k := by rw [← Nat.succ_mul]; exact Nat.mul_le_mul_right _ (by omega)
  have h3 : xs.length * k ≤ cs.length := by rw [hcl]; exact Nat.mul_le_mul_right _ hle
  refine .inr ⟨b, c, _, by rw [List.length_set], rfl, ?_, ?_, by rw [List.length_set]; exact hle, hcm⟩
  · rw [setCells_eq _ _ _ h1]; simp [hc.len] at h1 ⊢; omega
  · rw [List.length_set, ← flat_set (fun x => hc.len x) xs i t hi, ← htk]
    rw [setCells_eq _ _ _ h1, setCells_eq _ _ _ (by rw [hc.len, List.length_take]; omega)]
    apply List.ext_getElem?
    intro j
    have hl : (enc t).length = k := hc.len t
    simp only [List.getElem?_append, List.getElem?_take, List.getElem?_drop, List.length_take, hl]
    by_cases a : j < xs.length * k
    · by_cases b' : j < i * k
      · simp [a, b', show j < min (i * k) cs.length by omega, show j < min (i * k) (min (xs.length * k) cs.length) by omega]
      · simp only [a, if_true, show ¬ j < min (i * k) cs.length by omega, show ¬ j < min (i * k) (min (xs.length * k) cs.length) by omega, if_false, b']
        rw [show min (i * k) cs.length = i * k by omega, show min (i * k) (min (xs.length * k) cs.length) = i * k by omega]
        by_cases c' : j - i * k < k
        · simp [c']
        · simp only [c', if_false, show i * k + k + (j - i * k - k) < xs.length * k by omega, if_true]
    · simp only [a, if_false]
      rw [show min (i * k) (min (xs.length * k) cs.length) = i * k by omega]
      simp [show ¬ j < i * k by omega, show ¬ j - i * k < k by omega, show ¬ (i * k + k + (j - i * k - k)) < xs.length * k by omega]
theorem put_fits {cs : List Value} {n c k : Nat} {t : Term} (hcl : cs.length = c * 6) (hle : n ≤ c) (hk : k < n) : 0 + k * 6 + (Value.agg t.cells.toArray).cells.toList.length ≤ cs.length := by
  show 0 + k * 6 + 6 ≤ _
  omega
theorem set_names {l : List Term} {k : Nat} {w : Term} (h : ∀ t ∈ l, t.name.length ≤ 9223372036854775807) (hw : w.name.length ≤ 9223372036854775807) : ∀ t ∈ ([] ++ l).set k w, t.name.length ≤ 9223372036854775807 := by
  intro t ht
  rcases List.mem_or_eq_of_mem_set ht with h1 | rfl
  · exact h t (by simpa using h1)
  · exact hw
theorem snoc_names {l : List Term} {w : Term} (h : ∀ t ∈ l, t.name.length ≤ 9223372036854775807) (hw : w.name.length ≤ 9223372036854775807) : ∀ t ∈ ([] ++ l) ++ [w], t.name.length ≤ 9223372036854775807 := by
  intro t ht
  rcases List.mem_append.1 ht with h1 | h1
  · exact h t (by simpa using h1)
  · rw [List.mem_singleton.1 h1]; exact hw
theorem putN_names {l : List Term} (h : ∀ t ∈ l, t.name.length ≤ 9223372036854775807) (name : Str) (n : Int) (k : Nat) : ∀ t ∈ (l.take k).map (putN name n), t.name.length ≤ 9223372036854775807 := by
  intro t ht
  obtain ⟨u, hu, rfl⟩ := List.mem_map.1 ht
  unfold putN
  split
  · simp [numT]
  · exact h u (List.mem_of_mem_take hu)
theorem putN_env {H : Hp} {env : List Bind} {name : Str} {n : Int} (h : EnvOk H env) : EnvOk H (⟨name, ⟨1, n, [], []⟩, .slice none 0 0⟩ :: env) := by
  intro b hb
  rcases List.mem_cons.1 hb with rfl | hb
  · exact RdSl.nil
  · exact h b hb
theorem putN_len {env : List Bind} {name : Str} {n : Int} (h : ∀ b ∈ env, b.v.l.length ≤ 100000) : ∀ b ∈ ((⟨name, ⟨1, n, [], []⟩, .slice none 0 0⟩ : Bind) :: env), b.v.l.length ≤ 100000 := by
  intro b hb
  rcases List.mem_cons.1 hb with rfl | hb
  · simp
  · exact h b hb
end Go.Sx

set_option linter.unusedVariables false
namespace Go.Sx
open Go
/-! ## the reference's variables: each put into its place -/
def putS : List Str → Str → List Str
  | [], s => [s]
  | x :: r, s => if Op.bytesLess x s = true then x :: putS r s else if x = s then x :: r else s :: x :: r
theorem put_next {l : List Str} {s x : Str} {k : Int} (h0 : 0 ≤ k) (h : putS l s = l.take k.toNat ++ putS (l.drop k.toNat) s) (hx : l[k.toNat]? = some x) (hc : Op.bytesLess x s = true) :
    putS l s = l.take (k + 1).toNat ++ putS (l.drop (k + 1).toNat) s := by
  have hlt : k.toNat < l.length := (List.getElem?_eq_some_iff.1 hx).1
  have hx' : l[k.toNat] = x := (List.getElem?_eq_some_iff.1 hx).2
  rw [h, take_snoc h0 hx, List.drop_eq_getElem_cons hlt, hx', putS, if_pos hc, show (k + 1).toNat = k.toNat + 1 by omega]
  simp
theorem put_have {l : List Str} {s x : Str} {k : Int} (h : putS l s = l.take k.toNat ++ putS (l.drop k.toNat) s) (hx : l[k.toNat]? = some x) (hc : ¬ Op.bytesLess x s = true) (he : x = s) : putS l s = l := by
  have hlt : k.toNat < l.length := (List.getElem?_eq_some_iff.1 hx).1
  have hx' : l[k.toNat] = x := (List.getElem?_eq_some_iff.1 hx).2
  rw [h, List.drop_eq_getElem_cons hlt, hx', putS, if_neg hc, if_pos he, ← hx', ← List.drop_eq_getElem_cons hlt, List.take_append_drop]
theorem put_mid {l : List Str} {s x : Str} {k : Int} (h : putS l s = l.take k.toNat ++ putS (l.drop k.toNat) s) (hx : l[k.toNat]? = some x) (hc : ¬ Op.bytesLess x s = true) (he : ¬ x = s) :
    putS l s = ([] ++ (l.take k.toNat).drop 0 ++ [s]) ++ (l.take l.length).drop k.toNat := by
  have hlt : k.toNat < l.length := (List.getElem?_eq_some_iff.1 hx).1
  have hx' : l[k.toNat] = x := (List.getElem?_eq_some_iff.1 hx).2
  rw [h, List.drop_eq_getElem_cons hlt, hx', putS, if_neg hc, if_neg he, ← hx', ← List.drop_eq_getElem_cons hlt]
  simp
theorem put_end {l : List Str} {s : Str} {k : Int} (h : putS l s = l.take k.toNat ++ putS (l.drop k.toNat) s) (h1 : ¬ k < l.length) :
    putS l s = ([] ++ (l.take k.toNat).drop 0 ++ [s]) ++ (l.take l.length).drop k.toNat := by
  rw [h, List.drop_eq_nil_of_le (show l.length ≤ k.toNat by omega), putS]
  have e1 : l.drop k.toNat = [] := List.drop_eq_nil_of_le (by omega)
  simp [e1]
theorem put_len (l : List Str) (s : Str) : (putS l s).length ≤ l.length + 1 := by
  induction l with
  | nil => simp [putS]
  | cons x r ih =>
    unfold putS
    split
    · simp; omega
    · split <;> simp
end Go.Sx

set_option linter.unusedVariables false
namespace Go.Sx
open Go
/-! ## the reference's variables are the program's -/
def varsK (l : List Term) (bs : List Bool) : Nat → List Str
  | 0 => []
  | k + 1 => match l[k]?, bs[k]? with
    | some t, some b => if b = true ∧ t.kind = 0 then putS (varsK l bs k) t.name else varsK l bs k
    | _, _ => varsK l bs k
theorem varsK_succ (l : List Term) (bs : List Bool) (k : Nat) : varsK l bs (k + 1) = match l[k]?, bs[k]? with
    | some t, some b => if b = true ∧ t.kind = 0 then putS (varsK l bs k) t.name else varsK l bs k
    | _, _ => varsK l bs k := rfl
theorem varsK_T {l : List Term} {bs : List Bool} {k : Int} {t : Term} {b : Bool} (h0 : 0 ≤ k) (hx : l[k.toNat]? = some t) (hb : bs[k.toNat]? = some b) (h : b = true ∧ t.kind = 0) : varsK l bs (k + 1).toNat = putS (varsK l bs k.toNat) t.name := by
  rw [show (k + 1).toNat = k.toNat + 1 by omega, varsK, hx, hb]; exact if_pos h
theorem varsK_F {l : List Term} {bs : List Bool} {k : Int} {t : Term} {b : Bool} (h0 : 0 ≤ k) (hx : l[k.toNat]? = some t) (hb : bs[k.toNat]? = some b) (h : ¬ (b = true ∧ t.kind = 0)) : varsK l bs (k + 1).toNat = varsK l bs k.toNat := by
  rw [show (k + 1).toNat = k.toNat + 1 by omega, varsK, hx, hb]; exact if_neg h
theorem varsK_len (l : List Term) (bs : List Bool) (k : Nat) : (varsK l bs k).length ≤ k := by
  induction k with
  | zero => simp [varsK]
  | succ k ih =>
    unfold varsK
    split
    · split
      · have := put_len (varsK l bs k) (by assumption : Term).name; omega
      · omega
    · omega
def varsR (l : List Term) (root : Int) : List Str := match treeS l root with
  | none => []
  | some d => varsK l (d.map posB) l.length
/-! rising rows -/
def Rise (l : List Str) : Prop := l.Pairwise (· < ·)
theorem rise_eq : ∀ (a b : List Str), Rise a → Rise b → (∀ x, x ∈ a ↔ x ∈ b) → a = b
  | [], [], _, _, _ => rfl
  | [], y :: b, _, _, h => absurd ((h y).2 List.mem_cons_self) (by simp)
  | x :: a, [], _, _, h => absurd ((h x).1 List.mem_cons_self) (by simp)
  | x :: a, y :: b, ha, hb, h => by
    have ha' := List.pairwise_cons.1 ha
    have hb' := List.pairwise_cons.1 hb
    have e : x = y := by
      rcases List.mem_cons.1 ((h x).1 List.mem_cons_self) with e | h1
      · exact e
      · rcases List.mem_cons.1 ((h y).2 List.mem_cons_self) with e | h2
        · exact e.symm
        · exact absurd (ha'.1 y h2) (List.lt_asymm (hb'.1 x h1))
    subst e
    rw [rise_eq a b ha'.2 hb'.2 (fun z => ?_)]
    constructor
    · intro hz
      rcases List.mem_cons.1 ((h z).1 (List.mem_cons_of_mem _ hz)) with e | h1
      · subst e; exact absurd (ha'.1 z hz) (List.lt_irrefl z)
      · exact h1
    · intro hz
      rcases List.mem_cons.1 ((h z).2 (List.mem_cons_of_mem _ hz)) with e | h1
      · subst e; exact absurd (hb'.1 z hz) (List.lt_irrefl z)
      · exact h1
theorem mem_put {l : List Str} {s x : Str} : x ∈ putS l s ↔ x = s ∨ x ∈ l := by
  induction l with
  | nil => simp [putS]
  | cons y r ih =>
    unfold putS
    split
    · simp only [List.mem_cons, ih]
      constructor
      · rintro (h | h | h) <;> simp [h]
      · rintro (h | h | h) <;> simp [h]
    · split
      · rename_i h; subst h; simp
      · simp
theorem put_rise {l : List Str} {s : Str} (h : Rise l) : Rise (putS l s) := by
  induction l with
  | nil => simp [putS, Rise]
  | cons y r ih =>
    have h' := List.pairwise_cons.1 h
    unfold putS
    split
    · rename_i hc
      rw [Go.Proofs.bytesLess_eq] at hc
      refine List.pairwise_cons.2 ⟨fun z hz => ?_, ih h'.2⟩
      rcases mem_put.1 hz with rfl | hz
      · simpa using hc
      · exact h'.1 z hz
    · split
      · exact h
      · rename_i hc hne
        rw [Go.Proofs.bytesLess_eq] at hc
        have hle : s ≤ y := List.not_lt.1 (by simpa using hc)
        have hlt : s < y := by
          apply Classical.byContradiction
          intro hn
          exact hne (List.le_antisymm (List.not_lt.1 hn) hle)
        refine List.pairwise_cons.2 ⟨fun z hz => ?_, h⟩
        rcases List.mem_cons.1 hz with rfl | hz
        · exact hlt
        · exact List.lt_trans hlt (h'.1 z hz)
theorem varsK_rise (l : List Term) (bs : List Bool) (k : Nat) : Rise (varsK l bs k) := by
  induction k with
  | zero => simp [varsK, Rise]
  | succ k ih =>
    unfold varsK
    split
    · split
      · exact put_rise ih
      · exact ih
    · exact ih
theorem mem_varsK {l : List Term} {bs : List Bool} {x : Str} {k : Nat} : x ∈ varsK l bs k ↔ ∃ i t, i < k ∧ l[i]? = some t ∧ bs[i]? = some true ∧ t.kind = 0 ∧ t.name = x := by
  induction k with
  | zero => simp [varsK]
  | succ k ih =>
    have e : (∃ i t, i < k + 1 ∧ l[i]? = some t ∧ bs[i]? = some true ∧ t.kind = 0 ∧ t.name = x) ↔ (∃ t, l[k]? = some t ∧ bs[k]? = some true ∧ t.kind = 0 ∧ t.name = x) ∨ x ∈ varsK l bs k := by
      rw [ih]
      constructor
      · rintro ⟨i, t, hi, h⟩
        by_cases hk : i = k
        · subst hk; exact .inl ⟨t, h⟩
        · exact .inr ⟨i, t, by omega, h⟩
      · rintro (⟨t, h⟩ | ⟨i, t, hi, h⟩)
        · exact ⟨k, t, by omega, h⟩
        · exact ⟨i, t, by omega, h⟩
    rw [e, varsK_succ]
    split
    · rename_i t b hx hb
      split
      · rename_i h
        rw [mem_put]
        constructor
        · rintro (h1 | h1)
          · exact .inl ⟨t, hx, by rw [hb, h.1], h.2, h1.symm⟩
          · exact .inr h1
        · rintro (⟨t', h1, h2, h3, h4⟩ | h1)
          · rw [hx] at h1; obtain rfl := Option.some.inj h1; exact .inl h4.symm
          · exact .inr h1
      · rename_i h
        constructor
        · exact .inr
        · rintro (⟨t', h1, h2, h3, h4⟩ | h1)
          · rw [hx] at h1; obtain rfl := Option.some.inj h1
            rw [hb] at h2; exact absurd ⟨Option.some.inj h2, h3⟩ h
          · exact h1
    · rename_i hno
      constructor
      · exact .inr
      · rintro (⟨t', h1, h2, h3, h4⟩ | h1)
        · exact absurd h2 (hno t' true h1)
        · exact h1
theorem compact_rise {zs : List Str} (h : zs.Pairwise (· ≤ ·)) : Rise (Lib.compact zs) := by
  unfold Rise Lib.compact Lib.compactUpTo
  rw [List.pairwise_map]
  have hp : ((List.range zs.length).filter (Lib.keeps zs.toArray)).Pairwise (· < ·) := List.pairwise_lt_range.filter _
  refine hp.imp_of_mem (fun {i j} hi hj hij => ?_)
  simp only [List.mem_filter, List.mem_range] at hi hj
  have hj0 : ¬ j = 0 := by omega
  have hk := hj.2
  simp only [Lib.keeps, decide_eq_true_eq] at hk
  have hne := hk.resolve_left hj0
  rw [getElem!_pos zs.toArray j (by simpa using hj.1), getElem!_pos zs.toArray (j - 1) (by simp; omega)] at hne
  rw [getElem!_pos zs.toArray j (by simpa using hj.1), getElem!_pos zs.toArray i (by simpa using hi.1)]
  simp only [List.getElem_toArray] at hne ⊢
  have hP := List.pairwise_iff_getElem.1 h
  have h1 : zs[j - 1]'(by omega) ≤ zs[j]'(hj.1) := hP (j - 1) j (by omega) hj.1 (by omega)
  have h2 : zs[j - 1]'(by omega) < zs[j]'(hj.1) := by
    apply Classical.byContradiction
    intro hn
    exact hne (List.le_antisymm (List.not_lt.1 hn) h1)
  by_cases he : i = j - 1
  · subst he; exact h2
  · have h3 : zs[i]'(hi.1) ≤ zs[j - 1]'(by omega) := hP i (j - 1) hi.1 (by omega) (by omega)
    exact List.lt_of_le_of_lt h3 h2
theorem sortS_rise (l : List Str) : (sortS l).Pairwise (· ≤ ·) := by
  have := List.pairwise_mergeSort (le := fun x y : Str => decide (x ≤ y)) (fun a b c h1 h2 => by simp only [decide_eq_true_eq] at *; exact List.le_trans h1 h2) (fun a b => by simp only [Bool.or_eq_true, decide_eq_true_eq]; exact List.le_total a b) l
  exact this.imp (fun h => by simpa using h)
theorem varsS_rise (l : List Term) (root : Int) : Rise (varsS l root) := by
  unfold varsS
  split
  · exact compact_rise (sortS_rise _)
  · exact List.Pairwise.nil
/-! every place of the tree is met -/
theorem treeOp_fwd {d d' : List Int} {i : Nat} {at_ : Int} (h : treeOp d i at_ = some d') (hn : Nn d) (hi : i < d.length) :
    0 < d'[at_.toNat]?.getD 0 ∧ (∀ j : Nat, 0 < d[j]?.getD 0 → 0 < d'[j]?.getD 0) ∧ (∀ j : Nat, i ≤ j → d'[j]?.getD 0 = d[j]?.getD 0) ∧ Nn d' ∧ d'.length = d.length := by
  unfold treeOp at h
  split at h
  · cases h
  · rename_i hg
    obtain rfl := Option.some.inj h
    simp only [Int.toNat_natCast]
    have hp := hn i
    have hlt : at_.toNat < i := by omega
    have hv : 0 < (d.set at_.toNat (d[i]?.getD 0 + 1))[at_.toNat]?.getD 0 := by rw [set_eq (by omega)]; omega
    refine ⟨hv, fun j hj => ?_, fun j hj => set_ne (by omega), Nn_set hn (by omega), by simp⟩
    by_cases e : at_.toNat = j
    · subst e; exact hv
    · rw [set_ne e]; exact hj
theorem treeStep_fwd {l : List Term} {d d' : List Int} {i : Nat} (h : treeStep l i d = some d') (hn : Nn d) :
    (0 < d[i]?.getD 0 → ∀ t, l[i]? = some t → (1 ≤ operandsI t.kind → 0 < d'[t.l.toNat]?.getD 0) ∧ (2 ≤ operandsI t.kind → 0 < d'[t.r.toNat]?.getD 0)) ∧ (∀ j : Nat, 0 < d[j]?.getD 0 → 0 < d'[j]?.getD 0) ∧ (∀ j : Nat, i ≤ j → d'[j]?.getD 0 = d[j]?.getD 0) ∧ Nn d' := by
  unfold treeStep at h
  simp only [Int.toNat_natCast] at h
  split at h
  · rename_i h0
    obtain rfl := Option.some.inj h
    exact ⟨fun hp => absurd h0 (by omega), fun j hj => hj, fun j _ => rfl, hn⟩
  · rename_i h0
    have hi : i < d.length := by
      apply Classical.byContradiction
      intro hge
      exact h0 (by rw [List.getElem?_eq_none (by omega)]; rfl)
    cases hx : l[i]? with
    | none => rw [hx] at h; cases h
    | some t =>
      rw [hx] at h
      simp only at h
      split at h
      · cases h
      · unfold treeOps at h
        split at h
        · obtain rfl := Option.some.inj h
          refine ⟨fun _ t' ht => ?_, fun j hj => hj, fun j _ => rfl, hn⟩
          obtain rfl := Option.some.inj ht
          exact ⟨fun h1 => by omega, fun h1 => by omega⟩
        · cases h2 : treeOp d i t.l with
          | none => rw [h2] at h; cases h
          | some d2 =>
            rw [h2] at h
            simp only at h
            obtain ⟨a1, a2, a3, a4, a5⟩ := treeOp_fwd h2 hn hi
            split at h
            · obtain rfl := Option.some.inj h
              refine ⟨fun _ t' ht => ?_, a2, a3, a4⟩
              obtain rfl := Option.some.inj ht
              exact ⟨fun _ => a1, fun h1 => by omega⟩
            · obtain ⟨b1, b2, b3, b4, b5⟩ := treeOp_fwd h a4 (by omega)
              refine ⟨fun _ t' ht => ?_, fun j hj => b2 j (a2 j hj), fun j hj => (b3 j hj).trans (a3 j hj), b4⟩
              obtain rfl := Option.some.inj ht
              exact ⟨fun _ => b2 _ a1, fun _ => b1⟩
theorem treeLoop_fwd {l : List Term} : ∀ (n : Nat) (d d' : List Int), treeLoop l n d = some d' → Nn d →
    (∀ j : Nat, 0 < d[j]?.getD 0 → 0 < d'[j]?.getD 0) ∧ (∀ j : Nat, n ≤ j → d'[j]?.getD 0 = d[j]?.getD 0) ∧ (∀ i : Nat, i < n → 0 < d'[i]?.getD 0 → ∀ t, l[i]? = some t → (1 ≤ operandsI t.kind → 0 < d'[t.l.toNat]?.getD 0) ∧ (2 ≤ operandsI t.kind → 0 < d'[t.r.toNat]?.getD 0))
  | 0, d, d', h, hn => by obtain rfl := Option.some.inj h; exact ⟨fun j hj => hj, fun j _ => rfl, fun i hi => by omega⟩
  | n + 1, d, d', h, hn => by
    simp only [treeLoop] at h
    cases hs : treeStep l n d with
    | none => rw [hs] at h; cases h
    | some d1 =>
      rw [hs] at h
      simp only at h
      obtain ⟨a1, a2, a3, a4⟩ := treeStep_fwd hs hn
      obtain ⟨b1, b2, b3⟩ := treeLoop_fwd n d1 d' h a4
      refine ⟨fun j hj => b1 j (a2 j hj), fun j hj => (b2 j (by omega)).trans (a3 j (by omega)), fun i hi hp t ht => ?_⟩
      by_cases e : i = n
      · subst e
        have hp1 : 0 < d[i]?.getD 0 := by rw [← a3 i (Nat.le_refl _), ← b2 i (Nat.le_refl _)]; exact hp
        have := a1 hp1 t ht
        exact ⟨fun h1 => b1 _ (this.1 h1), fun h1 => b1 _ (this.2 h1)⟩
      · exact b3 i (by omega) hp t ht
theorem preL_all {l : List Term} {S : Nat → Prop} : ∀ (f at_ : Nat) (deep : Int) (p : List Nat), preL l f at_ deep = some p → S at_ → (∀ i, i ≤ at_ → S i → ∀ t, l[i]? = some t → (1 ≤ operandsI t.kind → S t.l.toNat) ∧ (2 ≤ operandsI t.kind → S t.r.toNat)) → ∀ i ∈ p, S i := by
  intro f
  induction f with
  | zero => intro at_ deep p h; simp [preL] at h
  | succ f ih =>
    intro at_ deep p h hS hc i hi
    obtain ⟨t, p0, q0, hx, hok, h0, h1, rfl⟩ := preL_some h
    have hcl := hc at_ (Nat.le_refl _) hS t hx
    rcases List.mem_cons.1 hi with rfl | hi
    · exact hS
    · rcases List.mem_append.1 hi with hi | hi
      · split at h0
        · simp only [Option.some.injEq] at h0; subst h0; cases hi
        · rename_i ho
          have := okT_l hok ho
          exact ih _ _ _ h0 (hcl.1 (by omega)) (fun j hj => hc j (by omega)) i hi
      · split at h1
        · simp only [Option.some.injEq] at h1; subst h1; cases hi
        · rename_i ho
          have := okT_r hok ho
          exact ih _ _ _ h1 (hcl.2 (by omega)) (fun j hj => hc j (by omega)) i hi
theorem tree_all {l : List Term} {root : Int} {d : List Int} {p : List Nat} (h : treeS l root = some d) (hp : preL l (root.toNat + 1) root.toNat 1 = some p) {k : Nat} (hk : k ∈ p) : 0 < d[k]?.getD 0 := by
  unfold treeS at h
  split at h
  · cases h
  · rename_i hg
    obtain ⟨a1, a2, a3⟩ := treeLoop_fwd _ _ _ h (Nn_start _ _)
    refine preL_all (S := fun i => 0 < d[i]?.getD 0) _ _ _ _ hp (a1 _ (by rw [set_eq (by simp; omega)]; decide)) (fun i hi hS t ht => a3 i (by omega) hS t ht) k hk
theorem mem_varsW {l : List Term} {x : Str} : ∀ (f at_ : Nat) (deep : Int) (p : List Nat), preL l f at_ deep = some p → ∀ a : Int, 0 ≤ a → a.toNat = at_ → (x ∈ varsW l f a ↔ ∃ i t, i ∈ p ∧ l[i]? = some t ∧ t.kind = 0 ∧ t.name = x) := by
  intro f
  induction f with
  | zero => intro at_ deep p h; simp [preL] at h
  | succ f ih =>
    intro at_ deep p h a ha0 ha
    obtain ⟨t, p0, q0, hx, hok, h0, h1, rfl⟩ := preL_some h
    have hops := okT_ops hok
    have e0 : x ∈ varsW l f t.l ↔ ∃ i t, i ∈ p0 ∧ l[i]? = some t ∧ t.kind = 0 ∧ t.name = x := by
      split at h0
      · rename_i ho
        simp only [Option.some.injEq] at h0; subst h0
        rw [hops.2.2.2.1 ho, varsW_neg (by decide)]; simp
      · rename_i ho
        exact ih _ _ _ h0 t.l (okT_l hok ho).1 rfl
    have e1 : x ∈ varsW l f t.r ↔ ∃ i t, i ∈ q0 ∧ l[i]? = some t ∧ t.kind = 0 ∧ t.name = x := by
      split at h1
      · rename_i ho
        simp only [Option.some.injEq] at h1; subst h1
        rw [hops.2.2.2.2 ho, varsW_neg (by decide)]; simp
      · rename_i ho
        exact ih _ _ _ h1 t.r (okT_r hok ho).1 rfl
    rw [varsW_at (by omega) (by rw [ha]; exact hx)]
    simp only [List.mem_append, List.mem_cons, e0, e1]
    constructor
    · rintro (⟨i, t', hi, h⟩ | ⟨i, t', hi, h⟩ | h)
      · exact ⟨i, t', .inr (.inl hi), h⟩
      · exact ⟨i, t', .inr (.inr hi), h⟩
      · split at h
        · rename_i hk
          exact ⟨at_, t, .inl rfl, hx, hk, (List.mem_singleton.1 h).symm⟩
        · cases h
    · rintro ⟨i, t', (rfl | hi | hi), hh⟩
      · rw [hx] at hh
        obtain ⟨e, hk, hnm⟩ := hh
        obtain rfl := Option.some.inj e
        right; right
        rw [if_pos hk]; simp [hnm]
      · exact .inl ⟨i, t', hi, hh⟩
      · exact .inr (.inl ⟨i, t', hi, hh⟩)
theorem varsR_eq (l : List Term) (root : Int) : varsR l root = varsS l root := by
  cases hd : treeS l root with
  | none =>
    have hm : ¬ mayB l root = true := by rw [tree_may, hd]; decide
    rw [varsS_none hm]; unfold varsR; rw [hd]
  | some d =>
    have hm : mayB l root = true := by rw [tree_may, hd]; rfl
    obtain ⟨hrg, p, hp, _⟩ := mayB_iff.1 hm
    have e : varsR l root = varsK l (d.map posB) l.length := by unfold varsR; rw [hd]
    rw [e]
    refine rise_eq _ _ (varsK_rise _ _ _) (varsS_rise _ _) (fun x => ?_)
    rw [mem_varsK, mem_varsS hm, mem_varsW _ _ _ _ hp root (by omega) rfl]
    constructor
    · rintro ⟨i, t, hi, hx, hb, h⟩
      exact ⟨i, t, tree_in hd hp (pos_at hb rfl), hx, h⟩
    · rintro ⟨i, t, hi, hx, h⟩
      have hpos := tree_all hd hp hi
      refine ⟨i, t, (List.getElem?_eq_some_iff.1 hx).1, hx, ?_, h⟩
      rw [List.getElem?_map]
      cases hdx : d[i]? with
      | none => rw [hdx] at hpos; simp at hpos
      | some y =>
        rw [hdx] at hpos
        simp at hpos
        simp [posB, hpos]
end Go.Sx

set_option linter.unusedVariables false
set_option linter.unusedSimpArgs false
namespace Go.Sx
open Go
/-! ## names: once, put, fresh -/
def onceS (l : List Str) : Bool := decide l.Nodup
theorem take_nodup {l : List Str} {k : Int} {x : Str} (k0 : 0 ≤ k) (hx : l[k.toNat]? = some x) (h : (l.take k.toNat).Nodup) (hn : x ∉ l.take k.toNat) : (l.take (k + 1).toNat).Nodup := by
  rw [take_snoc k0 hx, List.nodup_append]
  refine ⟨h, by simp, fun a ha b hb e => ?_⟩
  simp at hb; subst hb; subst e; exact hn ha
theorem once_next {l : List Str} {k : Int} {x : Str} (k0 : 0 ≤ k) (hx : l[k.toNat]? = some x) (hn : x ∉ l.take k.toNat) (h : (l.take k.toNat).Nodup) : 0 ≤ k + 1 → (l.take (k + 1).toNat).Nodup := fun _ => take_nodup k0 hx h hn
theorem place_first {l : List Str} {k : Int} {x : Str} (k0 : 0 ≤ k) (hx : l[k.toNat]? = some x) (h : placeS l x = k) : x ∉ l.take k.toNat := by
  intro hm
  obtain ⟨j, hj, he⟩ := List.mem_iff_getElem.1 hm
  rw [List.length_take] at hj
  -- the least such place
  have key : ∀ (l : List Str) (j : Nat), l[j]? = some x → placeS l x ≤ j := by
    intro l
    induction l with
    | nil => intro j h; simp at h
    | cons y l ih =>
      intro j h
      unfold placeS
      split
      · omega
      · cases j with
        | zero => simp at h; subst h; rename_i hne; exact absurd rfl hne
        | succ j =>
          have := ih j (by simpa using h)
          split <;> omega
  have h2 : l[j]? = some x := by rw [List.getElem_take] at he; rw [← he]; exact List.getElem?_eq_getElem (by omega)
  have := key l j h2
  omega
theorem once_end {l : List Str} {k : Int} (hk : ¬ k < l.length) (k0 : 0 ≤ k) (h : (l.take k.toNat).Nodup) : onceS l = true := by
  rw [take_all hk k0] at h; exact decide_eq_true h
theorem not_nodup {l : List Str} {k : Int} {x : Str} (k0 : 0 ≤ k) (hx : l[k.toNat]? = some x) (hm : x ∈ l.take k.toNat) : onceS l = false := by
  refine decide_eq_false fun hn => ?_
  have h1 : (l.take (k + 1).toNat).Nodup := hn.sublist (List.take_sublist _ _)
  rw [take_snoc k0 hx, List.nodup_append] at h1
  exact h1.2.2 x hm x (by simp) rfl
theorem once_has {l : List Str} {k : Int} {x : Str} (k0 : 0 ≤ k) (hx : l[k.toNat]? = some x) (h : hasS ((l.take k.toNat).drop 0) x = true) : onceS l = false := not_nodup k0 hx (by simpa [hasS] using h)
theorem has_not {l : List Str} {x : Str} (h : hasS (l.drop 0) x = false) : x ∉ l := by simpa [hasS] using h
theorem once_place {l : List Str} {k : Int} {x : Str} (k0 : 0 ≤ k) (hx : l[k.toNat]? = some x) (h : ¬ placeS l x = k) : onceS l = false := by
  refine decide_eq_false fun hn => h ?_
  refine placeS_hit k0 hx (fun j hj he => ?_)
  have h1 := (List.getElem?_eq_some_iff.1 hx)
  have h2 := (List.getElem?_eq_some_iff.1 he)
  obtain ⟨a1, b1⟩ := h1; obtain ⟨a2, b2⟩ := h2
  have := (List.getElem_inj hn (h₀ := a2) (h₁ := a1)).1 (b2.trans b1.symm)
  omega
/-! ### put -/
def putP (l : List Str) (s : Str) : List Str := Lib.compact (sortS (l ++ [s]))
theorem putP_rise (l : List Str) (s : Str) : Rise (putP l s) := compact_rise (sortS_rise _)
theorem mem_putP {l : List Str} {s x : Str} : x ∈ putP l s ↔ x ∈ l ∨ x = s := by unfold putP; rw [mem_compact, mem_sortS]; simp
theorem putP_len (l : List Str) (s : Str) : (putP l s).length ≤ l.length + 1 := by
  unfold putP
  have := compact_len (sortS (l ++ [s]))
  rw [sortS_len] at this
  simpa using this
theorem foldPut_len (s : Str) (l : List Str) : (l.foldl putS [s]).length ≤ l.length + 1 := by
  have : ∀ (l a : List Str), (l.foldl putS a).length ≤ l.length + a.length := by
    intro l
    induction l with
    | nil => intro a; simp
    | cons x l ih =>
      intro a
      have h1 := ih (putS a x)
      have h2 := put_len a x
      simp only [List.foldl_cons, List.length_cons]; omega
  simpa using this l [s]
theorem foldPut_rise (l : List Str) : ∀ a : List Str, Rise a → Rise (l.foldl putS a) := by
  induction l with
  | nil => intro a h; exact h
  | cons x l ih => intro a h; exact ih _ (put_rise h)
theorem mem_foldPut {x : Str} (l : List Str) : ∀ a : List Str, x ∈ l.foldl putS a ↔ x ∈ l ∨ x ∈ a := by
  induction l with
  | nil => intro a; simp
  | cons y l ih =>
    intro a
    rw [List.foldl_cons, ih, mem_put]
    simp only [List.mem_cons]
    constructor
    · rintro (h | h | h); exact .inl (.inr h); exact .inl (.inl h); exact .inr h
    · rintro ((h | h) | h); exact .inr (.inl h); exact .inl h; exact .inr (.inr h)
theorem putP_eq (l : List Str) (s : Str) : l.foldl putS [s] = putP l s := by
  refine rise_eq _ _ (foldPut_rise l [s] (List.pairwise_singleton _ _)) (putP_rise l s) fun x => ?_
  rw [mem_foldPut, mem_putP]; simp
/-! ### fresh -/
def cand (s : Str) (k : Nat) : Str := s.take (12 - (Lib.itoa (k : Int)).length) ++ Lib.itoa (k : Int)
def freshF (l : List Str) (s : Str) : Nat → Nat → Str
  | 0, k => cand s k
  | f + 1, k => if cand s k ∈ l then freshF l s f (k + 1) else cand s k
def freshS (l : List Str) (s : Str) : Str := if s ∈ l then freshF l s 97 2 else s
theorem freshF_at {l : List Str} {s : Str} {k : Nat} (hn : cand s k ∉ l) : ∀ (f k0 : Nat), k0 ≤ k → k ≤ k0 + f → (∀ j, k0 ≤ j → j < k → cand s j ∈ l) → freshF l s f k0 = cand s k
  | 0, k0, h1, h2, _ => by have : k0 = k := by omega
                           subst this; rfl
  | f + 1, k0, h1, h2, hc => by
    unfold freshF
    by_cases e : k0 = k
    · subst e; rw [if_neg hn]
    · rw [if_pos (hc k0 (Nat.le_refl _) (by omega))]
      exact freshF_at hn f (k0 + 1) (by omega) (by omega) fun j a b => hc j (by omega) b
theorem fresh_char {l : List Str} {s : Str} {k : Nat} (hin : s ∈ l) (h2 : 2 ≤ k) (h9 : k ≤ 99) (hc : ∀ j, 2 ≤ j → j < k → cand s j ∈ l) (hn : cand s k ∉ l) : freshS l s = cand s k := by
  unfold freshS
  rw [if_pos hin]
  exact freshF_at hn 97 2 h2 (by omega) hc
theorem nodup_sub : ∀ (a l : List Str), a.Nodup → (∀ x ∈ a, x ∈ l) → a.length ≤ l.length
  | [], _, _, _ => Nat.zero_le _
  | x :: a, l, hn, hs => by
    rw [List.nodup_cons] at hn
    have hx := hs x (by simp)
    have h := nodup_sub a (l.erase x) hn.2 fun y hy => by
      have hne : y ≠ x := by rintro rfl; exact hn.1 hy
      exact (List.mem_erase_of_ne hne).2 (hs y (List.mem_cons_of_mem _ hy))
    rw [List.length_erase_of_mem hx] at h
    have := List.length_pos_of_mem hx
    simp only [List.length_cons]; omega
theorem itoa_two {k : Nat} (h1 : 10 ≤ k) (h2 : k ≤ 99) : Lib.itoa (k : Int) = [UInt8.ofNat (48 + k / 10), UInt8.ofNat (48 + k % 10)] := by
  unfold Lib.itoa
  rw [if_neg (by omega)]
  simp only [Int.toNat_natCast]
  exact Lib.decDigits_two (by omega) (by omega)
theorem itoa_one {k : Nat} (h2 : k < 10) : Lib.itoa (k : Int) = [UInt8.ofNat (48 + k)] := by
  unfold Lib.itoa
  rw [if_neg (by omega)]
  simp only [Int.toNat_natCast]
  exact Lib.decDigits_one h2
theorem itoa_len {k : Int} (h1 : 2 ≤ k) (h2 : k ≤ 99) : 1 ≤ (Lib.itoa k).length ∧ (Lib.itoa k).length ≤ 2 := by
  obtain ⟨n, rfl⟩ : ∃ n : Nat, k = n := ⟨k.toNat, by omega⟩
  by_cases h : n < 10
  · rw [itoa_one h]; simp
  · rw [itoa_two (by omega) (by omega)]; simp
theorem cand_inj {s : Str} {i j : Nat} (hi : 10 ≤ i ∧ i ≤ 99) (hj : 10 ≤ j ∧ j ≤ 99) (h : cand s i = cand s j) : i = j := by
  unfold cand at h
  rw [itoa_two hi.1 hi.2, itoa_two hj.1 hj.2] at h
  have h2 := List.append_cancel_left (show s.take 10 ++ [UInt8.ofNat (48 + i / 10), UInt8.ofNat (48 + i % 10)] = s.take 10 ++ [UInt8.ofNat (48 + j / 10), UInt8.ofNat (48 + j % 10)] from h)
  simp only [List.cons.injEq, and_true] at h2
  have e1 := congrArg UInt8.toNat h2.1
  have e2 := congrArg UInt8.toNat h2.2
  simp at e1 e2
  omega
theorem fresh_bound {l : List Str} {s : Str} (hl : l.length ≤ 60) (h : ∀ j : Nat, 10 ≤ j → j ≤ 99 → cand s j ∈ l) : False := by
  have hn : ((List.range' 10 90).map (cand s)).Nodup := by
    rw [List.nodup_iff_pairwise_ne] at *
    rw [List.pairwise_map]
    refine (List.nodup_range' (s := 10) (n := 90)).imp_of_mem ?_
    intro a b ha hb hab e
    simp only [List.mem_range'_1] at ha hb
    exact hab (cand_inj ⟨ha.1, by omega⟩ ⟨hb.1, by omega⟩ e)
  have := nodup_sub _ l hn fun x hx => by
    obtain ⟨j, hj, rfl⟩ := List.mem_map.1 hx
    simp only [List.mem_range'_1] at hj
    exact h j (by omega) (by omega)
  simp at this
  omega
section
variable {l : List Str} {s h : Str} {k : Int}
theorem head_T (k2 : 2 ≤ k) (k3 : k ≤ 99) : s.take (if (0 : Int) > 12 - ((Lib.itoa k).length : Int) then 0 else 12 - ((Lib.itoa k).length : Int)).toNat = s.take (12 - (Lib.itoa k).length) := by
  have := itoa_len k2 k3
  congr 1
  split <;> omega
theorem head_F (k2 : 2 ≤ k) (k3 : k ≤ 99) (hc : ¬ 12 - ((Lib.itoa k).length : Int) < s.length) : s = s.take (12 - (Lib.itoa k).length) := by
  have := itoa_len k2 k3
  rw [List.take_of_length_le (by omega)]
theorem head_len (hI : h = s.take (12 - (Lib.itoa k).length)) : h.length ≤ 12 := by subst hI; rw [List.length_take]; omega
theorem cand_of (k2 : 2 ≤ k) (hI : h = s.take (12 - (Lib.itoa k).length)) : h ++ Lib.itoa k = cand s k.toNat := by
  subst hI
  unfold cand
  rw [show ((k.toNat : Nat) : Int) = k by omega]
theorem fresh_no (h : (!hasS l s) = true) : freshS l s = s := by unfold freshS; rw [if_neg (by simpa [hasS] using h)]
theorem fresh_hit (hin : s ∈ l) (k2 : 2 ≤ k) (hc : ∀ j : Nat, 2 ≤ j → j < k.toNat → cand s j ∈ l) (hI : h = s.take (12 - (Lib.itoa k).length)) (hn : (!hasS l (h ++ Lib.itoa k)) = true) (k3 : k ≤ 99) : freshS l s = h ++ Lib.itoa k := by
  rw [cand_of k2 hI] at hn ⊢
  exact fresh_char hin (by omega) (by omega) hc (by simpa [hasS] using hn)
theorem fresh_next (hl : l.length ≤ 60) (k2 : 2 ≤ k) (k3 : k ≤ 99) (hc : ∀ j : Nat, 2 ≤ j → j < k.toNat → cand s j ∈ l) (hI : h = s.take (12 - (Lib.itoa k).length)) (hn : (!hasS l (h ++ Lib.itoa k)) = false) :
    2 ≤ k + 1 ∧ k + 1 ≤ 99 ∧ ∀ j : Nat, 2 ≤ j → j < (k + 1).toNat → cand s j ∈ l := by
  rw [cand_of k2 hI] at hn
  have hm : cand s k.toNat ∈ l := by simpa [hasS] using hn
  have hall : ∀ j : Nat, 2 ≤ j → j < (k + 1).toNat → cand s j ∈ l := fun j a b => by
    by_cases e : j = k.toNat
    · subst e; exact hm
    · exact hc j a (by omega)
  refine ⟨by omega, ?_, hall⟩
  rcases Int.lt_or_le k 99 with h | h
  · omega
  · exact (fresh_bound hl fun j a b => hall j (by omega) (by omega)).elim
/-- the reference's way -/
def FreshI (l : List Str) (s : Str) (t : Str) (k : Int) : Prop := 2 ≤ k ∧ ((k = 2 ∧ t = s) ∨ (2 < k ∧ k ≤ 100 ∧ s ∈ l ∧ t = cand s (k - 1).toNat ∧ ∀ j : Nat, 2 ≤ j → j < (k - 1).toNat → cand s j ∈ l))
theorem FreshI.le {t : Str} (hl : l.length ≤ 60) (hI : FreshI l s t k) (h : hasS l t = true) : k ≤ 99 := by
  have hm : t ∈ l := by simpa [hasS] using h
  obtain ⟨h2, ⟨h3, _⟩ | ⟨h3, h4, _, rfl, hc⟩⟩ := hI
  · omega
  · rcases Int.lt_or_le k 100 with h | h
    · omega
    · refine (fresh_bound (s := s) hl fun j a b => ?_).elim
      by_cases e : j = (k - 1).toNat
      · subst e; exact hm
      · exact hc j (by omega) (by omega)
theorem FreshI.next {t : Str} (hI : FreshI l s t k) (h : hasS l t = true) (k3 : k ≤ 99) : FreshI l s (s.take (if 12 - ((Lib.itoa k).length : Int) < s.length then 12 - ((Lib.itoa k).length : Int) else s.length).toNat ++ Lib.itoa k) (k + 1) := by
  have hm : t ∈ l := by simpa [hasS] using h
  obtain ⟨h2, hx⟩ := hI
  have hl := itoa_len h2 k3
  have e1 : s.take (if 12 - ((Lib.itoa k).length : Int) < s.length then 12 - ((Lib.itoa k).length : Int) else s.length).toNat = s.take (12 - (Lib.itoa k).length) := by
    split
    · congr 1; omega
    · rw [List.take_of_length_le (by omega), List.take_of_length_le (by omega)]
  refine ⟨by omega, .inr ⟨by omega, by omega, ?_, ?_, ?_⟩⟩
  · rcases hx with ⟨_, rfl⟩ | ⟨_, _, h, _⟩
    · exact hm
    · exact h
  · rw [e1, cand_of h2 rfl, show k + 1 - 1 = k by omega]
  · intro j a b
    rcases hx with ⟨rfl, _⟩ | ⟨h3, _, _, rfl, hc⟩
    · omega
    · by_cases e : j = (k - 1).toNat
      · subst e; exact hm
      · exact hc j a (by omega)
theorem FreshI.end_ {t : Str} (hl : l.length ≤ 60) (hI : FreshI l s t k) (h : hasS l t = false) : t = freshS l s := by
  have hm : t ∉ l := by simpa [hasS] using h
  obtain ⟨h2, ⟨_, rfl⟩ | ⟨h3, h4, hin, rfl, hc⟩⟩ := hI
  · unfold freshS; rw [if_neg hm]
  · exact (fresh_char hin (by omega) (by omega) hc hm).symm
theorem fresh_notin (hl : l.length ≤ 60) : freshS l s ∉ l := by
  unfold freshS
  split
  · -- a number that is free
    rename_i hin
    have hex : ∃ k : Nat, 2 ≤ k ∧ k ≤ 99 ∧ cand s k ∉ l := by
      by_cases h : ∃ k : Nat, 2 ≤ k ∧ k ≤ 99 ∧ cand s k ∉ l
      · exact h
      · exact (fresh_bound hl fun j a b => Classical.byContradiction fun hj => h ⟨j, by omega, b, hj⟩).elim
    have key : ∀ (f k0 : Nat), (∃ k, k0 ≤ k ∧ k ≤ k0 + f ∧ cand s k ∉ l) → freshF l s f k0 ∉ l := by
      intro f
      induction f with
      | zero => rintro k0 ⟨k, a, b, hk⟩; have : k0 = k := by omega
                subst this; exact hk
      | succ f ih =>
        rintro k0 ⟨k, a, b, hk⟩
        unfold freshF
        split
        · rename_i hm
          refine ih (k0 + 1) ⟨k, ?_, by omega, hk⟩
          have : k0 ≠ k := by rintro rfl; exact hk hm
          omega
        · assumption
    obtain ⟨k, a, b, hk⟩ := hex
    exact key 97 2 ⟨k, a, by omega, hk⟩
  · assumption
theorem fresh_form (l : List Str) (s : Str) : freshS l s = s ∨ ∃ k : Nat, 2 ≤ k ∧ k ≤ 99 ∧ freshS l s = cand s k := by
  unfold freshS
  split
  · right
    have key : ∀ (f k0 : Nat), 2 ≤ k0 → k0 + f ≤ 99 → ∃ k, 2 ≤ k ∧ k ≤ 99 ∧ freshF l s f k0 = cand s k := by
      intro f
      induction f with
      | zero => intro k0 a b; exact ⟨k0, a, by omega, rfl⟩
      | succ f ih =>
        intro k0 a b
        unfold freshF
        split
        · exact ih (k0 + 1) (by omega) (by omega)
        · exact ⟨k0, a, by omega, rfl⟩
    exact key 97 2 (by omega) (by omega)
  · left; rfl
/-- of a name: it stays as short, and begins alike -/
theorem fresh_name (hn : nameMay s = true) : (freshS l s).length ≤ 12 ∧ 1 ≤ (freshS l s).length ∧ (freshS l s).headD 0 = s.headD 0 := by
  have hs : 1 ≤ s.length ∧ s.length ≤ 12 := by
    unfold nameMay at hn
    split at hn
    · cases hn
    split at hn
    · cases hn
    omega
  rcases fresh_form l s with h | ⟨k, h1, h2, h⟩
  · rw [h]; exact ⟨hs.2, hs.1, rfl⟩
  · rw [h]
    have hl := itoa_len (k := k) (by omega) (by omega)
    unfold cand
    rw [List.length_append, List.length_take]
    refine ⟨by omega, by omega, ?_⟩
    cases s with
    | nil => simp at hs
    | cons c r =>
      obtain ⟨m, hm⟩ : ∃ m, 12 - (Lib.itoa (k : Int)).length = m + 1 := ⟨11 - (Lib.itoa (k : Int)).length, by omega⟩
      rw [hm]; rfl
end
end Go.Sx
