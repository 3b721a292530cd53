import Derived.Test.YtgagehpnkecmkaaDoorPureM
import Derived.KernelRfl
set_option linter.unusedVariables false
set_option linter.unusedSimpArgs false
namespace Go.Sx
open Go
/-! ## the laws of layer 4: what the terms come to -/
instance : DecidableEq Val := fun a b => decidable_of_iff (a.k = b.k ∧ a.n = b.n ∧ a.s = b.s ∧ a.l = b.l) (by cases a; cases b; simp)
def numT (n : Int) : Term := ⟨1, [], n, [], -1, -1⟩
def varT (s : Str) : Term := ⟨0, s, 0, [], -1, -1⟩
def twoT (k l r : Int) : Term := ⟨k, [], 0, [], l, r⟩
theorem first4_a : evalS [numT 7, numT 0, twoT 9 0 1] 2 [] = (v0, 403) := by decide +kernel
theorem first4_b {lv : Value} : evalS [numT 7, varT [120], twoT 6 0 1] 2 [⟨[120], ⟨1, 5, [], []⟩, lv⟩] = (⟨1, 12, [], []⟩, 0) := by kernel_rfl
theorem first4_c : mayB [numT 1] 0 = true := by decide +kernel
theorem first4_d : mayB [] 0 = false := by decide +kernel

/-! two numbers -/
theorem nums_6 (a b : Int) : evalS [numT a, numT b, twoT 6 0 1] 2 [] = numV 6 a b := by kernel_rfl
theorem nums_7 (a b : Int) : evalS [numT a, numT b, twoT 7 0 1] 2 [] = numV 7 a b := by kernel_rfl
theorem nums_8 (a b : Int) : evalS [numT a, numT b, twoT 8 0 1] 2 [] = numV 8 a b := by kernel_rfl
theorem nums_9 (a b : Int) : evalS [numT a, numT b, twoT 9 0 1] 2 [] = numV 9 a b := by kernel_rfl
theorem nums_10 (a b : Int) : evalS [numT a, numT b, twoT 10 0 1] 2 [] = numV 10 a b := by kernel_rfl
theorem nums_12 (a b : Int) : evalS [numT a, numT b, twoT 12 0 1] 2 [] = numV 12 a b := by kernel_rfl
theorem nums_eval (k a b : Int) (h : isNumOp k = true) : evalS [numT a, numT b, twoT k 0 1] 2 [] = numV k a b := by
  have h6 : k = 6 ∨ k = 7 ∨ k = 8 ∨ k = 9 ∨ k = 10 ∨ k = 12 := by unfold isNumOp at h; simpa using h
  rcases h6 with rfl | rfl | rfl | rfl | rfl | rfl
  · exact nums_6 a b
  · exact nums_7 a b
  · exact nums_8 a b
  · exact nums_9 a b
  · exact nums_10 a b
  · exact nums_12 a b

theorem nums_facts (a b : Int) : numV 6 a b = (⟨1, w64 (a + b), [], []⟩, 0) ∧ numV 7 a b = (⟨1, w64 (a - b), [], []⟩, 0) ∧ numV 8 a b = (⟨1, w64 (a * b), [], []⟩, 0) ∧ numV 12 a b = (truthV (decide (a < b)), 0) ∧
    (b = 0 → (numV 9 a b).2 = 403 ∧ (numV 10 a b).2 = 403) ∧ (¬ b = 0 → numV 9 a b = (⟨1, w64 (a.tdiv b), [], []⟩, 0) ∧ numV 10 a b = (⟨1, a.tmod b, [], []⟩, 0)) := by
  have e9 : numV 9 a b = if b = 0 then (v0, 403) else (⟨1, w64 (a.tdiv b), [], []⟩, 0) := rfl
  have e10 : numV 10 a b = if b = 0 then (v0, 403) else (⟨1, a.tmod b, [], []⟩, 0) := rfl
  refine ⟨rfl, rfl, rfl, rfl, fun h => ?_, fun h => ?_⟩
  · rw [e9, e10, if_pos h, if_pos h]; exact ⟨rfl, rfl⟩
  · rw [e9, e10, if_neg h]; exact ⟨rfl, by rw [if_neg h]⟩

theorem wrap_i64_of {x : Int} (h : i64ok x) : IntKind.i64.wrap x = x := wrap64_in h.1 h.2
theorem wrap_cong {x y : Int} (h : (x - y) % 18446744073709551616 = 0) : IntKind.i64.wrap x = IntKind.i64.wrap y := by
  rw [IntKind.wrap_i64, IntKind.wrap_i64]; omega
theorem wrap_diff (x : Int) : (IntKind.i64.wrap x - x) % 18446744073709551616 = 0 := by
  rw [IntKind.wrap_i64]; omega
/-- quotient and remainder of two numbers, as the law asks for them -/
theorem nums_small (a b : Int) (ha : i64ok a) (hb : i64ok b) (h : ¬ b = 0) :
    IntKind.i64.wrap (IntKind.i64.wrap (IntKind.i64.wrap (a.tdiv b) * b) + a.tmod b) = a ∧
    (0 < a.tmod b → (0 < b ∧ a.tmod b < b) ∨ (b < 0 ∧ a.tmod b ≤ - (b + 1))) ∧
    (a.tmod b ≤ 0 → (0 < b ∧ -b < a.tmod b) ∨ (b < 0 ∧ b < a.tmod b)) ∧
    (¬ a.tmod b = 0 → decide (a.tmod b < 0) = decide (a < 0)) ∧ (b < 0 → IntKind.i64.wrap (b + 1) = b + 1 ∧ IntKind.i64.wrap (-(b + 1)) = -(b + 1)) ∧ (0 < b → IntKind.i64.wrap (-b) = -b) := by
  have e1 : b * a.tdiv b + a.tmod b = a := Int.mul_tdiv_add_tmod a b
  have hlt : (a.tmod b).natAbs < b.natAbs := by
    rw [Int.natAbs_tmod]; exact Nat.mod_lt _ (by omega)
  have hpos : 0 ≤ a → 0 ≤ a.tmod b := fun h0 => Int.tmod_nonneg b h0
  have hneg : a ≤ 0 → a.tmod b ≤ 0 := fun h0 => by
    have := Int.tmod_nonneg b (show 0 ≤ -a by omega)
    rw [Int.neg_tmod] at this; omega
  obtain ⟨a1, a2⟩ := ha; obtain ⟨b1, b2⟩ := hb
  refine ⟨?_, fun hr => ?_, fun hr => ?_, fun hr => ?_, fun hr => ?_, fun hr => ?_⟩
  · have d1 := wrap_diff (a.tdiv b)
    have d2 := wrap_diff (IntKind.i64.wrap (a.tdiv b) * b)
    generalize IntKind.i64.wrap (a.tdiv b) = q at *
    have d3 : ((q - a.tdiv b) * b) % 18446744073709551616 = 0 := by
      obtain ⟨c, hc⟩ := Int.dvd_of_emod_eq_zero d1
      exact Int.emod_eq_zero_of_dvd ⟨c * b, by rw [hc, Int.mul_assoc]⟩
    rw [Int.sub_mul] at d3
    have e2 : a.tdiv b * b + a.tmod b = a := by rw [Int.mul_comm]; exact e1
    generalize q * b = m at *
    generalize a.tdiv b * b = m2 at *
    exact (wrap_cong (y := a) (by omega)).trans (wrap_i64_of ⟨a1, a2⟩)
  · rcases Int.lt_or_lt_of_ne h with hb0 | hb0
    · right; exact ⟨hb0, by omega⟩
    · left; exact ⟨hb0, by omega⟩
  · rcases Int.lt_or_lt_of_ne h with hb0 | hb0
    · right; exact ⟨hb0, by omega⟩
    · left; exact ⟨hb0, by omega⟩
  · by_cases h1 : a < 0
    · simp [h1]; have := hneg (by omega); omega
    · simp [h1]; have := hpos (by omega); omega
  · exact ⟨wrap64_in (by omega) (by omega), wrap64_in (by omega) (by omega)⟩
  · exact wrap64_in (by omega) (by omega)

/-! two values, in both orders -/
def qpT (k : Int) : List Term := [varT [113], varT [112], twoT k 0 1]
theorem pqT_eq (k : Int) : pqT k = [varT [112], varT [113], twoT k 0 1] := rfl
theorem qp_may {k : Int} (h : 6 ≤ k ∧ k ≤ 19) (h1 : ¬ k = 15) (h2 : ¬ k = 16) : mayB (qpT k) 2 = true := by
  rcases two_cases h h1 h2 with rfl | rfl | rfl | rfl | rfl | rfl | rfl | rfl | rfl | rfl | rfl | rfl <;> decide +kernel
theorem qp_eval {k : Int} {a b : Val} {la lb : Value} (h : 6 ≤ k ∧ k ≤ 19) (h1 : ¬ k = 15) (h2 : ¬ k = 16) (ha : mayV a = true) (hb : mayV b = true) : evalS (qpT k) 2 (pqE a b la lb) = applyV k b a := by
  obtain ⟨_, _, w⟩ := two_ask h h1 h2
  unfold evalS
  rw [if_pos (qp_may h h1 h2)]
  have e0 : evalW (qpT k) (pqE a b la lb) 2 1 = (a, 0) := by
    rw [evalW_leaf (t := varT [112]) rfl rfl]
    simp only [varT, leafV, holdV, pqE]
    rw [if_neg (by decide), if_neg (by decide), if_neg (by decide), if_neg (by decide), if_neg (by decide), if_pos trivial, if_pos ha]
  have e1 : evalW (qpT k) (pqE a b la lb) 2 0 = (b, 0) := by
    rw [evalW_leaf (t := varT [113]) rfl rfl]
    simp only [varT, leafV, holdV, pqE]
    rw [if_neg (by decide), if_neg (by decide), if_neg (by decide), if_neg (by decide), if_neg (by decide), if_neg (by decide), if_pos trivial, if_pos hb]
  show evalW (qpT k) (pqE a b la lb) (2 + 1) 2 = _
  rw [evalW_2 (t := twoT k 0 1) rfl (by show ¬ operandsI k = 0; omega) (by show (evalW (qpT k) _ 2 0).2 = 0; rw [e1]) w (by show (evalW (qpT k) _ 2 1).2 = 0; rw [e0])]
  show applyV k (evalW (qpT k) _ 2 0).1 (evalW (qpT k) _ 2 1).1 = _
  rw [e0, e1]
def swapK (k : Int) : Prop := k = 6 ∨ k = 8 ∨ k = 13 ∨ k = 14 ∨ k = 11
theorem sameV_comm (a b : Val) : sameV a b = sameV b a := by
  unfold sameV
  rw [Bool.eq_iff_iff]; simp only [Bool.and_eq_true, decide_eq_true_eq]
  constructor <;> (rintro ⟨h1, h2, h3, h4⟩; exact ⟨h1.symm, h2.symm, h3.symm, h4.symm⟩)
theorem sameV_refl (a : Val) : sameV a a = true := by simp [sameV]
theorem swap_comm {k : Int} {a b : Val} (hk : swapK k) : applyV k a b = applyV k b a := by
  rcases hk with rfl | rfl | rfl | rfl | rfl
  · show (if ¬ a.k = 1 ∨ ¬ b.k = 1 then wrongV else numV 6 a.n b.n) = (if ¬ b.k = 1 ∨ ¬ a.k = 1 then wrongV else numV 6 b.n a.n)
    rw [show numV 6 a.n b.n = (⟨1, w64 (a.n + b.n), [], []⟩, 0) from rfl, show numV 6 b.n a.n = (⟨1, w64 (b.n + a.n), [], []⟩, 0) from rfl, Int.add_comm a.n b.n]
    by_cases h1 : a.k = 1 <;> by_cases h2 : b.k = 1 <;> simp [h1, h2]
  · show (if ¬ a.k = 1 ∨ ¬ b.k = 1 then wrongV else numV 8 a.n b.n) = (if ¬ b.k = 1 ∨ ¬ a.k = 1 then wrongV else numV 8 b.n a.n)
    rw [show numV 8 a.n b.n = (⟨1, w64 (a.n * b.n), [], []⟩, 0) from rfl, show numV 8 b.n a.n = (⟨1, w64 (b.n * a.n), [], []⟩, 0) from rfl, Int.mul_comm a.n b.n]
    by_cases h1 : a.k = 1 <;> by_cases h2 : b.k = 1 <;> simp [h1, h2]
  · show (if ¬ a.k = 2 ∨ ¬ b.k = 2 then wrongV else (truthV (decide (a.n = 1) && decide (b.n = 1)), 0)) = (if ¬ b.k = 2 ∨ ¬ a.k = 2 then wrongV else (truthV (decide (b.n = 1) && decide (a.n = 1)), 0))
    rw [Bool.and_comm]
    by_cases h1 : a.k = 2 <;> by_cases h2 : b.k = 2 <;> simp [h1, h2]
  · show (if ¬ a.k = 2 ∨ ¬ b.k = 2 then wrongV else (truthV (decide (a.n = 1) || decide (b.n = 1)), 0)) = (if ¬ b.k = 2 ∨ ¬ a.k = 2 then wrongV else (truthV (decide (b.n = 1) || decide (a.n = 1)), 0))
    rw [Bool.or_comm]
    by_cases h1 : a.k = 2 <;> by_cases h2 : b.k = 2 <;> simp [h1, h2]
  · show (if ¬ a.k = b.k ∨ a.k = 5 then wrongV else (truthV (sameV a b), 0)) = (if ¬ b.k = a.k ∨ b.k = 5 then wrongV else (truthV (sameV b a), 0))
    rw [sameV_comm]
    by_cases h1 : a.k = b.k
    · rw [h1]
    · rw [if_pos (.inl h1), if_pos (.inl (fun e => h1 e.symm))]
/-- the five kinds of TermSwaps -/
theorem swap_pick (i : Int) (h : 0 ≤ i ∧ i < 5) : ∃ k, swapK k ∧ ([.int .i64 6, .int .i64 8, .int .i64 13, .int .i64 14, .int .i64 11] : List Value)[0 + i.toNat * 1]? = some (.int .i64 k) := by
  have : i = 0 ∨ i = 1 ∨ i = 2 ∨ i = 3 ∨ i = 4 := by omega
  rcases this with rfl | rfl | rfl | rfl | rfl
  · exact ⟨6, .inl rfl, rfl⟩
  · exact ⟨8, .inr (.inl rfl), rfl⟩
  · exact ⟨13, .inr (.inr (.inl rfl)), rfl⟩
  · exact ⟨14, .inr (.inr (.inr (.inl rfl))), rfl⟩
  · exact ⟨11, .inr (.inr (.inr (.inr rfl))), rfl⟩
theorem swapK_in {k : Int} (h : swapK k) : (6 ≤ k ∧ k ≤ 19) ∧ ¬ k = 15 ∧ ¬ k = 16 := by
  unfold swapK at h; omega
/-- less-than, in both orders -/
theorem less_row {a b : Val} (ha : mayV a = true) (hb : mayV b = true) :
    ((applyV 12 a b).2 = 402 ∧ (applyV 12 b a).2 = 402) ∨
    ((applyV 12 a b).2 = 0 ∧ (applyV 12 b a).2 = 0 ∧ ((applyV 12 a b).1.n = 0 ∨ (applyV 12 a b).1.n = 1) ∧ ((applyV 12 b a).1.n = 0 ∨ (applyV 12 b a).1.n = 1) ∧ (applyV 12 a b).1.n + (applyV 12 b a).1.n ≤ 1 ∧
      decide ((applyV 12 a b).1.n + (applyV 12 b a).1.n = 0) = sameV a b ∧ IntKind.i64.wrap ((applyV 12 a b).1.n + (applyV 12 b a).1.n) = (applyV 12 a b).1.n + (applyV 12 b a).1.n) := by
  have w0 : IntKind.i64.wrap 0 = 0 := by decide
  have w1 : IntKind.i64.wrap 1 = 1 := by decide
  have e : ∀ a b : Val, applyV 12 a b = if ¬ a.k = 1 ∨ ¬ b.k = 1 then wrongV else (truthV (decide (a.n < b.n)), 0) := fun _ _ => rfl
  rw [e, e]
  by_cases h1 : a.k = 1
  · by_cases h2 : b.k = 1
    · right
      rw [if_neg (by simp [h1, h2]), if_neg (by simp [h1, h2])]
      have s1 : a.s = [] ∧ a.l = [] := by unfold mayV at ha; simpa [h1] using ha
      have s2 : b.s = [] ∧ b.l = [] := by unfold mayV at hb; simpa [h2] using hb
      have hs : sameV a b = decide (a.n = b.n) := by unfold sameV; simp [h1, h2, s1, s2]
      rw [hs]
      simp only [truthV]
      by_cases hlt : a.n < b.n
      · have : ¬ b.n < a.n := by omega
        have h3 : ¬ a.n = b.n := by omega
        simp [hlt, this, h3, w0, w1]
      · by_cases hgt : b.n < a.n
        · have h3 : ¬ a.n = b.n := by omega
          simp [hlt, hgt, h3, w0, w1]
        · have h3 : a.n = b.n := by omega
          simp [hlt, hgt, h3, w0, w1]
    · left; rw [if_pos (.inr h2), if_pos (.inl h2)]; exact ⟨rfl, rfl⟩
  · left; rw [if_pos (.inl h1), if_pos (.inr h1)]; exact ⟨rfl, rfl⟩
/-! some: few binds, of few numbers -/
def someL (env : List Bind) : Bool := env.all fun b => decide ((b.v.l.length : Int) ≤ 40)
def someB (env : List Bind) : Bool := someL env && decide ((env.length : Int) ≤ 40)
theorem someL_snoc {l : List Bind} {x : Bind} (h : someL l = true) (hx : ¬ 40 < (x.v.l.length : Int)) : someL (l ++ [x]) = true := by
  unfold someL at *
  simp only [List.all_append, h, Bool.true_and, List.all_cons, List.all_nil, Bool.and_true, decide_eq_true_eq]
  omega
theorem someB_F {env : List Bind} {i : Nat} {x : Bind} (hx : env[i]? = some x) (h : 40 < (x.v.l.length : Int)) : someB env = false := by
  have : someL env = false := by
    unfold someL
    rw [List.all_eq_false]
    exact ⟨x, List.mem_of_getElem? hx, by simpa using h⟩
  unfold someB; rw [this]; rfl
theorem someB_end {env : List Bind} (h : someL env = true) : someB env = decide ((env.length : Int) ≤ 40) := by unfold someB; rw [h]; rfl
theorem someB_T {env : List Bind} (h : someB env = true) : (env.length : Int) ≤ 40 ∧ ∀ b ∈ env, b.v.l.length ≤ 100000 := by
  unfold someB someL at h
  simp only [Bool.and_eq_true, List.all_eq_true, decide_eq_true_eq] at h
  exact ⟨h.2, fun b hb => by have := h.1 b hb; omega⟩
/-! texts -/
def txR : List Term := [varT [112], varT [113], twoT 19 0 1, varT [114], twoT 19 2 3]
def txC : List Term := [varT [112], varT [113], varT [114], twoT 19 1 2, twoT 19 0 3]
def txE (a b c : Str) : List Bind := [⟨[112], ⟨3, 0, a, []⟩, .slice none 0 0⟩, ⟨[113], ⟨3, 0, b, []⟩, .slice none 0 0⟩, ⟨[114], ⟨3, 0, c, []⟩, .slice none 0 0⟩]
theorem tx_env {H : Hp} (a b c : Str) : EnvOk H (txE a b c) := by
  intro z hz
  simp only [txE, List.mem_cons, List.not_mem_nil, or_false] at hz
  rcases hz with rfl | rfl | rfl <;> exact RdSl.nil
theorem tx_len (a b c : Str) : ∀ z ∈ txE a b c, z.v.l.length ≤ 100000 := by
  intro z hz
  simp only [txE, List.mem_cons, List.not_mem_nil, or_false] at hz
  rcases hz with rfl | rfl | rfl <;> simp
theorem may_text {a : Str} (h : a.length ≤ 24) : mayV ⟨3, 0, a, []⟩ = true := by simp [mayV]; omega
theorem holdV_hit {b : Bind} {r : List Bind} (hm : mayV b.v = true) : holdV (b :: r) b.name = (b.v, 0) := by unfold holdV; rw [if_pos rfl, if_pos hm]
theorem holdV_miss {b : Bind} {r : List Bind} {s : Str} (h : ¬ b.name = s) : holdV (b :: r) s = holdV r s := by rw [holdV, if_neg h]
theorem holdV_pass {p s : Str} {v : Val} {lv : Value} {r : List Bind} (h : decide (p = s) = false) : holdV (⟨p, v, lv⟩ :: r) s = holdV r s := holdV_miss (of_decide_eq_false h)
theorem evalW_var {l : List Term} {env : List Bind} {f : Nat} {at_ : Int} {s : Str} (hx : l[at_.toNat]? = some (varT s)) : evalW l env (f + 1) at_ = holdV env s := by
  rw [evalW_leaf hx rfl]; rfl
theorem evalW_num {l : List Term} {env : List Bind} {f : Nat} {at_ n : Int} (hx : l[at_.toNat]? = some (numT n)) : evalW l env (f + 1) at_ = (⟨1, n, [], []⟩, 0) := by
  rw [evalW_leaf hx rfl]; rfl
theorem evalW_two {l : List Term} {env : List Bind} {f : Nat} {at_ k i j : Int} {a b : Val} (hx : l[at_.toNat]? = some (twoT k i j)) (hk : operandsI k = 2) (ha : evalW l env f i = (a, 0)) (hb : evalW l env f j = (b, 0)) : evalW l env (f + 1) at_ = applyV k a b := by
  have ha' : evalW l env f (twoT k i j).l = (a, 0) := ha
  have hb' : evalW l env f (twoT k i j).r = (b, 0) := hb
  rw [evalW_2 hx (by show ¬ operandsI k = 0; omega) (by rw [ha']) hk (by rw [hb']), ha', hb']; rfl
theorem evalW_twoA {l : List Term} {env : List Bind} {f : Nat} {at_ k i j e : Int} {a : Val} (hx : l[at_.toNat]? = some (twoT k i j)) (hk : operandsI k = 2) (ha : evalW l env f i = (a, e)) (he : ¬ e = 0) : evalW l env (f + 1) at_ = (v0, e) := by
  have ha' : evalW l env f (twoT k i j).l = (a, e) := ha
  rw [evalW_a hx (by show ¬ operandsI k = 0; omega) (by rw [ha']; exact he), ha']
theorem evalW_twoB {l : List Term} {env : List Bind} {f : Nat} {at_ k i j e : Int} {a b : Val} (hx : l[at_.toNat]? = some (twoT k i j)) (hk : operandsI k = 2) (ha : evalW l env f i = (a, 0)) (hb : evalW l env f j = (b, e)) (he : ¬ e = 0) : evalW l env (f + 1) at_ = (v0, e) := by
  have ha' : evalW l env f (twoT k i j).l = (a, 0) := ha
  have hb' : evalW l env f (twoT k i j).r = (b, e) := hb
  rw [evalW_b hx (by show ¬ operandsI k = 0; omega) (by rw [ha']) hk (by rw [hb']; exact he), hb']
theorem evalW_one {l : List Term} {env : List Bind} {f : Nat} {at_ k i : Int} {a : Val} (hx : l[at_.toNat]? = some ⟨k, [], 0, [], i, -1⟩) (hk : operandsI k = 1) (ha : evalW l env f i = (a, 0)) : evalW l env (f + 1) at_ = applyV k a v0 := by
  have ha' : evalW l env f (⟨k, [], 0, [], i, -1⟩ : Term).l = (a, 0) := ha
  rw [evalW_1 hx (by show ¬ operandsI k = 0; omega) (by rw [ha']) (by show ¬ operandsI k = 2; omega), ha']
theorem join_texts (a b : Str) : applyV 19 ⟨3, 0, a, []⟩ ⟨3, 0, b, []⟩ = if 24 < (a.length : Int) + b.length then (v0, 405) else (⟨3, 0, a ++ b, []⟩, 0) := rfl
theorem tx_a {a b c : Str} (ha : a.length ≤ 24) : holdV (txE a b c) [112] = (⟨3, 0, a, []⟩, 0) := holdV_hit (b := ⟨[112], ⟨3, 0, a, []⟩, .slice none 0 0⟩) (may_text ha)
theorem tx_b {a b c : Str} (hb : b.length ≤ 24) : holdV (txE a b c) [113] = (⟨3, 0, b, []⟩, 0) := by
  unfold txE
  rw [holdV_pass rfl]
  exact holdV_hit (b := ⟨[113], ⟨3, 0, b, []⟩, .slice none 0 0⟩) (may_text hb)
theorem tx_c {a b c : Str} (hc : c.length ≤ 24) : holdV (txE a b c) [114] = (⟨3, 0, c, []⟩, 0) := by
  unfold txE
  rw [holdV_pass rfl, holdV_pass rfl]
  exact holdV_hit (b := ⟨[114], ⟨3, 0, c, []⟩, .slice none 0 0⟩) (may_text hc)
def txV (a b c : Str) : Val × Int := if 24 < (a.length : Int) + b.length + c.length then (v0, 405) else (⟨3, 0, a ++ (b ++ c), []⟩, 0)
theorem tx_RW {a b c : Str} {l : List Term} {f : Nat} (ha : a.length ≤ 24) (hb : b.length ≤ 24) (hc : c.length ≤ 24) (h0 : l[0]? = some (varT [112])) (h1 : l[1]? = some (varT [113])) (h2 : l[2]? = some (twoT 19 0 1)) (h3 : l[3]? = some (varT [114])) (h4 : l[4]? = some (twoT 19 2 3)) :
    evalW l (txE a b c) (f + 3) 4 = txV a b c := by
  have e0 : ∀ f, evalW l (txE a b c) (f + 1) 0 = (⟨3, 0, a, []⟩, 0) := fun f => (evalW_var h0).trans (tx_a ha)
  have e1 : ∀ f, evalW l (txE a b c) (f + 1) 1 = (⟨3, 0, b, []⟩, 0) := fun f => (evalW_var h1).trans (tx_b hb)
  have e3 : ∀ f, evalW l (txE a b c) (f + 1) 3 = (⟨3, 0, c, []⟩, 0) := fun f => (evalW_var h3).trans (tx_c hc)
  have e2 : evalW l (txE a b c) (f + 2) 2 = if 24 < (a.length : Int) + b.length then (v0, 405) else (⟨3, 0, a ++ b, []⟩, 0) := by
    rw [evalW_two h2 rfl (e0 f) (e1 f), join_texts]
  unfold txV
  by_cases h : 24 < (a.length : Int) + b.length
  · rw [if_pos h] at e2
    rw [evalW_twoA h4 rfl e2 (by decide), if_pos (by omega)]
  · rw [if_neg h] at e2
    rw [evalW_two h4 rfl e2 (e3 (f + 1)), join_texts]
    simp only [List.length_append, Int.natCast_add, List.append_assoc]
theorem tx_R {a b c : Str} (ha : a.length ≤ 24) (hb : b.length ≤ 24) (hc : c.length ≤ 24) : evalS txR 4 (txE a b c) = txV a b c := by
  unfold evalS
  rw [if_pos (show mayB txR 4 = true by decide +kernel)]
  exact tx_RW (f := 2) ha hb hc rfl rfl rfl rfl rfl
theorem tx_C {a b c : Str} (ha : a.length ≤ 24) (hb : b.length ≤ 24) (hc : c.length ≤ 24) : evalS txC 4 (txE a b c) = txV a b c := by
  unfold evalS
  rw [if_pos (show mayB txC 4 = true by decide +kernel)]
  show evalW txC (txE a b c) (3 + 1 + 1) 4 = _
  have e0 : evalW txC (txE a b c) (3 + 1) 0 = (⟨3, 0, a, []⟩, 0) := (evalW_var rfl).trans (tx_a ha)
  have e1 : evalW txC (txE a b c) 3 1 = (⟨3, 0, b, []⟩, 0) := (evalW_var (f := 2) rfl).trans (tx_b hb)
  have e2 : evalW txC (txE a b c) 3 2 = (⟨3, 0, c, []⟩, 0) := (evalW_var (f := 2) rfl).trans (tx_c hc)
  have e3 : evalW txC (txE a b c) (3 + 1) 3 = if 24 < (b.length : Int) + c.length then (v0, 405) else (⟨3, 0, b ++ c, []⟩, 0) := by
    rw [evalW_two rfl rfl e1 e2, join_texts]
  unfold txV
  by_cases h : 24 < (b.length : Int) + c.length
  · rw [if_pos h] at e3
    rw [evalW_twoB rfl rfl e0 e3 (by decide), if_pos (by omega)]
  · rw [if_neg h] at e3
    rw [evalW_two rfl rfl e0 e3, join_texts]
    simp only [List.length_append, Int.natCast_add, ← Int.add_assoc]
theorem tx_L {a b c : Str} (ha : a.length ≤ 24) (hb : b.length ≤ 24) (hc : c.length ≤ 24) : evalS (txR ++ [⟨16, [], 0, [], 4, -1⟩]) 5 (txE a b c) = if 24 < (a.length : Int) + b.length + c.length then (v0, 405) else (⟨1, (a.length : Int) + b.length + c.length, [], []⟩, 0) := by
  unfold evalS
  rw [if_pos (show mayB (txR ++ [⟨16, [], 0, [], 4, -1⟩]) 5 = true by decide +kernel)]
  show evalW _ (txE a b c) (5 + 1) 5 = _
  have e := tx_RW (l := txR ++ [⟨16, [], 0, [], 4, -1⟩]) (f := 2) ha hb hc rfl rfl rfl rfl rfl
  unfold txV at e
  split at e
  · rename_i h
    rw [if_pos h]
    have ha' : evalW (txR ++ [⟨16, [], 0, [], 4, -1⟩]) (txE a b c) 5 (⟨16, [], 0, [], 4, -1⟩ : Term).l = (v0, 405) := e
    have hx : (txR ++ [⟨16, [], 0, [], 4, -1⟩])[(5 : Int).toNat]? = some (⟨16, [], 0, [], 4, -1⟩ : Term) := rfl
    rw [evalW_a hx (by decide) (by rw [ha']; decide), ha']
  · rename_i h
    rw [if_neg h, evalW_one rfl rfl e]
    show ((⟨1, ((a ++ (b ++ c)).length : Int), [], []⟩ : Val), (0 : Int)) = _
    simp only [List.length_append, Int.natCast_add, ← Int.add_assoc]

/-! lists -/
theorem wrapU_in {a : Int} (h1 : 0 ≤ a) (h2 : a ≤ 18446744073709551615) : IntKind.u64.wrap a = a := by
  have : IntKind.u64.wrap a = a % 18446744073709551616 := by simp [IntKind.wrap, IntKind.bits, IntKind.signed]
  rw [this]; omega
def lsE (xs : List Int) (n : Int) (v : Value) : List Bind := [⟨[108], ⟨4, 0, [], xs⟩, v⟩, ⟨[110], ⟨1, n, [], []⟩, .slice none 0 0⟩]
def lsR : List Term := [varT [108], varT [110], twoT 18 0 1]
def lsA (k : Int) : List Term := [varT [108], varT [110], twoT 18 0 1, numT k, twoT 17 2 3]
def lsB (m : Int) : List Term := [varT [108], numT m, twoT 17 0 1]
def lsN : List Term := [varT [108], varT [110], twoT 18 0 1, ⟨16, [], 0, [], 2, -1⟩]
theorem ls_env {H : Hp} {xs : List Int} {n : Int} {v : Value} (h : RdSl H 1 I64.cells v xs) : EnvOk H (lsE xs n v) := by
  intro z hz
  simp only [lsE, List.mem_cons, List.not_mem_nil, or_false] at hz
  rcases hz with rfl | rfl
  · exact h
  · exact RdSl.nil
theorem ls_len {xs : List Int} {n : Int} {v : Value} (h : xs.length ≤ 16) : ∀ z ∈ lsE xs n v, z.v.l.length ≤ 100000 := by
  intro z hz
  simp only [lsE, List.mem_cons, List.not_mem_nil, or_false] at hz
  rcases hz with rfl | rfl
  · show xs.length ≤ _; omega
  · simp
theorem may_list {xs : List Int} (h : xs.length ≤ 16) : mayV ⟨4, 0, [], xs⟩ = true := by simp [mayV]; omega
theorem ls_l {xs : List Int} {n : Int} {v : Value} (h : xs.length ≤ 16) : holdV (lsE xs n v) [108] = (⟨4, 0, [], xs⟩, 0) := holdV_hit (b := ⟨[108], ⟨4, 0, [], xs⟩, v⟩) (may_list h)
theorem ls_n {xs : List Int} {n : Int} {v : Value} : holdV (lsE xs n v) [110] = (⟨1, n, [], []⟩, 0) := by
  unfold lsE
  rw [holdV_pass rfl]
  exact holdV_hit (b := ⟨[110], ⟨1, n, [], []⟩, .slice none 0 0⟩) (may_int n)
def lsP (xs : List Int) (n : Int) : Val × Int := pushV ⟨4, 0, [], xs⟩ ⟨1, n, [], []⟩
theorem lsP_lt {xs : List Int} (n : Int) (h : xs.length < 16) : lsP xs n = (⟨4, 0, [], xs ++ [n]⟩, 0) := by
  unfold lsP pushV; rw [if_neg (by simp; omega)]
theorem ls_PW {xs : List Int} {n : Int} {v : Value} {l : List Term} {f : Nat} (h : xs.length ≤ 16) (h0 : l[0]? = some (varT [108])) (h1 : l[1]? = some (varT [110])) (h2 : l[2]? = some (twoT 18 0 1)) : evalW l (lsE xs n v) (f + 2) 2 = lsP xs n := by
  have e0 : evalW l (lsE xs n v) (f + 1) 0 = _ := (evalW_var h0).trans (ls_l h)
  have e1 : evalW l (lsE xs n v) (f + 1) 1 = _ := (evalW_var h1).trans ls_n
  rw [evalW_two h2 rfl e0 e1]; rfl
theorem ls_R {xs : List Int} (n : Int) (h : xs.length ≤ 16) (v : Value) : evalS lsR 2 (lsE xs n v) = lsP xs n := by
  unfold evalS
  rw [if_pos (show mayB lsR 2 = true by decide +kernel)]
  exact ls_PW (f := 1) h rfl rfl rfl
theorem lsA_may (k : Int) : mayB (lsA k) 4 = true := by kernel_rfl
theorem lsB_may (m : Int) : mayB (lsB m) 2 = true := by kernel_rfl
theorem ls_A {xs : List Int} (n k : Int) (h : xs.length < 16) (hk : 0 ≤ k) (v : Value) : evalS (lsA k) 4 (lsE xs n v) = atV ⟨4, 0, [], xs ++ [n]⟩ ⟨1, k, [], []⟩ := by
  unfold evalS
  rw [if_pos (lsA_may k)]
  show evalW (lsA k) (lsE xs n v) (4 + 1) 4 = _
  have e2 := (ls_PW (l := lsA k) (v := v) (n := n) (f := 2) (by omega : xs.length ≤ 16) rfl rfl rfl).trans (lsP_lt n h)
  have e3 : evalW (lsA k) (lsE xs n v) (3 + 1) 3 = (⟨1, k, [], []⟩, 0) := evalW_num rfl
  rw [evalW_two rfl rfl e2 e3]; rfl
theorem ls_B {xs : List Int} (n m : Int) (h : xs.length ≤ 16) (v : Value) : evalS (lsB m) 2 (lsE xs n v) = atV ⟨4, 0, [], xs⟩ ⟨1, m, [], []⟩ := by
  unfold evalS
  rw [if_pos (lsB_may m)]
  show evalW (lsB m) (lsE xs n v) (2 + 1) 2 = _
  have e0 : evalW (lsB m) (lsE xs n v) (1 + 1) 0 = _ := (evalW_var rfl).trans (ls_l h)
  have e1 : evalW (lsB m) (lsE xs n v) (1 + 1) 1 = (⟨1, m, [], []⟩, 0) := evalW_num rfl
  rw [evalW_two rfl rfl e0 e1]; rfl
theorem ls_N {xs : List Int} (n : Int) (h : xs.length < 16) (v : Value) : evalS lsN 3 (lsE xs n v) = (⟨1, (xs.length : Int) + 1, [], []⟩, 0) := by
  unfold evalS
  rw [if_pos (show mayB lsN 3 = true by decide +kernel)]
  show evalW lsN (lsE xs n v) (3 + 1) 3 = _
  have e2 := (ls_PW (l := lsN) (v := v) (n := n) (f := 1) (by omega : xs.length ≤ 16) rfl rfl rfl).trans (lsP_lt n h)
  rw [evalW_one rfl rfl e2]
  show ((⟨1, ((xs ++ [n]).length : Int), [], []⟩ : Val), (0 : Int)) = _
  simp
theorem ls_full {xs : List Int} (n : Int) (h : xs.length = 16) : lsP xs n = (v0, 405) := by
  unfold lsP pushV; rw [if_pos (by simp; omega)]
theorem ls_push {xs : List Int} (n : Int) (h : xs.length < 16) : (lsP xs n).2 = 0 ∧ ((lsP xs n).1.l.length : Int) = xs.length + 1 ∧ (lsP xs n).1.l[((xs.length : Int)).toNat]? = some n := by
  rw [lsP_lt n h]; simp
theorem ls_beyond (xs : List Int) {k : Int} (h : 0 ≤ k) : atV ⟨4, 0, [], xs⟩ ⟨1, xs.length + k, [], []⟩ = (v0, 404) := by
  unfold atV; rw [if_pos (by simp; omega)]
theorem ls_at {xs : List Int} {k x : Int} (n : Int) (hk : 0 ≤ k) (hx : xs[k.toNat]? = some x) : atV ⟨4, 0, [], xs ++ [n]⟩ ⟨1, k, [], []⟩ = (⟨1, x, [], []⟩, 0) := by
  have hlt := (List.getElem?_eq_some_iff.1 hx).1
  unfold atV
  rw [if_neg (by simp; omega)]
  show ((⟨1, (xs ++ [n])[k.toNat]?.getD 0, [], []⟩ : Val), (0 : Int)) = _
  rw [List.getElem?_append_left hlt, hx]; rfl
theorem ls_end {xs : List Int} {k : Int} (n : Int) (hk : k = xs.length) : atV ⟨4, 0, [], xs ++ [n]⟩ ⟨1, k, [], []⟩ = (⟨1, n, [], []⟩, 0) := by
  subst hk
  unfold atV
  rw [if_neg (by simp; omega)]
  simp
end Go.Sx
