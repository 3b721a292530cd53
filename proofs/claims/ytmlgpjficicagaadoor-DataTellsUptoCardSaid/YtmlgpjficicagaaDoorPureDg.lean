import Derived.Test.YtmlgpjficicagaaDoorPureV
import Derived.Test.YtmlgpjficicagaaDoorSxB
import Derived.Lib.ItoaNum
set_option linter.unusedVariables false
set_option linter.unusedSimpArgs false
namespace Go.Sx
open Go
/-! ## a number's digits, the last first -/
theorem dec_step {u : Nat} (h : 10 ≤ u) : Lib.decDigits u = Lib.decDigits (u / 10) ++ [UInt8.ofNat (48 + u % 10)] := by
  rw [Lib.decDigits, dif_neg (by omega)]
theorem dec_len (k : Nat) : ∀ u : Nat, u < 10 ^ k → (Lib.decDigits u).length ≤ max k 1 := by
  induction k with
  | zero => intro u h; have : u = 0 := by simpa using h
            subst this; rw [Lib.decDigits_one (by decide)]; simp
  | succ k ih =>
    intro u h
    by_cases h10 : u < 10
    · rw [Lib.decDigits_one h10]; simp
    · rw [dec_step (by omega)]
      have := ih (u / 10) (by rw [Nat.pow_succ] at h; omega)
      simp only [List.length_append, List.length_cons, List.length_nil]
      have h2 : 1 ≤ (Lib.decDigits (u / 10)).length := by
        rw [Lib.decDigits]; split <;> simp
      rcases Nat.eq_zero_or_pos k with rfl | hk
      · simp at h; omega
      · omega
def DigI (m u z : Nat) (o : List UInt8) : Prop := m ≤ 9223372036854775808 ∧ ((o = [] ∧ u = m ∧ z = 1) ∨ (o ≠ [] ∧ z = 0 ∧ u ≤ m ∧ (if u = 0 then o else Lib.decDigits u ++ o) = Lib.decDigits m))
section
variable {m u z : Nat} {o : List UInt8} {n : Int}
theorem DigI.zero (h0 : -9223372036854775808 ≤ n) (h1 : n ≤ 9223372036854775807) : DigI n.natAbs n.natAbs 1 [] := ⟨by omega, .inl ⟨rfl, rfl, rfl⟩⟩
theorem DigI.lt (h : DigI m u z o) : u < 18446744073709551616 := by
  obtain ⟨h0, ⟨_, h, _⟩ | ⟨_, _, h, _⟩⟩ := h <;> omega
theorem DigI.len (h : DigI m u z o) : o.length ≤ 20 := by
  obtain ⟨h0, ⟨h, _⟩ | ⟨_, _, _, h⟩⟩ := h
  · rw [h]; simp
  · have h2 := dec_len 20 m (by have : (10 : Nat) ^ 20 = 100000000000000000000 := by decide
                                omega)
    have h3 := congrArg List.length h
    split at h3
    · omega
    · simp only [List.length_append] at h3; omega
theorem DigI.next (h : DigI m u z o) (hg : 0 < u ∨ o.length = 0) : DigI m (u / 10) 0 ([UInt8.ofNat (48 + u % 10)] ++ o) := by
  obtain ⟨h0, h⟩ := h
  refine ⟨h0, .inr ⟨by simp, rfl, ?_, ?_⟩⟩
  · rcases h with ⟨_, rfl, _⟩ | ⟨_, _, h, _⟩ <;> omega
  · have key : 0 < u → (if u / 10 = 0 then [UInt8.ofNat (48 + u % 10)] ++ o else Lib.decDigits (u / 10) ++ ([UInt8.ofNat (48 + u % 10)] ++ o)) = Lib.decDigits u ++ o := by
      intro hu
      split
      · rw [Lib.decDigits_one (by omega), show u % 10 = u by omega]
      · rw [dec_step (u := u) (by omega)]; simp
    rcases h with ⟨rfl, rfl, _⟩ | ⟨hne, _, _, h⟩
    · rcases Nat.eq_zero_or_pos u with rfl | hu
      · rw [Lib.decDigits_one (by decide)]; rfl
      · rw [key hu]; simp
    · have hu : 0 < u := by
        rcases hg with h | h
        · exact h
        · exact absurd (List.length_eq_zero_iff.1 h) hne
      rw [key hu, ← h, if_neg (by omega)]
theorem DigI.down (h : DigI m u z o) (hg : 0 < u ∨ o.length = 0) : u / 10 + 0 < u + z := by
  obtain ⟨h0, ⟨_, _, rfl⟩ | ⟨hne, rfl, _, _⟩⟩ := h
  · omega
  · rcases hg with h | h
    · omega
    · exact absurd (List.length_eq_zero_iff.1 h) hne
theorem dgo_1 (h : decide ((0 : Int) < (u : Int)) = true) : true = (decide (0 < u) || decide (o.length = 0)) := by
  have : 0 < u := by have := of_decide_eq_true h; omega
  simp [this]
theorem dgo_2 (h : decide ((0 : Int) < (u : Int)) = false) : decide ((o.length : Int) = 0) = (decide (0 < u) || decide (o.length = 0)) := by
  have : ¬ 0 < u := by have := of_decide_eq_false h; omega
  have e : ((o.length : Int) = 0) ↔ o.length = 0 := by omega
  simp only [this, decide_false, Bool.false_or]
  exact decide_eq_decide.2 e
theorem dgo_T (h : (decide (0 < u) || decide (o.length = 0)) = true) : 0 < u ∨ o.length = 0 := by simpa only [Bool.or_eq_true, decide_eq_true_eq] using h
theorem dgo_F (h : (decide (0 < u) || decide (o.length = 0)) = false) : ¬ 0 < u ∧ ¬ o.length = 0 := by simpa only [Bool.or_eq_false_iff, decide_eq_false_iff_not] using h
theorem DigI.out (h : DigI m u z o) (hu : ¬ 0 < u) (ho : ¬ o.length = 0) : o = Lib.decDigits m := by
  obtain ⟨h0, ⟨rfl, _⟩ | ⟨_, _, _, h⟩⟩ := h
  · exact absurd rfl ho
  · rwa [if_pos (by omega)] at h
theorem digN_neg (hD : DigI n.natAbs u z o) (hend : ¬ 0 < u ∧ ¬ o.length = 0) (h : n < 0) : [45] ++ o = Lib.itoa n := by
  rw [hD.out hend.1 hend.2]; unfold Lib.itoa; rw [if_pos h]; rfl
theorem digN_pos (hD : DigI n.natAbs u z o) (hend : ¬ 0 < u ∧ ¬ o.length = 0) (h : ¬ n < 0) : o = Lib.itoa n := by
  rw [hD.out hend.1 hend.2]; unfold Lib.itoa; rw [if_neg h]; congr 1; omega
theorem dig_quo (h : u < 18446744073709551616) : IntKind.u64.wrap ((u : Int).tdiv 10) = ((u / 10 : Nat) : Int) := by
  rw [Int.tdiv_eq_ediv_of_nonneg (by omega)]
  simp only [IntKind.wrap, IntKind.signed, IntKind.bits]
  simp
  omega
theorem dig_byte (u : Nat) : IntKind.u8.wrap (IntKind.u64.wrap (48 + (u : Int).tmod 10)) = ((UInt8.ofNat (48 + u % 10)).toNat : Int) := by
  rw [Int.tmod_eq_emod_of_nonneg (by omega)]
  simp only [IntKind.wrap, IntKind.signed, IntKind.bits]
  simp
theorem dig_pos (h0 : -9223372036854775808 ≤ n) (h1 : n ≤ 9223372036854775807) (h : ¬ n < 0) : IntKind.u64.wrap n = (n.natAbs : Int) := by
  simp only [IntKind.wrap, IntKind.signed, IntKind.bits]
  simp
  omega
theorem dig_neg (h0 : -9223372036854775808 ≤ n) (h1 : n ≤ 9223372036854775807) (h : n < 0) : IntKind.u64.wrap (0 - IntKind.u64.wrap n) = (n.natAbs : Int) := by
  simp only [IntKind.wrap, IntKind.signed, IntKind.bits]
  simp
  omega
end
end Go.Sx
