import Derived.Test.YticophnilpjdlaaPureK2
set_option linter.unusedVariables false
namespace Go.Sx
open Go
/-! ## the ends of sessions in terms -/
theorem ends_c (a : Int) : ofS [⟨0, [99], 0, [], -1, -1⟩] 0 [⟨[99], 5, a⟩] = (5, 0) := rfl
theorem ends_cases {k : Int} (h : 6 ≤ k ∧ k ≤ 19) : k = 6 ∨ k = 7 ∨ k = 8 ∨ k = 9 ∨ k = 10 ∨ k = 11 ∨ k = 12 ∨ k = 13 ∨ k = 14 ∨ k = 15 ∨ k = 16 ∨ k = 17 ∨ k = 18 ∨ k = 19 := by omega
theorem ends_l {k : Int} (n a : Int) (h : 6 ≤ k ∧ k ≤ 19) (h1 : ¬ k = 15) (h2 : ¬ k = 16) : ofS [⟨0, [99], 0, [], -1, -1⟩, ⟨1, [], n, [], -1, -1⟩, ⟨k, [], 0, [], 0, 1⟩] 2 [⟨[99], 5, a⟩] = (0, 502) := by
  rcases ends_cases h with rfl | rfl | rfl | rfl | rfl | rfl | rfl | rfl | rfl | rfl | rfl | rfl | rfl | rfl <;> first | rfl | omega
theorem ends_r {k : Int} (n a : Int) (h : 6 ≤ k ∧ k ≤ 19) (h1 : ¬ k = 15) (h2 : ¬ k = 16) : ofS [⟨1, [], n, [], -1, -1⟩, ⟨0, [99], 0, [], -1, -1⟩, ⟨k, [], 0, [], 0, 1⟩] 2 [⟨[99], 5, a⟩] = (0, 502) := by
  rcases ends_cases h with rfl | rfl | rfl | rfl | rfl | rfl | rfl | rfl | rfl | rfl | rfl | rfl | rfl | rfl <;> first | rfl | omega
theorem ends_1 {k : Int} (a : Int) (h : k = 15 ∨ k = 16) : ofS [⟨0, [99], 0, [], -1, -1⟩, ⟨k, [], 0, [], 0, -1⟩] 1 [⟨[99], 5, a⟩] = (0, 502) := by
  rcases h with rfl | rfl <;> rfl
end Go.Sx
