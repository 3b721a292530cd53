import Derived.Test.YtilggjefbbiccaaDoorPureLx
import Derived.Test.YtilggjefbbiccaaDoorPureO
import Derived.Test.YtilggjefbbiccaaDoorFacts
set_option linter.unusedVariables false
namespace Go.Sx
open Go Go.Proofs
theorem opens_Token : Opens Tryd.prog 30 Token.cells Token.ok := by
  intro HH enc W fuel cs x h
  obtain ⟨hl, n, hf⟩ := fields_of Tryd.underlying30 h
  rw [show Tryd.prog.cellsOf 30 = 3 from by kernel_rfl] at hl
  obtain ⟨y0, h0⟩ := hf 0 _ rfl
  obtain ⟨y1, h1⟩ := hf 1 _ rfl
  obtain ⟨y2, h2⟩ := hf 2 _ rfl
  obtain ⟨c0, c1, c2, rfl⟩ := len3 hl
  clear hl h
  · skip
    obtain ⟨a0, e0, w0⟩ := (opens_i64 Tryd.underlying3) HH enc W n _ _ h0
    simp only [show Tryd.prog.cellsOf 3 = 1 from by kernel_rfl] at e0
    obtain ⟨a1, e1, w1⟩ := (opens_str Tryd.underlying9) HH enc W n _ _ h1
    simp only [show Tryd.prog.cellsOf 9 = 1 from by kernel_rfl] at e1
    obtain ⟨a2, e2, w2⟩ := (opens_i64 Tryd.underlying3) HH enc W n _ _ h2
    simp only [show Tryd.prog.cellsOf 3 = 1 from by kernel_rfl] at e2
    simp at e0
    simp at e1
    simp at e2
    subst e0
    subst e1
    subst e2
    exact ⟨⟨a0, a1, a2⟩, rfl, w1⟩
end Go.Sx
