import Derived.Test.YtmlgpjficicagaaDoorPureLx
import Derived.Test.YtmlgpjficicagaaDoorPureO
import Derived.Test.YtmlgpjficicagaaDoorFacts
set_option linter.unusedVariables false
namespace Go.Sx
open Go Go.Proofs
theorem opens_Value : Opens Tryd.prog 26 VL.cells VL.ok := by
  intro HH enc W fuel cs x h
  obtain ⟨hl, n, hf⟩ := fields_of Tryd.underlying26 h
  rw [show Tryd.prog.cellsOf 26 = 4 from by kernel_rfl] at hl
  obtain ⟨y0, h0⟩ := hf 0 _ rfl
  obtain ⟨y1, h1⟩ := hf 1 _ rfl
  obtain ⟨y2, h2⟩ := hf 2 _ rfl
  obtain ⟨y3, h3⟩ := hf 3 _ rfl
  obtain ⟨c0, c1, c2, c3, rfl⟩ := len4 hl
  clear hl h
  · skip
    obtain ⟨a0, e0, w0⟩ := (opens_i64 Tryd.underlying3) HH enc W n _ _ h0
    simp only [show Tryd.prog.cellsOf 3 = 1 from by kernel_rfl] at e0
    obtain ⟨a1, e1, w1⟩ := (opens_i64 Tryd.underlying2) HH enc W n _ _ h1
    simp only [show Tryd.prog.cellsOf 2 = 1 from by kernel_rfl] at e1
    obtain ⟨a2, e2, w2⟩ := (opens_str Tryd.underlying9) HH enc W n _ _ h2
    simp only [show Tryd.prog.cellsOf 9 = 1 from by kernel_rfl] at e2
    obtain ⟨⟨lv, l⟩, e3, w3⟩ := (opens_slice Tryd.underlying22 (k := 1) (by kernel_rfl) (by decide) (opens_I64 Tryd.underlying2)) HH enc W n _ _ h3
    simp only [show Tryd.prog.cellsOf 22 = 1 from by kernel_rfl] at e3
    simp at e0
    simp at e1
    simp at e2
    simp at e3
    subst e0
    subst e1
    subst e2
    replace e3 := e3.symm; subst e3
    exact ⟨(⟨a0, a1, a2, l⟩, lv), rfl, ⟨w3.1, ⟨⟨w0, w1⟩, w2⟩, w3.2⟩⟩
theorem opens_Token : Opens Tryd.prog 33 Token.cells Token.ok := by
  intro HH enc W fuel cs x h
  obtain ⟨hl, n, hf⟩ := fields_of Tryd.underlying33 h
  rw [show Tryd.prog.cellsOf 33 = 3 from by kernel_rfl] at hl
  obtain ⟨y0, h0⟩ := hf 0 _ rfl
  obtain ⟨y1, h1⟩ := hf 1 _ rfl
  obtain ⟨y2, h2⟩ := hf 2 _ rfl
  obtain ⟨c0, c1, c2, rfl⟩ := len3 hl
  clear hl h
  · skip
    obtain ⟨a0, e0, w0⟩ := (opens_i64 Tryd.underlying3) HH enc W n _ _ h0
    simp only [show Tryd.prog.cellsOf 3 = 1 from by kernel_rfl] at e0
    obtain ⟨a1, e1, w1⟩ := (opens_str Tryd.underlying9) HH enc W n _ _ h1
    simp only [show Tryd.prog.cellsOf 9 = 1 from by kernel_rfl] at e1
    obtain ⟨a2, e2, w2⟩ := (opens_i64 Tryd.underlying3) HH enc W n _ _ h2
    simp only [show Tryd.prog.cellsOf 3 = 1 from by kernel_rfl] at e2
    simp at e0
    simp at e1
    simp at e2
    subst e0
    subst e1
    subst e2
    exact ⟨⟨a0, a1, a2⟩, rfl, w1⟩
end Go.Sx
