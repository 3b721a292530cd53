import Derived.Test.YtepbjoagighhhaaPureO
import Derived.Test.YtepbjoagighhhaaFacts
set_option linter.unusedVariables false
namespace Go.Sx
open Go Go.Proofs
theorem opens_Term : Opens Try.prog 38 Term.cells Term.ok := by
  intro HH enc W fuel cs x h
  obtain ⟨hl, n, hf⟩ := fields_of Try.underlying38 h
  rw [show Try.prog.cellsOf 38 = 6 from by kernel_rfl] at hl
  obtain ⟨y0, h0⟩ := hf 0 _ rfl
  obtain ⟨y1, h1⟩ := hf 1 _ rfl
  obtain ⟨y2, h2⟩ := hf 2 _ rfl
  obtain ⟨y3, h3⟩ := hf 3 _ rfl
  obtain ⟨y4, h4⟩ := hf 4 _ rfl
  obtain ⟨y5, h5⟩ := hf 5 _ rfl
  obtain ⟨c0, c1, c2, c3, c4, c5, rfl⟩ := len6 hl
  clear hl h
  · skip
    obtain ⟨a0, e0, w0⟩ := (opens_i64 Try.underlying3) HH enc W n _ _ h0
    simp only [show Try.prog.cellsOf 3 = 1 from by kernel_rfl] at e0
    obtain ⟨a1, e1, w1⟩ := (opens_str Try.underlying9) HH enc W n _ _ h1
    simp only [show Try.prog.cellsOf 9 = 1 from by kernel_rfl] at e1
    obtain ⟨a2, e2, w2⟩ := (opens_i64 Try.underlying2) HH enc W n _ _ h2
    simp only [show Try.prog.cellsOf 2 = 1 from by kernel_rfl] at e2
    obtain ⟨a3, e3, w3⟩ := (opens_str Try.underlying9) HH enc W n _ _ h3
    simp only [show Try.prog.cellsOf 9 = 1 from by kernel_rfl] at e3
    obtain ⟨a4, e4, w4⟩ := (opens_i64 Try.underlying3) HH enc W n _ _ h4
    simp only [show Try.prog.cellsOf 3 = 1 from by kernel_rfl] at e4
    obtain ⟨a5, e5, w5⟩ := (opens_i64 Try.underlying3) HH enc W n _ _ h5
    simp only [show Try.prog.cellsOf 3 = 1 from by kernel_rfl] at e5
    simp at e0
    simp at e1
    simp at e2
    simp at e3
    simp at e4
    simp at e5
    subst e0
    subst e1
    subst e2
    subst e3
    subst e4
    subst e5
    exact ⟨⟨a0, a1, a2, a3, a4, a5⟩, rfl, ⟨⟨w1, w3⟩, w2⟩⟩
theorem opens_Value : Opens Try.prog 33 VL.cells VL.ok := by
  intro HH enc W fuel cs x h
  obtain ⟨hl, n, hf⟩ := fields_of Try.underlying33 h
  rw [show Try.prog.cellsOf 33 = 4 from by kernel_rfl] at hl
  obtain ⟨y0, h0⟩ := hf 0 _ rfl
  obtain ⟨y1, h1⟩ := hf 1 _ rfl
  obtain ⟨y2, h2⟩ := hf 2 _ rfl
  obtain ⟨y3, h3⟩ := hf 3 _ rfl
  obtain ⟨c0, c1, c2, c3, rfl⟩ := len4 hl
  clear hl h
  · skip
    obtain ⟨a0, e0, w0⟩ := (opens_i64 Try.underlying3) HH enc W n _ _ h0
    simp only [show Try.prog.cellsOf 3 = 1 from by kernel_rfl] at e0
    obtain ⟨a1, e1, w1⟩ := (opens_i64 Try.underlying2) HH enc W n _ _ h1
    simp only [show Try.prog.cellsOf 2 = 1 from by kernel_rfl] at e1
    obtain ⟨a2, e2, w2⟩ := (opens_str Try.underlying9) HH enc W n _ _ h2
    simp only [show Try.prog.cellsOf 9 = 1 from by kernel_rfl] at e2
    obtain ⟨⟨lv, l⟩, e3, w3⟩ := (opens_slice Try.underlying31 (k := 1) (by kernel_rfl) (by decide) (opens_I64 Try.underlying2)) HH enc W n _ _ h3
    simp only [show Try.prog.cellsOf 31 = 1 from by kernel_rfl] at e3
    simp at e0
    simp at e1
    simp at e2
    simp at e3
    subst e0
    subst e1
    subst e2
    replace e3 := e3.symm; subst e3
    exact ⟨(⟨a0, a1, a2, l⟩, lv), rfl, ⟨w3.1, ⟨⟨w0, w1⟩, w2⟩, w3.2⟩⟩
theorem opens_Bind : Opens Try.prog 43 Bind.cells Bind.ok := by
  intro HH enc W fuel cs x h
  obtain ⟨hl, n, hf⟩ := fields_of Try.underlying43 h
  rw [show Try.prog.cellsOf 43 = 5 from by kernel_rfl] at hl
  obtain ⟨y0, h0⟩ := hf 0 _ rfl
  obtain ⟨y1, h1⟩ := hf 1 _ rfl
  obtain ⟨c0, c1, c2, c3, c4, rfl⟩ := len5 hl
  clear hl h
  · skip
    obtain ⟨a0, e0, w0⟩ := (opens_str Try.underlying9) HH enc W n _ _ h0
    simp only [show Try.prog.cellsOf 9 = 1 from by kernel_rfl] at e0
    obtain ⟨⟨v, lv⟩, e1, w1⟩ := (opens_Value) HH enc W n _ _ h1
    simp only [show Try.prog.cellsOf 33 = 4 from by kernel_rfl] at e1
    simp at e0
    simp [VL.cells, Val.cells] at e1
    subst e0
    obtain ⟨z1_0, z1_1, z1_2, z1_3⟩ := e1
    replace z1_0 := z1_0.symm; subst z1_0
    replace z1_1 := z1_1.symm; subst z1_1
    replace z1_2 := z1_2.symm; subst z1_2
    replace z1_3 := z1_3.symm; subst z1_3
    exact ⟨⟨a0, v, lv⟩, rfl, ⟨w1.1, w1.2, w0⟩⟩
end Go.Sx
