import Derived.Test.YtmlgpjficicagaaDoorPureA
set_option linter.unusedVariables false
namespace Go.Sx
open Go
theorem nameMay_F {s : Str} (h : decide ((s.length : Int) < 1) = true ∨ decide ((12 : Int) < s.length) = true ∨ (∃ c, s[(0 : Int).toNat]? = some c ∧ (!letterB c) = true) ∨ keywordB s = true) : nameMay s = false := by
  unfold nameMay
  rcases h with h | h | ⟨c, hc, h⟩ | h
  · rw [if_pos (of_decide_eq_true h)]
  · split
    · rfl
    · rw [if_pos (of_decide_eq_true h)]
  · rw [headD_of hc]
    split
    · rfl
    split
    · rfl
    rw [if_pos (by simpa using h)]
  · split
    · rfl
    split
    · rfl
    split
    · rfl
    first | rfl | rw [if_pos h]
theorem nameMay_T {s : Str} {c : UInt8} (h1 : decide ((s.length : Int) < 1) = false) (h2 : decide ((12 : Int) < s.length) = false) (hc : s[(0 : Int).toNat]? = some c) (h3 : (!letterB c) = false) (h4 : keywordB s = false) : nameMay s = (s.drop 1).all nameC := by
  unfold nameMay
  rw [if_neg (of_decide_eq_false h1), if_neg (of_decide_eq_false h2), headD_of hc, if_neg (by simpa using h3), if_neg (by simp [h4])]
theorem nameMay_step {s : Str} {k : Int} {c : UInt8} (h : (s.drop 1).all nameC = (s.drop k.toNat).all nameC) (hk : 0 ≤ k) (hc : s[k.toNat]? = some c) (hx : (!letterB c) = false ∨ (!digitB c) = false) : (s.drop 1).all nameC = (s.drop (k + 1).toNat).all nameC := by
  rw [h, drop_at hk hc, List.all_cons]
  have : nameC c = true := by unfold nameC; rcases hx with hx | hx <;> simp at hx <;> simp [hx]
  simp [this]
theorem nameMay_end {s : Str} {k : Int} (hn : nameMay s = (s.drop 1).all nameC) (h : (s.drop 1).all nameC = (s.drop k.toNat).all nameC) (hk : ¬ k < s.length) : nameMay s = true := by
  rw [hn, h, drop_end hk]; rfl
theorem nameMay_bad {s : Str} {k : Int} {c : UInt8} (hn : nameMay s = (s.drop 1).all nameC) (h : (s.drop 1).all nameC = (s.drop k.toNat).all nameC) (hk : 0 ≤ k) (hc : s[k.toNat]? = some c) (h1 : (!letterB c) = true) (h2 : (!digitB c) = true) : nameMay s = false := by
  rw [hn, h, drop_at hk hc, List.all_cons]
  have : nameC c = false := by unfold nameC; simp at h1 h2; simp [h1, h2]
  simp [this]
end Go.Sx
