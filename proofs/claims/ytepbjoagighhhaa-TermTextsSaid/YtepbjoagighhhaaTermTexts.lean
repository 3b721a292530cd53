/-
  The law TermTexts holds for every input: the call returns true and leaves its arguments as they were. No further condition.
-/
import Derived.Test.YtepbjoagighhhaaRows
import Derived.Test.YtepbjoagighhhaaLaw
import Derived.Test.YtepbjoagighhhaaWL4c
import Derived.Test.YtepbjoagighhhaaOpen
import Derived.ProofKit
set_option linter.unusedVariables false
namespace Go.Proofs.Ytepbjoagighhhaa.TermTexts
open Go Go.Sx Go.ChangeShapes Go.WideShapes Go.ChangeAt Go.RowKit
theorem own : ownKnob Try.prog.godebug = none := by kernel_rfl
theorem laidOut : laidOutB Try.prog = true := by kernel_rfl
theorem hread : ∀ t ∈ Try.f5.params.toList, Try.prog.readableRec t = true ∧ t < Try.prog.types.size := by
  intro t ht
  have := List.all_eq_true.1 (show (Try.f5.params.toList.all fun t => Try.prog.readableRec t && decide (t < Try.prog.types.size)) = true by kernel_rfl) t ht
  simp only [Bool.and_eq_true, decide_eq_true_eq] at this
  exact this
set_option maxRecDepth 100000 in
theorem lifted (os : Os) (started : os.Started) (H : Type) (enc : TypeId × Value → H) :
    ReturnsInHanded {} Try.checked os 5 .any (Rows.termTextsSpec.pre6 enc Try.prog Try.f5 Rows.termTextsRow.domain false) (Rows.termTextsSpec.post enc Try.prog Try.f5 false true false false) := by
  refine returnsInHanded_of_change (C := Try.checked) own started (by kernel_rfl) Try.func5
    (ChangeSpec.witness6 (enc := enc) (C := Try.checked) false ⟨#[], #[.string ByteArray.empty, .string ByteArray.empty, .string ByteArray.empty], []⟩ 8 (by kernel_rfl) (by kernel_rfl) (by kernel_rfl) (by kernel_rfl)) ?_
  intro W base args ds gs before hval0 hW hcnd _
  have hval : ∀ (j : Nat) t v, Try.f5.params[j]? = some t → args[j]? = some v → Value.okWide Try.prog W .any base t v := hval0
  have hW' := hW
  obtain ⟨p, q, hA0, hV, hpq, hfz, hnd⟩ := hW
  have hA : DataW.TrodAll enc Try.prog W 0 (fun _ => true) true Try.f5.params.toList args.toList ds p := hA0
  rw [Try.params5] at hA hval
  obtain ⟨v0, vs0, d0, ds0, p0, q0, hargs, rfl, rfl, h0, r0⟩ := trodAll_cons hA
  obtain ⟨v1, vs1, d1, ds1, p1, q1, rfl, rfl, rfl, h1, r1⟩ := trodAll_cons r0
  obtain ⟨v2, vs2, d2, ds2, p2, q2, rfl, rfl, rfl, h2, r2⟩ := trodAll_cons r1
  obtain ⟨rfl, rfl, rfl⟩ := trodAll_nil r2
  obtain rfl : args = #[v0, v1, v2] := by cases args; simp_all
  obtain ⟨rfl, rfl⟩ := trodVars_none hV
  obtain ⟨s_a, rfl⟩ := okWide_string Try.underlying9 (hval 0 9 v0 rfl rfl)
  obtain ⟨a, e_a, R_a⟩ := (opens_str Try.underlying9).one h0
  obtain rfl : s_a = ⟨a.toArray⟩ := Value.string.inj (show Value.string s_a = gs a by simpa [Value.cells] using e_a)
  obtain ⟨s_b, rfl⟩ := okWide_string Try.underlying9 (hval 1 9 v1 rfl rfl)
  obtain ⟨b, e_b, R_b⟩ := (opens_str Try.underlying9).one h1
  obtain rfl : s_b = ⟨b.toArray⟩ := Value.string.inj (show Value.string s_b = gs b by simpa [Value.cells] using e_b)
  obtain ⟨s_c, rfl⟩ := okWide_string Try.underlying9 (hval 2 9 v2 rfl rfl)
  obtain ⟨c, e_c, R_c⟩ := (opens_str Try.underlying9).one h2
  obtain rfl : s_c = ⟨c.toArray⟩ := Value.string.inj (show Value.string s_c = gs c by simpa [Value.cells] using e_c)
  refine (FnS.calls (W := W) (TermTexts_ok a b c)).mono ?_
  rintro e W1 ⟨rfl, hB⟩
  have done : Rows.termTextsSpec.post enc Try.prog Try.f5 false true false false W #[gs a, gs b, gs c] (.bool true) W1 := law_done (P := Try.prog) (tb := 4) hW' rfl rfl rfl rfl (by kernel_rfl) (by kernel_rfl) laidOut hread hB
  exact ⟨_, rfl, done⟩
theorem holds : Rows.TermTextsSaid :=
  OpenClaim.holds_of_wide 5 Try.f5 rfl rfl rfl rfl rfl rfl rfl ⟨rfl, rfl, rfl, rfl, rfl⟩ rfl rfl rfl rfl rfl (by kernel_rfl) Try.func5 (by kernel_rfl)
    (of_decide_eq_true (by kernel_rfl)) (by unfold Func.isWrapper; first | (rw [if_pos (by decide +kernel)]; kernel_rfl) | (rw [if_neg (by decide +kernel)]; exact ⟨rfl, rfl⟩))
    (fun os started H enc _ => lifted os started H enc)
end Go.Proofs.Ytepbjoagighhhaa.TermTexts
