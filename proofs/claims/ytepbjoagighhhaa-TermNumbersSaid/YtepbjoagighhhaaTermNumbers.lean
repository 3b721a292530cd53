/-
  The law TermNumbers holds for every input: the call returns true and leaves its arguments as they were. No further condition.
-/
import Derived.Test.YtepbjoagighhhaaRows
import Derived.Test.YtepbjoagighhhaaLaw
import Derived.Test.YtepbjoagighhhaaWL4b
import Derived.Test.YtepbjoagighhhaaOpen
import Derived.ProofKit
set_option linter.unusedVariables false
namespace Go.Proofs.Ytepbjoagighhhaa.TermNumbers
open Go Go.Sx Go.ChangeShapes Go.WideShapes Go.ChangeAt Go.RowKit
theorem own : ownKnob Try.prog.godebug = none := by kernel_rfl
theorem laidOut : laidOutB Try.prog = true := by kernel_rfl
theorem hread : ∀ t ∈ Try.f6.params.toList, Try.prog.readableRec t = true ∧ t < Try.prog.types.size := by
  intro t ht
  have := List.all_eq_true.1 (show (Try.f6.params.toList.all fun t => Try.prog.readableRec t && decide (t < Try.prog.types.size)) = true by kernel_rfl) t ht
  simp only [Bool.and_eq_true, decide_eq_true_eq] at this
  exact this
set_option maxRecDepth 100000 in
theorem lifted (os : Os) (started : os.Started) (H : Type) (enc : TypeId × Value → H) :
    ReturnsInHanded {} Try.checked os 6 .any (Rows.termNumbersSpec.pre6 enc Try.prog Try.f6 Rows.termNumbersRow.domain false) (Rows.termNumbersSpec.post enc Try.prog Try.f6 false true false false) := by
  refine returnsInHanded_of_change (C := Try.checked) own started (by kernel_rfl) Try.func6
    (ChangeSpec.witness6 (enc := enc) (C := Try.checked) false ⟨#[], #[.int .i64 0, .int .i64 0], []⟩ 8 (by kernel_rfl) (by kernel_rfl) (by kernel_rfl) (by kernel_rfl)) ?_
  intro W base args ds gs before hval0 hW hcnd _
  have hval : ∀ (j : Nat) t v, Try.f6.params[j]? = some t → args[j]? = some v → Value.okWide Try.prog W .any base t v := hval0
  have hW' := hW
  obtain ⟨p, q, hA0, hV, hpq, hfz, hnd⟩ := hW
  have hA : DataW.TrodAll enc Try.prog W 0 (fun _ => true) true Try.f6.params.toList args.toList ds p := hA0
  rw [Try.params6] at hA hval
  obtain ⟨v0, vs0, d0, ds0, p0, q0, hargs, rfl, rfl, h0, r0⟩ := trodAll_cons hA
  obtain ⟨v1, vs1, d1, ds1, p1, q1, rfl, rfl, rfl, h1, r1⟩ := trodAll_cons r0
  obtain ⟨rfl, rfl, rfl⟩ := trodAll_nil r1
  obtain rfl : args = #[v0, v1] := by cases args; simp_all
  obtain ⟨rfl, rfl⟩ := trodVars_none hV
  obtain ⟨a, rfl, rfl, rfl, w_a⟩ := open_int Try.underlying2 (hval 0 2 v0 rfl rfl) h0
  have R_a : i64ok a := by simpa [i64ok, Lit.wf, IntKind.min, IntKind.max, IntKind.signed, IntKind.bits] using w_a
  obtain ⟨b, rfl, rfl, rfl, w_b⟩ := open_int Try.underlying2 (hval 1 2 v1 rfl rfl) h1
  have R_b : i64ok b := by simpa [i64ok, Lit.wf, IntKind.min, IntKind.max, IntKind.signed, IntKind.bits] using w_b
  refine (FnS.calls (W := W) (TermNumbers_ok a b R_a R_b)).mono ?_
  rintro e W1 ⟨rfl, hB⟩
  have done : Rows.termNumbersSpec.post enc Try.prog Try.f6 false true false false W #[.int .i64 a, .int .i64 b] (.bool true) W1 := law_done (P := Try.prog) (tb := 4) hW' rfl rfl rfl rfl (by kernel_rfl) (by kernel_rfl) laidOut hread hB
  exact ⟨_, rfl, done⟩
theorem holds : Rows.TermNumbersSaid :=
  OpenClaim.holds_of_wide 6 Try.f6 rfl rfl rfl rfl rfl rfl rfl ⟨rfl, rfl, rfl, rfl, rfl⟩ rfl rfl rfl rfl rfl (by kernel_rfl) Try.func6 (by kernel_rfl)
    (of_decide_eq_true (by kernel_rfl)) (by unfold Func.isWrapper; first | (rw [if_pos (by decide +kernel)]; kernel_rfl) | (rw [if_neg (by decide +kernel)]; exact ⟨rfl, rfl⟩))
    (fun os started H enc _ => lifted os started H enc)
end Go.Proofs.Ytepbjoagighhhaa.TermNumbers
