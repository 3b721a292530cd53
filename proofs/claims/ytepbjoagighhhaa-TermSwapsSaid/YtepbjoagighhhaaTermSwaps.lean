/-
  The law TermSwaps holds for every input: the call returns true and leaves its arguments as they were. No further condition.
-/
import Derived.Test.YtepbjoagighhhaaRows
import Derived.Test.YtepbjoagighhhaaLaw
import Derived.Test.YtepbjoagighhhaaWL4a
import Derived.Test.YtepbjoagighhhaaOpen
import Derived.ProofKit
set_option linter.unusedVariables false
namespace Go.Proofs.Ytepbjoagighhhaa.TermSwaps
open Go Go.Sx Go.ChangeShapes Go.WideShapes Go.ChangeAt Go.RowKit
theorem own : ownKnob Try.prog.godebug = none := by kernel_rfl
theorem laidOut : laidOutB Try.prog = true := by kernel_rfl
theorem hread : ∀ t ∈ Try.f4.params.toList, Try.prog.readableRec t = true ∧ t < Try.prog.types.size := by
  intro t ht
  have := List.all_eq_true.1 (show (Try.f4.params.toList.all fun t => Try.prog.readableRec t && decide (t < Try.prog.types.size)) = true by kernel_rfl) t ht
  simp only [Bool.and_eq_true, decide_eq_true_eq] at this
  exact this
set_option maxRecDepth 100000 in
theorem lifted (os : Os) (started : os.Started) (H : Type) (enc : TypeId × Value → H) :
    ReturnsInHanded {} Try.checked os 4 .any (Rows.termSwapsSpec.pre6 enc Try.prog Try.f4 Rows.termSwapsRow.domain false) (Rows.termSwapsSpec.post enc Try.prog Try.f4 false true false false) := by
  refine returnsInHanded_of_change (C := Try.checked) own started (by kernel_rfl) Try.func4
    (ChangeSpec.witness6 (enc := enc) (C := Try.checked) false ⟨#[], #[.int .i64 0, .agg #[.int .i64 0, .int .i64 0, .string ByteArray.empty, .slice none 0 0], .agg #[.int .i64 0, .int .i64 0, .string ByteArray.empty, .slice none 0 0]], []⟩ 8 (by kernel_rfl) (by kernel_rfl) (by kernel_rfl) (by kernel_rfl)) ?_
  intro W base args ds gs before hval0 hW hcnd _
  have hval : ∀ (j : Nat) t v, Try.f4.params[j]? = some t → args[j]? = some v → Value.okWide Try.prog W .any base t v := hval0
  have hW' := hW
  obtain ⟨p, q, hA0, hV, hpq, hfz, hnd⟩ := hW
  have hA : DataW.TrodAll enc Try.prog W 0 (fun _ => true) true Try.f4.params.toList args.toList ds p := hA0
  rw [Try.params4] at hA hval
  obtain ⟨v0, vs0, d0, ds0, p0, q0, hargs, rfl, rfl, h0, r0⟩ := trodAll_cons hA
  obtain ⟨v1, vs1, d1, ds1, p1, q1, rfl, rfl, rfl, h1, r1⟩ := trodAll_cons r0
  obtain ⟨v2, vs2, d2, ds2, p2, q2, rfl, rfl, rfl, h2, r2⟩ := trodAll_cons r1
  obtain ⟨rfl, rfl, rfl⟩ := trodAll_nil r2
  obtain rfl : args = #[v0, v1, v2] := by cases args; simp_all
  obtain ⟨rfl, rfl⟩ := trodVars_none hV
  obtain ⟨kd, rfl, rfl, rfl, w_kd⟩ := open_int Try.underlying3 (hval 0 3 v0 rfl rfl) h0
  have R_kd : i64ok kd := by simpa [i64ok, Lit.wf, IntKind.min, IntKind.max, IntKind.signed, IntKind.bits] using w_kd
  obtain ⟨cs_a, ev_a, _⟩ := okWide_struct Try.underlying33 (hval 1 33 v1 rfl rfl)
  obtain ⟨⟨a, lv_a⟩, e_a, R_a⟩ := opens_Value.one h1
  obtain rfl : v1 = .agg (a.cells lv_a).toArray := by rw [ev_a] at e_a ⊢; exact congrArg Value.agg (by rw [← show cs_a.toList = (a.cells lv_a) from e_a])
  obtain ⟨cs_b, ev_b, _⟩ := okWide_struct Try.underlying33 (hval 2 33 v2 rfl rfl)
  obtain ⟨⟨b, lv_b⟩, e_b, R_b⟩ := opens_Value.one h2
  obtain rfl : v2 = .agg (b.cells lv_b).toArray := by rw [ev_b] at e_b ⊢; exact congrArg Value.agg (by rw [← show cs_b.toList = (b.cells lv_b) from e_b])
  refine (FnS.calls (W := W) (TermSwaps_ok kd R_a.1 R_b.1)).mono ?_
  rintro e W1 ⟨rfl, hB⟩
  have done : Rows.termSwapsSpec.post enc Try.prog Try.f4 false true false false W #[.int .i64 kd, .agg (a.cells lv_a).toArray, .agg (b.cells lv_b).toArray] (.bool true) W1 := law_done (P := Try.prog) (tb := 4) hW' rfl rfl rfl rfl (by kernel_rfl) (by kernel_rfl) laidOut hread hB
  exact ⟨_, rfl, done⟩
theorem holds : Rows.TermSwapsSaid :=
  OpenClaim.holds_of_wide 4 Try.f4 rfl rfl rfl rfl rfl rfl rfl ⟨rfl, rfl, rfl, rfl, rfl⟩ rfl rfl rfl rfl rfl (by kernel_rfl) Try.func4 (by kernel_rfl)
    (of_decide_eq_true (by kernel_rfl)) (by unfold Func.isWrapper; first | (rw [if_pos (by decide +kernel)]; kernel_rfl) | (rw [if_neg (by decide +kernel)]; exact ⟨rfl, rfl⟩))
    (fun os started H enc _ => lifted os started H enc)
end Go.Proofs.Ytepbjoagighhhaa.TermSwaps
