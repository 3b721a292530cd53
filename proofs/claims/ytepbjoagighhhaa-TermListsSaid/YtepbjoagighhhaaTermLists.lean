/-
  The law TermLists holds for every input: the call returns true and leaves its arguments as they were. No further condition.
-/
import Derived.Test.YtepbjoagighhhaaRows
import Derived.Test.YtepbjoagighhhaaLaw
import Derived.Test.YtepbjoagighhhaaWL4c
import Derived.Test.YtepbjoagighhhaaOpen
import Derived.ProofKit
set_option linter.unusedVariables false
namespace Go.Proofs.Ytepbjoagighhhaa.TermLists
open Go Go.Sx Go.ChangeShapes Go.WideShapes Go.ChangeAt Go.RowKit
theorem own : ownKnob Try.prog.godebug = none := by kernel_rfl
theorem laidOut : laidOutB Try.prog = true := by kernel_rfl
theorem hread : ∀ t ∈ Try.f7.params.toList, Try.prog.readableRec t = true ∧ t < Try.prog.types.size := by
  intro t ht
  have := List.all_eq_true.1 (show (Try.f7.params.toList.all fun t => Try.prog.readableRec t && decide (t < Try.prog.types.size)) = true by kernel_rfl) t ht
  simp only [Bool.and_eq_true, decide_eq_true_eq] at this
  exact this
set_option maxRecDepth 100000 in
theorem lifted (os : Os) (started : os.Started) (H : Type) (enc : TypeId × Value → H) :
    ReturnsInHanded {} Try.checked os 7 .any (Rows.termListsSpec.pre6 enc Try.prog Try.f7 Rows.termListsRow.domain false) (Rows.termListsSpec.post enc Try.prog Try.f7 false true false false) := by
  refine returnsInHanded_of_change (C := Try.checked) own started (by kernel_rfl) Try.func7
    (ChangeSpec.witness6 (enc := enc) (C := Try.checked) false ⟨#[], #[.slice none 0 0, .int .i64 0, .int .i64 0], []⟩ 8 (by kernel_rfl) (by kernel_rfl) (by kernel_rfl) (by kernel_rfl)) ?_
  intro W base args ds gs before hval0 hW hcnd _
  have hval : ∀ (j : Nat) t v, Try.f7.params[j]? = some t → args[j]? = some v → Value.okWide Try.prog W .any base t v := hval0
  have hW' := hW
  obtain ⟨p, q, hA0, hV, hpq, hfz, hnd⟩ := hW
  have hA : DataW.TrodAll enc Try.prog W 0 (fun _ => true) true Try.f7.params.toList args.toList ds p := hA0
  rw [Try.params7] at hA hval
  obtain ⟨v0, vs0, d0, ds0, p0, q0, hargs, rfl, rfl, h0, r0⟩ := trodAll_cons hA
  obtain ⟨v1, vs1, d1, ds1, p1, q1, rfl, rfl, rfl, h1, r1⟩ := trodAll_cons r0
  obtain ⟨v2, vs2, d2, ds2, p2, q2, rfl, rfl, rfl, h2, r2⟩ := trodAll_cons r1
  obtain ⟨rfl, rfl, rfl⟩ := trodAll_nil r2
  obtain rfl : args = #[v0, v1, v2] := by cases args; simp_all
  obtain ⟨rfl, rfl⟩ := trodVars_none hV
  obtain ⟨a_xs, len_xs, cap_xs, ev_xs⟩ := okWide_slice Try.underlying31 (hval 0 31 v0 rfl rfl)
  obtain ⟨⟨u_xs, xs⟩, e_xs, R_xs, K_xs⟩ := (opens_slice Try.underlying31 (k := 1) (by kernel_rfl) (by decide) (opens_I64 Try.underlying2)).one h0
  obtain rfl : v0 = u_xs := by rw [ev_xs] at e_xs ⊢; simpa [Value.cells] using e_xs
  simp only at R_xs K_xs
  obtain ⟨n, rfl, rfl, rfl, w_n⟩ := open_int Try.underlying2 (hval 1 2 v1 rfl rfl) h1
  have R_n : i64ok n := by simpa [i64ok, Lit.wf, IntKind.min, IntKind.max, IntKind.signed, IntKind.bits] using w_n
  obtain ⟨at_, rfl, rfl, rfl, w_at_⟩ := open_int Try.underlying3 (hval 2 3 v2 rfl rfl) h2
  have R_at_ : i64ok at_ := by simpa [i64ok, Lit.wf, IntKind.min, IntKind.max, IntKind.signed, IntKind.bits] using w_at_
  refine (FnS.calls (W := W) (TermLists_ok n at_ R_xs)).mono ?_
  rintro e W1 ⟨rfl, hB⟩
  have done : Rows.termListsSpec.post enc Try.prog Try.f7 false true false false W #[v0, .int .i64 n, .int .i64 at_] (.bool true) W1 := law_done (P := Try.prog) (tb := 4) hW' rfl rfl rfl rfl (by kernel_rfl) (by kernel_rfl) laidOut hread hB
  exact ⟨_, rfl, done⟩
theorem holds : Rows.TermListsSaid :=
  OpenClaim.holds_of_wide 7 Try.f7 rfl rfl rfl rfl rfl rfl rfl ⟨rfl, rfl, rfl, rfl, rfl⟩ rfl rfl rfl rfl rfl (by kernel_rfl) Try.func7 (by kernel_rfl)
    (of_decide_eq_true (by kernel_rfl)) (by unfold Func.isWrapper; first | (rw [if_pos (by decide +kernel)]; kernel_rfl) | (rw [if_neg (by decide +kernel)]; exact ⟨rfl, rfl⟩))
    (fun os started H enc _ => lifted os started H enc)
end Go.Proofs.Ytepbjoagighhhaa.TermLists
