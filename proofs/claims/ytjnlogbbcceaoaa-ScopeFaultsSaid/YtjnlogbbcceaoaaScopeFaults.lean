/-
  The law ScopeFaults holds for every input: the call returns true and leaves its arguments as they were. No further condition.
-/
import Derived.Test.YtjnlogbbcceaoaaRows
import Derived.Test.YtjnlogbbcceaoaaLaw
import Derived.Test.YtjnlogbbcceaoaaWL15a
import Derived.ProofKit
import Derived.HandedShaped
import Derived.Shelf.Vars
set_option linter.unusedVariables false
namespace Go.Proofs.Ytjnlogbbcceaoaa.ScopeFaults
open Go Go.Sx Go.ChangeShapes Go.WideShapes Go.ChangeAt Go.RowKit
theorem own : ownKnob Try.prog.godebug = none := by kernel_rfl
theorem laidOut : laidOutB Try.prog = true := by kernel_rfl
theorem hread : ∀ t ∈ Try.f3.params.toList, Try.prog.readableRec t = true ∧ t < Try.prog.types.size := by
  intro t ht
  have := List.all_eq_true.1 (show (Try.f3.params.toList.all fun t => Try.prog.readableRec t && decide (t < Try.prog.types.size)) = true by kernel_rfl) t ht
  simp only [Bool.and_eq_true, decide_eq_true_eq] at this
  exact this
set_option maxRecDepth 100000 in
theorem lifted (os : Os) (started : os.Started) (H : Type) (enc : TypeId × Value → H) :
    ReturnsInHanded {} Try.checked os 3 .any (Rows.scopeFaultsSpec.pre6 enc Try.prog Try.f3 Rows.scopeFaultsRow.domain false) (Rows.scopeFaultsSpec.post enc Try.prog Try.f3 false true false false) := by
  refine returnsInHanded_of_change_shaped (C := Try.checked) own started (by kernel_rfl) Try.func3
    (ChangeSpec.witness6 (enc := enc) (C := Try.checked) false ⟨#[], #[.int .i64 0, .string ByteArray.empty], []⟩ 8 (by kernel_rfl) (by kernel_rfl) (by kernel_rfl) (by kernel_rfl)) ?_
  intro W base args ds gs before hval0 hW hcnd _ hsh _
  have hMx : MaxG (hpOf W) := Go.Proofs.cell_of_shapedOpen_int (zero := #[.int .i64 0]) (t := 3) hsh (of_decide_eq_true (by kernel_rfl)) (by kernel_rfl) rfl (by kernel_rfl) (by kernel_rfl) Try.underlying3
  have hval : ∀ (j : Nat) t v, Try.f3.params[j]? = some t → args[j]? = some v → Value.okWide Try.prog W .any base t v := hval0
  have hW' := hW
  obtain ⟨p, q, hA0, hV, hpq, hfz, hnd⟩ := hW
  have hA : DataW.TrodAll enc Try.prog W 0 (fun _ => true) true Try.f3.params.toList args.toList ds p := hA0
  rw [Try.params3] at hA hval
  obtain ⟨v0, vs0, d0, ds0, p0, q0, hargs, rfl, rfl, h0, r0⟩ := trodAll_cons hA
  obtain ⟨v1, vs1, d1, ds1, p1, q1, rfl, rfl, rfl, h1, r1⟩ := trodAll_cons r0
  obtain ⟨rfl, rfl, rfl⟩ := trodAll_nil r1
  obtain rfl : args = #[v0, v1] := by cases args; simp_all
  obtain ⟨rfl, rfl⟩ := trodVars_none hV
  obtain ⟨what, rfl, rfl, rfl, w_what⟩ := open_int Try.underlying3 (hval 0 3 v0 rfl rfl) h0
  have R_what : i64ok what := by simpa [i64ok, Lit.wf, IntKind.min, IntKind.max, IntKind.signed, IntKind.bits] using w_what
  obtain ⟨s_name, rfl⟩ := okWide_string Try.underlying9 (hval 1 9 v1 rfl rfl)
  obtain ⟨name, e_name, R_name⟩ := (opens_str Try.underlying9).one h1
  obtain rfl : s_name = ⟨name.toArray⟩ := Value.string.inj (show Value.string s_name = gs name by simpa [Value.cells] using e_name)
  refine (Fn.callsT (W := W) (ScopeFaults_ok what name R_name hMx)).mono ?_
  rintro e W1 ⟨rfl, hB⟩
  have done : Rows.scopeFaultsSpec.post enc Try.prog Try.f3 false true false false W #[.int .i64 what, gs name] (.bool true) W1 := law_done (P := Try.prog) (tb := 4) hW' rfl rfl rfl rfl (by kernel_rfl) (by kernel_rfl) laidOut hread hB
  exact ⟨_, rfl, done⟩
theorem holds : Rows.ScopeFaultsSaid :=
  OpenClaim.holds_of_wide 3 Try.f3 rfl rfl rfl rfl rfl rfl rfl ⟨rfl, rfl, rfl, rfl, rfl⟩ rfl rfl rfl rfl rfl (by kernel_rfl) Try.func3 (by kernel_rfl)
    (of_decide_eq_true (by kernel_rfl)) (by unfold Func.isWrapper; first | (rw [if_pos (by decide +kernel)]; kernel_rfl) | (rw [if_neg (by decide +kernel)]; exact ⟨rfl, rfl⟩))
    (fun os started H enc _ => lifted os started H enc)
end Go.Proofs.Ytjnlogbbcceaoaa.ScopeFaults
