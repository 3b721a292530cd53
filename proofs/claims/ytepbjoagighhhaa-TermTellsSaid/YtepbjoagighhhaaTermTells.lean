/-
  The law TermTells holds for every input: the call returns true and leaves its arguments as they were. No further condition.
-/
import Derived.Test.YtepbjoagighhhaaRows
import Derived.Test.YtepbjoagighhhaaLaw
import Derived.Test.YtepbjoagighhhaaWL4i
import Derived.Test.YtepbjoagighhhaaOpen
import Derived.ProofKit
set_option linter.unusedVariables false
namespace Go.Proofs.Ytepbjoagighhhaa.TermTells
open Go Go.Sx Go.ChangeShapes Go.WideShapes Go.ChangeAt Go.RowKit
theorem own : ownKnob Try.prog.godebug = none := by kernel_rfl
theorem laidOut : laidOutB Try.prog = true := by kernel_rfl
theorem hread : ∀ t ∈ Try.f9.params.toList, Try.prog.readableRec t = true ∧ t < Try.prog.types.size := by
  intro t ht
  have := List.all_eq_true.1 (show (Try.f9.params.toList.all fun t => Try.prog.readableRec t && decide (t < Try.prog.types.size)) = true by kernel_rfl) t ht
  simp only [Bool.and_eq_true, decide_eq_true_eq] at this
  exact this
set_option maxRecDepth 100000 in
theorem lifted (os : Os) (started : os.Started) (H : Type) (enc : TypeId × Value → H) :
    ReturnsInHanded {} Try.checked os 9 .any (Rows.termTellsSpec.pre6 enc Try.prog Try.f9 Rows.termTellsRow.domain false) (Rows.termTellsSpec.post enc Try.prog Try.f9 false true false false) := by
  refine returnsInHanded_of_change (C := Try.checked) own started (by kernel_rfl) Try.func9
    (ChangeSpec.witness6 (enc := enc) (C := Try.checked) false ⟨#[], #[.slice none 0 0, .int .i64 0, .slice none 0 0], []⟩ 8 (by kernel_rfl) (by kernel_rfl) (by kernel_rfl) (by kernel_rfl)) ?_
  intro W base args ds gs before hval0 hW hcnd _
  have hval : ∀ (j : Nat) t v, Try.f9.params[j]? = some t → args[j]? = some v → Value.okWide Try.prog W .any base t v := hval0
  have hW' := hW
  obtain ⟨p, q, hA0, hV, hpq, hfz, hnd⟩ := hW
  have hA : DataW.TrodAll enc Try.prog W 0 (fun _ => true) true Try.f9.params.toList args.toList ds p := hA0
  rw [Try.params9] at hA hval
  obtain ⟨v0, vs0, d0, ds0, p0, q0, hargs, rfl, rfl, h0, r0⟩ := trodAll_cons hA
  obtain ⟨v1, vs1, d1, ds1, p1, q1, rfl, rfl, rfl, h1, r1⟩ := trodAll_cons r0
  obtain ⟨v2, vs2, d2, ds2, p2, q2, rfl, rfl, rfl, h2, r2⟩ := trodAll_cons r1
  obtain ⟨rfl, rfl, rfl⟩ := trodAll_nil r2
  obtain rfl : args = #[v0, v1, v2] := by cases args; simp_all
  obtain ⟨rfl, rfl⟩ := trodVars_none hV
  obtain ⟨a_l, len_l, cap_l, ev_l⟩ := okWide_slice Try.underlying22 (hval 0 22 v0 rfl rfl)
  obtain ⟨⟨u_l, l⟩, e_l, R_l, K_l⟩ := (opens_slice Try.underlying22 (k := 6) (by kernel_rfl) (by decide) opens_Term).one h0
  obtain rfl : v0 = u_l := by rw [ev_l] at e_l ⊢; simpa [Value.cells] using e_l
  simp only at R_l K_l
  obtain ⟨root, rfl, rfl, rfl, w_root⟩ := open_int Try.underlying3 (hval 1 3 v1 rfl rfl) h1
  have R_root : i64ok root := by simpa [i64ok, Lit.wf, IntKind.min, IntKind.max, IntKind.signed, IntKind.bits] using w_root
  obtain ⟨a_env, len_env, cap_env, ev_env⟩ := okWide_slice Try.underlying23 (hval 2 23 v2 rfl rfl)
  obtain ⟨⟨u_env, env⟩, e_env, R_env, K_env⟩ := (opens_slice Try.underlying23 (k := 5) (by kernel_rfl) (by decide) opens_Bind).one h2
  obtain rfl : v2 = u_env := by rw [ev_env] at e_env ⊢; simpa [Value.cells] using e_env
  simp only at R_env K_env
  refine (FnS.calls (W := W) (TermTells_ok root R_l R_env (fun b hb => (K_env b hb).1) (fun t ht => (K_l t ht).1.1))).mono ?_
  rintro e W1 ⟨rfl, hB⟩
  have done : Rows.termTellsSpec.post enc Try.prog Try.f9 false true false false W #[v0, .int .i64 root, v2] (.bool true) W1 := law_done (P := Try.prog) (tb := 4) hW' rfl rfl rfl rfl (by kernel_rfl) (by kernel_rfl) laidOut hread hB
  exact ⟨_, rfl, done⟩
theorem holds : Rows.TermTellsSaid :=
  OpenClaim.holds_of_wide 9 Try.f9 rfl rfl rfl rfl rfl rfl rfl ⟨rfl, rfl, rfl, rfl, rfl⟩ rfl rfl rfl rfl rfl (by kernel_rfl) Try.func9 (by kernel_rfl)
    (of_decide_eq_true (by kernel_rfl)) (by unfold Func.isWrapper; first | (rw [if_pos (by decide +kernel)]; kernel_rfl) | (rw [if_neg (by decide +kernel)]; exact ⟨rfl, rfl⟩))
    (fun os started H enc _ => lifted os started H enc)
end Go.Proofs.Ytepbjoagighhhaa.TermTells
