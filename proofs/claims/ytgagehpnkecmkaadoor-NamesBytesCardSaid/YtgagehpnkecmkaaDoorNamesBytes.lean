/-
  The law NamesBytes holds for every input: the call returns true and leaves its arguments as they were. The listed variables of the library hold what their initialisers lay; the card ties that to the text.
-/
import Derived.Test.YtgagehpnkecmkaaDoorRows
import Derived.Test.YtgagehpnkecmkaaDoorCards
import Derived.Test.YtgagehpnkecmkaaDoorTie
import Derived.Test.YtgagehpnkecmkaaDoorLaw
import Derived.Test.YtgagehpnkecmkaaDoorWL1b
import Derived.ProofKit
import Derived.LaidMore
import Derived.Stop.LaidErr
import Derived.SevenTiedAt
import Derived.Deep.DeepHandedRow
import Derived.Deep.DeepWitnessRowRef
import Derived.Stop.Joined
set_option linter.unusedVariables false
namespace Go.Proofs.YtgagehpnkecmkaaDoor.NamesBytes
open Go Go.Sx Go.ChangeShapes Go.WideShapes Go.ChangeAt Go.RowKit
theorem own : ownKnob Tryd.prog.godebug = none := by kernel_rfl
theorem laidOut : laidOutB Tryd.prog = true := by kernel_rfl
theorem hread : ∀ t ∈ Tryd.f3.params.toList, Tryd.prog.readableRec t = true ∧ t < Tryd.prog.types.size := by
  intro t ht
  have := List.all_eq_true.1 (show (Tryd.f3.params.toList.all fun t => Tryd.prog.readableRec t && decide (t < Tryd.prog.types.size)) = true by kernel_rfl) t ht
  simp only [Bool.and_eq_true, decide_eq_true_eq] at this
  exact this

set_option maxRecDepth 100000 in
theorem contract (H : Type) (enc : TypeId × Value → H) (W : World) (base : Nat) (args : Array Value) (ds gs0 : List (DataW H)) (before : List MemPlace)
    (hval0 : ∀ (j : Nat) t v, Tryd.f3.params[j]? = some t → args[j]? = some v → Value.okWide Tryd.prog W .any base t v)
    (hW : DataW.Whole enc Tryd.prog Tryd.f3.params.toList Rows.namesBytesSpec.vars false W args.toList ds gs0 before) (hL : laidMetH Tryd.prog Rows.namesBytesRow.laid W) :
    Calls Tryd.prog 3 args W fun e W' => ∃ v, e = .returned v ∧ Rows.namesBytesSpec.post enc Tryd.prog Tryd.f3 false true false false W args v W' := by
  have hval : ∀ (j : Nat) t v, Tryd.f3.params[j]? = some t → args[j]? = some v → Value.okWide Tryd.prog W .any base t v := hval0
  have hW' := hW
  obtain ⟨p, q, hA0, hV, hpq, hfz, hnd⟩ := hW
  have hA : DataW.TrodAll enc Tryd.prog W 0 (fun _ => true) true Tryd.f3.params.toList args.toList ds p := hA0
  rw [Tryd.params3] at hA hval
  obtain ⟨v0, vs0, d0, ds0, p0, q0, hargs, rfl, rfl, h0, r0⟩ := trodAll_cons hA
  obtain ⟨v1, vs1, d1, ds1, p1, q1, rfl, rfl, rfl, h1, r1⟩ := trodAll_cons r0
  obtain ⟨v2, vs2, d2, ds2, p2, q2, rfl, rfl, rfl, h2, r2⟩ := trodAll_cons r1
  obtain ⟨rfl, rfl, rfl⟩ := trodAll_nil r2
  obtain rfl : args = #[v0, v1, v2] := by cases args; simp_all
  obtain ⟨rfl, rfl⟩ := trodVars_none hV
  obtain ⟨s_s, rfl⟩ := okWide_string Tryd.underlying9 (hval 0 9 v0 rfl rfl)
  obtain ⟨s, e_s, R_s⟩ := (opens_str Tryd.underlying9).one h0
  obtain rfl : s_s = ⟨s.toArray⟩ := Value.string.inj (show Value.string s_s = gs s by simpa [Value.cells] using e_s)
  obtain ⟨at_, rfl, rfl, rfl, w_at_⟩ := open_int Tryd.underlying3 (hval 1 3 v1 rfl rfl) h1
  have R_at_ : i64ok at_ := by simpa [i64ok, Lit.wf, IntKind.min, IntKind.max, IntKind.signed, IntKind.bits] using w_at_
  obtain ⟨c, rfl, rfl, rfl, w_c⟩ := open_int Tryd.underlying5 (hval 2 5 v2 rfl rfl) h2
  have R_c : 0 ≤ c ∧ c ≤ 255 := by simpa [Lit.wf, IntKind.min, IntKind.max, IntKind.signed, IntKind.bits] using w_c
  obtain ⟨c8, rfl⟩ : ∃ x : UInt8, c = (x.toNat : Int) := ⟨UInt8.ofNat c.toNat, by simp; omega⟩
  refine (FnS.calls (W := W) (NamesBytes_ok s at_ c8 R_s)).mono ?_
  rintro e W1 ⟨rfl, hB⟩
  have done : Rows.namesBytesSpec.post enc Tryd.prog Tryd.f3 false true false false W #[gs s, .int .i64 at_, .int .u8 (c8.toNat : Int)] (.bool true) W1 := law_done (P := Tryd.prog) (tb := 4) hW' rfl rfl rfl rfl (by kernel_rfl) (by kernel_rfl) laidOut hread hB
  exact ⟨_, rfl, done⟩
theorem laid_met (os : Os) : laidMet Tryd.prog Rows.namesBytesRow.laid ((World.doorLaid Tryd.prog 400 os).forCall (fun _ _ => 0) ⟨#[], #[.string ByteArray.empty, .int .i64 0, .int .u8 0], []⟩).memory :=
  laidMet_of_run' 8 (by kernel_rfl) (by kernel_rfl)
theorem reads (os : Os) {H : Type} (enc : TypeId × Value → H) : ∃ places, DataW.whole enc Tryd.prog ((World.doorLaid Tryd.prog 400 os).forCall (fun _ _ => 0) ⟨#[], #[.string ByteArray.empty, .int .i64 0, .int .u8 0], []⟩).memory Tryd.f3.params.toList Rows.namesBytesSpec.vars false #[.string ByteArray.empty, .int .i64 0, .int .u8 0].toList 8 = some ([.lit (.string []), .lit (.int .i64 0), .lit (.int .u8 0)], [], places) :=
  ⟨[], by kernel_rfl⟩
set_option maxRecDepth 100000 in
theorem lifted (os : Os) (started : os.Started) (H : Type) (enc : TypeId × Value → H) (F : Stop.Interp) :
    ReturnsInHanded {} Tryd.checked os 3 .any ((OpenSpec.ofChange Rows.namesBytesSpec).preRow enc Tryd.prog Tryd.f3 Rows.namesBytesRow.domain false Rows.namesBytesRow.laid) (((OpenSpec.ofChange Rows.namesBytesSpec).at F).post enc Tryd.prog Tryd.f3 false true false false) := by
  obtain ⟨places, hx⟩ := reads os enc
  refine returnsInHanded_of_row (C := Tryd.checked) (s := (OpenSpec.ofChange Rows.namesBytesSpec)) own started (by kernel_rfl) Tryd.func3
    (witness_row_atRef (enc := enc) (C := Tryd.checked) false (World.doorLaid Tryd.prog 400 os) #[.string ByteArray.empty, .int .i64 0, .int .u8 0] rfl (by kernel_rfl) (by kernel_rfl) (by kernel_rfl)
      (OpenSpec.preRow_of_cond 8 hx (by kernel_rfl) (fun k hk => by cases hk) (by kernel_rfl) (laid_met os))) ?_
  intro W base args ds gs before hval hW _ hcond _ hL _ _
  exact contract H enc W base args ds gs before hval hW hL
theorem said : Rows.NamesBytesSaid :=
  OpenClaim.holds_of_cond 3 Tryd.f3 rfl rfl rfl rfl rfl rfl rfl ⟨rfl, rfl, rfl, rfl, rfl⟩ rfl rfl rfl rfl rfl (by kernel_rfl) Tryd.func3 (by kernel_rfl)
    (of_decide_eq_true (by kernel_rfl)) (by unfold Func.isWrapper; first | (rw [if_pos (by decide +kernel)]; kernel_rfl) | (rw [if_neg (by decide +kernel)]; exact ⟨rfl, rfl⟩))
    (fun os started H enc _ F => by rw [OpenClaim.pre_eq_preRow]; exact lifted os started H enc F)
theorem plain (f : FuncId) (fn : Func) (hf : Tryd.pinned.checked.prog.funcNamed "repartee/reparteelaw1.NamesBytes" = some f) (hfn : Tryd.pinned.checked.prog.funcs[f]? = some fn) :
    false = Tryd.pinned.checked.prog.looks [] ∧ ∀ (j : Nat) t, fn.params[j]? = some t → Tryd.pinned.checked.prog.wantsStandIn t = false := by
  obtain rfl : f = 3 := Option.some.inj ((show Tryd.prog.funcNamed "repartee/reparteelaw1.NamesBytes" = some 3 by kernel_rfl).symm.trans hf) |>.symm
  obtain rfl : fn = Tryd.f3 := (Option.some.inj (Tryd.func3.symm.trans hfn)).symm
  refine ⟨by kernel_rfl, fun j t ht => ?_⟩
  rw [Tryd.params3] at ht
  have hm : t ∈ [9, 3, 5] := by simpa using Array.mem_of_getElem? ht
  have hall : ([9, 3, 5].all fun u => !Tryd.prog.wantsStandIn u) = true := by kernel_rfl
  exact (show Tryd.prog.wantsStandIn t = false by simpa using List.all_eq_true.1 hall t hm)
theorem holds : Rows.NamesBytesCardSaid :=
  Claim7.holds_tied_plain_at .later [] _ _ _ _ said (fun _ h => by cases h) (by kernel_rfl) (fun _ h => by cases h) namesBytes_row_tie rfl ⟨rfl, rfl⟩ (by kernel_rfl) rfl plain (by kernel_rfl)
end Go.Proofs.YtgagehpnkecmkaaDoor.NamesBytes
