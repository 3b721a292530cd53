/-
  The law DataKinds holds for every input: the call returns true and leaves its arguments as they were. The listed variables of the library hold what their initialisers lay; the card ties that to the text.
-/
import Derived.Test.YtmlgpjficicagaaDoorRows
import Derived.Test.YtmlgpjficicagaaDoorCards
import Derived.Test.YtmlgpjficicagaaDoorTie
import Derived.Test.YtmlgpjficicagaaDoorLaw
import Derived.Test.YtmlgpjficicagaaDoorWL3c
import Derived.Test.YtmlgpjficicagaaDoorOpen
import Derived.Lib.LaidU8
import Derived.ProofKit
import Derived.LaidMore
import Derived.Stop.LaidErr
import Derived.SevenTiedAt
import Derived.Deep.DeepHandedRow
import Derived.Deep.DeepWitnessRowRef
import Derived.Stop.Joined
set_option linter.unusedVariables false
namespace Go.Proofs.YtmlgpjficicagaaDoor.DataKinds
open Go Go.Sx Go.ChangeShapes Go.WideShapes Go.ChangeAt Go.RowKit
theorem own : ownKnob Tryd.prog.godebug = none := by kernel_rfl
theorem laidOut : laidOutB Tryd.prog = true := by kernel_rfl
theorem hread : ∀ t ∈ Tryd.f5.params.toList, Tryd.prog.readableRec t = true ∧ t < Tryd.prog.types.size := by
  intro t ht
  have := List.all_eq_true.1 (show (Tryd.f5.params.toList.all fun t => Tryd.prog.readableRec t && decide (t < Tryd.prog.types.size)) = true by kernel_rfl) t ht
  simp only [Bool.and_eq_true, decide_eq_true_eq] at this
  exact this
theorem row_err (u : TypeId) (h : Tryd.prog.typeName? 3 u = some "*errors.errorString") : u = 123 :=
  typeName_ptr_named (nm := "errors.errorString") (by rw [show "*" ++ "errors.errorString" = "*errors.errorString" by decide]; kernel_rfl) (by kernel_rfl) (by decide) u (by rw [show "*" ++ "errors.errorString" = "*errors.errorString" by decide]; exact h)
theorem libG_of {W : World} (hL0 : laidMetH Tryd.prog Rows.dataKindsRow.laid W) : LibG (hpOf W) := by
  have hL : laidMet Tryd.prog Rows.dataKindsRow.laid W := by rw [MakeChecks.laidMetH_plain _ _ _ (by kernel_rfl)] at hL0; exact hL0
  obtain ⟨a_hS, s_hS, hv_hS, -, -, -⟩ := laid_sentinel (hL.tail.tail.tail.tail) (show Tryd.prog.globalNamed "strconv.ErrSyntax" = some 4 by kernel_rfl) (show (Tryd.prog.globals[4]?).map (·.type) = some 64 by kernel_rfl) Tryd.underlying64 row_err Tryd.underlying123 Tryd.underlying125 rfl rfl Tryd.underlying9 (show Tryd.prog.cellsOf 125 = 1 by kernel_rfl) (show Tryd.prog.cellsOf 9 = 1 by kernel_rfl)
  obtain ⟨a_hR, s_hR, hv_hR, -, -, -⟩ := laid_sentinel (hL.tail.tail.tail) (show Tryd.prog.globalNamed "strconv.ErrRange" = some 5 by kernel_rfl) (show (Tryd.prog.globals[5]?).map (·.type) = some 64 by kernel_rfl) Tryd.underlying64 row_err Tryd.underlying123 Tryd.underlying125 rfl rfl Tryd.underlying9 (show Tryd.prog.cellsOf 125 = 1 by kernel_rfl) (show Tryd.prog.cellsOf 9 = 1 by kernel_rfl)
  exact ⟨⟨_, _, by have h0 := World.var?_cell (show Tryd.prog.globalNamed "strconv.ErrSyntax" = some 4 by kernel_rfl) hv_hS 0; simpa [hpOf] using h0⟩, ⟨_, _, by have h0 := World.var?_cell (show Tryd.prog.globalNamed "strconv.ErrRange" = some 5 by kernel_rfl) hv_hR 0; simpa [hpOf] using h0⟩⟩
theorem e_p10 : (Rows.laid_internal_strconv_uint64pow10 : DataW Unit) = Lib.tabData .u64 Lib.pow10Tab := by kernel_rfl
theorem e_spc : (Rows.laid_strings_asciiSpace : DataW Unit) = Lib.tabData .u8 Lib.asciiSpaceTab := by kernel_rfl
theorem e_wht : (Rows.laid_unicode_White_Space : DataW Unit) = Lib.whiteData := by kernel_rfl
theorem tabs_of {W : World} (hL0 : laidMetH Tryd.prog Rows.dataKindsRow.laid W) : Tabs W := by
  have hL : laidMet Tryd.prog Rows.dataKindsRow.laid W := by rw [MakeChecks.laidMetH_plain _ _ _ (by kernel_rfl)] at hL0; exact hL0
  refine ⟨?_, ?_, ?_⟩
  · have h := hL.tail.tail
    rw [e_p10] at h
    exact Lib.tabIs_of_head (g := (Tryd.prog.globalNamed "internal/strconv.uint64pow10").getD 0) (by kernel_rfl) (by kernel_rfl) Tryd.underlying104 Tryd.underlying75 (by kernel_rfl) (by kernel_rfl) h
  · have h := hL.tail.tail.tail.tail.tail.tail
    rw [e_spc] at h
    exact Lib.tabIs_of_head (g := (Tryd.prog.globalNamed "strings.asciiSpace").getD 0) (by kernel_rfl) (by kernel_rfl) Tryd.underlying78 Tryd.underlying5 (by kernel_rfl) (by kernel_rfl) h
  · refine whiteTab_of_reads Tryd.lays199 ⟨by kernel_rfl, by kernel_rfl, by kernel_rfl, by kernel_rfl, by kernel_rfl, by kernel_rfl, by kernel_rfl, by kernel_rfl⟩ (Lib.laidMet.reads hL ?_)
    rw [← e_wht]
    exact (.tail _ (.tail _ (.tail _ (.tail _ (.tail _ (.head _))))))
set_option maxRecDepth 100000 in
theorem contract (H : Type) (enc : TypeId × Value → H) (W : World) (base : Nat) (args : Array Value) (ds gs0 : List (DataW H)) (before : List MemPlace)
    (hval0 : ∀ (j : Nat) t v, Tryd.f5.params[j]? = some t → args[j]? = some v → Value.okWide Tryd.prog W .any base t v)
    (hW : DataW.Whole enc Tryd.prog Tryd.f5.params.toList Rows.dataKindsSpec.vars false W args.toList ds gs0 before) (hL : laidMetH Tryd.prog Rows.dataKindsRow.laid W) :
    Calls Tryd.prog 5 args W fun e W' => ∃ v, e = .returned v ∧ Rows.dataKindsSpec.post enc Tryd.prog Tryd.f5 false true false false W args v W' := by
  have hval : ∀ (j : Nat) t v, Tryd.f5.params[j]? = some t → args[j]? = some v → Value.okWide Tryd.prog W .any base t v := hval0
  have hG : LibG (hpOf W) := libG_of hL
  have hW' := hW
  obtain ⟨p, q, hA0, hV, hpq, hfz, hnd⟩ := hW
  have hA : DataW.TrodAll enc Tryd.prog W 0 (fun _ => true) true Tryd.f5.params.toList args.toList ds p := hA0
  rw [Tryd.params5] at hA hval
  obtain ⟨v0, vs0, d0, ds0, p0, q0, hargs, rfl, rfl, h0, r0⟩ := trodAll_cons hA
  obtain ⟨v1, vs1, d1, ds1, p1, q1, rfl, rfl, rfl, h1, r1⟩ := trodAll_cons r0
  obtain ⟨rfl, rfl, rfl⟩ := trodAll_nil r1
  obtain rfl : args = #[v0, v1] := by cases args; simp_all
  obtain ⟨rfl, rfl⟩ := trodVars_none hV
  obtain ⟨cs_v, ev_v, _⟩ := okWide_struct Tryd.underlying26 (hval 0 26 v0 rfl rfl)
  obtain ⟨⟨v, lv_v⟩, e_v, R_v⟩ := opens_Value.one h0
  obtain rfl : v0 = .agg (v.cells lv_v).toArray := by rw [ev_v] at e_v ⊢; exact congrArg Value.agg (by rw [← show cs_v.toList = (v.cells lv_v) from e_v])
  obtain ⟨what, rfl, rfl, rfl, w_what⟩ := open_int Tryd.underlying3 (hval 1 3 v1 rfl rfl) h1
  have R_what : i64ok what := by simpa [i64ok, Lit.wf, IntKind.min, IntKind.max, IntKind.signed, IntKind.bits] using w_what
  have hT : Tabs W := tabs_of hL
  refine (FnGS.calls (W := W) hT (DataKinds_ok what R_v.1 ⟨R_v.2.1.1.2, R_v.2.2⟩ hG)).mono ?_
  rintro e W1 ⟨rfl, hB⟩
  have done : Rows.dataKindsSpec.post enc Tryd.prog Tryd.f5 false true false false W #[.agg (v.cells lv_v).toArray, .int .i64 what] (.bool true) W1 := law_done (P := Tryd.prog) (tb := 4) hW' rfl rfl rfl rfl (by kernel_rfl) (by kernel_rfl) laidOut hread hB
  exact ⟨_, rfl, done⟩
theorem laid_met (os : Os) : laidMet Tryd.prog Rows.dataKindsRow.laid ((World.doorLaid Tryd.prog 400 os).forCall (fun _ _ => 0) ⟨#[], #[.agg #[.int .i64 0, .int .i64 0, .string ByteArray.empty, .slice none 0 0], .int .i64 0], []⟩).memory :=
  laidMet_of_run' 8 (by kernel_rfl) (by kernel_rfl)
theorem reads (os : Os) {H : Type} (enc : TypeId × Value → H) : ∃ places, DataW.whole enc Tryd.prog ((World.doorLaid Tryd.prog 400 os).forCall (fun _ _ => 0) ⟨#[], #[.agg #[.int .i64 0, .int .i64 0, .string ByteArray.empty, .slice none 0 0], .int .i64 0], []⟩).memory Tryd.f5.params.toList Rows.dataKindsSpec.vars false #[.agg #[.int .i64 0, .int .i64 0, .string ByteArray.empty, .slice none 0 0], .int .i64 0].toList 8 = some ([.agg [.lit (.int .i64 0), .lit (.int .i64 0), .lit (.string []), .nil], .lit (.int .i64 0)], [], places) :=
  ⟨[], by kernel_rfl⟩
set_option maxRecDepth 100000 in
theorem lifted (os : Os) (started : os.Started) (H : Type) (enc : TypeId × Value → H) (F : Stop.Interp) :
    ReturnsInHanded {} Tryd.checked os 5 .any ((OpenSpec.ofChange Rows.dataKindsSpec).preRow enc Tryd.prog Tryd.f5 Rows.dataKindsRow.domain false Rows.dataKindsRow.laid) (((OpenSpec.ofChange Rows.dataKindsSpec).at F).post enc Tryd.prog Tryd.f5 false true false false) := by
  obtain ⟨places, hx⟩ := reads os enc
  refine returnsInHanded_of_row (C := Tryd.checked) (s := (OpenSpec.ofChange Rows.dataKindsSpec)) own started (by kernel_rfl) Tryd.func5
    (witness_row_atRef (enc := enc) (C := Tryd.checked) false (World.doorLaid Tryd.prog 400 os) #[.agg #[.int .i64 0, .int .i64 0, .string ByteArray.empty, .slice none 0 0], .int .i64 0] rfl (by kernel_rfl) (by kernel_rfl) (by kernel_rfl)
      (OpenSpec.preRow_of_cond 8 hx (by kernel_rfl) (fun k hk => by cases hk) (by kernel_rfl) (laid_met os))) ?_
  intro W base args ds gs before hval hW _ hcond _ hL _ _
  exact contract H enc W base args ds gs before hval hW hL
theorem said : Rows.DataKindsSaid :=
  OpenClaim.holds_of_cond 5 Tryd.f5 rfl rfl rfl rfl rfl rfl rfl ⟨rfl, rfl, rfl, rfl, rfl⟩ rfl rfl rfl rfl rfl (by kernel_rfl) Tryd.func5 (by kernel_rfl)
    (of_decide_eq_true (by kernel_rfl)) (by unfold Func.isWrapper; first | (rw [if_pos (by decide +kernel)]; kernel_rfl) | (rw [if_neg (by decide +kernel)]; exact ⟨rfl, rfl⟩))
    (fun os started H enc _ F => by rw [OpenClaim.pre_eq_preRow]; exact lifted os started H enc F)
theorem plain (f : FuncId) (fn : Func) (hf : Tryd.pinned.checked.prog.funcNamed "repartee/reparteelaw3.DataKinds" = some f) (hfn : Tryd.pinned.checked.prog.funcs[f]? = some fn) :
    true = Tryd.pinned.checked.prog.looks [] ∧ ∀ (j : Nat) t, fn.params[j]? = some t → Tryd.pinned.checked.prog.wantsStandIn t = false := by
  obtain rfl : f = 5 := Option.some.inj ((show Tryd.prog.funcNamed "repartee/reparteelaw3.DataKinds" = some 5 by kernel_rfl).symm.trans hf) |>.symm
  obtain rfl : fn = Tryd.f5 := (Option.some.inj (Tryd.func5.symm.trans hfn)).symm
  refine ⟨by kernel_rfl, fun j t ht => ?_⟩
  rw [Tryd.params5] at ht
  have hm : t ∈ [26, 3] := by simpa using Array.mem_of_getElem? ht
  have hall : ([26, 3].all fun u => !Tryd.prog.wantsStandIn u) = true := by kernel_rfl
  exact (show Tryd.prog.wantsStandIn t = false by simpa using List.all_eq_true.1 hall t hm)
theorem holds : Rows.DataKindsCardSaid :=
  Claim7.holds_tied_plain_at .later [] _ _ _ _ said (fun _ h => by cases h) (by kernel_rfl) (fun _ h => by cases h) dataKinds_row_tie rfl ⟨rfl, rfl⟩ (by kernel_rfl) rfl plain (by kernel_rfl)
end Go.Proofs.YtmlgpjficicagaaDoor.DataKinds
