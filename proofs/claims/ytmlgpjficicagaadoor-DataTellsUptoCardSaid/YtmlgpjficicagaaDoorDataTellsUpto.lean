/-
  The law DataTells holds for every input of at most 1048576 values and letters: the call returns true and leaves its arguments as they were. The listed variables of the library hold what their initialisers lay; the card ties that to the text.
-/
import Derived.Test.YtmlgpjficicagaaDoorRows
import Derived.Test.YtmlgpjficicagaaDoorCards
import Derived.Test.YtmlgpjficicagaaDoorTie
import Derived.Test.YtmlgpjficicagaaDoorLaw
import Derived.Test.YtmlgpjficicagaaDoorWL3d
import Derived.Test.YtmlgpjficicagaaDoorOpen
import Derived.Test.YtmlgpjficicagaaDoorBulk
import Derived.Lib.LaidU8
import Derived.ProofKit
import Derived.LaidMore
import Derived.Stop.LaidErr
import Derived.SevenTiedAt
import Derived.Deep.DeepHandedRow
import Derived.Deep.DeepWitnessRowRef
import Derived.Stop.Joined
set_option linter.unusedVariables false
namespace Go.Proofs.YtmlgpjficicagaaDoor.DataTellsUpto
open Go Go.Sx Go.ChangeShapes Go.WideShapes Go.ChangeAt Go.RowKit
theorem own : ownKnob Tryd.prog.godebug = none := by kernel_rfl
theorem laidOut : laidOutB Tryd.prog = true := by kernel_rfl
theorem hread : ∀ t ∈ Tryd.f6.params.toList, Tryd.prog.readableRec t = true ∧ t < Tryd.prog.types.size := by
  intro t ht
  have := List.all_eq_true.1 (show (Tryd.f6.params.toList.all fun t => Tryd.prog.readableRec t && decide (t < Tryd.prog.types.size)) = true by kernel_rfl) t ht
  simp only [Bool.and_eq_true, decide_eq_true_eq] at this
  exact this
theorem row_err (u : TypeId) (h : Tryd.prog.typeName? 3 u = some "*errors.errorString") : u = 123 :=
  typeName_ptr_named (nm := "errors.errorString") (by rw [show "*" ++ "errors.errorString" = "*errors.errorString" by decide]; kernel_rfl) (by kernel_rfl) (by decide) u (by rw [show "*" ++ "errors.errorString" = "*errors.errorString" by decide]; exact h)
theorem libG_of {W : World} (hL0 : laidMetH Tryd.prog Rows.dataTellsUptoRow.laid W) : LibG (hpOf W) := by
  have hL : laidMet Tryd.prog Rows.dataTellsUptoRow.laid W := by rw [MakeChecks.laidMetH_plain _ _ _ (by kernel_rfl)] at hL0; exact hL0
  obtain ⟨a_hS, s_hS, hv_hS, -, -, -⟩ := laid_sentinel (hL.tail.tail.tail.tail) (show Tryd.prog.globalNamed "strconv.ErrSyntax" = some 4 by kernel_rfl) (show (Tryd.prog.globals[4]?).map (·.type) = some 64 by kernel_rfl) Tryd.underlying64 row_err Tryd.underlying123 Tryd.underlying125 rfl rfl Tryd.underlying9 (show Tryd.prog.cellsOf 125 = 1 by kernel_rfl) (show Tryd.prog.cellsOf 9 = 1 by kernel_rfl)
  obtain ⟨a_hR, s_hR, hv_hR, -, -, -⟩ := laid_sentinel (hL.tail.tail.tail) (show Tryd.prog.globalNamed "strconv.ErrRange" = some 5 by kernel_rfl) (show (Tryd.prog.globals[5]?).map (·.type) = some 64 by kernel_rfl) Tryd.underlying64 row_err Tryd.underlying123 Tryd.underlying125 rfl rfl Tryd.underlying9 (show Tryd.prog.cellsOf 125 = 1 by kernel_rfl) (show Tryd.prog.cellsOf 9 = 1 by kernel_rfl)
  exact ⟨⟨_, _, by have h0 := World.var?_cell (show Tryd.prog.globalNamed "strconv.ErrSyntax" = some 4 by kernel_rfl) hv_hS 0; simpa [hpOf] using h0⟩, ⟨_, _, by have h0 := World.var?_cell (show Tryd.prog.globalNamed "strconv.ErrRange" = some 5 by kernel_rfl) hv_hR 0; simpa [hpOf] using h0⟩⟩
theorem e_p10 : (Rows.laid_internal_strconv_uint64pow10 : DataW Unit) = Lib.tabData .u64 Lib.pow10Tab := by kernel_rfl
theorem e_spc : (Rows.laid_strings_asciiSpace : DataW Unit) = Lib.tabData .u8 Lib.asciiSpaceTab := by kernel_rfl
theorem e_wht : (Rows.laid_unicode_White_Space : DataW Unit) = Lib.whiteData := by kernel_rfl
theorem tabs_of {W : World} (hL0 : laidMetH Tryd.prog Rows.dataTellsUptoRow.laid W) : Tabs W := by
  have hL : laidMet Tryd.prog Rows.dataTellsUptoRow.laid W := by rw [MakeChecks.laidMetH_plain _ _ _ (by kernel_rfl)] at hL0; exact hL0
  refine ⟨?_, ?_, ?_⟩
  · have h := hL.tail.tail
    rw [e_p10] at h
    exact Lib.tabIs_of_head (g := (Tryd.prog.globalNamed "internal/strconv.uint64pow10").getD 0) (by kernel_rfl) (by kernel_rfl) Tryd.underlying104 Tryd.underlying75 (by kernel_rfl) (by kernel_rfl) h
  · have h := hL.tail.tail.tail.tail.tail.tail
    rw [e_spc] at h
    exact Lib.tabIs_of_head (g := (Tryd.prog.globalNamed "strings.asciiSpace").getD 0) (by kernel_rfl) (by kernel_rfl) Tryd.underlying78 Tryd.underlying5 (by kernel_rfl) (by kernel_rfl) h
  · refine whiteTab_of_reads Tryd.lays199 ⟨by kernel_rfl, by kernel_rfl, by kernel_rfl, by kernel_rfl, by kernel_rfl, by kernel_rfl, by kernel_rfl, by kernel_rfl⟩ (Lib.laidMet.reads hL ?_)
    rw [← e_wht]
    exact (.tail _ (.tail _ (.tail _ (.tail _ (.tail _ (.head _))))))
set_option maxRecDepth 100000 in
theorem contract (H : Type) (enc : TypeId × Value → H) (W : World) (base : Nat) (args : Array Value) (ds gs0 : List (DataW H)) (before : List MemPlace)
    (hval0 : ∀ (j : Nat) t v, Tryd.f6.params[j]? = some t → args[j]? = some v → Value.okWide Tryd.prog W .any base t v)
    (hW : DataW.Whole enc Tryd.prog Tryd.f6.params.toList Rows.dataTellsSpec.vars false W args.toList ds gs0 before) (hL : laidMetH Tryd.prog Rows.dataTellsUptoRow.laid W) (hk : Rows.uptoSmall H (ds ++ gs0) = true) :
    Calls Tryd.prog 6 args W fun e W' => ∃ v, e = .returned v ∧ Rows.dataTellsSpec.post enc Tryd.prog Tryd.f6 false true false false W args v W' := by
  have hval : ∀ (j : Nat) t v, Tryd.f6.params[j]? = some t → args[j]? = some v → Value.okWide Tryd.prog W .any base t v := hval0
  have hG : LibG (hpOf W) := libG_of hL
  have hW' := hW
  obtain ⟨p, q, hA0, hV, hpq, hfz, hnd⟩ := hW
  have hA : DataW.TrodAll enc Tryd.prog W 0 (fun _ => true) true Tryd.f6.params.toList args.toList ds p := hA0
  rw [Tryd.params6] at hA hval
  obtain ⟨v0, vs0, d0, ds0, p0, q0, hargs, rfl, rfl, h0, r0⟩ := trodAll_cons hA
  obtain ⟨v1, vs1, d1, ds1, p1, q1, rfl, rfl, rfl, h1, r1⟩ := trodAll_cons r0
  obtain ⟨v2, vs2, d2, ds2, p2, q2, rfl, rfl, rfl, h2, r2⟩ := trodAll_cons r1
  obtain ⟨rfl, rfl, rfl⟩ := trodAll_nil r2
  obtain rfl : args = #[v0, v1, v2] := by cases args; simp_all
  obtain ⟨rfl, rfl⟩ := trodVars_none hV
  obtain ⟨cs_a, ev_a, _⟩ := okWide_struct Tryd.underlying26 (hval 0 26 v0 rfl rfl)
  obtain ⟨⟨a, lv_a⟩, e_a, R_a⟩ := opens_Value.one h0
  obtain rfl : v0 = .agg (a.cells lv_a).toArray := by rw [ev_a] at e_a ⊢; exact congrArg Value.agg (by rw [← show cs_a.toList = (a.cells lv_a) from e_a])
  have B_a := bulk_val h0 (bulk_of (i := 0) hk rfl)
  obtain ⟨cs_b, ev_b, _⟩ := okWide_struct Tryd.underlying26 (hval 1 26 v1 rfl rfl)
  obtain ⟨⟨b, lv_b⟩, e_b, R_b⟩ := opens_Value.one h1
  obtain rfl : v1 = .agg (b.cells lv_b).toArray := by rw [ev_b] at e_b ⊢; exact congrArg Value.agg (by rw [← show cs_b.toList = (b.cells lv_b) from e_b])
  have B_b := bulk_val h1 (bulk_of (i := 1) hk rfl)
  obtain ⟨s_s, rfl⟩ := okWide_string Tryd.underlying9 (hval 2 9 v2 rfl rfl)
  obtain ⟨s, e_s, R_s⟩ := (opens_str Tryd.underlying9).one h2
  obtain rfl : s_s = ⟨s.toArray⟩ := Value.string.inj (show Value.string s_s = gs s by simpa [Value.cells] using e_s)
  have hT : Tabs W := tabs_of hL
  refine (FnGS.calls (W := W) hT (DataTells_ok s R_a.1 ⟨R_a.2.1.1.2, R_a.2.2⟩ (Nat.le_trans B_a (by decide)) R_b.1 hG)).mono ?_
  rintro e W1 ⟨rfl, hB⟩
  have done : Rows.dataTellsSpec.post enc Tryd.prog Tryd.f6 false true false false W #[.agg (a.cells lv_a).toArray, .agg (b.cells lv_b).toArray, gs s] (.bool true) W1 := law_done (P := Tryd.prog) (tb := 4) hW' rfl rfl rfl rfl (by kernel_rfl) (by kernel_rfl) laidOut hread hB
  exact ⟨_, rfl, done⟩
theorem laid_met (os : Os) : laidMet Tryd.prog Rows.dataTellsUptoRow.laid ((World.doorLaid Tryd.prog 400 os).forCall (fun _ _ => 0) ⟨#[], #[.agg #[.int .i64 0, .int .i64 0, .string ByteArray.empty, .slice none 0 0], .agg #[.int .i64 0, .int .i64 0, .string ByteArray.empty, .slice none 0 0], .string ByteArray.empty], []⟩).memory :=
  laidMet_of_run' 8 (by kernel_rfl) (by kernel_rfl)
theorem reads (os : Os) {H : Type} (enc : TypeId × Value → H) : ∃ places, DataW.whole enc Tryd.prog ((World.doorLaid Tryd.prog 400 os).forCall (fun _ _ => 0) ⟨#[], #[.agg #[.int .i64 0, .int .i64 0, .string ByteArray.empty, .slice none 0 0], .agg #[.int .i64 0, .int .i64 0, .string ByteArray.empty, .slice none 0 0], .string ByteArray.empty], []⟩).memory Tryd.f6.params.toList Rows.dataTellsSpec.vars false #[.agg #[.int .i64 0, .int .i64 0, .string ByteArray.empty, .slice none 0 0], .agg #[.int .i64 0, .int .i64 0, .string ByteArray.empty, .slice none 0 0], .string ByteArray.empty].toList 8 = some ([.agg [.lit (.int .i64 0), .lit (.int .i64 0), .lit (.string []), .nil], .agg [.lit (.int .i64 0), .lit (.int .i64 0), .lit (.string []), .nil], .lit (.string [])], [], places) :=
  ⟨[], by kernel_rfl⟩
set_option maxRecDepth 100000 in
theorem lifted (os : Os) (started : os.Started) (H : Type) (enc : TypeId × Value → H) (F : Stop.Interp) :
    ReturnsInHanded {} Tryd.checked os 6 .any ((Rows.OpenSpec.upto Rows.dataTellsSpec).preRow enc Tryd.prog Tryd.f6 Rows.dataTellsUptoRow.domain false Rows.dataTellsUptoRow.laid) (((Rows.OpenSpec.upto Rows.dataTellsSpec).at F).post enc Tryd.prog Tryd.f6 false true false false) := by
  obtain ⟨places, hx⟩ := reads os enc
  refine returnsInHanded_of_row (C := Tryd.checked) (s := (Rows.OpenSpec.upto Rows.dataTellsSpec)) own started (by kernel_rfl) Tryd.func6
    (witness_row_atRef (enc := enc) (C := Tryd.checked) false (World.doorLaid Tryd.prog 400 os) #[.agg #[.int .i64 0, .int .i64 0, .string ByteArray.empty, .slice none 0 0], .agg #[.int .i64 0, .int .i64 0, .string ByteArray.empty, .slice none 0 0], .string ByteArray.empty] rfl (by kernel_rfl) (by kernel_rfl) (by kernel_rfl)
      (OpenSpec.preRow_of_cond 8 hx (by kernel_rfl) (fun k hk => by cases hk; kernel_rfl) (by kernel_rfl) (laid_met os))) ?_
  intro W base args ds gs before hval hW _ hcond _ hL _ _
  exact contract H enc W base args ds gs before hval hW hL (hcond _ rfl)
theorem said : Rows.DataTellsUptoSaid :=
  OpenClaim.holds_of_cond 6 Tryd.f6 rfl rfl rfl rfl rfl rfl rfl ⟨rfl, rfl, rfl, rfl, rfl⟩ rfl rfl rfl rfl rfl (by kernel_rfl) Tryd.func6 (by kernel_rfl)
    (of_decide_eq_true (by kernel_rfl)) (by unfold Func.isWrapper; first | (rw [if_pos (by decide +kernel)]; kernel_rfl) | (rw [if_neg (by decide +kernel)]; exact ⟨rfl, rfl⟩))
    (fun os started H enc _ F => by rw [OpenClaim.pre_eq_preRow]; exact lifted os started H enc F)
theorem plain (f : FuncId) (fn : Func) (hf : Tryd.pinned.checked.prog.funcNamed "repartee/reparteelaw3.DataTells" = some f) (hfn : Tryd.pinned.checked.prog.funcs[f]? = some fn) :
    true = Tryd.pinned.checked.prog.looks [] ∧ ∀ (j : Nat) t, fn.params[j]? = some t → Tryd.pinned.checked.prog.wantsStandIn t = false := by
  obtain rfl : f = 6 := Option.some.inj ((show Tryd.prog.funcNamed "repartee/reparteelaw3.DataTells" = some 6 by kernel_rfl).symm.trans hf) |>.symm
  obtain rfl : fn = Tryd.f6 := (Option.some.inj (Tryd.func6.symm.trans hfn)).symm
  refine ⟨by kernel_rfl, fun j t ht => ?_⟩
  rw [Tryd.params6] at ht
  have hm : t ∈ [26, 26, 9] := by simpa using Array.mem_of_getElem? ht
  have hall : ([26, 26, 9].all fun u => !Tryd.prog.wantsStandIn u) = true := by kernel_rfl
  exact (show Tryd.prog.wantsStandIn t = false by simpa using List.all_eq_true.1 hall t hm)
theorem holds : Rows.DataTellsUptoCardSaid :=
  Claim7.holds_tied_plain_at .later [] _ _ _ _ said (fun _ h => by cases h) (by kernel_rfl) (fun _ h => by cases h) dataTellsUpto_row_tie rfl ⟨rfl, rfl⟩ (by kernel_rfl) rfl plain (by kernel_rfl)
end Go.Proofs.YtmlgpjficicagaaDoor.DataTellsUpto
