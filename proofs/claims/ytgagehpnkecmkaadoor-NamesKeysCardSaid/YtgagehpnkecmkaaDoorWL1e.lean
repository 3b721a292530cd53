import Derived.Test.YtgagehpnkecmkaaDoorWL1
set_option linter.unusedVariables false
set_option linter.unusedSimpArgs false
namespace Go.Sx
open Go Go.Proofs
set_option maxRecDepth 100000 in
set_option maxHeartbeats 4000000 in
theorem NamesKeys_ok {H : Hp} (k : Int) :
    FnS Tryd.prog 7 [.int .i64 k] H (.bool true) := by
  have hk0 : 0 ≤ (k % 18446744073709551616 % 39) := Int.emod_nonneg _ (by omega)
  have hk1 : (k % 18446744073709551616 % 39) < 39 := Int.emod_lt_of_pos _ (by omega)
  obtain ⟨x, hx⟩ := getSome (l := keyL) (i := (k % 18446744073709551616 % 39)) hk0 (by show _ < (39 : Int); omega)
  have hxm := List.mem_of_getElem? hx
  obtain ⟨hy1, hy2, hy3, hy4, hy5⟩ := key_facts hxm
  refine FnS.enter Tryd.func7 Tryd.ntmps7 rfl rfl (fun w0 => ?_)
  refine TC.seq ?_
  refine TC.region ?_
  refine TL.run (pr_pure rfl) rfl ?_
  refine TL.nil ?_
  refine TX.seqN ?_
  refine TC.seq ?_
  refine TC.seq ?_
  refine TC.region ?_
  refine TL.callS (enters rfl rfl rfl rfl) (first1_ok) rfl ?_
  refine TL.run (pr_pure rfl) rfl ?_
  refine TL.nil ?_
  refine TX.seqN ?_
  refine TC.cond rfl (fun c6 => ?_) (fun c6 => ?_)
  ·
    exact absurd c6 (by decide)
  ·
    refine TC.skip ?_
    refine TX.seqN ?_
    refine TC.seq ?_
    refine TC.region ?_
    refine TL.bslice (ds := (keyL.map gs)) rfl rfl (by kernel_rfl) rfl (fun b7 => ?_)
    refine TL.run (pr_pure rfl) rfl ?_
    refine TL.nil ?_
    refine TX.seqN ?_
    refine TC.seq ?_
    refine TC.region ?_
    refine TL.run (pr_pure rfl) rfl ?_
    refine TL.run (pr_pure rfl) rfl ?_
    refine TL.run (pr_conv rfl) rfl ?_
    refine TL.run (pr_pure rfl) rfl ?_
    refine TL.run (pr_lenS rfl rfl) rfl ?_
    refine TL.run (PR.to (pr_conv rfl) rfl) rfl ?_
    refine TL.run (pr_rem rfl rfl (by decide)) rfl ?_
    refine TL.run (PR.to (pr_conv rfl) (congrArg (Value.int .i64) (mod_conv k (m := 39) (by decide) (by decide)))) rfl ?_
    refine TL.run (pr_index rfl rfl (by omega) (by omega)) rfl ?_
    refine TL.run (pr_own1 rfl (.here _) (key_cell hk0 hx)) rfl ?_
    refine TL.run (pr_pure rfl) rfl ?_
    refine TL.nil ?_
    refine TX.seqN ?_
    refine TC.seq ?_
    refine TC.region ?_
    refine TL.run (pr_pure rfl) rfl ?_
    refine TL.run (pr_lenS rfl rfl) rfl ?_
    refine TL.run (pr_pure rfl) rfl ?_
    refine TL.run (pr_pure rfl) rfl ?_
    refine TL.gdY rfl rfl (pr_pure rfl) rfl ?_
    refine TL.callSY rfl rfl (enters rfl rfl rfl rfl) (n_Keyword_ok x) rfl ?_
    refine TL.run (pr_pure rfl) rfl ?_
    refine TL.run (pr_pure rfl) rfl ?_
    refine TL.split (s := 25) rfl (fun g25 => ?_) (fun g25 => ?_)
    ·
      refine TL.gdY rfl rfl (pr_pure rfl) rfl ?_
      refine TL.callSY rfl rfl (enters rfl rfl rfl rfl) (n_May_ok x (by omega)) rfl ?_
      refine TL.gdY rfl rfl (pr_pure rfl) rfl ?_
      refine TL.run (pr_pure rfl) rfl ?_
      refine TL.run (pr_pure rfl) rfl ?_
      refine TL.split (s := 30) rfl (fun g30 => ?_) (fun g30 => ?_)
      ·
        refine TL.gdY rfl rfl (pr_pure rfl) rfl ?_
        refine TL.gdY rfl rfl (pr_concat rfl rfl (by simp; omega)) rfl ?_
        refine TL.callSY rfl rfl (enters rfl rfl rfl rfl) (n_Keyword_ok (x ++ [49])) rfl ?_
        refine TL.gdY rfl rfl (pr_pure rfl) rfl ?_
        refine TL.run (pr_pure rfl) rfl ?_
        refine TL.run (pr_pure rfl) rfl ?_
        refine TL.split (s := 36) rfl (fun g36 => ?_) (fun g36 => ?_)
        ·
          refine TL.gdY rfl rfl (pr_pure rfl) rfl ?_
          refine TL.gdY rfl rfl (pr_concat rfl rfl (by simp; omega)) rfl ?_
          refine TL.callSY rfl rfl (enters rfl rfl rfl rfl) (n_May_ok (x ++ [49]) (by simp; omega)) rfl ?_
          refine TL.run (pr_pure rfl) rfl ?_
          refine TL.run (pr_pure rfl) rfl ?_
          refine TL.split (s := 41) rfl (fun g41 => ?_) (fun g41 => ?_)
          ·
            refine TL.gdY rfl rfl (pr_pure rfl) rfl ?_
            refine TL.pub (by simp) (fun H_b7 le_b7 rd_b7 => ?_)
            have hA : RdSl H_b7 1 Str.cells _ (keyL) := RdSl.blk (cap := 39) rd_b7 (by intro x hx; rfl) (by kernel_rfl) (by first | (simp; done) | decide)
            refine TL.callSY rfl rfl (enters rfl rfl rfl rfl) (n_Once_ok hA) rfl ?_
            refine TL.run (pr_pure rfl) rfl ?_
            refine TL.run (pr_pure rfl) rfl ?_
            refine TL.nil ?_
            refine TX.seqN ?_
            refine TC.ret ?_
            exact TX.finS (.inr rfl) (results1 rfl (RVal.tmp rfl)) (congrArg Value.bool (by first | rfl | exact key_once))
          ·
            exact absurd g41 (by simp_all)
        ·
          exact absurd g36 (by simp_all)
      ·
        exact absurd g30 (by simp_all)
    ·
      exact absurd g25 (by simp_all)
end Go.Sx
