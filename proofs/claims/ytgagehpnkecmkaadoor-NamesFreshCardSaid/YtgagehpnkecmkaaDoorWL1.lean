import Derived.Test.YtgagehpnkecmkaaDoorWNm
import Derived.Test.YtgagehpnkecmkaaDoorPureN2
set_option linter.unusedVariables false
set_option linter.unusedSimpArgs false
namespace Go.Sx
open Go Go.Proofs
set_option maxRecDepth 100000 in
set_option maxHeartbeats 1000000 in
theorem sameN_ok {H : Hp} {a b : List Str} {va vb : Value} (hA : RdSl H 1 Str.cells va a) (hB : RdSl H 1 Str.cells vb b) :
    FnS Tryd.prog 23 [va, vb] H (.bool (decide (a = b))) := by
  have hma := hA.max
  refine FnS.enter Tryd.func23 Tryd.ntmps23 rfl rfl (fun w0 => ?_)
  refine TC.seq ?_
  refine TC.region ?_
  refine TL.run (pr_pure rfl) rfl ?_
  refine TL.nil ?_
  refine TX.seqN ?_
  refine TC.seq ?_
  refine TC.seq ?_
  refine TC.region ?_
  refine TL.run (pr_pure rfl) rfl ?_
  refine TL.run (pr_lenSl rfl rfl hA) rfl ?_
  refine TL.run (pr_pure rfl) rfl ?_
  refine TL.run (pr_lenSl rfl rfl hB) rfl ?_
  refine TL.run (pr_pure rfl) rfl ?_
  refine TL.nil ?_
  refine TX.seqN ?_
  refine TC.condND rfl (fun c10 => ?_) (fun c10 => ?_)
  ·
    refine TC.seq ?_
    refine TC.region ?_
    refine TL.run (pr_pure rfl) rfl ?_
    refine TL.nil ?_
    refine TX.seqN ?_
    refine TC.ret ?_
    refine TX.thenR ?_
    exact TX.finS (.inr rfl) (results1 rfl (RVal.tmp rfl)) (congrArg Value.bool (by first | exact (decide_eq_true (sameNames_end hI.2.2 hl c14 hI.1)).symm | exact (decide_eq_false (sameNames_ne hx hy (by simpa using c25))).symm | exact (decide_eq_false (fun e => c10 (by rw [e]))).symm))
  ·
    have hl : (a.length : Int) = b.length := by omega
    refine TC.skip ?_
    refine TX.seqN ?_
    refine TC.seq ?_
    refine TC.seq ?_
    refine TC.region ?_
    refine TL.run (pr_pure rfl) rfl ?_
    refine TL.nil ?_
    refine TX.seqN ?_
    refine TC.block ?_
    refine TC.loop (V := fun k => [(5, .int .i64 k)]) (K := [(0, _), (1, _), (4, _)]) (L := fun k => _) (I := fun k => 0 ≤ k ∧ k ≤ a.length ∧ a.take k.toNat = b.take k.toNat) (μ := fun k => (a.length - k).toNat) (i := (0 : Int)) ⟨rfl, rfl, rfl, rfl, trivial⟩ ⟨by omega, by omega, rfl⟩ (fun w hw => hw) (fun k hI => ?_)
    refine TC.seq ?_
    refine TC.seq ?_
    refine TC.region ?_
    refine TL.run (pr_pure rfl) rfl ?_
    refine TL.run (pr_pure rfl) rfl ?_
    refine TL.run (pr_lenSl rfl rfl hA) rfl ?_
    refine TL.run (pr_pure rfl) rfl ?_
    refine TL.nil ?_
    refine TX.seqN ?_
    refine TC.condD rfl (fun c14 => ?_) (fun c14 => ?_)
    ·
      obtain ⟨x, hx⟩ := getSome (l := a) hI.1 c14
      obtain ⟨y, hy⟩ := getSome (l := b) hI.1 (by omega)
      refine TC.skip ?_
      refine TX.seqN ?_
      refine TC.seq ?_
      refine TC.block ?_
      refine TC.seq ?_
      refine TC.quiet (by kernel_rfl) (by kernel_rfl) ?_
      refine TQ.run (pr_pure rfl) rfl ?_
      refine TQ.run (pr_pure rfl) rfl ?_
      refine TQ.run (pr_indexSl rfl hA rfl (by omega) (by omega)) rfl ?_
      refine TQ.run (pr_el0 hA hx rfl rfl) rfl ?_
      refine TQ.run (pr_pure rfl) rfl ?_
      refine TQ.run (pr_pure rfl) rfl ?_
      refine TQ.run (pr_indexSl rfl hB rfl (by omega) (by omega)) rfl ?_
      refine TQ.run (pr_el0 hB hy rfl rfl) rfl ?_
      refine TQ.run (pr_str rfl rfl rfl) rfl ?_
      refine TQ.nil ?_
      refine TX.seqN ?_
      refine TC.condND rfl (fun c25 => ?_) (fun c25 => ?_)
      ·
        refine TC.seq ?_
        refine TC.region ?_
        refine TL.run (pr_pure rfl) rfl ?_
        refine TL.nil ?_
        refine TX.seqN ?_
        refine TC.ret ?_
        refine TX.blkR ?_
        refine TX.thenR ?_
        refine TX.thenR ?_
        refine TX.blkR ?_
        refine TX.thenR ?_
        exact TX.finS (.inr rfl) (results1 rfl (RVal.tmp rfl)) (congrArg Value.bool (by first | exact (decide_eq_true (sameNames_end hI.2.2 hl c14 hI.1)).symm | exact (decide_eq_false (sameNames_ne hx hy (by simpa using c25))).symm | exact (decide_eq_false (fun e => c10 (by rw [e]))).symm))
      ·
        refine TC.skip ?_
        refine TX.blkN ?_
        refine TX.seqN ?_
        refine TC.region ?_
        refine TL.run (pr_pure rfl) rfl ?_
        refine TL.run ((by first | exact pr_add rfl rfl (by omega) (by omega) | exact pr_pure rfl)) rfl ?_
        refine TL.run (pr_pure rfl) rfl ?_
        refine TL.nil ?_
        exact TX.round (k + 1) ⟨by omega, by omega, sameNames_next hI.1 hI.2.2 hx hy (by simpa using c25)⟩ ⟨rfl, rfl, rfl, rfl, trivial⟩ (fun w hw => hw) (by omega)
    ·
      refine TC.exit ?_
      refine TX.thenE ?_
      refine TX.thenE ?_
      refine TX.blkHit ?_
      refine TX.seqN ?_
      refine TC.seq ?_
      refine TC.region ?_
      refine TL.run (pr_pure rfl) rfl ?_
      refine TL.nil ?_
      refine TX.seqN ?_
      refine TC.ret ?_
      exact TX.finS (.inr rfl) (results1 rfl (RVal.tmp rfl)) (congrArg Value.bool (by first | exact (decide_eq_true (sameNames_end hI.2.2 hl c14 hI.1)).symm | exact (decide_eq_false (sameNames_ne hx hy (by simpa using c25))).symm | exact (decide_eq_false (fun e => c10 (by rw [e]))).symm))

set_option maxRecDepth 100000 in
set_option maxHeartbeats 2000000 in
theorem first1_ok {H : Hp} :
    FnS Tryd.prog 8 [] H (.bool true) := by
  refine FnS.enter Tryd.func8 Tryd.ntmps8 rfl rfl (fun w0 => ?_)
  refine TC.seq ?_
  refine TC.region ?_
  refine TL.run (pr_pure rfl) rfl ?_
  refine TL.nil ?_
  refine TX.seqN ?_
  refine TC.seq ?_
  refine TC.region ?_
  refine TL.bslice rfl rfl rfl rfl (fun b2 => ?_)
  refine TL.pub (by simp) (fun H_b2 le_b2 rd_b2 => ?_)
  have hA : RdSl H_b2 1 Str.cells _ ([[98], [97], [98]]) := RdSl.blk (cap := 3) rd_b2 (by intro x hx; rfl) (by kernel_rfl) (by first | (simp; done) | decide)
  refine TL.call (enters rfl rfl rfl rfl) (n_Put_ok [99] hA (by simp)) rfl (fun v3 H3 hle3 hp3 => ?_)
  replace hA := hA.le hle3
  have hP3 : RdSl H3 1 Str.cells v3 (putP [[98], [97], [98]] [99]) := hp3
  obtain ⟨pa3, pc3, rfl⟩ := hP3.len
  refine TL.run (pr_pure rfl) rfl ?_
  refine TL.nil ?_
  refine TX.seqN ?_
  refine TC.seq ?_
  refine TC.region ?_
  refine TL.callS (enters rfl rfl rfl rfl) (n_May_ok [115, 101, 108, 108, 101, 114, 50] (by decide)) rfl ?_
  refine TL.run (pr_pure rfl) rfl ?_
  refine TL.split (s := 5) rfl (fun g5 => ?_) (fun g5 => ?_)
  ·
    refine TL.callSY rfl rfl (enters rfl rfl rfl rfl) (n_May_ok [115, 97, 121] (by decide)) rfl ?_
    refine TL.gdY rfl rfl (pr_pure rfl) rfl ?_
    refine TL.run (pr_pure rfl) rfl ?_
    refine TL.run (pr_pure rfl) rfl ?_
    refine TL.split (s := 9) rfl (fun g9 => ?_) (fun g9 => ?_)
    ·
      refine TL.callSY rfl rfl (enters rfl rfl rfl rfl) (n_May_ok [] (by decide)) rfl ?_
      refine TL.gdY rfl rfl (pr_pure rfl) rfl ?_
      refine TL.run (pr_pure rfl) rfl ?_
      refine TL.run (pr_pure rfl) rfl ?_
      refine TL.split (s := 13) rfl (fun g13 => ?_) (fun g13 => ?_)
      ·
        refine TL.callSY rfl rfl (enters rfl rfl rfl rfl) (n_Keyword_ok [115, 97, 121]) rfl ?_
        refine TL.run (pr_pure rfl) rfl ?_
        refine TL.run (pr_pure rfl) rfl ?_
        refine TL.split (s := 16) rfl (fun g16 => ?_) (fun g16 => ?_)
        ·
          refine TL.gd rfl rfl ?_
          refine TL.bslice rfl rfl rfl rfl (fun b17 => ?_)
          refine TL.pub (by simp) (fun H_b17 le_b17 rd_b17 => ?_)
          replace hA := hA.le le_b17
          replace hP3 := hP3.le le_b17
          have hB : RdSl H_b17 1 Str.cells _ ([[120], [120, 50]]) := RdSl.blk (cap := 2) rd_b17 (by intro x hx; rfl) (by kernel_rfl) (by first | (simp; done) | decide)
          refine TL.callSY rfl rfl (enters rfl rfl rfl rfl) (n_Fresh_ok [120] hB (by simp)) rfl ?_
          refine TL.gdY rfl rfl (pr_str rfl rfl rfl) rfl ?_
          refine TL.run (pr_pure rfl) rfl ?_
          refine TL.run (pr_pure rfl) rfl ?_
          refine TL.split (s := 21) rfl (fun g21 => ?_) (fun g21 => ?_)
          ·
            have q21 := of_decide_eq_true g21
            refine TL.gdY rfl rfl (pr_pure rfl) rfl ?_
            refine TL.gd rfl rfl ?_
            refine TL.bslice rfl rfl rfl rfl (fun b23 => ?_)
            refine TL.pub (by simp) (fun H_b23 le_b23 rd_b23 => ?_)
            replace hA := hA.le le_b23
            replace hP3 := hP3.le le_b23
            replace hB := hB.le le_b23
            have hC : RdSl H_b23 1 Str.cells _ ([[97], [98], [99]]) := RdSl.blk (cap := 3) rd_b23 (by intro x hx; rfl) (by kernel_rfl) (by first | (simp; done) | decide)
            refine TL.callSY rfl rfl (enters rfl rfl rfl rfl) (sameN_ok hP3 hC) rfl ?_
            refine TL.run (pr_pure rfl) rfl ?_
            refine TL.run (pr_pure rfl) rfl ?_
            refine TL.split (s := 26) rfl (fun g26 => ?_) (fun g26 => ?_)
            ·
              refine TL.gd rfl rfl ?_
              refine TL.bslice rfl rfl rfl rfl (fun b27 => ?_)
              refine TL.pub (by simp) (fun H_b27 le_b27 rd_b27 => ?_)
              replace hA := hA.le le_b27
              replace hP3 := hP3.le le_b27
              replace hB := hB.le le_b27
              replace hC := hC.le le_b27
              have hD : RdSl H_b27 1 Str.cells _ ([[97], [98]]) := RdSl.blk (cap := 2) rd_b27 (by intro x hx; rfl) (by kernel_rfl) (by first | (simp; done) | decide)
              refine TL.callSY rfl rfl (enters rfl rfl rfl rfl) (n_Place_ok [98] hD) rfl ?_
              refine TL.gdY rfl rfl (pr_pure rfl) rfl ?_
              refine TL.run (pr_pure rfl) rfl ?_
              refine TL.run (pr_pure rfl) rfl ?_
              refine TL.nil ?_
              refine TX.seqN ?_
              refine TC.ret ?_
              exact TX.finS (.inr rfl) (results1 rfl (RVal.tmp rfl)) (congrArg Value.bool (by first | rfl | decide +kernel))
            ·
              exact absurd g26 (by rw [first_put]; decide)
          ·
            have q21 := of_decide_eq_false g21
            exact absurd g21 (by decide +kernel)
        ·
          exact absurd g16 (by decide +kernel)
      ·
        exact absurd g13 (by decide +kernel)
    ·
      exact absurd g9 (by decide +kernel)
  ·
    exact absurd g5 (by decide +kernel)
end Go.Sx
