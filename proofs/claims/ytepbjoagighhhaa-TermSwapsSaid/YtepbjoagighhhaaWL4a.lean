import Derived.Test.YtepbjoagighhhaaWL4
set_option linter.unusedVariables false
set_option linter.unusedSimpArgs false
namespace Go.Sx
open Go Go.Proofs
set_option maxRecDepth 100000 in
set_option maxHeartbeats 4000000 in
theorem TermSwaps_ok {H : Hp} {a b : Val} {la lb : Value} (kd : Int) (hA : RdV H la a) (hB : RdV H lb b) :
    FnS Try.prog 4 [.int .i64 kd, .agg (a.cells la).toArray, .agg (b.cells lb).toArray] H (.bool true) := by
  refine FnS.enter Try.func4 Try.ntmps4 rfl rfl (fun w0 => ?_)
  refine TC.seq ?_
  refine TC.region ?_
  refine TL.box rfl rfl (fun b4 => ?_)
  refine TL.box rfl rfl (fun b5 => ?_)
  refine TL.run (pr_pure rfl) rfl ?_
  refine TL.nil ?_
  refine TX.seqN ?_
  refine TC.seq ?_
  refine TC.seq ?_
  refine TC.region ?_
  refine TL.callS (enters rfl rfl rfl rfl) (first4_ok) rfl ?_
  refine TL.run (pr_pure rfl) rfl ?_
  refine TL.nil ?_
  refine TX.seqN ?_
  refine TC.cond rfl (fun c21 => ?_) (fun c21 => ?_)
  ·
    exact absurd c21 (by decide)
  ·
    refine TC.skip ?_
    refine TX.seqN ?_
    refine TC.seq ?_
    refine TC.seq ?_
    refine TC.region ?_
    refine TL.run (pr_ownA rfl (.there _ (.here _)) rfl) rfl ?_
    refine TL.callS (enters rfl rfl rfl rfl) (dMay_ok (x := a) (lv := la) hA) rfl ?_
    refine TL.run (pr_pure rfl) rfl ?_
    refine TL.run (pr_pure rfl) rfl ?_
    refine TL.split (s := 25) rfl (fun g25 => ?_) (fun g25 => ?_)
    ·
      refine TL.gdN rfl rfl rfl rfl ?_
      refine TL.gdN rfl rfl rfl rfl ?_
      refine TL.gdN rfl rfl rfl rfl ?_
      refine TL.run (pr_pure rfl) rfl ?_
      refine TL.nil ?_
      refine TX.seqN ?_
      refine TC.condT rfl ?_
      refine TC.seq ?_
      refine TC.region ?_
      refine TL.run (pr_pure rfl) rfl ?_
      refine TL.nil ?_
      refine TX.seqN ?_
      refine TC.ret ?_
      refine TX.thenR ?_
      exact TX.finS (.inr rfl) (results1 rfl (RVal.tmp rfl)) (congrArg Value.bool (by first | rfl | (rcases hl with hl | hl <;> simp_all)))
    ·
      refine TL.gdY rfl rfl (pr_ownA rfl (.here _) rfl) rfl ?_
      refine TL.callSY rfl rfl (enters rfl rfl rfl rfl) (dMay_ok (x := b) (lv := lb) hB) rfl ?_
      refine TL.gdY rfl rfl (pr_pure rfl) rfl ?_
      refine TL.run (pr_pure rfl) rfl ?_
      refine TL.nil ?_
      refine TX.seqN ?_
      refine TC.cond rfl (fun c29 => ?_) (fun c29 => ?_)
      ·
        refine TC.seq ?_
        refine TC.region ?_
        refine TL.run (pr_pure rfl) rfl ?_
        refine TL.nil ?_
        refine TX.seqN ?_
        refine TC.ret ?_
        refine TX.thenR ?_
        exact TX.finS (.inr rfl) (results1 rfl (RVal.tmp rfl)) (congrArg Value.bool (by first | rfl | (rcases hl with hl | hl <;> simp_all)))
      ·
        have ma : mayV a = true := by simp_all
        have mb : mayV b = true := by simp_all
        refine TC.skip ?_
        refine TX.seqN ?_
        refine TC.seq ?_
        refine TC.region ?_
        refine TL.run (pr_ownA rfl (.there _ (.here _)) rfl) rfl ?_
        refine TL.run (pr_build rfl rfl) rfl ?_
        refine TL.run (pr_ownA rfl (.here _) rfl) rfl ?_
        refine TL.run (pr_build rfl rfl) rfl ?_
        refine TL.bslice rfl rfl rfl rfl (fun b34 => ?_)
        refine TL.run (pr_pure rfl) rfl ?_
        refine TL.nil ?_
        refine TX.seqN ?_
        refine TC.seq ?_
        refine TC.region ?_
        refine TL.bslice rfl rfl rfl rfl (fun b35 => ?_)
        refine TL.run (pr_pure rfl) rfl ?_
        refine TL.nil ?_
        refine TX.seqN ?_
        refine TC.seq ?_
        refine TC.region ?_
        obtain ⟨k, hsw, hk5⟩ := swap_pick (kd % 18446744073709551616 % 5) (by omega)
        have hk := swapK_in hsw
        refine TL.run (pr_pure rfl) rfl ?_
        refine TL.run (pr_pure rfl) rfl ?_
        refine TL.run (pr_conv rfl) rfl ?_
        refine TL.run (pr_rem rfl rfl (by decide)) rfl ?_
        refine TL.run (PR.to (pr_conv rfl) (congrArg (Value.int .i64) (mod_conv kd (m := 5) (by decide) (by decide)))) rfl ?_
        refine TL.run (pr_index rfl rfl (by omega) (by omega)) rfl ?_
        refine TL.run (pr_own1 rfl (.here _) hk5) rfl ?_
        refine TL.run (pr_pure rfl) rfl ?_
        refine TL.nil ?_
        refine TX.seqN ?_
        refine TC.seq ?_
        refine TC.region ?_
        refine TL.callS (enters rfl rfl rfl rfl) (var4_ok _) rfl ?_
        refine TL.callS (enters rfl rfl rfl rfl) (var4_ok _) rfl ?_
        refine TL.run (pr_pure rfl) rfl ?_
        refine TL.callS (enters rfl rfl rfl rfl) (two4_ok _ _ _) rfl ?_
        refine TL.bslice rfl rfl rfl rfl (fun b47 => ?_)
        refine TL.run (pr_pure rfl) rfl ?_
        refine TL.nil ?_
        refine TX.seqN ?_
        refine TC.seq ?_
        refine TC.region ?_
        refine TL.callS (enters rfl rfl rfl rfl) (var4_ok _) rfl ?_
        refine TL.callS (enters rfl rfl rfl rfl) (var4_ok _) rfl ?_
        refine TL.run (pr_pure rfl) rfl ?_
        refine TL.callS (enters rfl rfl rfl rfl) (two4_ok _ _ _) rfl ?_
        refine TL.bslice rfl rfl rfl rfl (fun b52 => ?_)
        refine TL.run (pr_pure rfl) rfl ?_
        refine TL.nil ?_
        refine TX.seqN ?_
        refine TC.seq ?_
        refine TC.region ?_
        refine TL.pub (by simp) (fun H_b52 le_b52 rd_b52 => ?_)
        replace hA := hA.le le_b52
        replace hB := hB.le le_b52
        have hU : RdSl H_b52 6 Term.cells _ (qpT k) := RdSl.blk (cap := 3) rd_b52 (by intro x hx; rfl) (by kernel_rfl) (by show 3 ≤ 9223372036854775807; decide)
        clear rd_b52
        refine TL.pub (by simp) (fun H_b47 le_b47 rd_b47 => ?_)
        replace hA := hA.le le_b47
        replace hB := hB.le le_b47
        replace hU := hU.le le_b47
        have hT : RdSl H_b47 6 Term.cells _ (pqT k) := RdSl.blk (cap := 3) rd_b47 (by intro x hx; rfl) (by kernel_rfl) (by show 3 ≤ 9223372036854775807; decide)
        clear rd_b47
        refine TL.front (.there _ (.here _)) ?_
        refine TL.pub (by simp) (fun H_b34 le_b34 rd_b34 => ?_)
        replace hA := hA.le le_b34
        replace hB := hB.le le_b34
        replace hU := hU.le le_b34
        replace hT := hT.le le_b34
        have hX : RdSl H_b34 5 Bind.cells _ (pqE a b la lb) := RdSl.blk (cap := 2) rd_b34 (by intro x hx; rfl) (by kernel_rfl) (by show 2 ≤ 9223372036854775807; decide)
        clear rd_b34
        have hXE : EnvOk H_b34 (pqE a b la lb) := pq_env hA hB
        refine TL.run (pr_pure rfl) rfl ?_
        refine TL.run (pr_pure rfl) rfl ?_
        refine TL.call (enters rfl rfl rfl rfl) (Eval_ok 2 hT hX hXE (pq_len ma mb) (by simp [pqT, qpT, varT, twoT])) rfl (fun v56 H56 hle56 hp56 => ?_)
        obtain ⟨lv56, rfl, hR56⟩ := hp56
        replace hA := hA.le hle56
        replace hB := hB.le hle56
        replace hU := hU.le hle56
        replace hT := hT.le hle56
        replace hX := hX.le hle56
        replace hXE := hXE.le hle56
        obtain ⟨la56, lc56, rfl⟩ := RdSl.len hR56
        refine TL.run (pr_pure rfl) rfl ?_
        refine TL.run (pr_pure rfl) rfl ?_
        refine TL.run (pr_pure rfl) rfl ?_
        refine TL.alloc rfl (fun b12 => ?_)
        refine TL.storeA rfl rfl rfl rfl rfl (.here _) rfl rfl ?_
        refine TL.run (pr_pure rfl) rfl ?_
        refine TL.nil ?_
        refine TX.seqN ?_
        refine TC.seq ?_
        refine TC.region ?_
        refine TL.run (pr_pure rfl) rfl ?_
        refine TL.run (pr_pure rfl) rfl ?_
        refine TL.call (enters rfl rfl rfl rfl) (Eval_ok 2 hU hX hXE (pq_len ma mb) (by simp [pqT, qpT, varT, twoT])) rfl (fun v62 H62 hle62 hp62 => ?_)
        obtain ⟨lv62, rfl, hR62⟩ := hp62
        replace hA := hA.le hle62
        replace hB := hB.le hle62
        replace hU := hU.le hle62
        replace hT := hT.le hle62
        replace hX := hX.le hle62
        replace hXE := hXE.le hle62
        replace hR56 := hR56.le hle62
        obtain ⟨la62, lc62, rfl⟩ := RdSl.len hR62
        refine TL.run (pr_pure rfl) rfl ?_
        refine TL.run (pr_pure rfl) rfl ?_
        refine TL.run (pr_pure rfl) rfl ?_
        refine TL.alloc rfl (fun b14 => ?_)
        refine TL.storeA rfl rfl rfl rfl rfl (.here _) rfl rfl ?_
        refine TL.run (pr_pure rfl) rfl ?_
        refine TL.nil ?_
        refine TX.seqN ?_
        refine TC.seq ?_
        refine TC.region ?_
        refine TL.callS (enters rfl rfl rfl rfl) (var4_ok _) rfl ?_
        refine TL.callS (enters rfl rfl rfl rfl) (var4_ok _) rfl ?_
        refine TL.callS (enters rfl rfl rfl rfl) (two4_ok _ _ _) rfl ?_
        refine TL.bslice rfl rfl rfl rfl (fun b69 => ?_)
        refine TL.run (pr_pure rfl) rfl ?_
        refine TL.pub (by simp) (fun H_b69 le_b69 rd_b69 => ?_)
        replace hA := hA.le le_b69
        replace hB := hB.le le_b69
        replace hU := hU.le le_b69
        replace hT := hT.le le_b69
        replace hX := hX.le le_b69
        replace hXE := hXE.le le_b69
        replace hR56 := hR56.le le_b69
        replace hR62 := hR62.le le_b69
        have hV : RdSl H_b69 6 Term.cells _ (pqT 12) := RdSl.blk (cap := 3) rd_b69 (by intro x hx; rfl) (by kernel_rfl) (by show 3 ≤ 9223372036854775807; decide)
        clear rd_b69
        refine TL.call (enters rfl rfl rfl rfl) (Eval_ok 2 hV hX hXE (pq_len ma mb) (by simp [pqT, qpT, varT, twoT])) rfl (fun v71 H71 hle71 hp71 => ?_)
        obtain ⟨lv71, rfl, hR71⟩ := hp71
        replace hA := hA.le hle71
        replace hB := hB.le hle71
        replace hU := hU.le hle71
        replace hT := hT.le hle71
        replace hX := hX.le hle71
        replace hXE := hXE.le hle71
        replace hR56 := hR56.le hle71
        replace hR62 := hR62.le hle71
        replace hV := hV.le hle71
        obtain ⟨la71, lc71, rfl⟩ := RdSl.len hR71
        refine TL.run (pr_pure rfl) rfl ?_
        refine TL.run (pr_pure rfl) rfl ?_
        refine TL.run (pr_pure rfl) rfl ?_
        refine TL.alloc rfl (fun b16 => ?_)
        refine TL.storeA rfl rfl rfl rfl rfl (.here _) rfl rfl ?_
        refine TL.run (pr_pure rfl) rfl ?_
        refine TL.nil ?_
        refine TX.seqN ?_
        refine TC.seq ?_
        refine TC.region ?_
        refine TL.callS (enters rfl rfl rfl rfl) (var4_ok _) rfl ?_
        refine TL.callS (enters rfl rfl rfl rfl) (var4_ok _) rfl ?_
        refine TL.callS (enters rfl rfl rfl rfl) (two4_ok _ _ _) rfl ?_
        refine TL.bslice rfl rfl rfl rfl (fun b78 => ?_)
        refine TL.run (pr_pure rfl) rfl ?_
        refine TL.pub (by simp) (fun H_b78 le_b78 rd_b78 => ?_)
        replace hA := hA.le le_b78
        replace hB := hB.le le_b78
        replace hU := hU.le le_b78
        replace hT := hT.le le_b78
        replace hX := hX.le le_b78
        replace hXE := hXE.le le_b78
        replace hR56 := hR56.le le_b78
        replace hR62 := hR62.le le_b78
        replace hV := hV.le le_b78
        replace hR71 := hR71.le le_b78
        have hW : RdSl H_b78 6 Term.cells _ (qpT 12) := RdSl.blk (cap := 3) rd_b78 (by intro x hx; rfl) (by kernel_rfl) (by show 3 ≤ 9223372036854775807; decide)
        clear rd_b78
        refine TL.call (enters rfl rfl rfl rfl) (Eval_ok 2 hW hX hXE (pq_len ma mb) (by simp [pqT, qpT, varT, twoT])) rfl (fun v80 H80 hle80 hp80 => ?_)
        obtain ⟨lv80, rfl, hR80⟩ := hp80
        replace hA := hA.le hle80
        replace hB := hB.le hle80
        replace hU := hU.le hle80
        replace hT := hT.le hle80
        replace hX := hX.le hle80
        replace hXE := hXE.le hle80
        replace hR56 := hR56.le hle80
        replace hR62 := hR62.le hle80
        replace hV := hV.le hle80
        replace hR71 := hR71.le hle80
        replace hW := hW.le hle80
        obtain ⟨la80, lc80, rfl⟩ := RdSl.len hR80
        refine TL.run (pr_pure rfl) rfl ?_
        refine TL.run (pr_pure rfl) rfl ?_
        refine TL.run (pr_pure rfl) rfl ?_
        refine TL.alloc rfl (fun b18 => ?_)
        refine TL.storeA rfl rfl rfl rfl rfl (.here _) rfl rfl ?_
        refine TL.run (pr_pure rfl) rfl ?_
        refine TL.nil ?_
        refine TX.seqN ?_
        refine TC.seq ?_
        refine TC.seq ?_
        refine TC.region ?_
        have e1 : evalS (pqT k) 2 (pqE a b la lb) = applyV k a b := pq_eval hk.1 hk.2.1 hk.2.2 ma mb
        have e2 : evalS (qpT k) 2 (pqE a b la lb) = applyV k a b := (qp_eval hk.1 hk.2.1 hk.2.2 ma mb).trans (swap_comm hsw).symm
        have e3 : evalS (pqT 12) 2 (pqE a b la lb) = applyV 12 a b := pq_eval (by decide) (by decide) (by decide) ma mb
        have e4 : evalS (qpT 12) 2 (pqE a b la lb) = applyV 12 b a := qp_eval (by decide) (by decide) (by decide) ma mb
        have hl := less_row ma mb
        have hs := sameV_refl (applyV k a b).1
        refine TL.run (pr_pure rfl) rfl ?_
        refine TL.run (pr_pure rfl) rfl ?_
        refine TL.run (pr_pure rfl) rfl ?_
        refine TL.run (pr_pure rfl) rfl ?_
        refine TL.split (s := 86) rfl (fun g86 => ?_) (fun g86 => ?_)
        ·
          have q86 := of_ndec_true g86
          refine TL.gdN rfl rfl rfl rfl ?_
          refine TL.gdN rfl rfl rfl rfl ?_
          refine TL.gdN rfl rfl rfl rfl ?_
          refine TL.gdN rfl rfl rfl rfl ?_
          refine TL.run (pr_pure rfl) rfl ?_
          refine TL.run (pr_pure rfl) rfl ?_
          refine TL.gdN rfl rfl rfl rfl ?_
          refine TL.gdN rfl rfl rfl rfl ?_
          refine TL.gdN rfl rfl rfl rfl ?_
          refine TL.run (pr_pure rfl) rfl ?_
          refine TL.nil ?_
          refine TX.seqN ?_
          refine TC.condT rfl ?_
          refine TC.seq ?_
          refine TC.region ?_
          refine TL.run (pr_pure rfl) rfl ?_
          refine TL.nil ?_
          refine TX.seqN ?_
          refine TC.ret ?_
          refine TX.thenR ?_
          exact TX.finS (.inr rfl) (results1 rfl (RVal.tmp rfl)) (congrArg Value.bool (by first | rfl | (rcases hl with hl | hl <;> simp_all)))
        ·
          have q86 := of_ndec_false g86
          refine TL.gdY rfl rfl (pr_ownA rfl (.there _ (.there _ (.there _ (.here _)))) rfl) rfl ?_
          refine TL.gdY rfl rfl (pr_ownA rfl (.there _ (.there _ (.here _))) rfl) rfl ?_
          refine TL.callSY rfl rfl (enters rfl rfl rfl rfl) (dSame_ok hR56 hR62) rfl ?_
          refine TL.gdY rfl rfl (pr_pure rfl) rfl ?_
          refine TL.run (pr_pure rfl) rfl ?_
          refine TL.run (pr_pure rfl) rfl ?_
          refine TL.split (s := 92) rfl (fun g92 => ?_) (fun g92 => ?_)
          ·
            refine TL.gdN rfl rfl rfl rfl ?_
            refine TL.gdN rfl rfl rfl rfl ?_
            refine TL.gdN rfl rfl rfl rfl ?_
            refine TL.run (pr_pure rfl) rfl ?_
            refine TL.nil ?_
            refine TX.seqN ?_
            refine TC.condT rfl ?_
            refine TC.seq ?_
            refine TC.region ?_
            refine TL.run (pr_pure rfl) rfl ?_
            refine TL.nil ?_
            refine TX.seqN ?_
            refine TC.ret ?_
            refine TX.thenR ?_
            exact TX.finS (.inr rfl) (results1 rfl (RVal.tmp rfl)) (congrArg Value.bool (by first | rfl | (rcases hl with hl | hl <;> simp_all)))
          ·
            refine TL.gdY rfl rfl (pr_pure rfl) rfl ?_
            refine TL.gdY rfl rfl (pr_pure rfl) rfl ?_
            refine TL.gdY rfl rfl (pr_pure rfl) rfl ?_
            refine TL.run (pr_pure rfl) rfl ?_
            refine TL.nil ?_
            refine TX.seqN ?_
            refine TC.condND rfl (fun c96 => ?_) (fun c96 => ?_)
            ·
              refine TC.seq ?_
              refine TC.region ?_
              refine TL.run (pr_pure rfl) rfl ?_
              refine TL.nil ?_
              refine TX.seqN ?_
              refine TC.ret ?_
              refine TX.thenR ?_
              exact TX.finS (.inr rfl) (results1 rfl (RVal.tmp rfl)) (congrArg Value.bool (by first | rfl | (rcases hl with hl | hl <;> simp_all)))
            ·
              refine TC.skip ?_
              refine TX.seqN ?_
              refine TC.seq ?_
              refine TC.quiet (by kernel_rfl) (by kernel_rfl) ?_
              refine TQ.run (pr_pure rfl) rfl ?_
              refine TQ.run (pr_pure rfl) rfl ?_
              refine TQ.run (pr_pure rfl) rfl ?_
              refine TQ.split (s := 99) rfl (fun g99 => ?_) (fun g99 => ?_)
              ·
                have q99 := of_ndec_true g99
                refine TQ.gdN rfl rfl rfl rfl ?_
                refine TQ.gdN rfl rfl rfl rfl ?_
                refine TQ.gdN rfl rfl rfl rfl ?_
                refine TQ.gdN rfl rfl rfl rfl ?_
                refine TQ.gdN rfl rfl rfl rfl ?_
                refine TQ.gdN rfl rfl rfl rfl ?_
                refine TQ.gdN rfl rfl rfl rfl ?_
                refine TQ.gdU rfl rfl rfl ?_
                refine TQ.gdU rfl rfl rfl ?_
                refine TQ.gdU rfl rfl rfl ?_
                refine TQ.gdU rfl rfl rfl ?_
                refine TQ.gdU rfl rfl rfl ?_
                refine TQ.gdU rfl rfl rfl ?_
                refine TQ.gdU rfl rfl rfl ?_
                refine TQ.gdU rfl rfl rfl ?_
                refine TQ.gdU rfl rfl rfl ?_
                refine TQ.gdU rfl rfl rfl ?_
                refine TQ.gdN rfl rfl rfl rfl ?_
                refine TQ.run (pr_pure rfl) rfl ?_
                refine TQ.run (pr_pure rfl) rfl ?_
                refine TQ.nil ?_
                refine TX.seqN ?_
                refine TC.ret ?_
                exact TX.finS (.inr rfl) (results1 rfl (RVal.tmp rfl)) (congrArg Value.bool (by first | rfl | (rcases hl with hl | hl <;> simp_all)))
              ·
                have q99 := of_ndec_false g99
                refine TQ.gdY rfl rfl (pr_field rfl) rfl ?_
                refine TQ.gdY rfl rfl (pr_own1 rfl (.there _ (.here _)) rfl) rfl ?_
                refine TQ.gdY rfl rfl (pr_field rfl) rfl ?_
                refine TQ.gdY rfl rfl (pr_own1 rfl (.here _) rfl) rfl ?_
                refine TQ.gdY rfl rfl ((by first | exact pr_add rfl rfl (by omega) (by omega) | exact pr_pure rfl)) rfl ?_
                refine TQ.gdY rfl rfl (pr_pure rfl) rfl ?_
                refine TQ.gdY rfl rfl (pr_pure rfl) rfl ?_
                refine TQ.split (s := 106) rfl (fun g106 => ?_) (fun g106 => ?_)
                ·
                  have q106 := of_decide_eq_true g106
                  refine TQ.gdY rfl rfl (pr_field rfl) rfl ?_
                  refine TQ.gdY rfl rfl (pr_own1 rfl (.there _ (.here _)) rfl) rfl ?_
                  refine TQ.gdY rfl rfl (pr_field rfl) rfl ?_
                  refine TQ.gdY rfl rfl (pr_own1 rfl (.here _) rfl) rfl ?_
                  refine TQ.gdY rfl rfl ((by first | exact pr_add rfl rfl (by omega) (by omega) | exact pr_pure rfl)) rfl ?_
                  refine TQ.gdY rfl rfl (pr_pure rfl) rfl ?_
                  refine TQ.gdY rfl rfl (pr_ownA rfl (.there _ (.there _ (.there _ (.there _ (.there _ (.there _ (.here _))))))) rfl) rfl ?_
                  refine TQ.gdY rfl rfl (pr_ownA rfl (.there _ (.there _ (.there _ (.there _ (.there _ (.here _)))))) rfl) rfl ?_
                  refine TQ.callSY rfl rfl (enters rfl rfl rfl rfl) (dSame_ok (la := la) (lb := lb) hA hB) rfl ?_
                  refine TQ.gdY rfl rfl (pr_bool rfl rfl rfl) rfl ?_
                  refine TQ.gdY rfl rfl (pr_pure rfl) rfl ?_
                  refine TQ.run (pr_pure rfl) rfl ?_
                  refine TQ.run (pr_pure rfl) rfl ?_
                  refine TQ.nil ?_
                  refine TX.seqN ?_
                  refine TC.ret ?_
                  exact TX.finS (.inr rfl) (results1 rfl (RVal.tmp rfl)) (congrArg Value.bool (by first | rfl | (rcases hl with hl | hl <;> simp_all)))
                ·
                  have q106 := of_decide_eq_false g106
                  refine TQ.gdN rfl rfl rfl rfl ?_
                  refine TQ.gdN rfl rfl rfl rfl ?_
                  refine TQ.gdN rfl rfl rfl rfl ?_
                  refine TQ.gdN rfl rfl rfl rfl ?_
                  refine TQ.gdN rfl rfl rfl rfl ?_
                  refine TQ.gdN rfl rfl rfl rfl ?_
                  refine TQ.gdN rfl rfl rfl rfl ?_
                  refine TQ.gdN rfl rfl rfl rfl ?_
                  refine TQ.gdN rfl rfl rfl rfl ?_
                  refine TQ.gdN rfl rfl rfl rfl ?_
                  refine TQ.gdY rfl rfl (pr_pure rfl) rfl ?_
                  refine TQ.run (pr_pure rfl) rfl ?_
                  refine TQ.run (pr_pure rfl) rfl ?_
                  refine TQ.nil ?_
                  refine TX.seqN ?_
                  refine TC.ret ?_
                  exact TX.finS (.inr rfl) (results1 rfl (RVal.tmp rfl)) (congrArg Value.bool (by first | rfl | (rcases hl with hl | hl <;> simp_all)))
end Go.Sx
