import Derived.Test.YtmlgpjficicagaaDoorWL3
set_option linter.unusedVariables false
set_option linter.unusedSimpArgs false
namespace Go.Sx
open Go Go.Proofs
set_option maxRecDepth 100000 in
set_option maxHeartbeats 4000000 in
theorem DataKinds_ok {H : Hp} {v : Val} {lv : Value} (what : Int) (hV : RdV H lv v) (iV : i64V v) (hG : LibG H) :
    FnGS Tabs Tryd.prog 5 [.agg (v.cells lv).toArray, .int .i64 what] H (.bool true) := by
  have hV1 : RdSl H 1 I64.cells lv v.l := hV
  obtain ⟨la, lc, rfl⟩ := hV1.len
  refine FnGS.enter Tryd.func5 Tryd.ntmps5 rfl rfl (fun w0 hT => ?_)
  refine TC.seq ?_
  refine TC.region ?_
  refine TL.box rfl rfl (fun b2 => ?_)
  refine TL.run (pr_pure rfl) rfl ?_
  refine TL.nil ?_
  refine TX.seqN ?_
  refine TC.seq ?_
  refine TC.seq ?_
  refine TC.region ?_
  refine TL.callTS hT (enters rfl rfl rfl rfl) (first3_ok hG) rfl ?_
  refine TL.run (pr_pure rfl) rfl ?_
  refine TL.nil ?_
  refine TX.seqN ?_
  refine TC.cond rfl (fun c7 => ?_) (fun c7 => ?_)
  ·
    exact absurd c7 (by decide)
  ·
    refine TC.skip ?_
    refine TX.seqN ?_
    refine TC.seq ?_
    refine TC.seq ?_
    refine TC.region ?_
    refine TL.run (pr_ownA rfl (.here _) rfl) rfl ?_
    refine TL.callS (enters rfl rfl rfl rfl) (dMay_ok (x := v) hV) rfl ?_
    refine TL.run (pr_pure rfl) rfl ?_
    refine TL.nil ?_
    refine TX.seqN ?_
    refine TC.cond rfl (fun c10 => ?_) (fun c10 => ?_)
    ·
      have hm : mayV v = false := by simpa using c10
      refine TC.seq ?_
      refine TC.region ?_
      refine TL.run (pr_ownA rfl (.here _) rfl) rfl ?_
      refine TL.callTS hT (enters rfl rfl rfl rfl) (show_no hm ▸ dShow_ok (a := v) hV iV (fun h => absurd h (by rw [hm]; decide))) rfl ?_
      refine TL.run (pr_str rfl rfl rfl) rfl ?_
      refine TL.run (pr_pure rfl) rfl ?_
      refine TL.nil ?_
      refine TX.seqN ?_
      refine TC.ret ?_
      refine TX.thenR ?_
      exact TX.finS (.inr rfl) (results1 rfl (RVal.tmp rfl)) (congrArg Value.bool (by first | rfl | (rw [same_no hm hw]; rfl)))
    ·
      have hm : mayV v = true := by simpa using c10
      refine TC.skip ?_
      refine TX.seqN ?_
      refine TC.seq ?_
      refine TC.region ?_
      refine TL.run (pr_ownA rfl (.here _) rfl) rfl ?_
      refine TL.alloc rfl (fun b5 => ?_)
      refine TL.storeA rfl rfl rfl rfl rfl (.here _) rfl rfl ?_
      refine TL.nil ?_
      refine TX.seqN ?_
      refine TC.seq ?_
      refine TC.seq ?_
      refine TC.region ?_
      refine TL.run (pr_pure rfl) rfl ?_
      refine TL.run (pr_conv rfl) rfl ?_
      refine TL.run (pr_rem rfl rfl (by decide)) rfl ?_
      refine TL.nil ?_
      refine TX.seqN ?_
      refine TC.block ?_
      refine TC.seq ?_
      refine TC.region ?_
      refine TL.run (pr_pure rfl) rfl ?_
      refine TL.run (pr_pure rfl) rfl ?_
      refine TL.nil ?_
      refine TX.seqN ?_
      refine TC.condD rfl (fun c24 => ?_) (fun c24 => ?_)
      ·
        refine TC.seq ?_
        refine TC.seq ?_
        refine TC.region ?_
        refine TL.run (pr_field rfl) rfl ?_
        refine TL.run (pr_own1 rfl (.there _ (.here _)) rfl) rfl ?_
        refine TL.run (pr_pure rfl) rfl ?_
        refine TL.run (pr_pure rfl) rfl ?_
        refine TL.split (s := 29) rfl (fun g29 => ?_) (fun g29 => ?_)
        ·
          have q29 := of_decide_eq_true g29
          refine TL.gdN rfl rfl rfl rfl ?_
          refine TL.gdN rfl rfl rfl rfl ?_
          refine TL.gdN rfl rfl rfl rfl ?_
          refine TL.run (pr_pure rfl) rfl ?_
          refine TL.run (pr_pure rfl) rfl ?_
          refine TL.gdN rfl rfl rfl rfl ?_
          refine TL.gdN rfl rfl rfl rfl ?_
          refine TL.gdN rfl rfl rfl rfl ?_
          refine TL.run (pr_pure rfl) rfl ?_
          refine TL.nil ?_
          refine TX.seqN ?_
          refine TC.condT rfl ?_
          refine TC.seq ?_
          refine TC.region ?_
          refine TL.run (pr_pure rfl) rfl ?_
          refine TL.nil ?_
          refine TX.seqN ?_
          refine TC.ret ?_
          refine TX.thenR ?_
          refine TX.blkR ?_
          refine TX.thenR ?_
          exact TX.finS (.inr rfl) (results1 rfl (RVal.tmp rfl)) (congrArg Value.bool (by first | rfl | (rw [same_no hm hw]; rfl)))
        ·
          have q29 := of_decide_eq_false g29
          refine TL.gdY rfl rfl (pr_field rfl) rfl ?_
          refine TL.gdY rfl rfl (pr_own1 rfl (.there _ (.here _)) rfl) rfl ?_
          refine TL.gdY rfl rfl (pr_pure rfl) rfl ?_
          refine TL.run (pr_pure rfl) rfl ?_
          refine TL.run (pr_pure rfl) rfl ?_
          refine TL.split (s := 34) rfl (fun g34 => ?_) (fun g34 => ?_)
          ·
            have q34 := of_decide_eq_true g34
            refine TL.gdN rfl rfl rfl rfl ?_
            refine TL.gdN rfl rfl rfl rfl ?_
            refine TL.gdN rfl rfl rfl rfl ?_
            refine TL.run (pr_pure rfl) rfl ?_
            refine TL.nil ?_
            refine TX.seqN ?_
            refine TC.condT rfl ?_
            refine TC.seq ?_
            refine TC.region ?_
            refine TL.run (pr_pure rfl) rfl ?_
            refine TL.nil ?_
            refine TX.seqN ?_
            refine TC.ret ?_
            refine TX.thenR ?_
            refine TX.blkR ?_
            refine TX.thenR ?_
            exact TX.finS (.inr rfl) (results1 rfl (RVal.tmp rfl)) (congrArg Value.bool (by first | rfl | (rw [same_no hm hw]; rfl)))
          ·
            have q34 := of_decide_eq_false g34
            refine TL.gdY rfl rfl (pr_field rfl) rfl ?_
            refine TL.gdY rfl rfl (pr_own1 rfl (.there _ (.here _)) rfl) rfl ?_
            refine TL.gdY rfl rfl (pr_pure rfl) rfl ?_
            refine TL.run (pr_pure rfl) rfl ?_
            refine TL.nil ?_
            refine TX.seqN ?_
            refine TC.condD rfl (fun c38 => ?_) (fun c38 => ?_)
            ·
              refine TC.seq ?_
              refine TC.region ?_
              refine TL.run (pr_pure rfl) rfl ?_
              refine TL.nil ?_
              refine TX.seqN ?_
              refine TC.ret ?_
              refine TX.thenR ?_
              refine TX.blkR ?_
              refine TX.thenR ?_
              exact TX.finS (.inr rfl) (results1 rfl (RVal.tmp rfl)) (congrArg Value.bool (by first | rfl | (rw [same_no hm hw]; rfl)))
            ·
              refine TC.skip ?_
              refine TX.seqN ?_
              refine TC.region ?_
              refine TL.run (pr_field rfl) rfl ?_
              refine TL.store1 rfl rfl rfl (.here _) rfl rfl ?_
              refine TL.nil ?_
              refine TX.blkN ?_
              refine TX.seqN ?_
              refine TC.seq ?_
              refine TC.region ?_
              refine TL.run (pr_ownA rfl (.here _) rfl) rfl ?_
              have hw : mayV ⟨v.k, 1, v.s, v.l⟩ = false := kd_n hm (by assumption) (by assumption) (by assumption)
              refine TL.callS (enters rfl rfl rfl rfl) (dMay_ok (x := ⟨v.k, 1, v.s, v.l⟩) hV) rfl ?_
              refine TL.run (pr_pure rfl) rfl ?_
              refine TL.run (pr_pure rfl) rfl ?_
              refine TL.split (s := 73) rfl (fun g73 => ?_) (fun g73 => ?_)
              ·
                refine TL.gdY rfl rfl (pr_ownA rfl (.here _) rfl) rfl ?_
                refine TL.callTSY hT rfl rfl (enters rfl rfl rfl rfl) (show_no hw ▸ dShow_ok (a := ⟨v.k, 1, v.s, v.l⟩) hV ⟨i64_1, iV.2⟩ (fun h => absurd h (by rw [hw]; decide))) rfl ?_
                refine TL.gdY rfl rfl (pr_str rfl rfl rfl) rfl ?_
                refine TL.run (pr_pure rfl) rfl ?_
                refine TL.run (pr_pure rfl) rfl ?_
                refine TL.split (s := 78) rfl (fun g78 => ?_) (fun g78 => ?_)
                ·
                  have q78 := of_decide_eq_true g78
                  refine TL.gdY rfl rfl (pr_ownA rfl (.there _ (.here _)) rfl) rfl ?_
                  refine TL.gdY rfl rfl (pr_ownA rfl (.here _) rfl) rfl ?_
                  refine TL.callSY rfl rfl (enters rfl rfl rfl rfl) (dSame_ok (a := v) (b := ⟨v.k, 1, v.s, v.l⟩) hV hV) rfl ?_
                  refine TL.gdY rfl rfl (pr_pure rfl) rfl ?_
                  refine TL.run (pr_pure rfl) rfl ?_
                  refine TL.run (pr_pure rfl) rfl ?_
                  refine TL.nil ?_
                  refine TX.seqN ?_
                  refine TC.ret ?_
                  exact TX.finS (.inr rfl) (results1 rfl (RVal.tmp rfl)) (congrArg Value.bool (by first | rfl | (rw [same_no hm hw]; rfl)))
                ·
                  have q78 := of_decide_eq_false g78
                  exact absurd g78 (by decide)
              ·
                exact absurd g73 (by rw [hw]; decide)
      ·
        refine TC.seq ?_
        refine TC.region ?_
        refine TL.run (pr_pure rfl) rfl ?_
        refine TL.run (pr_pure rfl) rfl ?_
        refine TL.nil ?_
        refine TX.seqN ?_
        refine TC.condD rfl (fun c40 => ?_) (fun c40 => ?_)
        ·
          refine TC.seq ?_
          refine TC.region ?_
          refine TL.run (pr_field rfl) rfl ?_
          refine TL.run (pr_own1 rfl (.there _ (.here _)) rfl) rfl ?_
          refine TL.run (pr_pure rfl) rfl ?_
          refine TL.run (pr_pure rfl) rfl ?_
          refine TL.split (s := 45) rfl (fun g45 => ?_) (fun g45 => ?_)
          ·
            have q45 := of_decide_eq_true g45
            refine TL.gdN rfl rfl rfl rfl ?_
            refine TL.gdN rfl rfl rfl rfl ?_
            refine TL.gdN rfl rfl rfl rfl ?_
            refine TL.run (pr_pure rfl) rfl ?_
            refine TL.nil ?_
            refine TX.seqN ?_
            refine TC.condT rfl ?_
            refine TC.region ?_
            refine TL.bslice rfl rfl rfl rfl (fun b50 => ?_)
            refine TL.run (pr_field rfl) rfl ?_
            refine TL.store1 rfl rfl rfl (.there _ (.here _)) rfl rfl ?_
            refine TL.nil ?_
            refine TX.blkN ?_
            refine TX.seqN ?_
            refine TC.seq ?_
            refine TC.region ?_
            refine TL.run (pr_ownA rfl (.there _ (.here _)) rfl) rfl ?_
            refine TL.pub (by simp) (fun H_b50 le_b50 rd_b50 => ?_)
            replace hG := hG.le le_b50
            replace hV := hV.le le_b50
            have hX : RdSl H_b50 1 I64.cells _ ([0]) := RdSl.blk (cap := 1) rd_b50 (by intro x hx; rfl) (by kernel_rfl) (by show 1 ≤ 9223372036854775807; decide)
            have hw : mayV ⟨v.k, v.n, v.s, [0]⟩ = false := kd_l1 (by first | exact .inl (by assumption) | exact .inr (by assumption))
            refine TL.callS (enters rfl rfl rfl rfl) (dMay_ok (x := ⟨v.k, v.n, v.s, [0]⟩) hX) rfl ?_
            refine TL.run (pr_pure rfl) rfl ?_
            refine TL.run (pr_pure rfl) rfl ?_
            refine TL.split (s := 73) rfl (fun g73 => ?_) (fun g73 => ?_)
            ·
              refine TL.gdY rfl rfl (pr_ownA rfl (.here _) rfl) rfl ?_
              refine TL.callTSY hT rfl rfl (enters rfl rfl rfl rfl) (show_no hw ▸ dShow_ok (a := ⟨v.k, v.n, v.s, [0]⟩) hX ⟨iV.1, fun n h => by simp at h; subst h; exact i64_0⟩ (fun h => absurd h (by rw [hw]; decide))) rfl ?_
              refine TL.gdY rfl rfl (pr_str rfl rfl rfl) rfl ?_
              refine TL.run (pr_pure rfl) rfl ?_
              refine TL.run (pr_pure rfl) rfl ?_
              refine TL.split (s := 78) rfl (fun g78 => ?_) (fun g78 => ?_)
              ·
                have q78 := of_decide_eq_true g78
                refine TL.gdY rfl rfl (pr_ownA rfl (.there _ (.here _)) rfl) rfl ?_
                refine TL.gdY rfl rfl (pr_ownA rfl (.here _) rfl) rfl ?_
                refine TL.callSY rfl rfl (enters rfl rfl rfl rfl) (dSame_ok (a := v) (b := ⟨v.k, v.n, v.s, [0]⟩) hV hX) rfl ?_
                refine TL.gdY rfl rfl (pr_pure rfl) rfl ?_
                refine TL.run (pr_pure rfl) rfl ?_
                refine TL.run (pr_pure rfl) rfl ?_
                refine TL.nil ?_
                refine TX.seqN ?_
                refine TC.ret ?_
                exact TX.finS (.inr rfl) (results1 rfl (RVal.tmp rfl)) (congrArg Value.bool (by first | rfl | (rw [same_no hm hw]; rfl)))
              ·
                have q78 := of_decide_eq_false g78
                exact absurd g78 (by decide)
            ·
              exact absurd g73 (by rw [hw]; decide)
          ·
            have q45 := of_decide_eq_false g45
            refine TL.gdY rfl rfl (pr_field rfl) rfl ?_
            refine TL.gdY rfl rfl (pr_own1 rfl (.there _ (.here _)) rfl) rfl ?_
            refine TL.gdY rfl rfl (pr_pure rfl) rfl ?_
            refine TL.run (pr_pure rfl) rfl ?_
            refine TL.nil ?_
            refine TX.seqN ?_
            refine TC.condD rfl (fun c49 => ?_) (fun c49 => ?_)
            ·
              refine TC.region ?_
              refine TL.bslice rfl rfl rfl rfl (fun b50 => ?_)
              refine TL.run (pr_field rfl) rfl ?_
              refine TL.store1 rfl rfl rfl (.there _ (.here _)) rfl rfl ?_
              refine TL.nil ?_
              refine TX.blkN ?_
              refine TX.seqN ?_
              refine TC.seq ?_
              refine TC.region ?_
              refine TL.run (pr_ownA rfl (.there _ (.here _)) rfl) rfl ?_
              refine TL.pub (by simp) (fun H_b50 le_b50 rd_b50 => ?_)
              replace hG := hG.le le_b50
              replace hV := hV.le le_b50
              have hX : RdSl H_b50 1 I64.cells _ ([0]) := RdSl.blk (cap := 1) rd_b50 (by intro x hx; rfl) (by kernel_rfl) (by show 1 ≤ 9223372036854775807; decide)
              have hw : mayV ⟨v.k, v.n, v.s, [0]⟩ = false := kd_l1 (by first | exact .inl (by assumption) | exact .inr (by assumption))
              refine TL.callS (enters rfl rfl rfl rfl) (dMay_ok (x := ⟨v.k, v.n, v.s, [0]⟩) hX) rfl ?_
              refine TL.run (pr_pure rfl) rfl ?_
              refine TL.run (pr_pure rfl) rfl ?_
              refine TL.split (s := 73) rfl (fun g73 => ?_) (fun g73 => ?_)
              ·
                refine TL.gdY rfl rfl (pr_ownA rfl (.here _) rfl) rfl ?_
                refine TL.callTSY hT rfl rfl (enters rfl rfl rfl rfl) (show_no hw ▸ dShow_ok (a := ⟨v.k, v.n, v.s, [0]⟩) hX ⟨iV.1, fun n h => by simp at h; subst h; exact i64_0⟩ (fun h => absurd h (by rw [hw]; decide))) rfl ?_
                refine TL.gdY rfl rfl (pr_str rfl rfl rfl) rfl ?_
                refine TL.run (pr_pure rfl) rfl ?_
                refine TL.run (pr_pure rfl) rfl ?_
                refine TL.split (s := 78) rfl (fun g78 => ?_) (fun g78 => ?_)
                ·
                  have q78 := of_decide_eq_true g78
                  refine TL.gdY rfl rfl (pr_ownA rfl (.there _ (.here _)) rfl) rfl ?_
                  refine TL.gdY rfl rfl (pr_ownA rfl (.here _) rfl) rfl ?_
                  refine TL.callSY rfl rfl (enters rfl rfl rfl rfl) (dSame_ok (a := v) (b := ⟨v.k, v.n, v.s, [0]⟩) hV hX) rfl ?_
                  refine TL.gdY rfl rfl (pr_pure rfl) rfl ?_
                  refine TL.run (pr_pure rfl) rfl ?_
                  refine TL.run (pr_pure rfl) rfl ?_
                  refine TL.nil ?_
                  refine TX.seqN ?_
                  refine TC.ret ?_
                  exact TX.finS (.inr rfl) (results1 rfl (RVal.tmp rfl)) (congrArg Value.bool (by first | rfl | (rw [same_no hm hw]; rfl)))
                ·
                  have q78 := of_decide_eq_false g78
                  exact absurd g78 (by decide)
              ·
                exact absurd g73 (by rw [hw]; decide)
            ·
              refine TC.region ?_
              refine TL.run (pr_field rfl) rfl ?_
              refine TL.store1 rfl rfl rfl (.here _) rfl rfl ?_
              refine TL.nil ?_
              refine TX.blkN ?_
              refine TX.seqN ?_
              refine TC.seq ?_
              refine TC.region ?_
              refine TL.run (pr_ownA rfl (.here _) rfl) rfl ?_
              have hw : mayV ⟨v.k, v.n, [120], v.l⟩ = false := kd_s hm (by assumption) (by assumption)
              refine TL.callS (enters rfl rfl rfl rfl) (dMay_ok (x := ⟨v.k, v.n, [120], v.l⟩) hV) rfl ?_
              refine TL.run (pr_pure rfl) rfl ?_
              refine TL.run (pr_pure rfl) rfl ?_
              refine TL.split (s := 73) rfl (fun g73 => ?_) (fun g73 => ?_)
              ·
                refine TL.gdY rfl rfl (pr_ownA rfl (.here _) rfl) rfl ?_
                refine TL.callTSY hT rfl rfl (enters rfl rfl rfl rfl) (show_no hw ▸ dShow_ok (a := ⟨v.k, v.n, [120], v.l⟩) hV iV (fun h => absurd h (by rw [hw]; decide))) rfl ?_
                refine TL.gdY rfl rfl (pr_str rfl rfl rfl) rfl ?_
                refine TL.run (pr_pure rfl) rfl ?_
                refine TL.run (pr_pure rfl) rfl ?_
                refine TL.split (s := 78) rfl (fun g78 => ?_) (fun g78 => ?_)
                ·
                  have q78 := of_decide_eq_true g78
                  refine TL.gdY rfl rfl (pr_ownA rfl (.there _ (.here _)) rfl) rfl ?_
                  refine TL.gdY rfl rfl (pr_ownA rfl (.here _) rfl) rfl ?_
                  refine TL.callSY rfl rfl (enters rfl rfl rfl rfl) (dSame_ok (a := v) (b := ⟨v.k, v.n, [120], v.l⟩) hV hV) rfl ?_
                  refine TL.gdY rfl rfl (pr_pure rfl) rfl ?_
                  refine TL.run (pr_pure rfl) rfl ?_
                  refine TL.run (pr_pure rfl) rfl ?_
                  refine TL.nil ?_
                  refine TX.seqN ?_
                  refine TC.ret ?_
                  exact TX.finS (.inr rfl) (results1 rfl (RVal.tmp rfl)) (congrArg Value.bool (by first | rfl | (rw [same_no hm hw]; rfl)))
                ·
                  have q78 := of_decide_eq_false g78
                  exact absurd g78 (by decide)
              ·
                exact absurd g73 (by rw [hw]; decide)
        ·
          refine TC.seq ?_
          refine TC.region ?_
          refine TL.run (pr_pure rfl) rfl ?_
          refine TL.run (pr_pure rfl) rfl ?_
          refine TL.nil ?_
          refine TX.seqN ?_
          refine TC.condD rfl (fun c53 => ?_) (fun c53 => ?_)
          ·
            refine TC.seq ?_
            refine TC.region ?_
            refine TL.run (pr_field rfl) rfl ?_
            refine TL.run (pr_own1 rfl (.there _ (.here _)) rfl) rfl ?_
            refine TL.run (pr_pure rfl) rfl ?_
            refine TL.nil ?_
            refine TX.seqN ?_
            refine TC.condD rfl (fun c57 => ?_) (fun c57 => ?_)
            ·
              refine TC.region ?_
              refine TL.make rfl rfl (by first | omega | decide) (by first | omega | decide) (by first | omega | decide) rfl (fun b58 => ?_)
              refine TL.run (pr_field rfl) rfl ?_
              refine TL.store1 rfl rfl rfl (.there _ (.here _)) rfl rfl ?_
              refine TL.nil ?_
              refine TX.blkN ?_
              refine TX.seqN ?_
              refine TC.seq ?_
              refine TC.region ?_
              refine TL.run (pr_ownA rfl (.there _ (.here _)) rfl) rfl ?_
              refine TL.pub (by simp) (fun H_b58 le_b58 rd_b58 => ?_)
              replace hG := hG.le le_b58
              replace hV := hV.le le_b58
              have hX : RdSl H_b58 1 I64.cells _ (List.replicate 17 (0 : Int)) := RdSl.blk (cap := 17) rd_b58 (by intro x hx; rfl) (by kernel_rfl) (by decide)
              have hw : mayV ⟨v.k, v.n, v.s, List.replicate 17 0⟩ = false := kd_l17 c57 (by simp)
              refine TL.callS (enters rfl rfl rfl rfl) (dMay_ok (x := ⟨v.k, v.n, v.s, List.replicate 17 0⟩) hX) rfl ?_
              refine TL.run (pr_pure rfl) rfl ?_
              refine TL.run (pr_pure rfl) rfl ?_
              refine TL.split (s := 73) rfl (fun g73 => ?_) (fun g73 => ?_)
              ·
                refine TL.gdY rfl rfl (pr_ownA rfl (.here _) rfl) rfl ?_
                refine TL.callTSY hT rfl rfl (enters rfl rfl rfl rfl) (show_no hw ▸ dShow_ok (a := ⟨v.k, v.n, v.s, List.replicate 17 0⟩) hX ⟨iV.1, fun n h => by rw [(List.mem_replicate.1 h).2]; exact i64_0⟩ (fun h => absurd h (by rw [hw]; decide))) rfl ?_
                refine TL.gdY rfl rfl (pr_str rfl rfl rfl) rfl ?_
                refine TL.run (pr_pure rfl) rfl ?_
                refine TL.run (pr_pure rfl) rfl ?_
                refine TL.split (s := 78) rfl (fun g78 => ?_) (fun g78 => ?_)
                ·
                  have q78 := of_decide_eq_true g78
                  refine TL.gdY rfl rfl (pr_ownA rfl (.there _ (.here _)) rfl) rfl ?_
                  refine TL.gdY rfl rfl (pr_ownA rfl (.here _) rfl) rfl ?_
                  refine TL.callSY rfl rfl (enters rfl rfl rfl rfl) (dSame_ok (a := v) (b := ⟨v.k, v.n, v.s, List.replicate 17 0⟩) hV hX) rfl ?_
                  refine TL.gdY rfl rfl (pr_pure rfl) rfl ?_
                  refine TL.run (pr_pure rfl) rfl ?_
                  refine TL.run (pr_pure rfl) rfl ?_
                  refine TL.nil ?_
                  refine TX.seqN ?_
                  refine TC.ret ?_
                  exact TX.finS (.inr rfl) (results1 rfl (RVal.tmp rfl)) (congrArg Value.bool (by first | rfl | (rw [same_no hm hw]; rfl)))
                ·
                  have q78 := of_decide_eq_false g78
                  exact absurd g78 (by decide)
              ·
                exact absurd g73 (by rw [hw]; decide)
            ·
              refine TC.region ?_
              refine TL.bslice rfl rfl rfl rfl (fun b60 => ?_)
              refine TL.run (pr_field rfl) rfl ?_
              refine TL.store1 rfl rfl rfl (.there _ (.here _)) rfl rfl ?_
              refine TL.nil ?_
              refine TX.blkN ?_
              refine TX.seqN ?_
              refine TC.seq ?_
              refine TC.region ?_
              refine TL.run (pr_ownA rfl (.there _ (.here _)) rfl) rfl ?_
              refine TL.pub (by simp) (fun H_b60 le_b60 rd_b60 => ?_)
              replace hG := hG.le le_b60
              replace hV := hV.le le_b60
              have hX : RdSl H_b60 1 I64.cells _ ([7]) := RdSl.blk (cap := 1) rd_b60 (by intro x hx; rfl) (by kernel_rfl) (by show 1 ≤ 9223372036854775807; decide)
              have hw : mayV ⟨v.k, v.n, v.s, [7]⟩ = false := kd_l hm c57
              refine TL.callS (enters rfl rfl rfl rfl) (dMay_ok (x := ⟨v.k, v.n, v.s, [7]⟩) hX) rfl ?_
              refine TL.run (pr_pure rfl) rfl ?_
              refine TL.run (pr_pure rfl) rfl ?_
              refine TL.split (s := 73) rfl (fun g73 => ?_) (fun g73 => ?_)
              ·
                refine TL.gdY rfl rfl (pr_ownA rfl (.here _) rfl) rfl ?_
                refine TL.callTSY hT rfl rfl (enters rfl rfl rfl rfl) (show_no hw ▸ dShow_ok (a := ⟨v.k, v.n, v.s, [7]⟩) hX ⟨iV.1, fun n h => by simp at h; subst h; exact ⟨by decide, by decide⟩⟩ (fun h => absurd h (by rw [hw]; decide))) rfl ?_
                refine TL.gdY rfl rfl (pr_str rfl rfl rfl) rfl ?_
                refine TL.run (pr_pure rfl) rfl ?_
                refine TL.run (pr_pure rfl) rfl ?_
                refine TL.split (s := 78) rfl (fun g78 => ?_) (fun g78 => ?_)
                ·
                  have q78 := of_decide_eq_true g78
                  refine TL.gdY rfl rfl (pr_ownA rfl (.there _ (.here _)) rfl) rfl ?_
                  refine TL.gdY rfl rfl (pr_ownA rfl (.here _) rfl) rfl ?_
                  refine TL.callSY rfl rfl (enters rfl rfl rfl rfl) (dSame_ok (a := v) (b := ⟨v.k, v.n, v.s, [7]⟩) hV hX) rfl ?_
                  refine TL.gdY rfl rfl (pr_pure rfl) rfl ?_
                  refine TL.run (pr_pure rfl) rfl ?_
                  refine TL.run (pr_pure rfl) rfl ?_
                  refine TL.nil ?_
                  refine TX.seqN ?_
                  refine TC.ret ?_
                  exact TX.finS (.inr rfl) (results1 rfl (RVal.tmp rfl)) (congrArg Value.bool (by first | rfl | (rw [same_no hm hw]; rfl)))
                ·
                  have q78 := of_decide_eq_false g78
                  exact absurd g78 (by decide)
              ·
                exact absurd g73 (by rw [hw]; decide)
          ·
            refine TC.seq ?_
            refine TC.region ?_
            refine TL.run (pr_pure rfl) rfl ?_
            refine TL.run (pr_pure rfl) rfl ?_
            refine TL.nil ?_
            refine TX.seqN ?_
            refine TC.condD rfl (fun c62 => ?_) (fun c62 => ?_)
            ·
              refine TC.region ?_
              refine TL.run (pr_pure rfl) rfl ?_
              refine TL.run (pr_conv rfl) rfl ?_
              refine TL.run (pr_rem rfl rfl (by decide)) rfl ?_
              refine TL.run (pr_conv rfl) rfl ?_
              have hkw : 0 ≤ IntKind.i64.wrap ((IntKind.u64.wrap what).tmod 100) ∧ IntKind.i64.wrap ((IntKind.u64.wrap what).tmod 100) < 100 := kd_mod what
              have hk1 : 5 < 6 + IntKind.i64.wrap ((IntKind.u64.wrap what).tmod 100) := by omega
              refine TL.run ((by first | exact pr_add rfl rfl (by omega) (by omega) | exact pr_pure rfl)) rfl ?_
              refine TL.run (pr_field rfl) rfl ?_
              refine TL.store1 rfl rfl rfl (.here _) rfl rfl ?_
              refine TL.nil ?_
              refine TX.blkN ?_
              refine TX.seqN ?_
              refine TC.seq ?_
              refine TC.region ?_
              refine TL.run (pr_ownA rfl (.here _) rfl) rfl ?_
              have hw : mayV ⟨6 + IntKind.i64.wrap ((IntKind.u64.wrap what).tmod 100), v.n, v.s, v.l⟩ = false := kd_k (.inr hk1)
              refine TL.callS (enters rfl rfl rfl rfl) (dMay_ok (x := ⟨6 + IntKind.i64.wrap ((IntKind.u64.wrap what).tmod 100), v.n, v.s, v.l⟩) hV) rfl ?_
              refine TL.run (pr_pure rfl) rfl ?_
              refine TL.run (pr_pure rfl) rfl ?_
              refine TL.split (s := 73) rfl (fun g73 => ?_) (fun g73 => ?_)
              ·
                refine TL.gdY rfl rfl (pr_ownA rfl (.here _) rfl) rfl ?_
                refine TL.callTSY hT rfl rfl (enters rfl rfl rfl rfl) (show_no hw ▸ dShow_ok (a := ⟨6 + IntKind.i64.wrap ((IntKind.u64.wrap what).tmod 100), v.n, v.s, v.l⟩) hV iV (fun h => absurd h (by rw [hw]; decide))) rfl ?_
                refine TL.gdY rfl rfl (pr_str rfl rfl rfl) rfl ?_
                refine TL.run (pr_pure rfl) rfl ?_
                refine TL.run (pr_pure rfl) rfl ?_
                refine TL.split (s := 78) rfl (fun g78 => ?_) (fun g78 => ?_)
                ·
                  have q78 := of_decide_eq_true g78
                  refine TL.gdY rfl rfl (pr_ownA rfl (.there _ (.here _)) rfl) rfl ?_
                  refine TL.gdY rfl rfl (pr_ownA rfl (.here _) rfl) rfl ?_
                  refine TL.callSY rfl rfl (enters rfl rfl rfl rfl) (dSame_ok (a := v) (b := ⟨6 + IntKind.i64.wrap ((IntKind.u64.wrap what).tmod 100), v.n, v.s, v.l⟩) hV hV) rfl ?_
                  refine TL.gdY rfl rfl (pr_pure rfl) rfl ?_
                  refine TL.run (pr_pure rfl) rfl ?_
                  refine TL.run (pr_pure rfl) rfl ?_
                  refine TL.nil ?_
                  refine TX.seqN ?_
                  refine TC.ret ?_
                  exact TX.finS (.inr rfl) (results1 rfl (RVal.tmp rfl)) (congrArg Value.bool (by first | rfl | (rw [same_no hm hw]; rfl)))
                ·
                  have q78 := of_decide_eq_false g78
                  exact absurd g78 (by decide)
              ·
                exact absurd g73 (by rw [hw]; decide)
            ·
              refine TC.region ?_
              refine TL.run (pr_pure rfl) rfl ?_
              refine TL.run (pr_conv rfl) rfl ?_
              refine TL.run (pr_rem rfl rfl (by decide)) rfl ?_
              refine TL.run (pr_conv rfl) rfl ?_
              have hkw : 0 ≤ IntKind.i64.wrap ((IntKind.u64.wrap what).tmod 100) ∧ IntKind.i64.wrap ((IntKind.u64.wrap what).tmod 100) < 100 := kd_mod what
              have hk0 : -1 - IntKind.i64.wrap ((IntKind.u64.wrap what).tmod 100) < 0 := by omega
              refine TL.run ((by first | exact pr_sub rfl rfl (by omega) (by omega) | exact pr_pure rfl)) rfl ?_
              refine TL.run (pr_field rfl) rfl ?_
              refine TL.store1 rfl rfl rfl (.here _) rfl rfl ?_
              refine TL.nil ?_
              refine TX.blkN ?_
              refine TX.seqN ?_
              refine TC.seq ?_
              refine TC.region ?_
              refine TL.run (pr_ownA rfl (.here _) rfl) rfl ?_
              have hw : mayV ⟨-1 - IntKind.i64.wrap ((IntKind.u64.wrap what).tmod 100), v.n, v.s, v.l⟩ = false := kd_k (.inl hk0)
              refine TL.callS (enters rfl rfl rfl rfl) (dMay_ok (x := ⟨-1 - IntKind.i64.wrap ((IntKind.u64.wrap what).tmod 100), v.n, v.s, v.l⟩) hV) rfl ?_
              refine TL.run (pr_pure rfl) rfl ?_
              refine TL.run (pr_pure rfl) rfl ?_
              refine TL.split (s := 73) rfl (fun g73 => ?_) (fun g73 => ?_)
              ·
                refine TL.gdY rfl rfl (pr_ownA rfl (.here _) rfl) rfl ?_
                refine TL.callTSY hT rfl rfl (enters rfl rfl rfl rfl) (show_no hw ▸ dShow_ok (a := ⟨-1 - IntKind.i64.wrap ((IntKind.u64.wrap what).tmod 100), v.n, v.s, v.l⟩) hV iV (fun h => absurd h (by rw [hw]; decide))) rfl ?_
                refine TL.gdY rfl rfl (pr_str rfl rfl rfl) rfl ?_
                refine TL.run (pr_pure rfl) rfl ?_
                refine TL.run (pr_pure rfl) rfl ?_
                refine TL.split (s := 78) rfl (fun g78 => ?_) (fun g78 => ?_)
                ·
                  have q78 := of_decide_eq_true g78
                  refine TL.gdY rfl rfl (pr_ownA rfl (.there _ (.here _)) rfl) rfl ?_
                  refine TL.gdY rfl rfl (pr_ownA rfl (.here _) rfl) rfl ?_
                  refine TL.callSY rfl rfl (enters rfl rfl rfl rfl) (dSame_ok (a := v) (b := ⟨-1 - IntKind.i64.wrap ((IntKind.u64.wrap what).tmod 100), v.n, v.s, v.l⟩) hV hV) rfl ?_
                  refine TL.gdY rfl rfl (pr_pure rfl) rfl ?_
                  refine TL.run (pr_pure rfl) rfl ?_
                  refine TL.run (pr_pure rfl) rfl ?_
                  refine TL.nil ?_
                  refine TX.seqN ?_
                  refine TC.ret ?_
                  exact TX.finS (.inr rfl) (results1 rfl (RVal.tmp rfl)) (congrArg Value.bool (by first | rfl | (rw [same_no hm hw]; rfl)))
                ·
                  have q78 := of_decide_eq_false g78
                  exact absurd g78 (by decide)
              ·
                exact absurd g73 (by rw [hw]; decide)
end Go.Sx
