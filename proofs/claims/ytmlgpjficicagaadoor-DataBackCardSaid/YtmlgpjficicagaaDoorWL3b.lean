import Derived.Test.YtmlgpjficicagaaDoorWL3
set_option linter.unusedVariables false
set_option linter.unusedSimpArgs false
namespace Go.Sx
open Go Go.Proofs
set_option maxRecDepth 100000 in
set_option maxHeartbeats 4000000 in
theorem DataBack_ok {H : Hp} {a b : Val} {la lb : Value} (s : Str) (hA : RdV H la a) (iA : i64V a) (hB : RdV H lb b) (iB : i64V b) (hG : LibG H) :
    FnGS Tabs Tryd.prog 4 [.agg (a.cells la).toArray, .agg (b.cells lb).toArray, gs s] H (.bool true) := by
  refine FnGS.enter Tryd.func4 Tryd.ntmps4 rfl rfl (fun w0 hT => ?_)
  refine TC.seq ?_
  refine TC.region ?_
  refine TL.box rfl rfl (fun b3 => ?_)
  refine TL.box rfl rfl (fun b4 => ?_)
  refine TL.run (pr_pure rfl) rfl ?_
  refine TL.nil ?_
  refine TX.seqN ?_
  refine TC.seq ?_
  refine TC.seq ?_
  refine TC.region ?_
  refine TL.callTS hT (enters rfl rfl rfl rfl) (first3_ok hG) rfl ?_
  refine TL.run (pr_pure rfl) rfl ?_
  refine TL.nil ?_
  refine TX.seqN ?_
  refine TC.cond rfl (fun c12 => ?_) (fun c12 => ?_)
  ·
    exact absurd c12 (by decide)
  ·
    refine TC.skip ?_
    refine TX.seqN ?_
    refine TC.seq ?_
    refine TC.seq ?_
    refine TC.region ?_
    refine TL.run (pr_pure rfl) rfl ?_
    refine TL.run (pr_lenStr rfl rfl) rfl ?_
    refine TL.run (pr_pure rfl) rfl ?_
    refine TL.nil ?_
    refine TX.seqN ?_
    refine TC.condD rfl (fun c15 => ?_) (fun c15 => ?_)
    ·
      refine TC.seq ?_
      refine TC.region ?_
      refine TL.run (pr_pure rfl) rfl ?_
      refine TL.nil ?_
      refine TX.seqN ?_
      refine TC.ret ?_
      refine TX.thenR ?_
      exact TX.finS (.inr rfl) (results1 rfl (RVal.tmp rfl)) (congrArg Value.bool (by first | rfl | (rw [show_same hma hmb iA iB q52 c56]; simp)))
    ·
      refine TC.skip ?_
      refine TX.seqN ?_
      refine TC.seq ?_
      refine TC.region ?_
      refine TL.run (pr_pure rfl) rfl ?_
      refine TL.callT hT (enters rfl rfl rfl rfl) (dRead_ok s (by omega) hG) rfl (fun v18 H18 hle18 hp18 => ?_)
      obtain ⟨lv18, rfl, hR18⟩ := hp18
      replace hG := hG.le hle18
      replace hA := hA.le hle18
      replace hB := hB.le hle18
      obtain ⟨la18, lc18, rfl⟩ := RdSl.len (show RdSl _ 1 I64.cells lv18 _ from hR18)
      refine TL.run (pr_pure rfl) rfl ?_
      refine TL.run (pr_pure rfl) rfl ?_
      refine TL.run (pr_pure rfl) rfl ?_
      refine TL.alloc rfl (fun b7 => ?_)
      refine TL.storeA rfl rfl rfl rfl rfl (.here _) rfl rfl ?_
      refine TL.run (pr_pure rfl) rfl ?_
      refine TL.nil ?_
      refine TX.seqN ?_
      refine TC.seq ?_
      refine TC.seq ?_
      refine TC.region ?_
      refine TL.run (pr_pure rfl) rfl ?_
      refine TL.run (pr_pure rfl) rfl ?_
      refine TL.run (pr_pure rfl) rfl ?_
      refine TL.split (s := 23) rfl (fun g23 => ?_) (fun g23 => ?_)
      ·
        have q23 := of_decide_eq_true g23
        obtain ⟨r1, r2, r3, r4⟩ := read_ok q23
        refine TL.gdY rfl rfl (pr_ownA rfl (.here _) rfl) rfl ?_
        refine TL.callSY rfl rfl (enters rfl rfl rfl rfl) (dMay_ok (x := (readV s).1) hR18) rfl ?_
        refine TL.gdY rfl rfl (pr_pure rfl) rfl ?_
        refine TL.gdY rfl rfl (pr_pure rfl) rfl ?_
        refine TL.split (s := 27) rfl (fun g27 => ?_) (fun g27 => ?_)
        ·
          exact absurd g27 (by rw [r1]; decide)
        ·
          refine TL.gdY rfl rfl (pr_field rfl) rfl ?_
          refine TL.gdY rfl rfl (pr_own1 rfl (.here _) rfl) rfl ?_
          refine TL.gdY rfl rfl (pr_pure rfl) rfl ?_
          refine TL.gdY rfl rfl (pr_pure rfl) rfl ?_
          refine TL.gdY rfl rfl (pr_pure rfl) rfl ?_
          refine TL.split (s := 32) rfl (fun g32 => ?_) (fun g32 => ?_)
          ·
            have q32 := of_decide_eq_true g32
            exact absurd q32 r2
          ·
            have q32 := of_decide_eq_false g32
            refine TL.gdY rfl rfl (pr_ownA rfl (.here _) rfl) rfl ?_
            refine TL.callTSY hT rfl rfl (enters rfl rfl rfl rfl) (dShow_ok (a := (readV s).1) hR18 r4 (fun _ h => absurd h r2)) rfl ?_
            refine TL.gdY rfl rfl (pr_pure rfl) rfl ?_
            refine TL.gdY rfl rfl (pr_str rfl rfl rfl) rfl ?_
            refine TL.gdY rfl rfl (pr_pure rfl) rfl ?_
            refine TL.run (pr_pure rfl) rfl ?_
            refine TL.nil ?_
            refine TX.seqN ?_
            refine TC.condND rfl (fun c38 => ?_) (fun c38 => ?_)
            ·
              exact absurd r3 c38
            ·
              refine TC.skip ?_
              refine TX.seqN ?_
              refine TC.seq ?_
              refine TC.seq ?_
              refine TC.region ?_
              refine TL.run (pr_ownA rfl (.there _ (.there _ (.here _))) rfl) rfl ?_
              refine TL.callS (enters rfl rfl rfl rfl) (dMay_ok (x := a) (lv := la) hA) rfl ?_
              refine TL.run (pr_pure rfl) rfl ?_
              refine TL.run (pr_pure rfl) rfl ?_
              refine TL.split (s := 42) rfl (fun g42 => ?_) (fun g42 => ?_)
              ·
                refine TL.gdN rfl rfl rfl rfl ?_
                refine TL.gdN rfl rfl rfl rfl ?_
                refine TL.gdN rfl rfl rfl rfl ?_
                refine TL.run (pr_pure rfl) rfl ?_
                refine TL.run (pr_pure rfl) rfl ?_
                refine TL.gdN rfl rfl rfl rfl ?_
                refine TL.gdN rfl rfl rfl rfl ?_
                refine TL.gdN rfl rfl rfl rfl ?_
                refine TL.run (pr_pure rfl) rfl ?_
                refine TL.run (pr_pure rfl) rfl ?_
                refine TL.gdN rfl rfl rfl rfl ?_
                refine TL.gdN rfl rfl rfl rfl ?_
                refine TL.gdN rfl rfl rfl rfl ?_
                refine TL.run (pr_pure rfl) rfl ?_
                refine TL.nil ?_
                refine TX.seqN ?_
                refine TC.condT rfl ?_
                refine TC.seq ?_
                refine TC.region ?_
                refine TL.run (pr_pure rfl) rfl ?_
                refine TL.nil ?_
                refine TX.seqN ?_
                refine TC.ret ?_
                refine TX.thenR ?_
                exact TX.finS (.inr rfl) (results1 rfl (RVal.tmp rfl)) (congrArg Value.bool (by first | rfl | (rw [show_same hma hmb iA iB q52 c56]; simp)))
              ·
                have hma : mayV a = true := by simpa using g42
                refine TL.gdY rfl rfl (pr_ownA rfl (.there _ (.here _)) rfl) rfl ?_
                refine TL.callSY rfl rfl (enters rfl rfl rfl rfl) (dMay_ok (x := b) (lv := lb) hB) rfl ?_
                refine TL.gdY rfl rfl (pr_pure rfl) rfl ?_
                refine TL.run (pr_pure rfl) rfl ?_
                refine TL.run (pr_pure rfl) rfl ?_
                refine TL.split (s := 47) rfl (fun g47 => ?_) (fun g47 => ?_)
                ·
                  refine TL.gdN rfl rfl rfl rfl ?_
                  refine TL.gdN rfl rfl rfl rfl ?_
                  refine TL.gdN rfl rfl rfl rfl ?_
                  refine TL.run (pr_pure rfl) rfl ?_
                  refine TL.run (pr_pure rfl) rfl ?_
                  refine TL.gdN rfl rfl rfl rfl ?_
                  refine TL.gdN rfl rfl rfl rfl ?_
                  refine TL.gdN rfl rfl rfl rfl ?_
                  refine TL.run (pr_pure rfl) rfl ?_
                  refine TL.nil ?_
                  refine TX.seqN ?_
                  refine TC.condT rfl ?_
                  refine TC.seq ?_
                  refine TC.region ?_
                  refine TL.run (pr_pure rfl) rfl ?_
                  refine TL.nil ?_
                  refine TX.seqN ?_
                  refine TC.ret ?_
                  refine TX.thenR ?_
                  exact TX.finS (.inr rfl) (results1 rfl (RVal.tmp rfl)) (congrArg Value.bool (by first | rfl | (rw [show_same hma hmb iA iB q52 c56]; simp)))
                ·
                  have hmb : mayV b = true := by simpa using g47
                  refine TL.gdY rfl rfl (pr_field rfl) rfl ?_
                  refine TL.gdY rfl rfl (pr_own1 rfl (.there _ (.there _ (.here _))) rfl) rfl ?_
                  refine TL.gdY rfl rfl (pr_pure rfl) rfl ?_
                  refine TL.run (pr_pure rfl) rfl ?_
                  refine TL.run (pr_pure rfl) rfl ?_
                  refine TL.split (s := 52) rfl (fun g52 => ?_) (fun g52 => ?_)
                  ·
                    have q52 := of_decide_eq_true g52
                    refine TL.gdN rfl rfl rfl rfl ?_
                    refine TL.gdN rfl rfl rfl rfl ?_
                    refine TL.gdN rfl rfl rfl rfl ?_
                    refine TL.run (pr_pure rfl) rfl ?_
                    refine TL.nil ?_
                    refine TX.seqN ?_
                    refine TC.condT rfl ?_
                    refine TC.seq ?_
                    refine TC.region ?_
                    refine TL.run (pr_pure rfl) rfl ?_
                    refine TL.nil ?_
                    refine TX.seqN ?_
                    refine TC.ret ?_
                    refine TX.thenR ?_
                    exact TX.finS (.inr rfl) (results1 rfl (RVal.tmp rfl)) (congrArg Value.bool (by first | rfl | (rw [show_same hma hmb iA iB q52 c56]; simp)))
                  ·
                    have q52 := of_decide_eq_false g52
                    refine TL.gdY rfl rfl (pr_field rfl) rfl ?_
                    refine TL.gdY rfl rfl (pr_own1 rfl (.there _ (.here _)) rfl) rfl ?_
                    refine TL.gdY rfl rfl (pr_pure rfl) rfl ?_
                    refine TL.run (pr_pure rfl) rfl ?_
                    refine TL.nil ?_
                    refine TX.seqN ?_
                    refine TC.condD rfl (fun c56 => ?_) (fun c56 => ?_)
                    ·
                      refine TC.seq ?_
                      refine TC.region ?_
                      refine TL.run (pr_pure rfl) rfl ?_
                      refine TL.nil ?_
                      refine TX.seqN ?_
                      refine TC.ret ?_
                      refine TX.thenR ?_
                      exact TX.finS (.inr rfl) (results1 rfl (RVal.tmp rfl)) (congrArg Value.bool (by first | rfl | (rw [show_same hma hmb iA iB q52 c56]; simp)))
                    ·
                      refine TC.skip ?_
                      refine TX.seqN ?_
                      refine TC.seq ?_
                      refine TC.region ?_
                      refine TL.run (pr_ownA rfl (.there _ (.there _ (.here _))) rfl) rfl ?_
                      refine TL.callTS hT (enters rfl rfl rfl rfl) (dShow_ok (a := a) (lv := la) hA iA (fun _ h => absurd h q52)) rfl ?_
                      refine TL.callT hT (enters rfl rfl rfl rfl) (dRead_ok (showV a) (by have := show_len hma iA q52; omega) hG) rfl (fun v60 H60 hle60 hp60 => ?_)
                      rw [read_show hma iA q52] at hp60
                      obtain ⟨lv60, rfl, hR60⟩ := hp60
                      replace hG := hG.le hle60
                      replace hA := hA.le hle60
                      replace hB := hB.le hle60
                      replace hR18 := hR18.le hle60
                      obtain ⟨la60, lc60, rfl⟩ := RdSl.len (show RdSl _ 1 I64.cells lv60 _ from hR60)
                      refine TL.run (pr_pure rfl) rfl ?_
                      refine TL.run (pr_pure rfl) rfl ?_
                      refine TL.run (pr_pure rfl) rfl ?_
                      refine TL.alloc rfl (fun b9 => ?_)
                      refine TL.storeA rfl rfl rfl rfl rfl (.here _) rfl rfl ?_
                      refine TL.run (pr_pure rfl) rfl ?_
                      refine TL.nil ?_
                      refine TX.seqN ?_
                      refine TC.seq ?_
                      refine TC.quiet (by kernel_rfl) (by kernel_rfl) ?_
                      refine TQ.run (pr_pure rfl) rfl ?_
                      refine TQ.run (pr_pure rfl) rfl ?_
                      refine TQ.run (pr_pure rfl) rfl ?_
                      refine TQ.split (s := 65) rfl (fun g65 => ?_) (fun g65 => ?_)
                      ·
                        have q65 := of_decide_eq_true g65
                        refine TQ.gdY rfl rfl (pr_ownA rfl (.here _) rfl) rfl ?_
                        refine TQ.gdY rfl rfl (pr_ownA rfl (.there _ (.there _ (.there _ (.here _)))) rfl) rfl ?_
                        refine TQ.callSY rfl rfl (enters rfl rfl rfl rfl) (dSame_ok (a := a) hR60 hA) rfl ?_
                        refine TQ.run (pr_pure rfl) rfl ?_
                        refine TQ.run (pr_pure rfl) rfl ?_
                        refine TQ.split (s := 70) rfl (fun g70 => ?_) (fun g70 => ?_)
                        ·
                          refine TQ.gdY rfl rfl (pr_ownA rfl (.there _ (.there _ (.there _ (.here _)))) rfl) rfl ?_
                          refine TQ.callTSY hT rfl rfl (enters rfl rfl rfl rfl) (dShow_ok (a := a) (lv := la) hA iA (fun _ h => absurd h q52)) rfl ?_
                          refine TQ.gdY rfl rfl (pr_ownA rfl (.there _ (.there _ (.here _))) rfl) rfl ?_
                          refine TQ.callTSY hT rfl rfl (enters rfl rfl rfl rfl) (dShow_ok (a := b) (lv := lb) hB iB (fun _ h => absurd h c56)) rfl ?_
                          refine TQ.gdY rfl rfl (pr_str rfl rfl rfl) rfl ?_
                          refine TQ.gdY rfl rfl (pr_ownA rfl (.there _ (.there _ (.there _ (.here _)))) rfl) rfl ?_
                          refine TQ.gdY rfl rfl (pr_ownA rfl (.there _ (.there _ (.here _))) rfl) rfl ?_
                          refine TQ.callSY rfl rfl (enters rfl rfl rfl rfl) (dSame_ok (la := la) (lb := lb) hA hB) rfl ?_
                          refine TQ.gdY rfl rfl (pr_bool rfl rfl rfl) rfl ?_
                          refine TQ.run (pr_pure rfl) rfl ?_
                          refine TQ.run (pr_pure rfl) rfl ?_
                          refine TQ.nil ?_
                          refine TX.seqN ?_
                          refine TC.ret ?_
                          exact TX.finS (.inr rfl) (results1 rfl (RVal.tmp rfl)) (congrArg Value.bool (by first | rfl | (rw [show_same hma hmb iA iB q52 c56]; simp)))
                        ·
                          exact absurd g70 (by rw [same_refl]; decide)
                      ·
                        have q65 := of_decide_eq_false g65
                        exact absurd g65 (by simp)
      ·
        have q23 := of_decide_eq_false g23
        refine TL.gdN rfl rfl rfl rfl ?_
        refine TL.gdN rfl rfl rfl rfl ?_
        refine TL.gdN rfl rfl rfl rfl ?_
        refine TL.gdN rfl rfl rfl rfl ?_
        refine TL.gdU rfl rfl rfl ?_
        refine TL.gdU rfl rfl rfl ?_
        refine TL.gdU rfl rfl rfl ?_
        refine TL.gdN rfl rfl rfl rfl ?_
        refine TL.gdN rfl rfl rfl rfl ?_
        refine TL.gdU rfl rfl rfl ?_
        refine TL.gdU rfl rfl rfl ?_
        refine TL.gdU rfl rfl rfl ?_
        refine TL.gdU rfl rfl rfl ?_
        refine TL.gdN rfl rfl rfl rfl ?_
        refine TL.run (pr_pure rfl) rfl ?_
        refine TL.nil ?_
        refine TX.seqN ?_
        refine TC.condF rfl ?_
        refine TC.skip ?_
        refine TX.seqN ?_
        refine TC.seq ?_
        refine TC.seq ?_
        refine TC.region ?_
        refine TL.run (pr_ownA rfl (.there _ (.there _ (.here _))) rfl) rfl ?_
        refine TL.callS (enters rfl rfl rfl rfl) (dMay_ok (x := a) (lv := la) hA) rfl ?_
        refine TL.run (pr_pure rfl) rfl ?_
        refine TL.run (pr_pure rfl) rfl ?_
        refine TL.split (s := 42) rfl (fun g42 => ?_) (fun g42 => ?_)
        ·
          refine TL.gdN rfl rfl rfl rfl ?_
          refine TL.gdN rfl rfl rfl rfl ?_
          refine TL.gdN rfl rfl rfl rfl ?_
          refine TL.run (pr_pure rfl) rfl ?_
          refine TL.run (pr_pure rfl) rfl ?_
          refine TL.gdN rfl rfl rfl rfl ?_
          refine TL.gdN rfl rfl rfl rfl ?_
          refine TL.gdN rfl rfl rfl rfl ?_
          refine TL.run (pr_pure rfl) rfl ?_
          refine TL.run (pr_pure rfl) rfl ?_
          refine TL.gdN rfl rfl rfl rfl ?_
          refine TL.gdN rfl rfl rfl rfl ?_
          refine TL.gdN rfl rfl rfl rfl ?_
          refine TL.run (pr_pure rfl) rfl ?_
          refine TL.nil ?_
          refine TX.seqN ?_
          refine TC.condT rfl ?_
          refine TC.seq ?_
          refine TC.region ?_
          refine TL.run (pr_pure rfl) rfl ?_
          refine TL.nil ?_
          refine TX.seqN ?_
          refine TC.ret ?_
          refine TX.thenR ?_
          exact TX.finS (.inr rfl) (results1 rfl (RVal.tmp rfl)) (congrArg Value.bool (by first | rfl | (rw [show_same hma hmb iA iB q52 c56]; simp)))
        ·
          have hma : mayV a = true := by simpa using g42
          refine TL.gdY rfl rfl (pr_ownA rfl (.there _ (.here _)) rfl) rfl ?_
          refine TL.callSY rfl rfl (enters rfl rfl rfl rfl) (dMay_ok (x := b) (lv := lb) hB) rfl ?_
          refine TL.gdY rfl rfl (pr_pure rfl) rfl ?_
          refine TL.run (pr_pure rfl) rfl ?_
          refine TL.run (pr_pure rfl) rfl ?_
          refine TL.split (s := 47) rfl (fun g47 => ?_) (fun g47 => ?_)
          ·
            refine TL.gdN rfl rfl rfl rfl ?_
            refine TL.gdN rfl rfl rfl rfl ?_
            refine TL.gdN rfl rfl rfl rfl ?_
            refine TL.run (pr_pure rfl) rfl ?_
            refine TL.run (pr_pure rfl) rfl ?_
            refine TL.gdN rfl rfl rfl rfl ?_
            refine TL.gdN rfl rfl rfl rfl ?_
            refine TL.gdN rfl rfl rfl rfl ?_
            refine TL.run (pr_pure rfl) rfl ?_
            refine TL.nil ?_
            refine TX.seqN ?_
            refine TC.condT rfl ?_
            refine TC.seq ?_
            refine TC.region ?_
            refine TL.run (pr_pure rfl) rfl ?_
            refine TL.nil ?_
            refine TX.seqN ?_
            refine TC.ret ?_
            refine TX.thenR ?_
            exact TX.finS (.inr rfl) (results1 rfl (RVal.tmp rfl)) (congrArg Value.bool (by first | rfl | (rw [show_same hma hmb iA iB q52 c56]; simp)))
          ·
            have hmb : mayV b = true := by simpa using g47
            refine TL.gdY rfl rfl (pr_field rfl) rfl ?_
            refine TL.gdY rfl rfl (pr_own1 rfl (.there _ (.there _ (.here _))) rfl) rfl ?_
            refine TL.gdY rfl rfl (pr_pure rfl) rfl ?_
            refine TL.run (pr_pure rfl) rfl ?_
            refine TL.run (pr_pure rfl) rfl ?_
            refine TL.split (s := 52) rfl (fun g52 => ?_) (fun g52 => ?_)
            ·
              have q52 := of_decide_eq_true g52
              refine TL.gdN rfl rfl rfl rfl ?_
              refine TL.gdN rfl rfl rfl rfl ?_
              refine TL.gdN rfl rfl rfl rfl ?_
              refine TL.run (pr_pure rfl) rfl ?_
              refine TL.nil ?_
              refine TX.seqN ?_
              refine TC.condT rfl ?_
              refine TC.seq ?_
              refine TC.region ?_
              refine TL.run (pr_pure rfl) rfl ?_
              refine TL.nil ?_
              refine TX.seqN ?_
              refine TC.ret ?_
              refine TX.thenR ?_
              exact TX.finS (.inr rfl) (results1 rfl (RVal.tmp rfl)) (congrArg Value.bool (by first | rfl | (rw [show_same hma hmb iA iB q52 c56]; simp)))
            ·
              have q52 := of_decide_eq_false g52
              refine TL.gdY rfl rfl (pr_field rfl) rfl ?_
              refine TL.gdY rfl rfl (pr_own1 rfl (.there _ (.here _)) rfl) rfl ?_
              refine TL.gdY rfl rfl (pr_pure rfl) rfl ?_
              refine TL.run (pr_pure rfl) rfl ?_
              refine TL.nil ?_
              refine TX.seqN ?_
              refine TC.condD rfl (fun c56 => ?_) (fun c56 => ?_)
              ·
                refine TC.seq ?_
                refine TC.region ?_
                refine TL.run (pr_pure rfl) rfl ?_
                refine TL.nil ?_
                refine TX.seqN ?_
                refine TC.ret ?_
                refine TX.thenR ?_
                exact TX.finS (.inr rfl) (results1 rfl (RVal.tmp rfl)) (congrArg Value.bool (by first | rfl | (rw [show_same hma hmb iA iB q52 c56]; simp)))
              ·
                refine TC.skip ?_
                refine TX.seqN ?_
                refine TC.seq ?_
                refine TC.region ?_
                refine TL.run (pr_ownA rfl (.there _ (.there _ (.here _))) rfl) rfl ?_
                refine TL.callTS hT (enters rfl rfl rfl rfl) (dShow_ok (a := a) (lv := la) hA iA (fun _ h => absurd h q52)) rfl ?_
                refine TL.callT hT (enters rfl rfl rfl rfl) (dRead_ok (showV a) (by have := show_len hma iA q52; omega) hG) rfl (fun v60 H60 hle60 hp60 => ?_)
                rw [read_show hma iA q52] at hp60
                obtain ⟨lv60, rfl, hR60⟩ := hp60
                replace hG := hG.le hle60
                replace hA := hA.le hle60
                replace hB := hB.le hle60
                replace hR18 := hR18.le hle60
                obtain ⟨la60, lc60, rfl⟩ := RdSl.len (show RdSl _ 1 I64.cells lv60 _ from hR60)
                refine TL.run (pr_pure rfl) rfl ?_
                refine TL.run (pr_pure rfl) rfl ?_
                refine TL.run (pr_pure rfl) rfl ?_
                refine TL.alloc rfl (fun b9 => ?_)
                refine TL.storeA rfl rfl rfl rfl rfl (.here _) rfl rfl ?_
                refine TL.run (pr_pure rfl) rfl ?_
                refine TL.nil ?_
                refine TX.seqN ?_
                refine TC.seq ?_
                refine TC.quiet (by kernel_rfl) (by kernel_rfl) ?_
                refine TQ.run (pr_pure rfl) rfl ?_
                refine TQ.run (pr_pure rfl) rfl ?_
                refine TQ.run (pr_pure rfl) rfl ?_
                refine TQ.split (s := 65) rfl (fun g65 => ?_) (fun g65 => ?_)
                ·
                  have q65 := of_decide_eq_true g65
                  refine TQ.gdY rfl rfl (pr_ownA rfl (.here _) rfl) rfl ?_
                  refine TQ.gdY rfl rfl (pr_ownA rfl (.there _ (.there _ (.there _ (.here _)))) rfl) rfl ?_
                  refine TQ.callSY rfl rfl (enters rfl rfl rfl rfl) (dSame_ok (a := a) hR60 hA) rfl ?_
                  refine TQ.run (pr_pure rfl) rfl ?_
                  refine TQ.run (pr_pure rfl) rfl ?_
                  refine TQ.split (s := 70) rfl (fun g70 => ?_) (fun g70 => ?_)
                  ·
                    refine TQ.gdY rfl rfl (pr_ownA rfl (.there _ (.there _ (.there _ (.here _)))) rfl) rfl ?_
                    refine TQ.callTSY hT rfl rfl (enters rfl rfl rfl rfl) (dShow_ok (a := a) (lv := la) hA iA (fun _ h => absurd h q52)) rfl ?_
                    refine TQ.gdY rfl rfl (pr_ownA rfl (.there _ (.there _ (.here _))) rfl) rfl ?_
                    refine TQ.callTSY hT rfl rfl (enters rfl rfl rfl rfl) (dShow_ok (a := b) (lv := lb) hB iB (fun _ h => absurd h c56)) rfl ?_
                    refine TQ.gdY rfl rfl (pr_str rfl rfl rfl) rfl ?_
                    refine TQ.gdY rfl rfl (pr_ownA rfl (.there _ (.there _ (.there _ (.here _)))) rfl) rfl ?_
                    refine TQ.gdY rfl rfl (pr_ownA rfl (.there _ (.there _ (.here _))) rfl) rfl ?_
                    refine TQ.callSY rfl rfl (enters rfl rfl rfl rfl) (dSame_ok (la := la) (lb := lb) hA hB) rfl ?_
                    refine TQ.gdY rfl rfl (pr_bool rfl rfl rfl) rfl ?_
                    refine TQ.run (pr_pure rfl) rfl ?_
                    refine TQ.run (pr_pure rfl) rfl ?_
                    refine TQ.nil ?_
                    refine TX.seqN ?_
                    refine TC.ret ?_
                    exact TX.finS (.inr rfl) (results1 rfl (RVal.tmp rfl)) (congrArg Value.bool (by first | rfl | (rw [show_same hma hmb iA iB q52 c56]; simp)))
                  ·
                    exact absurd g70 (by rw [same_refl]; decide)
                ·
                  have q65 := of_decide_eq_false g65
                  exact absurd g65 (by simp)
end Go.Sx
