import Derived.Test.YtmlgpjficicagaaDoorWL3
set_option linter.unusedVariables false
set_option linter.unusedSimpArgs false
namespace Go.Sx
open Go Go.Proofs
set_option maxRecDepth 100000 in
set_option maxHeartbeats 4000000 in
theorem DataRow_ok {H : Hp} {a b c : Val} {la lb lc : Value} (hA : RdV H la a) (hB : RdV H lb b) (hC : RdV H lc c) (hG : LibG H) :
    FnGS Tabs Tryd.prog 7 [.agg (a.cells la).toArray, .agg (b.cells lb).toArray, .agg (c.cells lc).toArray] H (.bool true) := by
  have hA1 : RdSl H 1 I64.cells la a.l := hA
  have hB1 : RdSl H 1 I64.cells lb b.l := hB
  have hC1 : RdSl H 1 I64.cells lc c.l := hC
  refine FnGS.enter Tryd.func7 Tryd.ntmps7 rfl rfl (fun w0 hT => ?_)
  refine TC.seq ?_
  refine TC.region ?_
  refine TL.box rfl rfl (fun b3 => ?_)
  refine TL.box rfl rfl (fun b4 => ?_)
  refine TL.box rfl rfl (fun b5 => ?_)
  refine TL.run (pr_pure rfl) rfl ?_
  refine TL.nil ?_
  refine TX.seqN ?_
  refine TC.seq ?_
  refine TC.seq ?_
  refine TC.region ?_
  refine TL.callTS hT (enters rfl rfl rfl rfl) (first3_ok hG) rfl ?_
  refine TL.run (pr_pure rfl) rfl ?_
  refine TL.nil ?_
  refine TX.seqN ?_
  refine TC.cond rfl (fun c10 => ?_) (fun c10 => ?_)
  ·
    exact absurd c10 (by decide)
  ·
    refine TC.skip ?_
    refine TX.seqN ?_
    refine TC.seq ?_
    refine TC.seq ?_
    refine TC.region ?_
    refine TL.run (pr_field rfl) rfl ?_
    refine TL.run (pr_own1 rfl (.there _ (.there _ (.here _))) rfl) rfl ?_
    refine TL.run (pr_lenSl rfl rfl hA1) rfl ?_
    refine TL.run (pr_pure rfl) rfl ?_
    refine TL.run (pr_pure rfl) rfl ?_
    refine TL.split (s := 15) rfl (fun g15 => ?_) (fun g15 => ?_)
    ·
      have q15 := of_decide_eq_true g15
      refine TL.gdN rfl rfl rfl rfl ?_
      refine TL.gdN rfl rfl rfl rfl ?_
      refine TL.gdN rfl rfl rfl rfl ?_
      refine TL.gdN rfl rfl rfl rfl ?_
      refine TL.run (pr_pure rfl) rfl ?_
      refine TL.run (pr_pure rfl) rfl ?_
      refine TL.gdN rfl rfl rfl rfl ?_
      refine TL.gdN rfl rfl rfl rfl ?_
      refine TL.gdN rfl rfl rfl rfl ?_
      refine TL.gdN rfl rfl rfl rfl ?_
      refine TL.run (pr_pure rfl) rfl ?_
      refine TL.nil ?_
      refine TX.seqN ?_
      refine TC.condT rfl ?_
      refine TC.seq ?_
      refine TC.region ?_
      refine TL.run (pr_pure rfl) rfl ?_
      refine TL.nil ?_
      refine TX.seqN ?_
      refine TC.ret ?_
      refine TX.thenR ?_
      exact TX.finS (.inr rfl) (results1 rfl (RVal.tmp rfl)) (congrArg Value.bool (by first | rfl | exact row_t g63 g69))
    ·
      have q15 := of_decide_eq_false g15
      refine TL.gdY rfl rfl (pr_field rfl) rfl ?_
      refine TL.gdY rfl rfl (pr_own1 rfl (.there _ (.here _)) rfl) rfl ?_
      refine TL.gdY rfl rfl (pr_lenSl rfl rfl hB1) rfl ?_
      refine TL.gdY rfl rfl (pr_pure rfl) rfl ?_
      refine TL.run (pr_pure rfl) rfl ?_
      refine TL.run (pr_pure rfl) rfl ?_
      refine TL.split (s := 21) rfl (fun g21 => ?_) (fun g21 => ?_)
      ·
        have q21 := of_decide_eq_true g21
        refine TL.gdN rfl rfl rfl rfl ?_
        refine TL.gdN rfl rfl rfl rfl ?_
        refine TL.gdN rfl rfl rfl rfl ?_
        refine TL.gdN rfl rfl rfl rfl ?_
        refine TL.run (pr_pure rfl) rfl ?_
        refine TL.nil ?_
        refine TX.seqN ?_
        refine TC.condT rfl ?_
        refine TC.seq ?_
        refine TC.region ?_
        refine TL.run (pr_pure rfl) rfl ?_
        refine TL.nil ?_
        refine TX.seqN ?_
        refine TC.ret ?_
        refine TX.thenR ?_
        exact TX.finS (.inr rfl) (results1 rfl (RVal.tmp rfl)) (congrArg Value.bool (by first | rfl | exact row_t g63 g69))
      ·
        have q21 := of_decide_eq_false g21
        refine TL.gdY rfl rfl (pr_field rfl) rfl ?_
        refine TL.gdY rfl rfl (pr_own1 rfl (.here _) rfl) rfl ?_
        refine TL.gdY rfl rfl (pr_lenSl rfl rfl hC1) rfl ?_
        refine TL.gdY rfl rfl (pr_pure rfl) rfl ?_
        refine TL.run (pr_pure rfl) rfl ?_
        refine TL.nil ?_
        refine TX.seqN ?_
        refine TC.condD rfl (fun c26 => ?_) (fun c26 => ?_)
        ·
          refine TC.seq ?_
          refine TC.region ?_
          refine TL.run (pr_pure rfl) rfl ?_
          refine TL.nil ?_
          refine TX.seqN ?_
          refine TC.ret ?_
          refine TX.thenR ?_
          exact TX.finS (.inr rfl) (results1 rfl (RVal.tmp rfl)) (congrArg Value.bool (by first | rfl | exact row_t g63 g69))
        ·
          refine TC.skip ?_
          refine TX.seqN ?_
          refine TC.seq ?_
          refine TC.quiet (by kernel_rfl) (by kernel_rfl) ?_
          refine TQ.run (pr_ownA rfl (.there _ (.there _ (.here _))) rfl) rfl ?_
          refine TQ.run (pr_ownA rfl (.there _ (.here _)) rfl) rfl ?_
          refine TQ.callS (enters rfl rfl rfl rfl) (dLess_ok hA hB) rfl ?_
          refine TQ.run (pr_ownA rfl (.there _ (.here _)) rfl) rfl ?_
          refine TQ.run (pr_ownA rfl (.there _ (.there _ (.here _))) rfl) rfl ?_
          refine TQ.callS (enters rfl rfl rfl rfl) (dLess_ok hB hA) rfl ?_
          refine TQ.run (pr_pure rfl) rfl ?_
          refine TQ.run (pr_pure rfl) rfl ?_
          refine TQ.nil ?_
          refine TX.seqN ?_
          refine TC.seq ?_
          refine TC.region ?_
          refine TL.run (pr_pure rfl) rfl ?_
          refine TL.run (pr_pure rfl) rfl ?_
          refine TL.split (s := 34) rfl (fun g34 => ?_) (fun g34 => ?_)
          ·
            refine TL.gdY rfl rfl (pr_pure rfl) rfl ?_
            refine TL.run (pr_pure rfl) rfl ?_
            refine TL.run (pr_pure rfl) rfl ?_
            refine TL.run (pr_pure rfl) rfl ?_
            refine TL.split (s := 38) rfl (fun g38 => ?_) (fun g38 => ?_)
            ·
              refine TL.gdY rfl rfl (pr_pure rfl) rfl ?_
              refine TL.gdY rfl rfl (pr_pure rfl) rfl ?_
              refine TL.split (s := 40) rfl (fun g40 => ?_) (fun g40 => ?_)
              ·
                refine TL.gdN rfl rfl rfl rfl ?_
                refine TL.gdY rfl rfl (pr_pure rfl) rfl ?_
                refine TL.gdY rfl rfl (pr_ownA rfl (.there _ (.there _ (.here _))) rfl) rfl ?_
                refine TL.gdY rfl rfl (pr_ownA rfl (.there _ (.here _)) rfl) rfl ?_
                refine TL.callSY rfl rfl (enters rfl rfl rfl rfl) (dSame_ok hA hB) rfl ?_
                refine TL.gdY rfl rfl (pr_pure rfl) rfl ?_
                refine TL.gdY rfl rfl (pr_bool rfl rfl rfl) rfl ?_
                refine TL.run (pr_pure rfl) rfl ?_
                refine TL.run (pr_pure rfl) rfl ?_
                refine TL.split (s := 49) rfl (fun g49 => ?_) (fun g49 => ?_)
                ·
                  have q49 := of_decide_eq_true g49
                  refine TL.gdY rfl rfl (pr_ownA rfl (.there _ (.there _ (.here _))) rfl) rfl ?_
                  refine TL.gdY rfl rfl (pr_ownA rfl (.there _ (.there _ (.here _))) rfl) rfl ?_
                  refine TL.callSY rfl rfl (enters rfl rfl rfl rfl) (dSame_ok hA hA) rfl ?_
                  refine TL.run (pr_pure rfl) rfl ?_
                  refine TL.run (pr_pure rfl) rfl ?_
                  refine TL.split (s := 54) rfl (fun g54 => ?_) (fun g54 => ?_)
                  ·
                    refine TL.gdY rfl rfl (pr_ownA rfl (.there _ (.there _ (.here _))) rfl) rfl ?_
                    refine TL.gdY rfl rfl (pr_ownA rfl (.there _ (.there _ (.here _))) rfl) rfl ?_
                    refine TL.callSY rfl rfl (enters rfl rfl rfl rfl) (dLess_ok hA hA) rfl ?_
                    refine TL.gdY rfl rfl (pr_pure rfl) rfl ?_
                    refine TL.run (pr_pure rfl) rfl ?_
                    refine TL.run (pr_pure rfl) rfl ?_
                    refine TL.split (s := 60) rfl (fun g60 => ?_) (fun g60 => ?_)
                    ·
                      refine TL.gdY rfl rfl (pr_pure rfl) rfl ?_
                      refine TL.gdY rfl rfl (pr_pure rfl) rfl ?_
                      refine TL.gdY rfl rfl (pr_pure rfl) rfl ?_
                      refine TL.split (s := 63) rfl (fun g63 => ?_) (fun g63 => ?_)
                      ·
                        refine TL.gdN rfl rfl rfl rfl ?_
                        refine TL.gdN rfl rfl rfl rfl ?_
                        refine TL.gdN rfl rfl rfl rfl ?_
                        refine TL.gdN rfl rfl rfl rfl ?_
                        refine TL.gdY rfl rfl (pr_pure rfl) rfl ?_
                        refine TL.gdY rfl rfl (pr_pure rfl) rfl ?_
                        refine TL.gdN rfl rfl rfl rfl ?_
                        refine TL.gdN rfl rfl rfl rfl ?_
                        refine TL.gdN rfl rfl rfl rfl ?_
                        refine TL.gdY rfl rfl (pr_pure rfl) rfl ?_
                        refine TL.run (pr_pure rfl) rfl ?_
                        refine TL.run (pr_pure rfl) rfl ?_
                        refine TL.nil ?_
                        refine TX.seqN ?_
                        refine TC.ret ?_
                        exact TX.finS (.inr rfl) (results1 rfl (RVal.tmp rfl)) (congrArg Value.bool (by first | rfl | exact row_t g63 g69))
                      ·
                        refine TL.gdY rfl rfl (pr_ownA rfl (.there _ (.here _)) rfl) rfl ?_
                        refine TL.gdY rfl rfl (pr_ownA rfl (.here _) rfl) rfl ?_
                        refine TL.callSY rfl rfl (enters rfl rfl rfl rfl) (dLess_ok hB hC) rfl ?_
                        refine TL.gdY rfl rfl (pr_pure rfl) rfl ?_
                        refine TL.gdY rfl rfl (pr_pure rfl) rfl ?_
                        refine TL.gdY rfl rfl (pr_pure rfl) rfl ?_
                        refine TL.split (s := 69) rfl (fun g69 => ?_) (fun g69 => ?_)
                        ·
                          refine TL.gdN rfl rfl rfl rfl ?_
                          refine TL.gdN rfl rfl rfl rfl ?_
                          refine TL.gdN rfl rfl rfl rfl ?_
                          refine TL.gdY rfl rfl (pr_pure rfl) rfl ?_
                          refine TL.run (pr_pure rfl) rfl ?_
                          refine TL.run (pr_pure rfl) rfl ?_
                          refine TL.nil ?_
                          refine TX.seqN ?_
                          refine TC.ret ?_
                          exact TX.finS (.inr rfl) (results1 rfl (RVal.tmp rfl)) (congrArg Value.bool (by first | rfl | exact row_t g63 g69))
                        ·
                          refine TL.gdY rfl rfl (pr_ownA rfl (.there _ (.there _ (.here _))) rfl) rfl ?_
                          refine TL.gdY rfl rfl (pr_ownA rfl (.here _) rfl) rfl ?_
                          refine TL.callSY rfl rfl (enters rfl rfl rfl rfl) (dLess_ok hA hC) rfl ?_
                          refine TL.gdY rfl rfl (pr_pure rfl) rfl ?_
                          refine TL.run (pr_pure rfl) rfl ?_
                          refine TL.run (pr_pure rfl) rfl ?_
                          refine TL.nil ?_
                          refine TX.seqN ?_
                          refine TC.ret ?_
                          exact TX.finS (.inr rfl) (results1 rfl (RVal.tmp rfl)) (congrArg Value.bool (by first | rfl | exact row_t g63 g69))
                    ·
                      exact absurd g60 (by rw [lessV_irr]; decide)
                  ·
                    exact absurd g54 (by rw [same_refl]; decide)
                ·
                  have q49 := of_decide_eq_false g49
                  exact absurd g49 (by first | (rw [row_1 g40]; decide) | (rw [row_2 g40]; simp))
              ·
                refine TL.gdY rfl rfl (pr_pure rfl) rfl ?_
                refine TL.gdY rfl rfl (pr_pure rfl) rfl ?_
                refine TL.gdY rfl rfl (pr_ownA rfl (.there _ (.there _ (.here _))) rfl) rfl ?_
                refine TL.gdY rfl rfl (pr_ownA rfl (.there _ (.here _)) rfl) rfl ?_
                refine TL.callSY rfl rfl (enters rfl rfl rfl rfl) (dSame_ok hA hB) rfl ?_
                refine TL.gdY rfl rfl (pr_pure rfl) rfl ?_
                refine TL.gdY rfl rfl (pr_bool rfl rfl rfl) rfl ?_
                refine TL.run (pr_pure rfl) rfl ?_
                refine TL.run (pr_pure rfl) rfl ?_
                refine TL.split (s := 49) rfl (fun g49 => ?_) (fun g49 => ?_)
                ·
                  have q49 := of_decide_eq_true g49
                  refine TL.gdY rfl rfl (pr_ownA rfl (.there _ (.there _ (.here _))) rfl) rfl ?_
                  refine TL.gdY rfl rfl (pr_ownA rfl (.there _ (.there _ (.here _))) rfl) rfl ?_
                  refine TL.callSY rfl rfl (enters rfl rfl rfl rfl) (dSame_ok hA hA) rfl ?_
                  refine TL.run (pr_pure rfl) rfl ?_
                  refine TL.run (pr_pure rfl) rfl ?_
                  refine TL.split (s := 54) rfl (fun g54 => ?_) (fun g54 => ?_)
                  ·
                    refine TL.gdY rfl rfl (pr_ownA rfl (.there _ (.there _ (.here _))) rfl) rfl ?_
                    refine TL.gdY rfl rfl (pr_ownA rfl (.there _ (.there _ (.here _))) rfl) rfl ?_
                    refine TL.callSY rfl rfl (enters rfl rfl rfl rfl) (dLess_ok hA hA) rfl ?_
                    refine TL.gdY rfl rfl (pr_pure rfl) rfl ?_
                    refine TL.run (pr_pure rfl) rfl ?_
                    refine TL.run (pr_pure rfl) rfl ?_
                    refine TL.split (s := 60) rfl (fun g60 => ?_) (fun g60 => ?_)
                    ·
                      refine TL.gdY rfl rfl (pr_pure rfl) rfl ?_
                      refine TL.gdY rfl rfl (pr_pure rfl) rfl ?_
                      refine TL.gdY rfl rfl (pr_pure rfl) rfl ?_
                      refine TL.split (s := 63) rfl (fun g63 => ?_) (fun g63 => ?_)
                      ·
                        refine TL.gdN rfl rfl rfl rfl ?_
                        refine TL.gdN rfl rfl rfl rfl ?_
                        refine TL.gdN rfl rfl rfl rfl ?_
                        refine TL.gdN rfl rfl rfl rfl ?_
                        refine TL.gdY rfl rfl (pr_pure rfl) rfl ?_
                        refine TL.gdY rfl rfl (pr_pure rfl) rfl ?_
                        refine TL.gdN rfl rfl rfl rfl ?_
                        refine TL.gdN rfl rfl rfl rfl ?_
                        refine TL.gdN rfl rfl rfl rfl ?_
                        refine TL.gdY rfl rfl (pr_pure rfl) rfl ?_
                        refine TL.run (pr_pure rfl) rfl ?_
                        refine TL.run (pr_pure rfl) rfl ?_
                        refine TL.nil ?_
                        refine TX.seqN ?_
                        refine TC.ret ?_
                        exact TX.finS (.inr rfl) (results1 rfl (RVal.tmp rfl)) (congrArg Value.bool (by first | rfl | exact row_t g63 g69))
                      ·
                        refine TL.gdY rfl rfl (pr_ownA rfl (.there _ (.here _)) rfl) rfl ?_
                        refine TL.gdY rfl rfl (pr_ownA rfl (.here _) rfl) rfl ?_
                        refine TL.callSY rfl rfl (enters rfl rfl rfl rfl) (dLess_ok hB hC) rfl ?_
                        refine TL.gdY rfl rfl (pr_pure rfl) rfl ?_
                        refine TL.gdY rfl rfl (pr_pure rfl) rfl ?_
                        refine TL.gdY rfl rfl (pr_pure rfl) rfl ?_
                        refine TL.split (s := 69) rfl (fun g69 => ?_) (fun g69 => ?_)
                        ·
                          refine TL.gdN rfl rfl rfl rfl ?_
                          refine TL.gdN rfl rfl rfl rfl ?_
                          refine TL.gdN rfl rfl rfl rfl ?_
                          refine TL.gdY rfl rfl (pr_pure rfl) rfl ?_
                          refine TL.run (pr_pure rfl) rfl ?_
                          refine TL.run (pr_pure rfl) rfl ?_
                          refine TL.nil ?_
                          refine TX.seqN ?_
                          refine TC.ret ?_
                          exact TX.finS (.inr rfl) (results1 rfl (RVal.tmp rfl)) (congrArg Value.bool (by first | rfl | exact row_t g63 g69))
                        ·
                          refine TL.gdY rfl rfl (pr_ownA rfl (.there _ (.there _ (.here _))) rfl) rfl ?_
                          refine TL.gdY rfl rfl (pr_ownA rfl (.here _) rfl) rfl ?_
                          refine TL.callSY rfl rfl (enters rfl rfl rfl rfl) (dLess_ok hA hC) rfl ?_
                          refine TL.gdY rfl rfl (pr_pure rfl) rfl ?_
                          refine TL.run (pr_pure rfl) rfl ?_
                          refine TL.run (pr_pure rfl) rfl ?_
                          refine TL.nil ?_
                          refine TX.seqN ?_
                          refine TC.ret ?_
                          exact TX.finS (.inr rfl) (results1 rfl (RVal.tmp rfl)) (congrArg Value.bool (by first | rfl | exact row_t g63 g69))
                    ·
                      exact absurd g60 (by rw [lessV_irr]; decide)
                  ·
                    exact absurd g54 (by rw [same_refl]; decide)
                ·
                  have q49 := of_decide_eq_false g49
                  exact absurd g49 (by first | (rw [row_1 g40]; decide) | (rw [row_2 g40]; simp))
            ·
              exact absurd g38 (by first | exact row_both g34 | decide)
          ·
            refine TL.gdN rfl rfl rfl rfl ?_
            refine TL.run (pr_pure rfl) rfl ?_
            refine TL.run (pr_pure rfl) rfl ?_
            refine TL.run (pr_pure rfl) rfl ?_
            refine TL.split (s := 38) rfl (fun g38 => ?_) (fun g38 => ?_)
            ·
              refine TL.gdY rfl rfl (pr_pure rfl) rfl ?_
              refine TL.gdY rfl rfl (pr_pure rfl) rfl ?_
              refine TL.split (s := 40) rfl (fun g40 => ?_) (fun g40 => ?_)
              ·
                refine TL.gdN rfl rfl rfl rfl ?_
                refine TL.gdY rfl rfl (pr_pure rfl) rfl ?_
                refine TL.gdY rfl rfl (pr_ownA rfl (.there _ (.there _ (.here _))) rfl) rfl ?_
                refine TL.gdY rfl rfl (pr_ownA rfl (.there _ (.here _)) rfl) rfl ?_
                refine TL.callSY rfl rfl (enters rfl rfl rfl rfl) (dSame_ok hA hB) rfl ?_
                refine TL.gdY rfl rfl (pr_pure rfl) rfl ?_
                refine TL.gdY rfl rfl (pr_bool rfl rfl rfl) rfl ?_
                refine TL.run (pr_pure rfl) rfl ?_
                refine TL.run (pr_pure rfl) rfl ?_
                refine TL.split (s := 49) rfl (fun g49 => ?_) (fun g49 => ?_)
                ·
                  have q49 := of_decide_eq_true g49
                  refine TL.gdY rfl rfl (pr_ownA rfl (.there _ (.there _ (.here _))) rfl) rfl ?_
                  refine TL.gdY rfl rfl (pr_ownA rfl (.there _ (.there _ (.here _))) rfl) rfl ?_
                  refine TL.callSY rfl rfl (enters rfl rfl rfl rfl) (dSame_ok hA hA) rfl ?_
                  refine TL.run (pr_pure rfl) rfl ?_
                  refine TL.run (pr_pure rfl) rfl ?_
                  refine TL.split (s := 54) rfl (fun g54 => ?_) (fun g54 => ?_)
                  ·
                    refine TL.gdY rfl rfl (pr_ownA rfl (.there _ (.there _ (.here _))) rfl) rfl ?_
                    refine TL.gdY rfl rfl (pr_ownA rfl (.there _ (.there _ (.here _))) rfl) rfl ?_
                    refine TL.callSY rfl rfl (enters rfl rfl rfl rfl) (dLess_ok hA hA) rfl ?_
                    refine TL.gdY rfl rfl (pr_pure rfl) rfl ?_
                    refine TL.run (pr_pure rfl) rfl ?_
                    refine TL.run (pr_pure rfl) rfl ?_
                    refine TL.split (s := 60) rfl (fun g60 => ?_) (fun g60 => ?_)
                    ·
                      refine TL.gdY rfl rfl (pr_pure rfl) rfl ?_
                      refine TL.gdY rfl rfl (pr_pure rfl) rfl ?_
                      refine TL.gdY rfl rfl (pr_pure rfl) rfl ?_
                      refine TL.split (s := 63) rfl (fun g63 => ?_) (fun g63 => ?_)
                      ·
                        refine TL.gdN rfl rfl rfl rfl ?_
                        refine TL.gdN rfl rfl rfl rfl ?_
                        refine TL.gdN rfl rfl rfl rfl ?_
                        refine TL.gdN rfl rfl rfl rfl ?_
                        refine TL.gdY rfl rfl (pr_pure rfl) rfl ?_
                        refine TL.gdY rfl rfl (pr_pure rfl) rfl ?_
                        refine TL.gdN rfl rfl rfl rfl ?_
                        refine TL.gdN rfl rfl rfl rfl ?_
                        refine TL.gdN rfl rfl rfl rfl ?_
                        refine TL.gdY rfl rfl (pr_pure rfl) rfl ?_
                        refine TL.run (pr_pure rfl) rfl ?_
                        refine TL.run (pr_pure rfl) rfl ?_
                        refine TL.nil ?_
                        refine TX.seqN ?_
                        refine TC.ret ?_
                        exact TX.finS (.inr rfl) (results1 rfl (RVal.tmp rfl)) (congrArg Value.bool (by first | rfl | exact row_t g63 g69))
                      ·
                        refine TL.gdY rfl rfl (pr_ownA rfl (.there _ (.here _)) rfl) rfl ?_
                        refine TL.gdY rfl rfl (pr_ownA rfl (.here _) rfl) rfl ?_
                        refine TL.callSY rfl rfl (enters rfl rfl rfl rfl) (dLess_ok hB hC) rfl ?_
                        refine TL.gdY rfl rfl (pr_pure rfl) rfl ?_
                        refine TL.gdY rfl rfl (pr_pure rfl) rfl ?_
                        refine TL.gdY rfl rfl (pr_pure rfl) rfl ?_
                        refine TL.split (s := 69) rfl (fun g69 => ?_) (fun g69 => ?_)
                        ·
                          refine TL.gdN rfl rfl rfl rfl ?_
                          refine TL.gdN rfl rfl rfl rfl ?_
                          refine TL.gdN rfl rfl rfl rfl ?_
                          refine TL.gdY rfl rfl (pr_pure rfl) rfl ?_
                          refine TL.run (pr_pure rfl) rfl ?_
                          refine TL.run (pr_pure rfl) rfl ?_
                          refine TL.nil ?_
                          refine TX.seqN ?_
                          refine TC.ret ?_
                          exact TX.finS (.inr rfl) (results1 rfl (RVal.tmp rfl)) (congrArg Value.bool (by first | rfl | exact row_t g63 g69))
                        ·
                          refine TL.gdY rfl rfl (pr_ownA rfl (.there _ (.there _ (.here _))) rfl) rfl ?_
                          refine TL.gdY rfl rfl (pr_ownA rfl (.here _) rfl) rfl ?_
                          refine TL.callSY rfl rfl (enters rfl rfl rfl rfl) (dLess_ok hA hC) rfl ?_
                          refine TL.gdY rfl rfl (pr_pure rfl) rfl ?_
                          refine TL.run (pr_pure rfl) rfl ?_
                          refine TL.run (pr_pure rfl) rfl ?_
                          refine TL.nil ?_
                          refine TX.seqN ?_
                          refine TC.ret ?_
                          exact TX.finS (.inr rfl) (results1 rfl (RVal.tmp rfl)) (congrArg Value.bool (by first | rfl | exact row_t g63 g69))
                    ·
                      exact absurd g60 (by rw [lessV_irr]; decide)
                  ·
                    exact absurd g54 (by rw [same_refl]; decide)
                ·
                  have q49 := of_decide_eq_false g49
                  exact absurd g49 (by first | (rw [row_1 g40]; decide) | (rw [row_2 g40]; simp))
              ·
                refine TL.gdY rfl rfl (pr_pure rfl) rfl ?_
                refine TL.gdY rfl rfl (pr_pure rfl) rfl ?_
                refine TL.gdY rfl rfl (pr_ownA rfl (.there _ (.there _ (.here _))) rfl) rfl ?_
                refine TL.gdY rfl rfl (pr_ownA rfl (.there _ (.here _)) rfl) rfl ?_
                refine TL.callSY rfl rfl (enters rfl rfl rfl rfl) (dSame_ok hA hB) rfl ?_
                refine TL.gdY rfl rfl (pr_pure rfl) rfl ?_
                refine TL.gdY rfl rfl (pr_bool rfl rfl rfl) rfl ?_
                refine TL.run (pr_pure rfl) rfl ?_
                refine TL.run (pr_pure rfl) rfl ?_
                refine TL.split (s := 49) rfl (fun g49 => ?_) (fun g49 => ?_)
                ·
                  have q49 := of_decide_eq_true g49
                  refine TL.gdY rfl rfl (pr_ownA rfl (.there _ (.there _ (.here _))) rfl) rfl ?_
                  refine TL.gdY rfl rfl (pr_ownA rfl (.there _ (.there _ (.here _))) rfl) rfl ?_
                  refine TL.callSY rfl rfl (enters rfl rfl rfl rfl) (dSame_ok hA hA) rfl ?_
                  refine TL.run (pr_pure rfl) rfl ?_
                  refine TL.run (pr_pure rfl) rfl ?_
                  refine TL.split (s := 54) rfl (fun g54 => ?_) (fun g54 => ?_)
                  ·
                    refine TL.gdY rfl rfl (pr_ownA rfl (.there _ (.there _ (.here _))) rfl) rfl ?_
                    refine TL.gdY rfl rfl (pr_ownA rfl (.there _ (.there _ (.here _))) rfl) rfl ?_
                    refine TL.callSY rfl rfl (enters rfl rfl rfl rfl) (dLess_ok hA hA) rfl ?_
                    refine TL.gdY rfl rfl (pr_pure rfl) rfl ?_
                    refine TL.run (pr_pure rfl) rfl ?_
                    refine TL.run (pr_pure rfl) rfl ?_
                    refine TL.split (s := 60) rfl (fun g60 => ?_) (fun g60 => ?_)
                    ·
                      refine TL.gdY rfl rfl (pr_pure rfl) rfl ?_
                      refine TL.gdY rfl rfl (pr_pure rfl) rfl ?_
                      refine TL.gdY rfl rfl (pr_pure rfl) rfl ?_
                      refine TL.split (s := 63) rfl (fun g63 => ?_) (fun g63 => ?_)
                      ·
                        refine TL.gdN rfl rfl rfl rfl ?_
                        refine TL.gdN rfl rfl rfl rfl ?_
                        refine TL.gdN rfl rfl rfl rfl ?_
                        refine TL.gdN rfl rfl rfl rfl ?_
                        refine TL.gdY rfl rfl (pr_pure rfl) rfl ?_
                        refine TL.gdY rfl rfl (pr_pure rfl) rfl ?_
                        refine TL.gdN rfl rfl rfl rfl ?_
                        refine TL.gdN rfl rfl rfl rfl ?_
                        refine TL.gdN rfl rfl rfl rfl ?_
                        refine TL.gdY rfl rfl (pr_pure rfl) rfl ?_
                        refine TL.run (pr_pure rfl) rfl ?_
                        refine TL.run (pr_pure rfl) rfl ?_
                        refine TL.nil ?_
                        refine TX.seqN ?_
                        refine TC.ret ?_
                        exact TX.finS (.inr rfl) (results1 rfl (RVal.tmp rfl)) (congrArg Value.bool (by first | rfl | exact row_t g63 g69))
                      ·
                        refine TL.gdY rfl rfl (pr_ownA rfl (.there _ (.here _)) rfl) rfl ?_
                        refine TL.gdY rfl rfl (pr_ownA rfl (.here _) rfl) rfl ?_
                        refine TL.callSY rfl rfl (enters rfl rfl rfl rfl) (dLess_ok hB hC) rfl ?_
                        refine TL.gdY rfl rfl (pr_pure rfl) rfl ?_
                        refine TL.gdY rfl rfl (pr_pure rfl) rfl ?_
                        refine TL.gdY rfl rfl (pr_pure rfl) rfl ?_
                        refine TL.split (s := 69) rfl (fun g69 => ?_) (fun g69 => ?_)
                        ·
                          refine TL.gdN rfl rfl rfl rfl ?_
                          refine TL.gdN rfl rfl rfl rfl ?_
                          refine TL.gdN rfl rfl rfl rfl ?_
                          refine TL.gdY rfl rfl (pr_pure rfl) rfl ?_
                          refine TL.run (pr_pure rfl) rfl ?_
                          refine TL.run (pr_pure rfl) rfl ?_
                          refine TL.nil ?_
                          refine TX.seqN ?_
                          refine TC.ret ?_
                          exact TX.finS (.inr rfl) (results1 rfl (RVal.tmp rfl)) (congrArg Value.bool (by first | rfl | exact row_t g63 g69))
                        ·
                          refine TL.gdY rfl rfl (pr_ownA rfl (.there _ (.there _ (.here _))) rfl) rfl ?_
                          refine TL.gdY rfl rfl (pr_ownA rfl (.here _) rfl) rfl ?_
                          refine TL.callSY rfl rfl (enters rfl rfl rfl rfl) (dLess_ok hA hC) rfl ?_
                          refine TL.gdY rfl rfl (pr_pure rfl) rfl ?_
                          refine TL.run (pr_pure rfl) rfl ?_
                          refine TL.run (pr_pure rfl) rfl ?_
                          refine TL.nil ?_
                          refine TX.seqN ?_
                          refine TC.ret ?_
                          exact TX.finS (.inr rfl) (results1 rfl (RVal.tmp rfl)) (congrArg Value.bool (by first | rfl | exact row_t g63 g69))
                    ·
                      exact absurd g60 (by rw [lessV_irr]; decide)
                  ·
                    exact absurd g54 (by rw [same_refl]; decide)
                ·
                  have q49 := of_decide_eq_false g49
                  exact absurd g49 (by first | (rw [row_1 g40]; decide) | (rw [row_2 g40]; simp))
            ·
              exact absurd g38 (by first | exact row_both g34 | decide)
end Go.Sx
