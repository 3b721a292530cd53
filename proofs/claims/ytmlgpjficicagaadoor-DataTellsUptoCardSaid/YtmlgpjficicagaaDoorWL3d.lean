import Derived.Test.YtmlgpjficicagaaDoorWL3
import Derived.Test.YtmlgpjficicagaaDoorWDataU
set_option linter.unusedVariables false
set_option linter.unusedSimpArgs false
namespace Go.Sx
open Go Go.Proofs
set_option maxRecDepth 100000 in
set_option maxHeartbeats 4000000 in
theorem DataTells_ok {H : Hp} {a b : Val} {la lb : Value} (s : Str) (hA : RdV H la a) (iA : i64V a) (hs : a.s.length ≤ 1000000000000) (hB : RdV H lb b) (hG : LibG H) :
    FnGS Tabs Tryd.prog 6 [.agg (a.cells la).toArray, .agg (b.cells lb).toArray, gs s] H (.bool true) := by
  have hA1 : RdSl H 1 I64.cells la a.l := hA
  have hB1 : RdSl H 1 I64.cells lb b.l := hB
  refine FnGS.enter Tryd.func6 Tryd.ntmps6 rfl rfl (fun w0 hT => ?_)
  refine TC.seq ?_
  refine TC.region ?_
  refine TL.box rfl rfl (fun b3 => ?_)
  refine TL.box rfl rfl (fun b4 => ?_)
  refine TL.run (pr_pure rfl) rfl ?_
  refine TL.nil ?_
  refine TX.seqN ?_
  refine TC.seq ?_
  refine TC.seq ?_
  refine TC.region ?_
  refine TL.callTS hT (enters rfl rfl rfl rfl) (first3_ok hG) rfl ?_
  refine TL.run (pr_pure rfl) rfl ?_
  refine TL.nil ?_
  refine TX.seqN ?_
  refine TC.cond rfl (fun c12 => ?_) (fun c12 => ?_)
  ·
    exact absurd c12 (by decide)
  ·
    refine TC.skip ?_
    refine TX.seqN ?_
    refine TC.seq ?_
    refine TC.seq ?_
    refine TC.region ?_
    refine TL.run (pr_field rfl) rfl ?_
    refine TL.run (pr_own1 rfl (.there _ (.here _)) rfl) rfl ?_
    refine TL.run (pr_lenSl rfl rfl hA1) rfl ?_
    refine TL.run (pr_pure rfl) rfl ?_
    refine TL.run (pr_pure rfl) rfl ?_
    refine TL.split (s := 17) rfl (fun g17 => ?_) (fun g17 => ?_)
    ·
      have q17 := of_decide_eq_true g17
      refine TL.gdN rfl rfl rfl rfl ?_
      refine TL.gdN rfl rfl rfl rfl ?_
      refine TL.gdN rfl rfl rfl rfl ?_
      refine TL.gdN rfl rfl rfl rfl ?_
      refine TL.run (pr_pure rfl) rfl ?_
      refine TL.run (pr_pure rfl) rfl ?_
      refine TL.gdN rfl rfl rfl rfl ?_
      refine TL.gdN rfl rfl rfl rfl ?_
      refine TL.gdN rfl rfl rfl rfl ?_
      refine TL.run (pr_pure rfl) rfl ?_
      refine TL.nil ?_
      refine TX.seqN ?_
      refine TC.condT rfl ?_
      refine TC.seq ?_
      refine TC.region ?_
      refine TL.run (pr_pure rfl) rfl ?_
      refine TL.nil ?_
      refine TX.seqN ?_
      refine TC.ret ?_
      refine TX.thenR ?_
      exact TX.finS (.inr rfl) (results1 rfl (RVal.tmp rfl)) (congrArg Value.bool (by first | rfl | exact same_refl _ | (simp_all; done)))
    ·
      have q17 := of_decide_eq_false g17
      refine TL.gdY rfl rfl (pr_field rfl) rfl ?_
      refine TL.gdY rfl rfl (pr_own1 rfl (.here _) rfl) rfl ?_
      refine TL.gdY rfl rfl (pr_lenSl rfl rfl hB1) rfl ?_
      refine TL.gdY rfl rfl (pr_pure rfl) rfl ?_
      refine TL.run (pr_pure rfl) rfl ?_
      refine TL.run (pr_pure rfl) rfl ?_
      refine TL.split (s := 23) rfl (fun g23 => ?_) (fun g23 => ?_)
      ·
        have q23 := of_decide_eq_true g23
        refine TL.gdN rfl rfl rfl rfl ?_
        refine TL.gdN rfl rfl rfl rfl ?_
        refine TL.gdN rfl rfl rfl rfl ?_
        refine TL.run (pr_pure rfl) rfl ?_
        refine TL.nil ?_
        refine TX.seqN ?_
        refine TC.condT rfl ?_
        refine TC.seq ?_
        refine TC.region ?_
        refine TL.run (pr_pure rfl) rfl ?_
        refine TL.nil ?_
        refine TX.seqN ?_
        refine TC.ret ?_
        refine TX.thenR ?_
        exact TX.finS (.inr rfl) (results1 rfl (RVal.tmp rfl)) (congrArg Value.bool (by first | rfl | exact same_refl _ | (simp_all; done)))
      ·
        have q23 := of_decide_eq_false g23
        refine TL.gdY rfl rfl (pr_pure rfl) rfl ?_
        refine TL.gdY rfl rfl (pr_lenStr rfl rfl) rfl ?_
        refine TL.gdY rfl rfl (pr_pure rfl) rfl ?_
        refine TL.run (pr_pure rfl) rfl ?_
        refine TL.nil ?_
        refine TX.seqN ?_
        refine TC.condD rfl (fun c27 => ?_) (fun c27 => ?_)
        ·
          refine TC.seq ?_
          refine TC.region ?_
          refine TL.run (pr_pure rfl) rfl ?_
          refine TL.nil ?_
          refine TX.seqN ?_
          refine TC.ret ?_
          refine TX.thenR ?_
          exact TX.finS (.inr rfl) (results1 rfl (RVal.tmp rfl)) (congrArg Value.bool (by first | rfl | exact same_refl _ | (simp_all; done)))
        ·
          have hsl : (s.length : Int) ≤ 400 := by simp_all
          refine TC.skip ?_
          refine TX.seqN ?_
          refine TC.seq ?_
          refine TC.region ?_
          refine TL.run (pr_pure rfl) rfl ?_
          refine TL.callT hT (enters rfl rfl rfl rfl) (dRead_ok s (by omega) hG) rfl (fun v30 H30 hle30 hp30 => ?_)
          obtain ⟨lv30, rfl, hR30⟩ := hp30
          replace hG := hG.le hle30
          replace hA := hA.le hle30
          replace hB := hB.le hle30
          replace hA1 := hA1.le hle30
          replace hB1 := hB1.le hle30
          obtain ⟨la30, lc30, rfl⟩ := RdSl.len (show RdSl _ 1 I64.cells lv30 _ from hR30)
          refine TL.run (pr_pure rfl) rfl ?_
          refine TL.run (pr_pure rfl) rfl ?_
          refine TL.run (pr_pure rfl) rfl ?_
          refine TL.alloc rfl (fun b7 => ?_)
          refine TL.storeA rfl rfl rfl rfl rfl (.here _) rfl rfl ?_
          refine TL.run (pr_pure rfl) rfl ?_
          refine TL.nil ?_
          refine TX.seqN ?_
          refine TC.seq ?_
          refine TC.region ?_
          refine TL.run (pr_pure rfl) rfl ?_
          refine TL.call (enters rfl rfl rfl rfl) (rRead_ok s (by omega)) rfl (fun v35 H35 hle35 hp35 => ?_)
          rw [readR_eq] at hp35
          obtain ⟨lv35, rfl, hR35⟩ := hp35
          replace hG := hG.le hle35
          replace hA := hA.le hle35
          replace hB := hB.le hle35
          replace hA1 := hA1.le hle35
          replace hB1 := hB1.le hle35
          replace hR30 := hR30.le hle35
          obtain ⟨la35, lc35, rfl⟩ := RdSl.len (show RdSl _ 1 I64.cells lv35 _ from hR35)
          refine TL.run (pr_pure rfl) rfl ?_
          refine TL.run (pr_pure rfl) rfl ?_
          refine TL.run (pr_pure rfl) rfl ?_
          refine TL.alloc rfl (fun b9 => ?_)
          refine TL.storeA rfl rfl rfl rfl rfl (.here _) rfl rfl ?_
          refine TL.run (pr_pure rfl) rfl ?_
          refine TL.nil ?_
          refine TX.seqN ?_
          refine TC.seq ?_
          refine TC.quiet (by kernel_rfl) (by kernel_rfl) ?_
          refine TQ.run (pr_ownA rfl (.there _ (.there _ (.there _ (.here _)))) rfl) rfl ?_
          refine TQ.callS (enters rfl rfl rfl rfl) (dMay_ok (x := a) (lv := la) hA) rfl ?_
          refine TQ.run (pr_ownA rfl (.there _ (.there _ (.there _ (.here _)))) rfl) rfl ?_
          refine TQ.callS (enters rfl rfl rfl rfl) (rMay_ok (x := a) (lv := la) hA) rfl ?_
          refine TQ.run (pr_bool rfl rfl rfl) rfl ?_
          refine TQ.run (pr_pure rfl) rfl ?_
          refine TQ.split (s := 43) rfl (fun g43 => ?_) (fun g43 => ?_)
          ·
            have q43 := of_decide_eq_true g43
            refine TQ.gdY rfl rfl (pr_ownA rfl (.there _ (.there _ (.there _ (.here _)))) rfl) rfl ?_
            refine TQ.gdY rfl rfl (pr_ownA rfl (.there _ (.there _ (.here _))) rfl) rfl ?_
            refine TQ.callSY rfl rfl (enters rfl rfl rfl rfl) (dSame_ok (la := la) (lb := lb) hA hB) rfl ?_
            refine TQ.gdY rfl rfl (pr_ownA rfl (.there _ (.there _ (.there _ (.here _)))) rfl) rfl ?_
            refine TQ.gdY rfl rfl (pr_ownA rfl (.there _ (.there _ (.here _))) rfl) rfl ?_
            refine TQ.callSY rfl rfl (enters rfl rfl rfl rfl) (rsame_ok (la := la) (lb := lb) hA hB) rfl ?_
            refine TQ.gdY rfl rfl (pr_bool rfl rfl rfl) rfl ?_
            refine TQ.run (pr_pure rfl) rfl ?_
            refine TQ.run (pr_pure rfl) rfl ?_
            refine TQ.split (s := 52) rfl (fun g52 => ?_) (fun g52 => ?_)
            ·
              have q52 := of_decide_eq_true g52
              refine TQ.gdY rfl rfl (pr_ownA rfl (.there _ (.there _ (.there _ (.here _)))) rfl) rfl ?_
              refine TQ.gdY rfl rfl (pr_ownA rfl (.there _ (.there _ (.here _))) rfl) rfl ?_
              refine TQ.callSY rfl rfl (enters rfl rfl rfl rfl) (dLess_ok (la := la) (lb := lb) hA hB) rfl ?_
              refine TQ.gdY rfl rfl (pr_ownA rfl (.there _ (.there _ (.there _ (.here _)))) rfl) rfl ?_
              refine TQ.gdY rfl rfl (pr_ownA rfl (.there _ (.there _ (.here _))) rfl) rfl ?_
              refine TQ.callSY rfl rfl (enters rfl rfl rfl rfl) (rless_ok (la := la) (lb := lb) hA hB) rfl ?_
              refine TQ.gdY rfl rfl (pr_bool rfl rfl rfl) rfl ?_
              refine TQ.run (pr_pure rfl) rfl ?_
              refine TQ.run (pr_pure rfl) rfl ?_
              refine TQ.split (s := 61) rfl (fun g61 => ?_) (fun g61 => ?_)
              ·
                have q61 := of_decide_eq_true g61
                refine TQ.gdY rfl rfl (pr_ownA rfl (.there _ (.there _ (.there _ (.here _)))) rfl) rfl ?_
                refine TQ.callTSY hT rfl rfl (enters rfl rfl rfl rfl) (dShow_ok (a := a) (lv := la) hA iA (fun _ _ => by omega)) rfl ?_
                refine TQ.gdY rfl rfl (pr_ownA rfl (.there _ (.there _ (.there _ (.here _)))) rfl) rfl ?_
                refine TQ.callSY rfl rfl (enters rfl rfl rfl rfl) (rShow_ok (a := a) (lv := la) hA iA (fun _ _ => by omega)) rfl ?_
                refine TQ.gdY rfl rfl (pr_str rfl rfl rfl) rfl ?_
                refine TQ.run (pr_pure rfl) rfl ?_
                refine TQ.run (pr_pure rfl) rfl ?_
                refine TQ.split (s := 68) rfl (fun g68 => ?_) (fun g68 => ?_)
                ·
                  have q68 := of_decide_eq_true g68
                  refine TQ.gdY rfl rfl (pr_pure rfl) rfl ?_
                  refine TQ.gdY rfl rfl (pr_pure rfl) rfl ?_
                  refine TQ.gdY rfl rfl (pr_pure rfl) rfl ?_
                  refine TQ.run (pr_pure rfl) rfl ?_
                  refine TQ.run (pr_pure rfl) rfl ?_
                  refine TQ.split (s := 73) rfl (fun g73 => ?_) (fun g73 => ?_)
                  ·
                    have q73 := of_decide_eq_true g73
                    refine TQ.gdY rfl rfl (pr_ownA rfl (.there _ (.here _)) rfl) rfl ?_
                    refine TQ.gdY rfl rfl (pr_ownA rfl (.here _) rfl) rfl ?_
                    refine TQ.callSY rfl rfl (enters rfl rfl rfl rfl) (rsame_ok (a := (readV s).1) (b := (readV s).1) hR30 hR35) rfl ?_
                    refine TQ.run (pr_pure rfl) rfl ?_
                    refine TQ.run (pr_pure rfl) rfl ?_
                    refine TQ.nil ?_
                    refine TX.seqN ?_
                    refine TC.ret ?_
                    exact TX.finS (.inr rfl) (results1 rfl (RVal.tmp rfl)) (congrArg Value.bool (by first | rfl | exact same_refl _ | (simp_all; done)))
                  ·
                    have q73 := of_decide_eq_false g73
                    exact absurd g73 (by simp)
                ·
                  have q68 := of_decide_eq_false g68
                  exact absurd g68 (by simp)
              ·
                have q61 := of_decide_eq_false g61
                exact absurd g61 (by simp)
            ·
              have q52 := of_decide_eq_false g52
              exact absurd g52 (by simp)
          ·
            have q43 := of_decide_eq_false g43
            exact absurd g43 (by simp)
end Go.Sx
