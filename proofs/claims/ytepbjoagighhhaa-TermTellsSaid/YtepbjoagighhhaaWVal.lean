import Derived.Test.YtepbjoagighhhaaWTerm
import Derived.Test.YtepbjoagighhhaaPureEv
import Derived.Test.YtepbjoagighhhaaPureK2
set_option linter.unusedVariables false
set_option linter.unusedSimpArgs false
namespace Go.Sx
open Go Go.Proofs
set_option maxRecDepth 100000 in
set_option maxHeartbeats 1000000 in
theorem cloneI_ok {H : Hp} {l : List Int} {v0 : Value} (hS : RdSl H 1 I64.cells v0 l) (hlen : l.length ≤ 100000) :
    FnO Try.prog 50 [v0] H (fun v H1 ob => H1 = H ∧ OwnSl 1 I64.cells v l ob) := by
  obtain ⟨a, cap, rfl⟩ := hS.len
  refine FnO.enter Try.func50 Try.ntmps50 rfl rfl (fun w0 => ?_)
  refine TC.seq ?_
  refine TC.region ?_
  refine TL.run (pr_pure rfl) rfl ?_
  refine TL.nil ?_
  refine TX.seqN ?_
  refine TC.seq ?_
  refine TC.seq ?_
  refine TC.region ?_
  refine TL.run (pr_pure rfl) rfl ?_
  refine TL.run (pr_slNil rfl rfl) rfl ?_
  refine TL.nil ?_
  refine TX.seqN ?_
  refine TC.cond rfl (fun c4 => ?_) (fun c4 => ?_)
  ·
    refine TC.seq ?_
    refine TC.region ?_
    refine TL.run (pr_pure rfl) rfl ?_
    refine TL.nil ?_
    refine TX.seqN ?_
    refine TC.ret ?_
    refine TX.thenR ?_
    exact TX.finO (.inr rfl) (results1 rfl (RVal.tmp rfl)) .all ⟨rfl, hS.ownNone c4⟩
  ·
    refine TC.skip ?_
    refine TX.seqN ?_
    refine TC.seq ?_
    refine TC.region ?_
    refine TL.bslice rfl rfl rfl rfl (fun b5 => ?_)
    refine TL.run (pr_pure rfl) rfl ?_
    refine TL.append (enc := I64.cells) rfl rfl rfl (OwnSl.blk (enc := I64.cells) [] rfl rfl (by decide)) (Src.sl hS) (by simp; omega) rfl (.take (.here _) rfl) rfl (fun a7 c7 ob7 hO7 => ?_)
    refine TL.run (pr_pure rfl) rfl ?_
    refine TL.nil ?_
    refine TX.seqN ?_
    refine TC.ret ?_
    exact TX.finO (.inr rfl) (results1 rfl (RVal.tmp rfl)) .all ⟨rfl, hO7⟩

set_option maxRecDepth 100000 in
set_option maxHeartbeats 1000000 in
theorem dMay_ok {H : Hp} {x : Val} {lv : Value} (hV : RdV H lv x) :
    FnS Try.prog 19 [.agg (x.cells lv).toArray] H (.bool (mayV x)) := by
  refine FnS.enter Try.func19 Try.ntmps19 rfl rfl (fun w0 => ?_)
  refine TC.seq ?_
  refine TC.region ?_
  refine TL.box rfl rfl (fun b1 => ?_)
  refine TL.run (pr_pure rfl) rfl ?_
  refine TL.nil ?_
  refine TX.seqN ?_
  refine TC.seq ?_
  refine TC.seq ?_
  refine TC.region ?_
  refine TL.run (pr_field rfl) rfl ?_
  refine TL.run (pr_own1 rfl (.here _) rfl) rfl ?_
  refine TL.nil ?_
  refine TX.seqN ?_
  refine TC.block ?_
  refine TC.seq ?_
  refine TC.region ?_
  refine TL.run (pr_pure rfl) rfl ?_
  refine TL.run (pr_pure rfl) rfl ?_
  refine TL.nil ?_
  refine TX.seqN ?_
  refine TC.condD rfl (fun c5 => ?_) (fun c5 => ?_)
  ·
    refine TC.seq ?_
    refine TC.region ?_
    refine TL.run (pr_field rfl) rfl ?_
    refine TL.run (pr_own1 rfl (.here _) rfl) rfl ?_
    refine TL.run (pr_pure rfl) rfl ?_
    refine TL.run (pr_pure rfl) rfl ?_
    refine TL.split (s := 10) rfl (fun g10 => ?_) (fun g10 => ?_)
    ·
      have q10 := of_decide_eq_true g10
      refine TL.gdY rfl rfl (pr_field rfl) rfl ?_
      refine TL.gdY rfl rfl (pr_own1 rfl (.here _) rfl) rfl ?_
      refine TL.gdY rfl rfl (pr_str rfl rfl rfl) rfl ?_
      refine TL.run (pr_pure rfl) rfl ?_
      refine TL.run (pr_pure rfl) rfl ?_
      refine TL.split (s := 15) rfl (fun g15 => ?_) (fun g15 => ?_)
      ·
        have q15 := of_decide_eq_true g15
        refine TL.gdY rfl rfl (pr_field rfl) rfl ?_
        refine TL.gdY rfl rfl (pr_own1 rfl (.here _) rfl) rfl ?_
        refine TL.gdY rfl rfl (pr_lenSl rfl rfl hV) rfl ?_
        refine TL.gdY rfl rfl (pr_pure rfl) rfl ?_
        refine TL.run (pr_pure rfl) rfl ?_
        refine TL.run (pr_pure rfl) rfl ?_
        refine TL.nil ?_
        refine TX.seqN ?_
        refine TC.ret ?_
        refine TX.blkR ?_
        refine TX.thenR ?_
        exact TX.finS (.inr rfl) (results1 rfl (RVal.tmp rfl)) (congrArg Value.bool (by unfold mayV; simp_all <;> (intros; omega)))
      ·
        have q15 := of_decide_eq_false g15
        refine TL.gdN rfl rfl rfl rfl ?_
        refine TL.gdN rfl rfl rfl rfl ?_
        refine TL.gdN rfl rfl rfl rfl ?_
        refine TL.gdN rfl rfl rfl rfl ?_
        refine TL.run (pr_pure rfl) rfl ?_
        refine TL.run (pr_pure rfl) rfl ?_
        refine TL.nil ?_
        refine TX.seqN ?_
        refine TC.ret ?_
        refine TX.blkR ?_
        refine TX.thenR ?_
        exact TX.finS (.inr rfl) (results1 rfl (RVal.tmp rfl)) (congrArg Value.bool (by unfold mayV; simp_all <;> (intros; omega)))
    ·
      have q10 := of_decide_eq_false g10
      refine TL.gdN rfl rfl rfl rfl ?_
      refine TL.gdN rfl rfl rfl rfl ?_
      refine TL.gdN rfl rfl rfl rfl ?_
      refine TL.run (pr_pure rfl) rfl ?_
      refine TL.run (pr_pure rfl) rfl ?_
      refine TL.gdN rfl rfl rfl rfl ?_
      refine TL.gdN rfl rfl rfl rfl ?_
      refine TL.gdN rfl rfl rfl rfl ?_
      refine TL.gdN rfl rfl rfl rfl ?_
      refine TL.run (pr_pure rfl) rfl ?_
      refine TL.run (pr_pure rfl) rfl ?_
      refine TL.nil ?_
      refine TX.seqN ?_
      refine TC.ret ?_
      refine TX.blkR ?_
      refine TX.thenR ?_
      exact TX.finS (.inr rfl) (results1 rfl (RVal.tmp rfl)) (congrArg Value.bool (by unfold mayV; simp_all <;> (intros; omega)))
  ·
    refine TC.seq ?_
    refine TC.region ?_
    refine TL.run (pr_pure rfl) rfl ?_
    refine TL.run (pr_pure rfl) rfl ?_
    refine TL.nil ?_
    refine TX.seqN ?_
    refine TC.condD rfl (fun c21 => ?_) (fun c21 => ?_)
    ·
      refine TC.seq ?_
      refine TC.region ?_
      refine TL.run (pr_field rfl) rfl ?_
      refine TL.run (pr_own1 rfl (.here _) rfl) rfl ?_
      refine TL.run (pr_str rfl rfl rfl) rfl ?_
      refine TL.run (pr_pure rfl) rfl ?_
      refine TL.split (s := 26) rfl (fun g26 => ?_) (fun g26 => ?_)
      ·
        have q26 := of_decide_eq_true g26
        refine TL.gdY rfl rfl (pr_field rfl) rfl ?_
        refine TL.gdY rfl rfl (pr_own1 rfl (.here _) rfl) rfl ?_
        refine TL.gdY rfl rfl (pr_lenSl rfl rfl hV) rfl ?_
        refine TL.gdY rfl rfl (pr_pure rfl) rfl ?_
        refine TL.run (pr_pure rfl) rfl ?_
        refine TL.run (pr_pure rfl) rfl ?_
        refine TL.nil ?_
        refine TX.seqN ?_
        refine TC.ret ?_
        refine TX.blkR ?_
        refine TX.thenR ?_
        exact TX.finS (.inr rfl) (results1 rfl (RVal.tmp rfl)) (congrArg Value.bool (by unfold mayV; simp_all <;> (intros; omega)))
      ·
        have q26 := of_decide_eq_false g26
        refine TL.gdN rfl rfl rfl rfl ?_
        refine TL.gdN rfl rfl rfl rfl ?_
        refine TL.gdN rfl rfl rfl rfl ?_
        refine TL.gdN rfl rfl rfl rfl ?_
        refine TL.run (pr_pure rfl) rfl ?_
        refine TL.run (pr_pure rfl) rfl ?_
        refine TL.nil ?_
        refine TX.seqN ?_
        refine TC.ret ?_
        refine TX.blkR ?_
        refine TX.thenR ?_
        exact TX.finS (.inr rfl) (results1 rfl (RVal.tmp rfl)) (congrArg Value.bool (by unfold mayV; simp_all <;> (intros; omega)))
    ·
      refine TC.seq ?_
      refine TC.region ?_
      refine TL.run (pr_pure rfl) rfl ?_
      refine TL.run (pr_pure rfl) rfl ?_
      refine TL.nil ?_
      refine TX.seqN ?_
      refine TC.condD rfl (fun c32 => ?_) (fun c32 => ?_)
      ·
        refine TC.seq ?_
        refine TC.region ?_
        refine TL.run (pr_field rfl) rfl ?_
        refine TL.run (pr_own1 rfl (.here _) rfl) rfl ?_
        refine TL.run (pr_pure rfl) rfl ?_
        refine TL.run (pr_pure rfl) rfl ?_
        refine TL.split (s := 37) rfl (fun g37 => ?_) (fun g37 => ?_)
        ·
          have q37 := of_decide_eq_true g37
          refine TL.gdN rfl rfl rfl rfl ?_
          refine TL.gdN rfl rfl rfl rfl ?_
          refine TL.gdN rfl rfl rfl rfl ?_
          refine TL.run (pr_pure rfl) rfl ?_
          refine TL.run (pr_pure rfl) rfl ?_
          refine TL.gdY rfl rfl (pr_field rfl) rfl ?_
          refine TL.gdY rfl rfl (pr_own1 rfl (.here _) rfl) rfl ?_
          refine TL.gdY rfl rfl (pr_str rfl rfl rfl) rfl ?_
          refine TL.run (pr_pure rfl) rfl ?_
          refine TL.run (pr_pure rfl) rfl ?_
          refine TL.split (s := 47) rfl (fun g47 => ?_) (fun g47 => ?_)
          ·
            have q47 := of_decide_eq_true g47
            refine TL.gdY rfl rfl (pr_field rfl) rfl ?_
            refine TL.gdY rfl rfl (pr_own1 rfl (.here _) rfl) rfl ?_
            refine TL.gdY rfl rfl (pr_lenSl rfl rfl hV) rfl ?_
            refine TL.gdY rfl rfl (pr_pure rfl) rfl ?_
            refine TL.run (pr_pure rfl) rfl ?_
            refine TL.run (pr_pure rfl) rfl ?_
            refine TL.nil ?_
            refine TX.seqN ?_
            refine TC.ret ?_
            refine TX.blkR ?_
            refine TX.thenR ?_
            exact TX.finS (.inr rfl) (results1 rfl (RVal.tmp rfl)) (congrArg Value.bool (by unfold mayV; simp_all <;> (intros; omega)))
          ·
            have q47 := of_decide_eq_false g47
            refine TL.gdN rfl rfl rfl rfl ?_
            refine TL.gdN rfl rfl rfl rfl ?_
            refine TL.gdN rfl rfl rfl rfl ?_
            refine TL.gdN rfl rfl rfl rfl ?_
            refine TL.run (pr_pure rfl) rfl ?_
            refine TL.run (pr_pure rfl) rfl ?_
            refine TL.nil ?_
            refine TX.seqN ?_
            refine TC.ret ?_
            refine TX.blkR ?_
            refine TX.thenR ?_
            exact TX.finS (.inr rfl) (results1 rfl (RVal.tmp rfl)) (congrArg Value.bool (by unfold mayV; simp_all <;> (intros; omega)))
        ·
          have q37 := of_decide_eq_false g37
          refine TL.gdY rfl rfl (pr_field rfl) rfl ?_
          refine TL.gdY rfl rfl (pr_own1 rfl (.here _) rfl) rfl ?_
          refine TL.gdY rfl rfl (pr_pure rfl) rfl ?_
          refine TL.run (pr_pure rfl) rfl ?_
          refine TL.run (pr_pure rfl) rfl ?_
          refine TL.split (s := 42) rfl (fun g42 => ?_) (fun g42 => ?_)
          ·
            have q42 := of_decide_eq_true g42
            refine TL.gdY rfl rfl (pr_field rfl) rfl ?_
            refine TL.gdY rfl rfl (pr_own1 rfl (.here _) rfl) rfl ?_
            refine TL.gdY rfl rfl (pr_str rfl rfl rfl) rfl ?_
            refine TL.run (pr_pure rfl) rfl ?_
            refine TL.run (pr_pure rfl) rfl ?_
            refine TL.split (s := 47) rfl (fun g47 => ?_) (fun g47 => ?_)
            ·
              have q47 := of_decide_eq_true g47
              refine TL.gdY rfl rfl (pr_field rfl) rfl ?_
              refine TL.gdY rfl rfl (pr_own1 rfl (.here _) rfl) rfl ?_
              refine TL.gdY rfl rfl (pr_lenSl rfl rfl hV) rfl ?_
              refine TL.gdY rfl rfl (pr_pure rfl) rfl ?_
              refine TL.run (pr_pure rfl) rfl ?_
              refine TL.run (pr_pure rfl) rfl ?_
              refine TL.nil ?_
              refine TX.seqN ?_
              refine TC.ret ?_
              refine TX.blkR ?_
              refine TX.thenR ?_
              exact TX.finS (.inr rfl) (results1 rfl (RVal.tmp rfl)) (congrArg Value.bool (by unfold mayV; simp_all <;> (intros; omega)))
            ·
              have q47 := of_decide_eq_false g47
              refine TL.gdN rfl rfl rfl rfl ?_
              refine TL.gdN rfl rfl rfl rfl ?_
              refine TL.gdN rfl rfl rfl rfl ?_
              refine TL.gdN rfl rfl rfl rfl ?_
              refine TL.run (pr_pure rfl) rfl ?_
              refine TL.run (pr_pure rfl) rfl ?_
              refine TL.nil ?_
              refine TX.seqN ?_
              refine TC.ret ?_
              refine TX.blkR ?_
              refine TX.thenR ?_
              exact TX.finS (.inr rfl) (results1 rfl (RVal.tmp rfl)) (congrArg Value.bool (by unfold mayV; simp_all <;> (intros; omega)))
          ·
            have q42 := of_decide_eq_false g42
            refine TL.gdN rfl rfl rfl rfl ?_
            refine TL.gdN rfl rfl rfl rfl ?_
            refine TL.gdN rfl rfl rfl rfl ?_
            refine TL.run (pr_pure rfl) rfl ?_
            refine TL.run (pr_pure rfl) rfl ?_
            refine TL.gdN rfl rfl rfl rfl ?_
            refine TL.gdN rfl rfl rfl rfl ?_
            refine TL.gdN rfl rfl rfl rfl ?_
            refine TL.gdN rfl rfl rfl rfl ?_
            refine TL.run (pr_pure rfl) rfl ?_
            refine TL.run (pr_pure rfl) rfl ?_
            refine TL.nil ?_
            refine TX.seqN ?_
            refine TC.ret ?_
            refine TX.blkR ?_
            refine TX.thenR ?_
            exact TX.finS (.inr rfl) (results1 rfl (RVal.tmp rfl)) (congrArg Value.bool (by unfold mayV; simp_all <;> (intros; omega)))
      ·
        refine TC.seq ?_
        refine TC.region ?_
        refine TL.run (pr_pure rfl) rfl ?_
        refine TL.run (pr_pure rfl) rfl ?_
        refine TL.nil ?_
        refine TX.seqN ?_
        refine TC.condD rfl (fun c53 => ?_) (fun c53 => ?_)
        ·
          refine TC.seq ?_
          refine TC.region ?_
          refine TL.run (pr_field rfl) rfl ?_
          refine TL.run (pr_own1 rfl (.here _) rfl) rfl ?_
          refine TL.run (pr_lenStr rfl rfl) rfl ?_
          refine TL.run (pr_pure rfl) rfl ?_
          refine TL.run (pr_pure rfl) rfl ?_
          refine TL.split (s := 59) rfl (fun g59 => ?_) (fun g59 => ?_)
          ·
            have q59 := of_decide_eq_true g59
            refine TL.gdY rfl rfl (pr_field rfl) rfl ?_
            refine TL.gdY rfl rfl (pr_own1 rfl (.here _) rfl) rfl ?_
            refine TL.gdY rfl rfl (pr_pure rfl) rfl ?_
            refine TL.run (pr_pure rfl) rfl ?_
            refine TL.run (pr_pure rfl) rfl ?_
            refine TL.split (s := 64) rfl (fun g64 => ?_) (fun g64 => ?_)
            ·
              have q64 := of_decide_eq_true g64
              refine TL.gdY rfl rfl (pr_field rfl) rfl ?_
              refine TL.gdY rfl rfl (pr_own1 rfl (.here _) rfl) rfl ?_
              refine TL.gdY rfl rfl (pr_lenSl rfl rfl hV) rfl ?_
              refine TL.gdY rfl rfl (pr_pure rfl) rfl ?_
              refine TL.run (pr_pure rfl) rfl ?_
              refine TL.run (pr_pure rfl) rfl ?_
              refine TL.nil ?_
              refine TX.seqN ?_
              refine TC.ret ?_
              refine TX.blkR ?_
              refine TX.thenR ?_
              exact TX.finS (.inr rfl) (results1 rfl (RVal.tmp rfl)) (congrArg Value.bool (by unfold mayV; simp_all <;> (intros; omega)))
            ·
              have q64 := of_decide_eq_false g64
              refine TL.gdN rfl rfl rfl rfl ?_
              refine TL.gdN rfl rfl rfl rfl ?_
              refine TL.gdN rfl rfl rfl rfl ?_
              refine TL.gdN rfl rfl rfl rfl ?_
              refine TL.run (pr_pure rfl) rfl ?_
              refine TL.run (pr_pure rfl) rfl ?_
              refine TL.nil ?_
              refine TX.seqN ?_
              refine TC.ret ?_
              refine TX.blkR ?_
              refine TX.thenR ?_
              exact TX.finS (.inr rfl) (results1 rfl (RVal.tmp rfl)) (congrArg Value.bool (by unfold mayV; simp_all <;> (intros; omega)))
          ·
            have q59 := of_decide_eq_false g59
            refine TL.gdN rfl rfl rfl rfl ?_
            refine TL.gdN rfl rfl rfl rfl ?_
            refine TL.gdN rfl rfl rfl rfl ?_
            refine TL.run (pr_pure rfl) rfl ?_
            refine TL.run (pr_pure rfl) rfl ?_
            refine TL.gdN rfl rfl rfl rfl ?_
            refine TL.gdN rfl rfl rfl rfl ?_
            refine TL.gdN rfl rfl rfl rfl ?_
            refine TL.gdN rfl rfl rfl rfl ?_
            refine TL.run (pr_pure rfl) rfl ?_
            refine TL.run (pr_pure rfl) rfl ?_
            refine TL.nil ?_
            refine TX.seqN ?_
            refine TC.ret ?_
            refine TX.blkR ?_
            refine TX.thenR ?_
            exact TX.finS (.inr rfl) (results1 rfl (RVal.tmp rfl)) (congrArg Value.bool (by unfold mayV; simp_all <;> (intros; omega)))
        ·
          refine TC.seq ?_
          refine TC.region ?_
          refine TL.run (pr_pure rfl) rfl ?_
          refine TL.run (pr_pure rfl) rfl ?_
          refine TL.nil ?_
          refine TX.seqN ?_
          refine TC.condD rfl (fun c70 => ?_) (fun c70 => ?_)
          ·
            refine TC.seq ?_
            refine TC.region ?_
            refine TL.run (pr_field rfl) rfl ?_
            refine TL.run (pr_own1 rfl (.here _) rfl) rfl ?_
            refine TL.run (pr_lenSl rfl rfl hV) rfl ?_
            refine TL.run (pr_pure rfl) rfl ?_
            refine TL.run (pr_pure rfl) rfl ?_
            refine TL.split (s := 76) rfl (fun g76 => ?_) (fun g76 => ?_)
            ·
              have q76 := of_decide_eq_true g76
              refine TL.gdY rfl rfl (pr_field rfl) rfl ?_
              refine TL.gdY rfl rfl (pr_own1 rfl (.here _) rfl) rfl ?_
              refine TL.gdY rfl rfl (pr_pure rfl) rfl ?_
              refine TL.run (pr_pure rfl) rfl ?_
              refine TL.run (pr_pure rfl) rfl ?_
              refine TL.split (s := 81) rfl (fun g81 => ?_) (fun g81 => ?_)
              ·
                have q81 := of_decide_eq_true g81
                refine TL.gdY rfl rfl (pr_field rfl) rfl ?_
                refine TL.gdY rfl rfl (pr_own1 rfl (.here _) rfl) rfl ?_
                refine TL.gdY rfl rfl (pr_str rfl rfl rfl) rfl ?_
                refine TL.run (pr_pure rfl) rfl ?_
                refine TL.run (pr_pure rfl) rfl ?_
                refine TL.nil ?_
                refine TX.seqN ?_
                refine TC.ret ?_
                refine TX.blkR ?_
                refine TX.thenR ?_
                exact TX.finS (.inr rfl) (results1 rfl (RVal.tmp rfl)) (congrArg Value.bool (by unfold mayV; simp_all <;> (intros; omega)))
              ·
                have q81 := of_decide_eq_false g81
                refine TL.gdN rfl rfl rfl rfl ?_
                refine TL.gdN rfl rfl rfl rfl ?_
                refine TL.gdN rfl rfl rfl rfl ?_
                refine TL.run (pr_pure rfl) rfl ?_
                refine TL.run (pr_pure rfl) rfl ?_
                refine TL.nil ?_
                refine TX.seqN ?_
                refine TC.ret ?_
                refine TX.blkR ?_
                refine TX.thenR ?_
                exact TX.finS (.inr rfl) (results1 rfl (RVal.tmp rfl)) (congrArg Value.bool (by unfold mayV; simp_all <;> (intros; omega)))
            ·
              have q76 := of_decide_eq_false g76
              refine TL.gdN rfl rfl rfl rfl ?_
              refine TL.gdN rfl rfl rfl rfl ?_
              refine TL.gdN rfl rfl rfl rfl ?_
              refine TL.run (pr_pure rfl) rfl ?_
              refine TL.run (pr_pure rfl) rfl ?_
              refine TL.gdN rfl rfl rfl rfl ?_
              refine TL.gdN rfl rfl rfl rfl ?_
              refine TL.gdN rfl rfl rfl rfl ?_
              refine TL.run (pr_pure rfl) rfl ?_
              refine TL.run (pr_pure rfl) rfl ?_
              refine TL.nil ?_
              refine TX.seqN ?_
              refine TC.ret ?_
              refine TX.blkR ?_
              refine TX.thenR ?_
              exact TX.finS (.inr rfl) (results1 rfl (RVal.tmp rfl)) (congrArg Value.bool (by unfold mayV; simp_all <;> (intros; omega)))
          ·
            refine TC.seq ?_
            refine TC.region ?_
            refine TL.run (pr_pure rfl) rfl ?_
            refine TL.run (pr_pure rfl) rfl ?_
            refine TL.nil ?_
            refine TX.seqN ?_
            refine TC.condD rfl (fun c86 => ?_) (fun c86 => ?_)
            ·
              refine TC.seq ?_
              refine TC.region ?_
              refine TL.run (pr_field rfl) rfl ?_
              refine TL.run (pr_own1 rfl (.here _) rfl) rfl ?_
              refine TL.run (pr_str rfl rfl rfl) rfl ?_
              refine TL.run (pr_pure rfl) rfl ?_
              refine TL.split (s := 91) rfl (fun g91 => ?_) (fun g91 => ?_)
              ·
                have q91 := of_ndec_true g91
                refine TL.gdY rfl rfl (pr_field rfl) rfl ?_
                refine TL.gdY rfl rfl (pr_own1 rfl (.here _) rfl) rfl ?_
                refine TL.gdY rfl rfl (pr_pure rfl) rfl ?_
                refine TL.run (pr_pure rfl) rfl ?_
                refine TL.run (pr_pure rfl) rfl ?_
                refine TL.split (s := 96) rfl (fun g96 => ?_) (fun g96 => ?_)
                ·
                  have q96 := of_decide_eq_true g96
                  refine TL.gdY rfl rfl (pr_field rfl) rfl ?_
                  refine TL.gdY rfl rfl (pr_own1 rfl (.here _) rfl) rfl ?_
                  refine TL.gdY rfl rfl (pr_pure rfl) rfl ?_
                  refine TL.run (pr_pure rfl) rfl ?_
                  refine TL.run (pr_pure rfl) rfl ?_
                  refine TL.split (s := 101) rfl (fun g101 => ?_) (fun g101 => ?_)
                  ·
                    have q101 := of_decide_eq_true g101
                    refine TL.gdY rfl rfl (pr_field rfl) rfl ?_
                    refine TL.gdY rfl rfl (pr_own1 rfl (.here _) rfl) rfl ?_
                    refine TL.gdY rfl rfl (pr_lenSl rfl rfl hV) rfl ?_
                    refine TL.gdY rfl rfl (pr_pure rfl) rfl ?_
                    refine TL.run (pr_pure rfl) rfl ?_
                    refine TL.run (pr_pure rfl) rfl ?_
                    refine TL.nil ?_
                    refine TX.seqN ?_
                    refine TC.ret ?_
                    refine TX.blkR ?_
                    refine TX.thenR ?_
                    exact TX.finS (.inr rfl) (results1 rfl (RVal.tmp rfl)) (congrArg Value.bool (by unfold mayV; simp_all <;> (intros; omega)))
                  ·
                    have q101 := of_decide_eq_false g101
                    refine TL.gdN rfl rfl rfl rfl ?_
                    refine TL.gdN rfl rfl rfl rfl ?_
                    refine TL.gdN rfl rfl rfl rfl ?_
                    refine TL.gdN rfl rfl rfl rfl ?_
                    refine TL.run (pr_pure rfl) rfl ?_
                    refine TL.run (pr_pure rfl) rfl ?_
                    refine TL.nil ?_
                    refine TX.seqN ?_
                    refine TC.ret ?_
                    refine TX.blkR ?_
                    refine TX.thenR ?_
                    exact TX.finS (.inr rfl) (results1 rfl (RVal.tmp rfl)) (congrArg Value.bool (by unfold mayV; simp_all <;> (intros; omega)))
                ·
                  have q96 := of_decide_eq_false g96
                  refine TL.gdN rfl rfl rfl rfl ?_
                  refine TL.gdN rfl rfl rfl rfl ?_
                  refine TL.gdN rfl rfl rfl rfl ?_
                  refine TL.run (pr_pure rfl) rfl ?_
                  refine TL.run (pr_pure rfl) rfl ?_
                  refine TL.gdN rfl rfl rfl rfl ?_
                  refine TL.gdN rfl rfl rfl rfl ?_
                  refine TL.gdN rfl rfl rfl rfl ?_
                  refine TL.gdN rfl rfl rfl rfl ?_
                  refine TL.run (pr_pure rfl) rfl ?_
                  refine TL.run (pr_pure rfl) rfl ?_
                  refine TL.nil ?_
                  refine TX.seqN ?_
                  refine TC.ret ?_
                  refine TX.blkR ?_
                  refine TX.thenR ?_
                  exact TX.finS (.inr rfl) (results1 rfl (RVal.tmp rfl)) (congrArg Value.bool (by unfold mayV; simp_all <;> (intros; omega)))
              ·
                have q91 := of_ndec_false g91
                refine TL.gdN rfl rfl rfl rfl ?_
                refine TL.gdN rfl rfl rfl rfl ?_
                refine TL.gdN rfl rfl rfl rfl ?_
                refine TL.run (pr_pure rfl) rfl ?_
                refine TL.run (pr_pure rfl) rfl ?_
                refine TL.gdN rfl rfl rfl rfl ?_
                refine TL.gdN rfl rfl rfl rfl ?_
                refine TL.gdN rfl rfl rfl rfl ?_
                refine TL.run (pr_pure rfl) rfl ?_
                refine TL.run (pr_pure rfl) rfl ?_
                refine TL.gdN rfl rfl rfl rfl ?_
                refine TL.gdN rfl rfl rfl rfl ?_
                refine TL.gdN rfl rfl rfl rfl ?_
                refine TL.gdN rfl rfl rfl rfl ?_
                refine TL.run (pr_pure rfl) rfl ?_
                refine TL.run (pr_pure rfl) rfl ?_
                refine TL.nil ?_
                refine TX.seqN ?_
                refine TC.ret ?_
                refine TX.blkR ?_
                refine TX.thenR ?_
                exact TX.finS (.inr rfl) (results1 rfl (RVal.tmp rfl)) (congrArg Value.bool (by unfold mayV; simp_all <;> (intros; omega)))
            ·
              refine TC.skip ?_
              refine TX.blkN ?_
              refine TX.seqN ?_
              refine TC.seq ?_
              refine TC.region ?_
              refine TL.run (pr_pure rfl) rfl ?_
              refine TL.nil ?_
              refine TX.seqN ?_
              refine TC.ret ?_
              exact TX.finS (.inr rfl) (results1 rfl (RVal.tmp rfl)) (congrArg Value.bool (by unfold mayV; simp_all <;> (intros; omega)))

set_option maxRecDepth 100000 in
set_option maxHeartbeats 1000000 in
theorem dSame_ok {H : Hp} {a b : Val} {la lb : Value} (hA : RdV H la a) (hB : RdV H lb b) :
    FnS Try.prog 18 [.agg (a.cells la).toArray, .agg (b.cells lb).toArray] H (.bool (sameV a b)) := by
  have hA1 : RdSl H 1 I64.cells la a.l := hA
  have hB1 : RdSl H 1 I64.cells lb b.l := hB
  have hmax := hA1.max
  refine FnS.enter Try.func18 Try.ntmps18 rfl rfl (fun w0 => ?_)
  refine TC.seq ?_
  refine TC.region ?_
  refine TL.box rfl rfl (fun b2 => ?_)
  refine TL.box rfl rfl (fun b3 => ?_)
  refine TL.run (pr_pure rfl) rfl ?_
  refine TL.nil ?_
  refine TX.seqN ?_
  refine TC.seq ?_
  refine TC.seq ?_
  refine TC.region ?_
  refine TL.run (pr_field rfl) rfl ?_
  refine TL.run (pr_own1 rfl (.there _ (.here _)) rfl) rfl ?_
  refine TL.run (pr_field rfl) rfl ?_
  refine TL.run (pr_own1 rfl (.here _) rfl) rfl ?_
  refine TL.run (pr_pure rfl) rfl ?_
  refine TL.run (pr_pure rfl) rfl ?_
  refine TL.split (s := 12) rfl (fun g12 => ?_) (fun g12 => ?_)
  ·
    have q12 := of_ndec_true g12
    refine TL.gdN rfl rfl rfl rfl ?_
    refine TL.gdN rfl rfl rfl rfl ?_
    refine TL.gdN rfl rfl rfl rfl ?_
    refine TL.gdN rfl rfl rfl rfl ?_
    refine TL.gdN rfl rfl rfl rfl ?_
    refine TL.run (pr_pure rfl) rfl ?_
    refine TL.run (pr_pure rfl) rfl ?_
    refine TL.gdN rfl rfl rfl rfl ?_
    refine TL.gdN rfl rfl rfl rfl ?_
    refine TL.gdN rfl rfl rfl rfl ?_
    refine TL.gdN rfl rfl rfl rfl ?_
    refine TL.gdN rfl rfl rfl rfl ?_
    refine TL.run (pr_pure rfl) rfl ?_
    refine TL.run (pr_pure rfl) rfl ?_
    refine TL.gdN rfl rfl rfl rfl ?_
    refine TL.gdN rfl rfl rfl rfl ?_
    refine TL.gdN rfl rfl rfl rfl ?_
    refine TL.gdN rfl rfl rfl rfl ?_
    refine TL.gdN rfl rfl rfl rfl ?_
    refine TL.gdN rfl rfl rfl rfl ?_
    refine TL.gdN rfl rfl rfl rfl ?_
    refine TL.run (pr_pure rfl) rfl ?_
    refine TL.nil ?_
    refine TX.seqN ?_
    refine TC.condT rfl ?_
    refine TC.seq ?_
    refine TC.region ?_
    refine TL.run (pr_pure rfl) rfl ?_
    refine TL.nil ?_
    refine TX.seqN ?_
    refine TC.ret ?_
    refine TX.thenR ?_
    exact TX.finS (.inr rfl) (results1 rfl (RVal.tmp rfl)) (congrArg Value.bool (by first | (have h := same_end hI.2.2 hlen c39 hI.1; simp_all [sameV]; done) | (have h := same_ne hx hy c49; simp_all [sameV]; done) | (unfold sameV; simp_all; done) | (have h : ¬ a.l = b.l := (fun e => by simp_all); simp_all [sameV])))
  ·
    have q12 := of_ndec_false g12
    refine TL.gdY rfl rfl (pr_field rfl) rfl ?_
    refine TL.gdY rfl rfl (pr_own1 rfl (.there _ (.here _)) rfl) rfl ?_
    refine TL.gdY rfl rfl (pr_field rfl) rfl ?_
    refine TL.gdY rfl rfl (pr_own1 rfl (.here _) rfl) rfl ?_
    refine TL.gdY rfl rfl (pr_pure rfl) rfl ?_
    refine TL.run (pr_pure rfl) rfl ?_
    refine TL.run (pr_pure rfl) rfl ?_
    refine TL.split (s := 19) rfl (fun g19 => ?_) (fun g19 => ?_)
    ·
      have q19 := of_ndec_true g19
      refine TL.gdN rfl rfl rfl rfl ?_
      refine TL.gdN rfl rfl rfl rfl ?_
      refine TL.gdN rfl rfl rfl rfl ?_
      refine TL.gdN rfl rfl rfl rfl ?_
      refine TL.gdN rfl rfl rfl rfl ?_
      refine TL.run (pr_pure rfl) rfl ?_
      refine TL.run (pr_pure rfl) rfl ?_
      refine TL.gdN rfl rfl rfl rfl ?_
      refine TL.gdN rfl rfl rfl rfl ?_
      refine TL.gdN rfl rfl rfl rfl ?_
      refine TL.gdN rfl rfl rfl rfl ?_
      refine TL.gdN rfl rfl rfl rfl ?_
      refine TL.gdN rfl rfl rfl rfl ?_
      refine TL.gdN rfl rfl rfl rfl ?_
      refine TL.run (pr_pure rfl) rfl ?_
      refine TL.nil ?_
      refine TX.seqN ?_
      refine TC.condT rfl ?_
      refine TC.seq ?_
      refine TC.region ?_
      refine TL.run (pr_pure rfl) rfl ?_
      refine TL.nil ?_
      refine TX.seqN ?_
      refine TC.ret ?_
      refine TX.thenR ?_
      exact TX.finS (.inr rfl) (results1 rfl (RVal.tmp rfl)) (congrArg Value.bool (by first | (have h := same_end hI.2.2 hlen c39 hI.1; simp_all [sameV]; done) | (have h := same_ne hx hy c49; simp_all [sameV]; done) | (unfold sameV; simp_all; done) | (have h : ¬ a.l = b.l := (fun e => by simp_all); simp_all [sameV])))
    ·
      have q19 := of_ndec_false g19
      refine TL.gdY rfl rfl (pr_field rfl) rfl ?_
      refine TL.gdY rfl rfl (pr_own1 rfl (.there _ (.here _)) rfl) rfl ?_
      refine TL.gdY rfl rfl (pr_field rfl) rfl ?_
      refine TL.gdY rfl rfl (pr_own1 rfl (.here _) rfl) rfl ?_
      refine TL.gdY rfl rfl (pr_str rfl rfl rfl) rfl ?_
      refine TL.run (pr_pure rfl) rfl ?_
      refine TL.run (pr_pure rfl) rfl ?_
      refine TL.split (s := 26) rfl (fun g26 => ?_) (fun g26 => ?_)
      ·
        have q26 := of_ndec_true g26
        refine TL.gdN rfl rfl rfl rfl ?_
        refine TL.gdN rfl rfl rfl rfl ?_
        refine TL.gdN rfl rfl rfl rfl ?_
        refine TL.gdN rfl rfl rfl rfl ?_
        refine TL.gdN rfl rfl rfl rfl ?_
        refine TL.gdN rfl rfl rfl rfl ?_
        refine TL.gdN rfl rfl rfl rfl ?_
        refine TL.run (pr_pure rfl) rfl ?_
        refine TL.nil ?_
        refine TX.seqN ?_
        refine TC.condT rfl ?_
        refine TC.seq ?_
        refine TC.region ?_
        refine TL.run (pr_pure rfl) rfl ?_
        refine TL.nil ?_
        refine TX.seqN ?_
        refine TC.ret ?_
        refine TX.thenR ?_
        exact TX.finS (.inr rfl) (results1 rfl (RVal.tmp rfl)) (congrArg Value.bool (by first | (have h := same_end hI.2.2 hlen c39 hI.1; simp_all [sameV]; done) | (have h := same_ne hx hy c49; simp_all [sameV]; done) | (unfold sameV; simp_all; done) | (have h : ¬ a.l = b.l := (fun e => by simp_all); simp_all [sameV])))
      ·
        have q26 := of_ndec_false g26
        refine TL.gdY rfl rfl (pr_field rfl) rfl ?_
        refine TL.gdY rfl rfl (pr_own1 rfl (.there _ (.here _)) rfl) rfl ?_
        refine TL.gdY rfl rfl (pr_lenSl rfl rfl hA1) rfl ?_
        refine TL.gdY rfl rfl (pr_field rfl) rfl ?_
        refine TL.gdY rfl rfl (pr_own1 rfl (.here _) rfl) rfl ?_
        refine TL.gdY rfl rfl (pr_lenSl rfl rfl hB1) rfl ?_
        refine TL.gdY rfl rfl (pr_pure rfl) rfl ?_
        refine TL.run (pr_pure rfl) rfl ?_
        refine TL.nil ?_
        refine TX.seqN ?_
        refine TC.condND rfl (fun c34 => ?_) (fun c34 => ?_)
        ·
          refine TC.seq ?_
          refine TC.region ?_
          refine TL.run (pr_pure rfl) rfl ?_
          refine TL.nil ?_
          refine TX.seqN ?_
          refine TC.ret ?_
          refine TX.thenR ?_
          exact TX.finS (.inr rfl) (results1 rfl (RVal.tmp rfl)) (congrArg Value.bool (by first | (have h := same_end hI.2.2 hlen c39 hI.1; simp_all [sameV]; done) | (have h := same_ne hx hy c49; simp_all [sameV]; done) | (unfold sameV; simp_all; done) | (have h : ¬ a.l = b.l := (fun e => by simp_all); simp_all [sameV])))
        ·
          have hlen : (a.l.length : Int) = b.l.length := by simpa using c34
          refine TC.skip ?_
          refine TX.seqN ?_
          refine TC.seq ?_
          refine TC.seq ?_
          refine TC.region ?_
          refine TL.run (pr_field rfl) rfl ?_
          refine TL.run (pr_own1 rfl (.there _ (.here _)) rfl) rfl ?_
          refine TL.run (pr_lenSl rfl rfl hA1) rfl ?_
          refine TL.run (pr_pure rfl) rfl ?_
          refine TL.nil ?_
          refine TX.seqN ?_
          refine TC.block ?_
          refine TC.loop (V := fun k => [(38, .int .i64 k)]) (K := [(3, _), (4, _), (36, _), (37, _)]) (L := fun k => _) (I := fun k => 0 ≤ k ∧ k ≤ a.l.length ∧ a.l.take k.toNat = b.l.take k.toNat) (μ := fun k => (a.l.length - k).toNat) (i := (0 : Int)) ⟨rfl, rfl, rfl, rfl, rfl, trivial⟩ ⟨by omega, by omega, rfl⟩ (fun w hw => hw) (fun k hI => ?_)
          refine TC.seq ?_
          refine TC.region ?_
          refine TL.run (pr_pure rfl) rfl ?_
          refine TL.nil ?_
          refine TX.seqN ?_
          refine TC.seq ?_
          refine TC.condD rfl (fun c39 => ?_) (fun c39 => ?_)
          ·
            obtain ⟨x, hx⟩ := getSome (l := a.l) hI.1 c39
            obtain ⟨y, hy⟩ := getSome (l := b.l) hI.1 (by omega)
            refine TC.skip ?_
            refine TX.seqN ?_
            refine TC.seq ?_
            refine TC.block ?_
            refine TC.seq ?_
            refine TC.region ?_
            refine TL.run (pr_pure rfl) rfl ?_
            refine TL.run (pr_indexSl rfl hA1 rfl (by omega) (by omega)) rfl ?_
            refine TL.run (pr_el0 hA1 hx rfl rfl) rfl ?_
            refine TL.run (pr_pure rfl) rfl ?_
            refine TL.run (pr_pure rfl) rfl ?_
            refine TL.nil ?_
            refine TX.seqN ?_
            refine TC.seq ?_
            refine TC.region ?_
            refine TL.run (pr_pure rfl) rfl ?_
            refine TL.run (pr_field rfl) rfl ?_
            refine TL.run (pr_own1 rfl (.here _) rfl) rfl ?_
            refine TL.run (pr_pure rfl) rfl ?_
            refine TL.run (pr_indexSl rfl hB1 rfl (by omega) (by omega)) rfl ?_
            refine TL.run (pr_el0 hB1 hy rfl rfl) rfl ?_
            refine TL.run (pr_pure rfl) rfl ?_
            refine TL.nil ?_
            refine TX.seqN ?_
            refine TC.condND rfl (fun c49 => ?_) (fun c49 => ?_)
            ·
              refine TC.seq ?_
              refine TC.region ?_
              refine TL.run (pr_pure rfl) rfl ?_
              refine TL.nil ?_
              refine TX.seqN ?_
              refine TC.ret ?_
              refine TX.blkR ?_
              refine TX.thenR ?_
              refine TX.thenR ?_
              refine TX.blkR ?_
              refine TX.thenR ?_
              exact TX.finS (.inr rfl) (results1 rfl (RVal.tmp rfl)) (congrArg Value.bool (by first | (have h := same_end hI.2.2 hlen c39 hI.1; simp_all [sameV]; done) | (have h := same_ne hx hy c49; simp_all [sameV]; done) | (unfold sameV; simp_all; done) | (have h : ¬ a.l = b.l := (fun e => by simp_all); simp_all [sameV])))
            ·
              refine TC.skip ?_
              refine TX.blkN ?_
              refine TX.seqN ?_
              refine TC.region ?_
              refine TL.run ((by first | exact pr_add rfl rfl (by omega) (by omega) | exact pr_pure rfl)) rfl ?_
              refine TL.run (pr_pure rfl) rfl ?_
              refine TL.nil ?_
              exact TX.round (k + 1) ⟨by omega, by omega, by rw [take_snoc hI.1 hx, take_snoc hI.1 hy, hI.2.2, c49]⟩ ⟨rfl, rfl, rfl, rfl, rfl, trivial⟩ (fun w hw => hw) (by omega)
          ·
            refine TC.exit ?_
            refine TX.thenE ?_
            refine TX.thenE ?_
            refine TX.blkHit ?_
            refine TX.seqN ?_
            refine TC.seq ?_
            refine TC.region ?_
            refine TL.run (pr_pure rfl) rfl ?_
            refine TL.nil ?_
            refine TX.seqN ?_
            refine TC.ret ?_
            exact TX.finS (.inr rfl) (results1 rfl (RVal.tmp rfl)) (congrArg Value.bool (by first | (have h := same_end hI.2.2 hlen c39 hI.1; simp_all [sameV]; done) | (have h := same_ne hx hy c49; simp_all [sameV]; done) | (unfold sameV; simp_all; done) | (have h : ¬ a.l = b.l := (fun e => by simp_all); simp_all [sameV])))

set_option maxRecDepth 100000 in
set_option maxHeartbeats 1000000 in
theorem truth_ok {H : Hp} (b : Bool) :
    FnS Try.prog 53 [.bool b] H (.agg ((truthV b).cells (.slice none 0 0)).toArray) := by
  refine FnS.enter Try.func53 Try.ntmps53 rfl rfl (fun w0 => ?_)
  refine TC.seq ?_
  refine TC.region ?_
  refine TL.alloc rfl (fun b2 => ?_)
  refine TL.nil ?_
  refine TX.seqN ?_
  refine TC.seq ?_
  refine TC.seq ?_
  refine TC.region ?_
  refine TL.run (pr_pure rfl) rfl ?_
  refine TL.nil ?_
  refine TX.seqN ?_
  refine TC.cond rfl (fun c3 => ?_) (fun c3 => ?_)
  ·
    refine TC.seq ?_
    refine TC.region ?_
    refine TL.run (pr_build rfl rfl) rfl ?_
    refine TL.storeA rfl rfl rfl rfl rfl (.here _) rfl rfl ?_
    refine TL.nil ?_
    refine TX.seqN ?_
    refine TC.ret ?_
    refine TX.thenR ?_
    exact TX.finS (.inr rfl) (results1 rfl (RVal.cellA rfl (.here _) rfl)) (by subst c3; rfl)
  ·
    refine TC.skip ?_
    refine TX.seqN ?_
    refine TC.seq ?_
    refine TC.region ?_
    refine TL.run (pr_build rfl rfl) rfl ?_
    refine TL.storeA rfl rfl rfl rfl rfl (.here _) rfl rfl ?_
    refine TL.nil ?_
    refine TX.seqN ?_
    refine TC.ret ?_
    exact TX.finS (.inr rfl) (results1 rfl (RVal.cellA rfl (.here _) rfl)) (by subst c3; rfl)

set_option maxRecDepth 100000 in
set_option maxHeartbeats 1000000 in
theorem numbers_ok {H : Hp} (k x y : Int) :
    FnS Try.prog 52 [.int .i64 k, .int .i64 x, .int .i64 y] H (.tuple #[.agg ((numV k x y).1.cells (.slice none 0 0)).toArray, .int .i64 (numV k x y).2]) := by
  refine FnS.enter Try.func52 Try.ntmps52 rfl rfl (fun w0 => ?_)
  refine TC.seq ?_
  refine TC.region ?_
  refine TL.alloc rfl (fun b6 => ?_)
  refine TL.run (pr_pure rfl) rfl ?_
  refine TL.nil ?_
  refine TX.seqN ?_
  refine TC.seq ?_
  refine TC.region ?_
  refine TL.run (pr_build rfl rfl) rfl ?_
  refine TL.alloc rfl (fun b8 => ?_)
  refine TL.storeA rfl rfl rfl rfl rfl (.here _) rfl rfl ?_
  refine TL.nil ?_
  refine TX.seqN ?_
  refine TC.seq ?_
  refine TC.seq ?_
  refine TC.region ?_
  refine TL.run (pr_pure rfl) rfl ?_
  refine TL.nil ?_
  refine TX.seqN ?_
  refine TC.block ?_
  refine TC.sw (decide (k = 6)) 11 [(0, _), (1, _), (2, _), (6, _), (7, _), (8, _), (10, _)] ⟨rfl, rfl, rfl, rfl, rfl, rfl, rfl, trivial⟩ ?_ ?_
  ·
    exact TC.swE (pr_pure rfl) rfl rfl ⟨rfl, rfl, rfl, rfl, rfl, rfl, rfl, trivial⟩
  refine TC.condD rfl (fun c11 => ?_) (fun c11 => ?_)
  ·
    refine TC.region ?_
    refine TL.run (pr_pure rfl) rfl ?_
    refine TL.run (pr_pure rfl) rfl ?_
    refine TL.run (pr_pure rfl) rfl ?_
    refine TL.run (pr_field rfl) rfl ?_
    refine TL.store1 rfl rfl rfl (.here _) rfl rfl ?_
    refine TL.nil ?_
    refine TX.blkN ?_
    refine TX.seqN ?_
    refine TC.seq ?_
    refine TC.region ?_
    refine TL.run (pr_ownA rfl (.here _) rfl) rfl ?_
    refine TL.storeA rfl rfl rfl rfl rfl (.there _ (.here _)) rfl rfl ?_
    refine TL.run (pr_pure rfl) rfl ?_
    refine TL.nil ?_
    refine TX.seqN ?_
    refine TC.ret ?_
    exact TX.finS (.inr rfl) (results2 rfl (RVal.cellA rfl (.there _ (.here _)) rfl) (RVal.tmp rfl)) (by (try simp only [Bool.or_eq_true, Bool.or_eq_false_iff, decide_eq_true_eq, decide_eq_false_iff_not] at *); first | (unfold numV; simp only [*, if_true, if_false, true_or, or_true, or_self]; rfl) | (unfold numV; simp_all; rfl))
  ·
    refine TC.sw (decide (k = 7)) 17 [(0, _), (1, _), (2, _), (6, _), (7, _), (8, _), (10, _)] ⟨rfl, rfl, rfl, rfl, rfl, rfl, rfl, trivial⟩ ?_ ?_
    ·
      exact TC.swE (pr_pure rfl) rfl rfl ⟨rfl, rfl, rfl, rfl, rfl, rfl, rfl, trivial⟩
    refine TC.condD rfl (fun c17 => ?_) (fun c17 => ?_)
    ·
      refine TC.region ?_
      refine TL.run (pr_pure rfl) rfl ?_
      refine TL.run (pr_pure rfl) rfl ?_
      refine TL.run (pr_pure rfl) rfl ?_
      refine TL.run (pr_field rfl) rfl ?_
      refine TL.store1 rfl rfl rfl (.here _) rfl rfl ?_
      refine TL.nil ?_
      refine TX.blkN ?_
      refine TX.seqN ?_
      refine TC.seq ?_
      refine TC.region ?_
      refine TL.run (pr_ownA rfl (.here _) rfl) rfl ?_
      refine TL.storeA rfl rfl rfl rfl rfl (.there _ (.here _)) rfl rfl ?_
      refine TL.run (pr_pure rfl) rfl ?_
      refine TL.nil ?_
      refine TX.seqN ?_
      refine TC.ret ?_
      exact TX.finS (.inr rfl) (results2 rfl (RVal.cellA rfl (.there _ (.here _)) rfl) (RVal.tmp rfl)) (by (try simp only [Bool.or_eq_true, Bool.or_eq_false_iff, decide_eq_true_eq, decide_eq_false_iff_not] at *); first | (unfold numV; simp only [*, if_true, if_false, true_or, or_true, or_self]; rfl) | (unfold numV; simp_all; rfl))
    ·
      refine TC.sw (decide (k = 8)) 23 [(0, _), (1, _), (2, _), (6, _), (7, _), (8, _), (10, _)] ⟨rfl, rfl, rfl, rfl, rfl, rfl, rfl, trivial⟩ ?_ ?_
      ·
        exact TC.swE (pr_pure rfl) rfl rfl ⟨rfl, rfl, rfl, rfl, rfl, rfl, rfl, trivial⟩
      refine TC.condD rfl (fun c23 => ?_) (fun c23 => ?_)
      ·
        refine TC.region ?_
        refine TL.run (pr_pure rfl) rfl ?_
        refine TL.run (pr_pure rfl) rfl ?_
        refine TL.run (pr_pure rfl) rfl ?_
        refine TL.run (pr_field rfl) rfl ?_
        refine TL.store1 rfl rfl rfl (.here _) rfl rfl ?_
        refine TL.nil ?_
        refine TX.blkN ?_
        refine TX.seqN ?_
        refine TC.seq ?_
        refine TC.region ?_
        refine TL.run (pr_ownA rfl (.here _) rfl) rfl ?_
        refine TL.storeA rfl rfl rfl rfl rfl (.there _ (.here _)) rfl rfl ?_
        refine TL.run (pr_pure rfl) rfl ?_
        refine TL.nil ?_
        refine TX.seqN ?_
        refine TC.ret ?_
        exact TX.finS (.inr rfl) (results2 rfl (RVal.cellA rfl (.there _ (.here _)) rfl) (RVal.tmp rfl)) (by (try simp only [Bool.or_eq_true, Bool.or_eq_false_iff, decide_eq_true_eq, decide_eq_false_iff_not] at *); first | (unfold numV; simp only [*, if_true, if_false, true_or, or_true, or_self]; rfl) | (unfold numV; simp_all; rfl))
      ·
        refine TC.sw (decide (k = 12)) 29 [(0, _), (1, _), (2, _), (6, _), (7, _), (8, _), (10, _)] ⟨rfl, rfl, rfl, rfl, rfl, rfl, rfl, trivial⟩ ?_ ?_
        ·
          exact TC.swE (pr_pure rfl) rfl rfl ⟨rfl, rfl, rfl, rfl, rfl, rfl, rfl, trivial⟩
        refine TC.condD rfl (fun c29 => ?_) (fun c29 => ?_)
        ·
          refine TC.seq ?_
          refine TC.region ?_
          refine TL.run (pr_pure rfl) rfl ?_
          refine TL.run (pr_pure rfl) rfl ?_
          refine TL.run (pr_pure rfl) rfl ?_
          refine TL.callS (enters rfl rfl rfl rfl) (truth_ok _) rfl ?_
          refine TL.storeA rfl rfl rfl rfl rfl (.there _ (.here _)) rfl rfl ?_
          refine TL.run (pr_pure rfl) rfl ?_
          refine TL.nil ?_
          refine TX.seqN ?_
          refine TC.ret ?_
          refine TX.blkR ?_
          refine TX.thenR ?_
          exact TX.finS (.inr rfl) (results2 rfl (RVal.cellA rfl (.there _ (.here _)) rfl) (RVal.tmp rfl)) (by (try simp only [Bool.or_eq_true, Bool.or_eq_false_iff, decide_eq_true_eq, decide_eq_false_iff_not] at *); first | (unfold numV; simp only [*, if_true, if_false, true_or, or_true, or_self]; rfl) | (unfold numV; simp_all; rfl))
        ·
          refine TC.sw (decide (k = 9) || decide (k = 10)) 35 [(0, _), (1, _), (2, _), (6, _), (7, _), (8, _)] ⟨rfl, rfl, rfl, rfl, rfl, rfl, trivial⟩ ?_ ?_
          ·
            refine TC.swG (pr_pure rfl) rfl rfl ⟨rfl, rfl, rfl, rfl, rfl, rfl, trivial⟩ ?_
            exact TC.swE (pr_pure rfl) rfl rfl ⟨rfl, rfl, rfl, rfl, rfl, rfl, trivial⟩
          refine TC.cond rfl (fun c35 => ?_) (fun c35 => ?_)
          ·
            refine TC.seq ?_
            refine TC.seq ?_
            refine TC.region ?_
            refine TL.run (pr_pure rfl) rfl ?_
            refine TL.run (pr_pure rfl) rfl ?_
            refine TL.nil ?_
            refine TX.seqN ?_
            refine TC.condD rfl (fun c39 => ?_) (fun c39 => ?_)
            ·
              refine TC.seq ?_
              refine TC.region ?_
              refine TL.run (pr_build rfl rfl) rfl ?_
              refine TL.storeA rfl rfl rfl rfl rfl (.there _ (.here _)) rfl rfl ?_
              refine TL.run (pr_pure rfl) rfl ?_
              refine TL.nil ?_
              refine TX.seqN ?_
              refine TC.ret ?_
              refine TX.thenR ?_
              refine TX.blkR ?_
              refine TX.thenR ?_
              exact TX.finS (.inr rfl) (results2 rfl (RVal.cellA rfl (.there _ (.here _)) rfl) (RVal.tmp rfl)) (by (try simp only [Bool.or_eq_true, Bool.or_eq_false_iff, decide_eq_true_eq, decide_eq_false_iff_not] at *); first | (unfold numV; simp only [*, if_true, if_false, true_or, or_true, or_self]; rfl) | (unfold numV; simp_all; rfl))
            ·
              refine TC.skip ?_
              refine TX.seqN ?_
              refine TC.seq ?_
              refine TC.region ?_
              refine TL.run (pr_pure rfl) rfl ?_
              refine TL.run (pr_pure rfl) rfl ?_
              refine TL.nil ?_
              refine TX.seqN ?_
              refine TC.condD rfl (fun c42 => ?_) (fun c42 => ?_)
              ·
                refine TC.region ?_
                refine TL.run (pr_pure rfl) rfl ?_
                refine TL.run (pr_pure rfl) rfl ?_
                refine TL.run (pr_quo rfl rfl c39) rfl ?_
                refine TL.run (pr_field rfl) rfl ?_
                refine TL.store1 rfl rfl rfl (.here _) rfl rfl ?_
                refine TL.nil ?_
                refine TX.blkN ?_
                refine TX.seqN ?_
                refine TC.seq ?_
                refine TC.region ?_
                refine TL.run (pr_ownA rfl (.here _) rfl) rfl ?_
                refine TL.storeA rfl rfl rfl rfl rfl (.there _ (.here _)) rfl rfl ?_
                refine TL.run (pr_pure rfl) rfl ?_
                refine TL.nil ?_
                refine TX.seqN ?_
                refine TC.ret ?_
                exact TX.finS (.inr rfl) (results2 rfl (RVal.cellA rfl (.there _ (.here _)) rfl) (RVal.tmp rfl)) (by (try simp only [Bool.or_eq_true, Bool.or_eq_false_iff, decide_eq_true_eq, decide_eq_false_iff_not] at *); first | (unfold numV; simp only [*, if_true, if_false, true_or, or_true, or_self]; rfl) | (unfold numV; simp_all; rfl))
              ·
                refine TC.region ?_
                refine TL.run (pr_pure rfl) rfl ?_
                refine TL.run (pr_pure rfl) rfl ?_
                refine TL.run (pr_rem rfl rfl c39) rfl ?_
                refine TL.run (pr_field rfl) rfl ?_
                refine TL.store1 rfl rfl rfl (.here _) rfl rfl ?_
                refine TL.nil ?_
                refine TX.blkN ?_
                refine TX.seqN ?_
                refine TC.seq ?_
                refine TC.region ?_
                refine TL.run (pr_ownA rfl (.here _) rfl) rfl ?_
                refine TL.storeA rfl rfl rfl rfl rfl (.there _ (.here _)) rfl rfl ?_
                refine TL.run (pr_pure rfl) rfl ?_
                refine TL.nil ?_
                refine TX.seqN ?_
                refine TC.ret ?_
                exact TX.finS (.inr rfl) (results2 rfl (RVal.cellA rfl (.there _ (.here _)) rfl) (RVal.tmp rfl)) (by (try simp only [Bool.or_eq_true, Bool.or_eq_false_iff, decide_eq_true_eq, decide_eq_false_iff_not] at *); first | (unfold numV; simp only [*, if_true, if_false, true_or, or_true, or_self]; rfl) | (unfold numV; simp_all; rfl))
          ·
            refine TC.skip ?_
            refine TX.blkN ?_
            refine TX.seqN ?_
            refine TC.seq ?_
            refine TC.region ?_
            refine TL.run (pr_ownA rfl (.here _) rfl) rfl ?_
            refine TL.storeA rfl rfl rfl rfl rfl (.there _ (.here _)) rfl rfl ?_
            refine TL.run (pr_pure rfl) rfl ?_
            refine TL.nil ?_
            refine TX.seqN ?_
            refine TC.ret ?_
            exact TX.finS (.inr rfl) (results2 rfl (RVal.cellA rfl (.there _ (.here _)) rfl) (RVal.tmp rfl)) (by (try simp only [Bool.or_eq_true, Bool.or_eq_false_iff, decide_eq_true_eq, decide_eq_false_iff_not] at *); first | (unfold numV; simp only [*, if_true, if_false, true_or, or_true, or_self]; rfl) | (unfold numV; simp_all; rfl))

set_option maxRecDepth 100000 in
set_option maxHeartbeats 1000000 in
theorem apply1_ok {H : Hp} :
    FnS Try.prog 51 [] H (.tuple #[.agg (v0.cells (.slice none 0 0)).toArray, .int .i64 402]) := by
  refine FnS.enter Try.func51 Try.ntmps51 rfl rfl (fun w0 => ?_)
  refine TC.seq ?_
  refine TC.region ?_
  refine TL.alloc rfl (fun b0 => ?_)
  refine TL.run (pr_pure rfl) rfl ?_
  refine TL.nil ?_
  refine TX.seqN ?_
  refine TC.seq ?_
  refine TC.region ?_
  refine TL.run (pr_build rfl rfl) rfl ?_
  refine TL.storeA rfl rfl rfl rfl rfl (.here _) rfl rfl ?_
  refine TL.run (pr_pure rfl) rfl ?_
  refine TL.nil ?_
  refine TX.seqN ?_
  refine TC.ret ?_
  exact TX.finS (.inr rfl) (results2 rfl (RVal.cellA rfl (.here _) rfl) (RVal.tmp rfl)) rfl

set_option maxRecDepth 100000 in
set_option maxHeartbeats 4000000 in
theorem apply_ok {H : Hp} {a b : Val} {la lb : Value} (kind : Int) (hA : RdV H la a) (hB : RdV H lb b) (hk : short a ∧ short b) :
    Fn Try.prog 37 [.int .i64 kind, .agg (a.cells la).toArray, .agg (b.cells lb).toArray] H (fun v H1 => RV (applyV kind a b) v H1) := by
  have hA1 : RdSl H 1 I64.cells la a.l := hA
  have hmax := hA1.max
  obtain ⟨hs1, hs2⟩ := hk
  refine Fn.enter Try.func37 Try.ntmps37 rfl rfl (fun w0 => ?_)
  refine TC.seq ?_
  refine TC.region ?_
  refine TL.box rfl rfl (fun b4 => ?_)
  refine TL.box rfl rfl (fun b5 => ?_)
  refine TL.alloc rfl (fun b6 => ?_)
  refine TL.run (pr_pure rfl) rfl ?_
  refine TL.nil ?_
  refine TX.seqN ?_
  refine TC.seq ?_
  refine TC.region ?_
  refine TL.run (pr_pure rfl) rfl ?_
  refine TL.nil ?_
  refine TX.seqN ?_
  refine TC.seq ?_
  refine TC.seq ?_
  refine TC.region ?_
  refine TL.run (pr_pure rfl) rfl ?_
  refine TL.nil ?_
  refine TX.seqN ?_
  refine TC.block ?_
  refine TC.sw (isNumOp kind) 10 [(0, _), (4, _), (5, _), (6, _), (7, _), (8, _), (9, _)] ⟨rfl, rfl, rfl, rfl, rfl, rfl, rfl, trivial⟩ ?_ ?_
  ·
    refine TC.swG (pr_pure rfl) rfl rfl ⟨rfl, rfl, rfl, rfl, rfl, rfl, rfl, trivial⟩ ?_
    refine TC.swG (pr_pure rfl) rfl rfl ⟨rfl, rfl, rfl, rfl, rfl, rfl, rfl, trivial⟩ ?_
    refine TC.swG (pr_pure rfl) rfl rfl ⟨rfl, rfl, rfl, rfl, rfl, rfl, rfl, trivial⟩ ?_
    refine TC.swG (pr_pure rfl) rfl rfl ⟨rfl, rfl, rfl, rfl, rfl, rfl, rfl, trivial⟩ ?_
    refine TC.swG (pr_pure rfl) rfl rfl ⟨rfl, rfl, rfl, rfl, rfl, rfl, rfl, trivial⟩ ?_
    exact TC.swE (pr_pure rfl) rfl rfl ⟨rfl, rfl, rfl, rfl, rfl, rfl, rfl, trivial⟩
  refine TC.cond rfl (fun c10 => ?_) (fun c10 => ?_)
  ·
    refine TC.seq ?_
    refine TC.seq ?_
    refine TC.region ?_
    refine TL.run (pr_field rfl) rfl ?_
    refine TL.run (pr_own1 rfl (.there _ (.there _ (.here _))) rfl) rfl ?_
    refine TL.run (pr_pure rfl) rfl ?_
    refine TL.run (pr_pure rfl) rfl ?_
    refine TL.split (s := 20) rfl (fun g20 => ?_) (fun g20 => ?_)
    ·
      have q20 := of_ndec_true g20
      refine TL.gdN rfl rfl rfl rfl ?_
      refine TL.gdN rfl rfl rfl rfl ?_
      refine TL.gdN rfl rfl rfl rfl ?_
      refine TL.run (pr_pure rfl) rfl ?_
      refine TL.nil ?_
      refine TX.seqN ?_
      refine TC.condT rfl ?_
      refine TC.seq ?_
      refine TC.region ?_
      refine TL.run (pr_pure rfl) rfl ?_
      refine TL.callS (enters rfl rfl rfl rfl) (apply1_ok) rfl ?_
      refine TL.run (pr_pure rfl) rfl ?_
      refine TL.run (pr_pure rfl) rfl ?_
      refine TL.storeA rfl rfl rfl rfl rfl (.here _) rfl rfl ?_
      refine TL.run (pr_pure rfl) rfl ?_
      refine TL.nil ?_
      refine TX.seqN ?_
      refine TC.ret ?_
      refine TX.thenR ?_
      refine TX.blkR ?_
      refine TX.thenR ?_
      exact TX.fin0 (.inr rfl) (results2 rfl (RVal.cellA rfl (.here _) rfl) (RVal.tmp rfl)) (RV.of (q := wrongV) (by (try simp only [Bool.or_eq_true, Bool.or_eq_false_iff, decide_eq_true_eq, decide_eq_false_iff_not] at *); simp_all [applyV, isNumOp]) RdSl.nil)
    ·
      have q20 := of_ndec_false g20
      refine TL.gdY rfl rfl (pr_field rfl) rfl ?_
      refine TL.gdY rfl rfl (pr_own1 rfl (.there _ (.here _)) rfl) rfl ?_
      refine TL.gdY rfl rfl (pr_pure rfl) rfl ?_
      refine TL.run (pr_pure rfl) rfl ?_
      refine TL.nil ?_
      refine TX.seqN ?_
      refine TC.condND rfl (fun c24 => ?_) (fun c24 => ?_)
      ·
        refine TC.seq ?_
        refine TC.region ?_
        refine TL.run (pr_pure rfl) rfl ?_
        refine TL.callS (enters rfl rfl rfl rfl) (apply1_ok) rfl ?_
        refine TL.run (pr_pure rfl) rfl ?_
        refine TL.run (pr_pure rfl) rfl ?_
        refine TL.storeA rfl rfl rfl rfl rfl (.here _) rfl rfl ?_
        refine TL.run (pr_pure rfl) rfl ?_
        refine TL.nil ?_
        refine TX.seqN ?_
        refine TC.ret ?_
        refine TX.thenR ?_
        refine TX.blkR ?_
        refine TX.thenR ?_
        exact TX.fin0 (.inr rfl) (results2 rfl (RVal.cellA rfl (.here _) rfl) (RVal.tmp rfl)) (RV.of (q := wrongV) (by (try simp only [Bool.or_eq_true, Bool.or_eq_false_iff, decide_eq_true_eq, decide_eq_false_iff_not] at *); simp_all [applyV, isNumOp]) RdSl.nil)
      ·
        refine TC.skip ?_
        refine TX.seqN ?_
        refine TC.seq ?_
        refine TC.region ?_
        refine TL.run (pr_pure rfl) rfl ?_
        refine TL.run (pr_field rfl) rfl ?_
        refine TL.run (pr_own1 rfl (.there _ (.there _ (.here _))) rfl) rfl ?_
        refine TL.run (pr_field rfl) rfl ?_
        refine TL.run (pr_own1 rfl (.there _ (.here _)) rfl) rfl ?_
        refine TL.callS (enters rfl rfl rfl rfl) (numbers_ok kind a.n b.n) rfl ?_
        refine TL.run (pr_pure rfl) rfl ?_
        refine TL.run (pr_pure rfl) rfl ?_
        refine TL.storeA rfl rfl rfl rfl rfl (.here _) rfl rfl ?_
        refine TL.run (pr_pure rfl) rfl ?_
        refine TL.nil ?_
        refine TX.seqN ?_
        refine TC.ret ?_
        refine TX.blkR ?_
        refine TX.thenR ?_
        exact TX.fin0 (.inr rfl) (results2 rfl (RVal.cellA rfl (.here _) rfl) (RVal.tmp rfl)) (RV.of (q := numV kind a.n b.n) (by (try simp only [Bool.or_eq_true, Bool.or_eq_false_iff, decide_eq_true_eq, decide_eq_false_iff_not] at *); simp_all [applyV, isNumOp]) (by unfold numV; (repeat' split) <;> exact RdSl.nil))
  ·
    refine TC.sw (decide (kind = 11)) 37 [(0, _), (4, _), (5, _), (6, _), (7, _), (8, _), (9, _)] ⟨rfl, rfl, rfl, rfl, rfl, rfl, rfl, trivial⟩ ?_ ?_
    ·
      exact TC.swE (pr_pure rfl) rfl rfl ⟨rfl, rfl, rfl, rfl, rfl, rfl, rfl, trivial⟩
    refine TC.condD rfl (fun c37 => ?_) (fun c37 => ?_)
    ·
      refine TC.seq ?_
      refine TC.seq ?_
      refine TC.region ?_
      refine TL.run (pr_field rfl) rfl ?_
      refine TL.run (pr_own1 rfl (.there _ (.there _ (.here _))) rfl) rfl ?_
      refine TL.run (pr_field rfl) rfl ?_
      refine TL.run (pr_own1 rfl (.there _ (.here _)) rfl) rfl ?_
      refine TL.run (pr_pure rfl) rfl ?_
      refine TL.run (pr_pure rfl) rfl ?_
      refine TL.split (s := 44) rfl (fun g44 => ?_) (fun g44 => ?_)
      ·
        have q44 := of_ndec_true g44
        refine TL.gdN rfl rfl rfl rfl ?_
        refine TL.gdN rfl rfl rfl rfl ?_
        refine TL.gdN rfl rfl rfl rfl ?_
        refine TL.run (pr_pure rfl) rfl ?_
        refine TL.nil ?_
        refine TX.seqN ?_
        refine TC.condT rfl ?_
        refine TC.seq ?_
        refine TC.region ?_
        refine TL.run (pr_pure rfl) rfl ?_
        refine TL.callS (enters rfl rfl rfl rfl) (apply1_ok) rfl ?_
        refine TL.run (pr_pure rfl) rfl ?_
        refine TL.run (pr_pure rfl) rfl ?_
        refine TL.storeA rfl rfl rfl rfl rfl (.here _) rfl rfl ?_
        refine TL.run (pr_pure rfl) rfl ?_
        refine TL.nil ?_
        refine TX.seqN ?_
        refine TC.ret ?_
        refine TX.thenR ?_
        refine TX.blkR ?_
        refine TX.thenR ?_
        exact TX.fin0 (.inr rfl) (results2 rfl (RVal.cellA rfl (.here _) rfl) (RVal.tmp rfl)) (RV.of (q := wrongV) (by (try simp only [Bool.or_eq_true, Bool.or_eq_false_iff, decide_eq_true_eq, decide_eq_false_iff_not] at *); simp_all [applyV, isNumOp]) RdSl.nil)
      ·
        have q44 := of_ndec_false g44
        refine TL.gdY rfl rfl (pr_field rfl) rfl ?_
        refine TL.gdY rfl rfl (pr_own1 rfl (.there _ (.there _ (.here _))) rfl) rfl ?_
        refine TL.gdY rfl rfl (pr_pure rfl) rfl ?_
        refine TL.run (pr_pure rfl) rfl ?_
        refine TL.nil ?_
        refine TX.seqN ?_
        refine TC.condD rfl (fun c48 => ?_) (fun c48 => ?_)
        ·
          refine TC.seq ?_
          refine TC.region ?_
          refine TL.run (pr_pure rfl) rfl ?_
          refine TL.callS (enters rfl rfl rfl rfl) (apply1_ok) rfl ?_
          refine TL.run (pr_pure rfl) rfl ?_
          refine TL.run (pr_pure rfl) rfl ?_
          refine TL.storeA rfl rfl rfl rfl rfl (.here _) rfl rfl ?_
          refine TL.run (pr_pure rfl) rfl ?_
          refine TL.nil ?_
          refine TX.seqN ?_
          refine TC.ret ?_
          refine TX.thenR ?_
          refine TX.blkR ?_
          refine TX.thenR ?_
          exact TX.fin0 (.inr rfl) (results2 rfl (RVal.cellA rfl (.here _) rfl) (RVal.tmp rfl)) (RV.of (q := wrongV) (by (try simp only [Bool.or_eq_true, Bool.or_eq_false_iff, decide_eq_true_eq, decide_eq_false_iff_not] at *); simp_all [applyV, isNumOp]) RdSl.nil)
        ·
          refine TC.skip ?_
          refine TX.seqN ?_
          refine TC.seq ?_
          refine TC.region ?_
          refine TL.run (pr_ownA rfl (.there _ (.there _ (.here _))) rfl) rfl ?_
          refine TL.run (pr_ownA rfl (.there _ (.here _)) rfl) rfl ?_
          refine TL.callS (enters rfl rfl rfl rfl) (dSame_ok hA hB) rfl ?_
          refine TL.callS (enters rfl rfl rfl rfl) (truth_ok _) rfl ?_
          refine TL.storeA rfl rfl rfl rfl rfl (.here _) rfl rfl ?_
          refine TL.run (pr_pure rfl) rfl ?_
          refine TL.nil ?_
          refine TX.seqN ?_
          refine TC.ret ?_
          refine TX.blkR ?_
          refine TX.thenR ?_
          exact TX.fin0 (.inr rfl) (results2 rfl (RVal.cellA rfl (.here _) rfl) (RVal.tmp rfl)) (RV.of (q := (truthV (sameV a b), 0)) (by (try simp only [Bool.or_eq_true, Bool.or_eq_false_iff, decide_eq_true_eq, decide_eq_false_iff_not] at *); simp_all [applyV, isNumOp]) RdSl.nil)
    ·
      refine TC.sw (decide (kind = 13) || decide (kind = 14)) 57 [(0, _), (4, _), (5, _), (6, _), (7, _), (8, _), (9, _)] ⟨rfl, rfl, rfl, rfl, rfl, rfl, rfl, trivial⟩ ?_ ?_
      ·
        refine TC.swG (pr_pure rfl) rfl rfl ⟨rfl, rfl, rfl, rfl, rfl, rfl, rfl, trivial⟩ ?_
        exact TC.swE (pr_pure rfl) rfl rfl ⟨rfl, rfl, rfl, rfl, rfl, rfl, rfl, trivial⟩
      refine TC.cond rfl (fun c57 => ?_) (fun c57 => ?_)
      ·
        refine TC.seq ?_
        refine TC.seq ?_
        refine TC.region ?_
        refine TL.run (pr_field rfl) rfl ?_
        refine TL.run (pr_own1 rfl (.there _ (.there _ (.here _))) rfl) rfl ?_
        refine TL.run (pr_pure rfl) rfl ?_
        refine TL.run (pr_pure rfl) rfl ?_
        refine TL.split (s := 63) rfl (fun g63 => ?_) (fun g63 => ?_)
        ·
          have q63 := of_ndec_true g63
          refine TL.gdN rfl rfl rfl rfl ?_
          refine TL.gdN rfl rfl rfl rfl ?_
          refine TL.gdN rfl rfl rfl rfl ?_
          refine TL.run (pr_pure rfl) rfl ?_
          refine TL.nil ?_
          refine TX.seqN ?_
          refine TC.condT rfl ?_
          refine TC.seq ?_
          refine TC.region ?_
          refine TL.run (pr_pure rfl) rfl ?_
          refine TL.callS (enters rfl rfl rfl rfl) (apply1_ok) rfl ?_
          refine TL.run (pr_pure rfl) rfl ?_
          refine TL.run (pr_pure rfl) rfl ?_
          refine TL.storeA rfl rfl rfl rfl rfl (.here _) rfl rfl ?_
          refine TL.run (pr_pure rfl) rfl ?_
          refine TL.nil ?_
          refine TX.seqN ?_
          refine TC.ret ?_
          refine TX.thenR ?_
          refine TX.blkR ?_
          refine TX.thenR ?_
          exact TX.fin0 (.inr rfl) (results2 rfl (RVal.cellA rfl (.here _) rfl) (RVal.tmp rfl)) (RV.of (q := wrongV) (by (try simp only [Bool.or_eq_true, Bool.or_eq_false_iff, decide_eq_true_eq, decide_eq_false_iff_not] at *); simp_all [applyV, isNumOp]) RdSl.nil)
        ·
          have q63 := of_ndec_false g63
          refine TL.gdY rfl rfl (pr_field rfl) rfl ?_
          refine TL.gdY rfl rfl (pr_own1 rfl (.there _ (.here _)) rfl) rfl ?_
          refine TL.gdY rfl rfl (pr_pure rfl) rfl ?_
          refine TL.run (pr_pure rfl) rfl ?_
          refine TL.nil ?_
          refine TX.seqN ?_
          refine TC.condND rfl (fun c67 => ?_) (fun c67 => ?_)
          ·
            refine TC.seq ?_
            refine TC.region ?_
            refine TL.run (pr_pure rfl) rfl ?_
            refine TL.callS (enters rfl rfl rfl rfl) (apply1_ok) rfl ?_
            refine TL.run (pr_pure rfl) rfl ?_
            refine TL.run (pr_pure rfl) rfl ?_
            refine TL.storeA rfl rfl rfl rfl rfl (.here _) rfl rfl ?_
            refine TL.run (pr_pure rfl) rfl ?_
            refine TL.nil ?_
            refine TX.seqN ?_
            refine TC.ret ?_
            refine TX.thenR ?_
            refine TX.blkR ?_
            refine TX.thenR ?_
            exact TX.fin0 (.inr rfl) (results2 rfl (RVal.cellA rfl (.here _) rfl) (RVal.tmp rfl)) (RV.of (q := wrongV) (by (try simp only [Bool.or_eq_true, Bool.or_eq_false_iff, decide_eq_true_eq, decide_eq_false_iff_not] at *); simp_all [applyV, isNumOp]) RdSl.nil)
          ·
            refine TC.skip ?_
            refine TX.seqN ?_
            refine TC.seq ?_
            refine TC.seq ?_
            refine TC.region ?_
            refine TL.run (pr_pure rfl) rfl ?_
            refine TL.run (pr_pure rfl) rfl ?_
            refine TL.nil ?_
            refine TX.seqN ?_
            refine TC.condD rfl (fun c73 => ?_) (fun c73 => ?_)
            ·
              refine TC.seq ?_
              refine TC.region ?_
              refine TL.run (pr_field rfl) rfl ?_
              refine TL.run (pr_own1 rfl (.there _ (.there _ (.here _))) rfl) rfl ?_
              refine TL.run (pr_pure rfl) rfl ?_
              refine TL.run (pr_pure rfl) rfl ?_
              refine TL.split (s := 77) rfl (fun g77 => ?_) (fun g77 => ?_)
              ·
                have q77 := of_decide_eq_true g77
                refine TL.gdY rfl rfl (pr_field rfl) rfl ?_
                refine TL.gdY rfl rfl (pr_own1 rfl (.there _ (.here _)) rfl) rfl ?_
                refine TL.gdY rfl rfl (pr_pure rfl) rfl ?_
                refine TL.run (pr_pure rfl) rfl ?_
                refine TL.callS (enters rfl rfl rfl rfl) (truth_ok _) rfl ?_
                refine TL.storeA rfl rfl rfl rfl rfl (.here _) rfl rfl ?_
                refine TL.run (pr_pure rfl) rfl ?_
                refine TL.nil ?_
                refine TX.seqN ?_
                refine TC.ret ?_
                refine TX.thenR ?_
                refine TX.blkR ?_
                refine TX.thenR ?_
                exact TX.fin0 (.inr rfl) (results2 rfl (RVal.cellA rfl (.here _) rfl) (RVal.tmp rfl)) (RV.of (q := (truthV _, 0)) (by (try simp only [Bool.or_eq_true, Bool.or_eq_false_iff, decide_eq_true_eq, decide_eq_false_iff_not] at *); simp_all [applyV, isNumOp]) RdSl.nil)
              ·
                have q77 := of_decide_eq_false g77
                refine TL.gdN rfl rfl rfl rfl ?_
                refine TL.gdN rfl rfl rfl rfl ?_
                refine TL.gdN rfl rfl rfl rfl ?_
                refine TL.run (pr_pure rfl) rfl ?_
                refine TL.callS (enters rfl rfl rfl rfl) (truth_ok _) rfl ?_
                refine TL.storeA rfl rfl rfl rfl rfl (.here _) rfl rfl ?_
                refine TL.run (pr_pure rfl) rfl ?_
                refine TL.nil ?_
                refine TX.seqN ?_
                refine TC.ret ?_
                refine TX.thenR ?_
                refine TX.blkR ?_
                refine TX.thenR ?_
                exact TX.fin0 (.inr rfl) (results2 rfl (RVal.cellA rfl (.here _) rfl) (RVal.tmp rfl)) (RV.of (q := (truthV _, 0)) (by (try simp only [Bool.or_eq_true, Bool.or_eq_false_iff, decide_eq_true_eq, decide_eq_false_iff_not] at *); simp_all [applyV, isNumOp]) RdSl.nil)
            ·
              refine TC.skip ?_
              refine TX.seqN ?_
              refine TC.seq ?_
              refine TC.region ?_
              refine TL.run (pr_field rfl) rfl ?_
              refine TL.run (pr_own1 rfl (.there _ (.there _ (.here _))) rfl) rfl ?_
              refine TL.run (pr_pure rfl) rfl ?_
              refine TL.run (pr_pure rfl) rfl ?_
              refine TL.split (s := 86) rfl (fun g86 => ?_) (fun g86 => ?_)
              ·
                have q86 := of_decide_eq_true g86
                refine TL.gdN rfl rfl rfl rfl ?_
                refine TL.gdN rfl rfl rfl rfl ?_
                refine TL.gdN rfl rfl rfl rfl ?_
                refine TL.run (pr_pure rfl) rfl ?_
                refine TL.callS (enters rfl rfl rfl rfl) (truth_ok _) rfl ?_
                refine TL.storeA rfl rfl rfl rfl rfl (.here _) rfl rfl ?_
                refine TL.run (pr_pure rfl) rfl ?_
                refine TL.nil ?_
                refine TX.seqN ?_
                refine TC.ret ?_
                refine TX.blkR ?_
                refine TX.thenR ?_
                exact TX.fin0 (.inr rfl) (results2 rfl (RVal.cellA rfl (.here _) rfl) (RVal.tmp rfl)) (RV.of (q := (truthV _, 0)) (by (try simp only [Bool.or_eq_true, Bool.or_eq_false_iff, decide_eq_true_eq, decide_eq_false_iff_not] at *); simp_all [applyV, isNumOp]) RdSl.nil)
              ·
                have q86 := of_decide_eq_false g86
                refine TL.gdY rfl rfl (pr_field rfl) rfl ?_
                refine TL.gdY rfl rfl (pr_own1 rfl (.there _ (.here _)) rfl) rfl ?_
                refine TL.gdY rfl rfl (pr_pure rfl) rfl ?_
                refine TL.run (pr_pure rfl) rfl ?_
                refine TL.callS (enters rfl rfl rfl rfl) (truth_ok _) rfl ?_
                refine TL.storeA rfl rfl rfl rfl rfl (.here _) rfl rfl ?_
                refine TL.run (pr_pure rfl) rfl ?_
                refine TL.nil ?_
                refine TX.seqN ?_
                refine TC.ret ?_
                refine TX.blkR ?_
                refine TX.thenR ?_
                exact TX.fin0 (.inr rfl) (results2 rfl (RVal.cellA rfl (.here _) rfl) (RVal.tmp rfl)) (RV.of (q := (truthV _, 0)) (by (try simp only [Bool.or_eq_true, Bool.or_eq_false_iff, decide_eq_true_eq, decide_eq_false_iff_not] at *); simp_all [applyV, isNumOp]) RdSl.nil)
      ·
        refine TC.sw (decide (kind = 15)) 92 [(0, _), (4, _), (5, _), (6, _), (7, _), (8, _), (9, _)] ⟨rfl, rfl, rfl, rfl, rfl, rfl, rfl, trivial⟩ ?_ ?_
        ·
          exact TC.swE (pr_pure rfl) rfl rfl ⟨rfl, rfl, rfl, rfl, rfl, rfl, rfl, trivial⟩
        refine TC.condD rfl (fun c92 => ?_) (fun c92 => ?_)
        ·
          refine TC.seq ?_
          refine TC.seq ?_
          refine TC.region ?_
          refine TL.run (pr_field rfl) rfl ?_
          refine TL.run (pr_own1 rfl (.there _ (.there _ (.here _))) rfl) rfl ?_
          refine TL.run (pr_pure rfl) rfl ?_
          refine TL.nil ?_
          refine TX.seqN ?_
          refine TC.condND rfl (fun c96 => ?_) (fun c96 => ?_)
          ·
            refine TC.seq ?_
            refine TC.region ?_
            refine TL.run (pr_pure rfl) rfl ?_
            refine TL.callS (enters rfl rfl rfl rfl) (apply1_ok) rfl ?_
            refine TL.run (pr_pure rfl) rfl ?_
            refine TL.run (pr_pure rfl) rfl ?_
            refine TL.storeA rfl rfl rfl rfl rfl (.here _) rfl rfl ?_
            refine TL.run (pr_pure rfl) rfl ?_
            refine TL.nil ?_
            refine TX.seqN ?_
            refine TC.ret ?_
            refine TX.thenR ?_
            refine TX.blkR ?_
            refine TX.thenR ?_
            exact TX.fin0 (.inr rfl) (results2 rfl (RVal.cellA rfl (.here _) rfl) (RVal.tmp rfl)) (RV.of (q := wrongV) (by (try simp only [Bool.or_eq_true, Bool.or_eq_false_iff, decide_eq_true_eq, decide_eq_false_iff_not] at *); simp_all [applyV, isNumOp]) RdSl.nil)
          ·
            refine TC.skip ?_
            refine TX.seqN ?_
            refine TC.seq ?_
            refine TC.region ?_
            refine TL.run (pr_field rfl) rfl ?_
            refine TL.run (pr_own1 rfl (.there _ (.there _ (.here _))) rfl) rfl ?_
            refine TL.run (pr_pure rfl) rfl ?_
            refine TL.callS (enters rfl rfl rfl rfl) (truth_ok _) rfl ?_
            refine TL.storeA rfl rfl rfl rfl rfl (.here _) rfl rfl ?_
            refine TL.run (pr_pure rfl) rfl ?_
            refine TL.nil ?_
            refine TX.seqN ?_
            refine TC.ret ?_
            refine TX.blkR ?_
            refine TX.thenR ?_
            exact TX.fin0 (.inr rfl) (results2 rfl (RVal.cellA rfl (.here _) rfl) (RVal.tmp rfl)) (RV.of (q := (truthV _, 0)) (by (try simp only [Bool.or_eq_true, Bool.or_eq_false_iff, decide_eq_true_eq, decide_eq_false_iff_not] at *); simp_all [applyV, isNumOp]) RdSl.nil)
        ·
          refine TC.sw (decide (kind = 16)) 105 [(0, _), (4, _), (5, _), (6, _), (7, _), (8, _), (9, _)] ⟨rfl, rfl, rfl, rfl, rfl, rfl, rfl, trivial⟩ ?_ ?_
          ·
            exact TC.swE (pr_pure rfl) rfl rfl ⟨rfl, rfl, rfl, rfl, rfl, rfl, rfl, trivial⟩
          refine TC.condD rfl (fun c105 => ?_) (fun c105 => ?_)
          ·
            refine TC.seq ?_
            refine TC.seq ?_
            refine TC.region ?_
            refine TL.run (pr_field rfl) rfl ?_
            refine TL.run (pr_own1 rfl (.there _ (.there _ (.here _))) rfl) rfl ?_
            refine TL.nil ?_
            refine TX.seqN ?_
            refine TC.block ?_
            refine TC.sw (decide (a.k = 3)) 109 [(4, _), (5, _), (6, _), (7, _), (8, _), (108, _)] ⟨rfl, rfl, rfl, rfl, rfl, rfl, trivial⟩ ?_ ?_
            ·
              exact TC.swE (pr_pure rfl) rfl rfl ⟨rfl, rfl, rfl, rfl, rfl, rfl, trivial⟩
            refine TC.condD rfl (fun c109 => ?_) (fun c109 => ?_)
            ·
              refine TC.seq ?_
              refine TC.region ?_
              refine TL.run (pr_field rfl) rfl ?_
              refine TL.run (pr_own1 rfl (.there _ (.there _ (.here _))) rfl) rfl ?_
              refine TL.run (pr_lenStr rfl rfl) rfl ?_
              refine TL.run (pr_build rfl rfl) rfl ?_
              refine TL.storeA rfl rfl rfl rfl rfl (.here _) rfl rfl ?_
              refine TL.run (pr_pure rfl) rfl ?_
              refine TL.nil ?_
              refine TX.seqN ?_
              refine TC.ret ?_
              refine TX.blkR ?_
              refine TX.thenR ?_
              refine TX.blkR ?_
              refine TX.thenR ?_
              exact TX.fin0 (.inr rfl) (results2 rfl (RVal.cellA rfl (.here _) rfl) (RVal.tmp rfl)) (RV.of (q := (⟨1, a.s.length, [], []⟩, 0)) (by (try simp only [Bool.or_eq_true, Bool.or_eq_false_iff, decide_eq_true_eq, decide_eq_false_iff_not] at *); simp_all [applyV, isNumOp]) RdSl.nil)
            ·
              refine TC.sw (decide (a.k = 4)) 115 [(4, _), (5, _), (6, _), (7, _), (8, _)] ⟨rfl, rfl, rfl, rfl, rfl, trivial⟩ ?_ ?_
              ·
                exact TC.swE (pr_pure rfl) rfl rfl ⟨rfl, rfl, rfl, rfl, rfl, trivial⟩
              refine TC.condD rfl (fun c115 => ?_) (fun c115 => ?_)
              ·
                refine TC.seq ?_
                refine TC.region ?_
                refine TL.run (pr_field rfl) rfl ?_
                refine TL.run (pr_own1 rfl (.there _ (.there _ (.here _))) rfl) rfl ?_
                refine TL.run (pr_lenSl rfl rfl hA1) rfl ?_
                refine TL.run (pr_build rfl rfl) rfl ?_
                refine TL.storeA rfl rfl rfl rfl rfl (.here _) rfl rfl ?_
                refine TL.run (pr_pure rfl) rfl ?_
                refine TL.nil ?_
                refine TX.seqN ?_
                refine TC.ret ?_
                refine TX.blkR ?_
                refine TX.thenR ?_
                refine TX.blkR ?_
                refine TX.thenR ?_
                exact TX.fin0 (.inr rfl) (results2 rfl (RVal.cellA rfl (.here _) rfl) (RVal.tmp rfl)) (RV.of (q := (⟨1, a.l.length, [], []⟩, 0)) (by (try simp only [Bool.or_eq_true, Bool.or_eq_false_iff, decide_eq_true_eq, decide_eq_false_iff_not] at *); simp_all [applyV, isNumOp]) RdSl.nil)
              ·
                refine TC.skip ?_
                refine TX.blkN ?_
                refine TX.seqN ?_
                refine TC.seq ?_
                refine TC.region ?_
                refine TL.run (pr_pure rfl) rfl ?_
                refine TL.callS (enters rfl rfl rfl rfl) (apply1_ok) rfl ?_
                refine TL.run (pr_pure rfl) rfl ?_
                refine TL.run (pr_pure rfl) rfl ?_
                refine TL.storeA rfl rfl rfl rfl rfl (.here _) rfl rfl ?_
                refine TL.run (pr_pure rfl) rfl ?_
                refine TL.nil ?_
                refine TX.seqN ?_
                refine TC.ret ?_
                refine TX.blkR ?_
                refine TX.thenR ?_
                exact TX.fin0 (.inr rfl) (results2 rfl (RVal.cellA rfl (.here _) rfl) (RVal.tmp rfl)) (RV.of (q := wrongV) (by (try simp only [Bool.or_eq_true, Bool.or_eq_false_iff, decide_eq_true_eq, decide_eq_false_iff_not] at *); simp_all [applyV, isNumOp]) RdSl.nil)
          ·
            refine TC.sw (decide (kind = 17) || decide (kind = 18)) 125 [(0, _), (4, _), (5, _), (6, _), (7, _), (8, _)] ⟨rfl, rfl, rfl, rfl, rfl, rfl, trivial⟩ ?_ ?_
            ·
              refine TC.swG (pr_pure rfl) rfl rfl ⟨rfl, rfl, rfl, rfl, rfl, rfl, trivial⟩ ?_
              exact TC.swE (pr_pure rfl) rfl rfl ⟨rfl, rfl, rfl, rfl, rfl, rfl, trivial⟩
            refine TC.cond rfl (fun c125 => ?_) (fun c125 => ?_)
            ·
              refine TC.seq ?_
              refine TC.seq ?_
              refine TC.region ?_
              refine TL.run (pr_field rfl) rfl ?_
              refine TL.run (pr_own1 rfl (.there _ (.there _ (.here _))) rfl) rfl ?_
              refine TL.run (pr_pure rfl) rfl ?_
              refine TL.run (pr_pure rfl) rfl ?_
              refine TL.split (s := 131) rfl (fun g131 => ?_) (fun g131 => ?_)
              ·
                have q131 := of_ndec_true g131
                refine TL.gdN rfl rfl rfl rfl ?_
                refine TL.gdN rfl rfl rfl rfl ?_
                refine TL.gdN rfl rfl rfl rfl ?_
                refine TL.run (pr_pure rfl) rfl ?_
                refine TL.nil ?_
                refine TX.seqN ?_
                refine TC.condT rfl ?_
                refine TC.seq ?_
                refine TC.region ?_
                refine TL.run (pr_pure rfl) rfl ?_
                refine TL.callS (enters rfl rfl rfl rfl) (apply1_ok) rfl ?_
                refine TL.run (pr_pure rfl) rfl ?_
                refine TL.run (pr_pure rfl) rfl ?_
                refine TL.storeA rfl rfl rfl rfl rfl (.here _) rfl rfl ?_
                refine TL.run (pr_pure rfl) rfl ?_
                refine TL.nil ?_
                refine TX.seqN ?_
                refine TC.ret ?_
                refine TX.thenR ?_
                refine TX.blkR ?_
                refine TX.thenR ?_
                exact TX.fin0 (.inr rfl) (results2 rfl (RVal.cellA rfl (.here _) rfl) (RVal.tmp rfl)) (RV.of (q := wrongV) (by (try simp only [Bool.or_eq_true, Bool.or_eq_false_iff, decide_eq_true_eq, decide_eq_false_iff_not] at *); simp_all [applyV, isNumOp]) RdSl.nil)
              ·
                have q131 := of_ndec_false g131
                refine TL.gdY rfl rfl (pr_field rfl) rfl ?_
                refine TL.gdY rfl rfl (pr_own1 rfl (.there _ (.here _)) rfl) rfl ?_
                refine TL.gdY rfl rfl (pr_pure rfl) rfl ?_
                refine TL.run (pr_pure rfl) rfl ?_
                refine TL.nil ?_
                refine TX.seqN ?_
                refine TC.condND rfl (fun c135 => ?_) (fun c135 => ?_)
                ·
                  refine TC.seq ?_
                  refine TC.region ?_
                  refine TL.run (pr_pure rfl) rfl ?_
                  refine TL.callS (enters rfl rfl rfl rfl) (apply1_ok) rfl ?_
                  refine TL.run (pr_pure rfl) rfl ?_
                  refine TL.run (pr_pure rfl) rfl ?_
                  refine TL.storeA rfl rfl rfl rfl rfl (.here _) rfl rfl ?_
                  refine TL.run (pr_pure rfl) rfl ?_
                  refine TL.nil ?_
                  refine TX.seqN ?_
                  refine TC.ret ?_
                  refine TX.thenR ?_
                  refine TX.blkR ?_
                  refine TX.thenR ?_
                  exact TX.fin0 (.inr rfl) (results2 rfl (RVal.cellA rfl (.here _) rfl) (RVal.tmp rfl)) (RV.of (q := wrongV) (by (try simp only [Bool.or_eq_true, Bool.or_eq_false_iff, decide_eq_true_eq, decide_eq_false_iff_not] at *); simp_all [applyV, isNumOp]) RdSl.nil)
                ·
                  refine TC.skip ?_
                  refine TX.seqN ?_
                  refine TC.seq ?_
                  refine TC.seq ?_
                  refine TC.region ?_
                  refine TL.run (pr_pure rfl) rfl ?_
                  refine TL.run (pr_pure rfl) rfl ?_
                  refine TL.nil ?_
                  refine TX.seqN ?_
                  refine TC.condD rfl (fun c141 => ?_) (fun c141 => ?_)
                  ·
                    refine TC.seq ?_
                    refine TC.seq ?_
                    refine TC.region ?_
                    refine TL.run (pr_field rfl) rfl ?_
                    refine TL.run (pr_own1 rfl (.there _ (.here _)) rfl) rfl ?_
                    refine TL.run (pr_pure rfl) rfl ?_
                    refine TL.run (pr_pure rfl) rfl ?_
                    refine TL.split (s := 145) rfl (fun g145 => ?_) (fun g145 => ?_)
                    ·
                      have q145 := of_decide_eq_true g145
                      refine TL.gdN rfl rfl rfl rfl ?_
                      refine TL.gdN rfl rfl rfl rfl ?_
                      refine TL.gdN rfl rfl rfl rfl ?_
                      refine TL.gdN rfl rfl rfl rfl ?_
                      refine TL.gdN rfl rfl rfl rfl ?_
                      refine TL.gdN rfl rfl rfl rfl ?_
                      refine TL.run (pr_pure rfl) rfl ?_
                      refine TL.nil ?_
                      refine TX.seqN ?_
                      refine TC.condT rfl ?_
                      refine TC.seq ?_
                      refine TC.region ?_
                      refine TL.run (pr_build rfl rfl) rfl ?_
                      refine TL.storeA rfl rfl rfl rfl rfl (.here _) rfl rfl ?_
                      refine TL.run (pr_pure rfl) rfl ?_
                      refine TL.nil ?_
                      refine TX.seqN ?_
                      refine TC.ret ?_
                      refine TX.thenR ?_
                      refine TX.thenR ?_
                      refine TX.blkR ?_
                      refine TX.thenR ?_
                      exact TX.fin0 (.inr rfl) (results2 rfl (RVal.cellA rfl (.here _) rfl) (RVal.tmp rfl)) (RV.of (q := (v0, 404)) (by (try simp only [Bool.or_eq_true, Bool.or_eq_false_iff, decide_eq_true_eq, decide_eq_false_iff_not] at *); simp_all [applyV, isNumOp, atV] <;> omega) RdSl.nil)
                    ·
                      have q145 := of_decide_eq_false g145
                      refine TL.gdY rfl rfl (pr_field rfl) rfl ?_
                      refine TL.gdY rfl rfl (pr_own1 rfl (.there _ (.here _)) rfl) rfl ?_
                      refine TL.gdY rfl rfl (pr_field rfl) rfl ?_
                      refine TL.gdY rfl rfl (pr_own1 rfl (.there _ (.there _ (.here _))) rfl) rfl ?_
                      refine TL.gdY rfl rfl (pr_lenSl rfl rfl hA1) rfl ?_
                      refine TL.gdY rfl rfl (pr_pure rfl) rfl ?_
                      refine TL.run (pr_pure rfl) rfl ?_
                      refine TL.nil ?_
                      refine TX.seqN ?_
                      refine TC.condD rfl (fun c152 => ?_) (fun c152 => ?_)
                      ·
                        refine TC.seq ?_
                        refine TC.region ?_
                        refine TL.run (pr_build rfl rfl) rfl ?_
                        refine TL.storeA rfl rfl rfl rfl rfl (.here _) rfl rfl ?_
                        refine TL.run (pr_pure rfl) rfl ?_
                        refine TL.nil ?_
                        refine TX.seqN ?_
                        refine TC.ret ?_
                        refine TX.thenR ?_
                        refine TX.thenR ?_
                        refine TX.blkR ?_
                        refine TX.thenR ?_
                        exact TX.fin0 (.inr rfl) (results2 rfl (RVal.cellA rfl (.here _) rfl) (RVal.tmp rfl)) (RV.of (q := (v0, 404)) (by (try simp only [Bool.or_eq_true, Bool.or_eq_false_iff, decide_eq_true_eq, decide_eq_false_iff_not] at *); simp_all [applyV, isNumOp, atV] <;> omega) RdSl.nil)
                      ·
                        obtain ⟨x, hx⟩ := getSome (l := a.l) (i := b.n) (by omega) (by omega)
                        refine TC.skip ?_
                        refine TX.seqN ?_
                        refine TC.seq ?_
                        refine TC.region ?_
                        refine TL.run (pr_field rfl) rfl ?_
                        refine TL.run (pr_own1 rfl (.there _ (.there _ (.here _))) rfl) rfl ?_
                        refine TL.run (pr_field rfl) rfl ?_
                        refine TL.run (pr_own1 rfl (.there _ (.here _)) rfl) rfl ?_
                        refine TL.run (pr_indexSl rfl hA1 rfl (by omega) (by omega)) rfl ?_
                        refine TL.run (pr_el0 hA1 hx rfl rfl) rfl ?_
                        refine TL.run (pr_build rfl rfl) rfl ?_
                        refine TL.storeA rfl rfl rfl rfl rfl (.here _) rfl rfl ?_
                        refine TL.run (pr_pure rfl) rfl ?_
                        refine TL.nil ?_
                        refine TX.seqN ?_
                        refine TC.ret ?_
                        refine TX.thenR ?_
                        refine TX.blkR ?_
                        refine TX.thenR ?_
                        exact TX.fin0 (.inr rfl) (results2 rfl (RVal.cellA rfl (.here _) rfl) (RVal.tmp rfl)) (RV.of (q := (⟨1, x, [], []⟩, 0)) (by (try simp only [Bool.or_eq_true, Bool.or_eq_false_iff, decide_eq_true_eq, decide_eq_false_iff_not] at *); simp_all [applyV, isNumOp, atV] <;> omega) RdSl.nil)
                  ·
                    refine TC.skip ?_
                    refine TX.seqN ?_
                    refine TC.seq ?_
                    refine TC.seq ?_
                    refine TC.region ?_
                    refine TL.run (pr_field rfl) rfl ?_
                    refine TL.run (pr_own1 rfl (.there _ (.there _ (.here _))) rfl) rfl ?_
                    refine TL.run (pr_lenSl rfl rfl hA1) rfl ?_
                    refine TL.run (pr_pure rfl) rfl ?_
                    refine TL.nil ?_
                    refine TX.seqN ?_
                    refine TC.condD rfl (fun c164 => ?_) (fun c164 => ?_)
                    ·
                      refine TC.seq ?_
                      refine TC.region ?_
                      refine TL.run (pr_build rfl rfl) rfl ?_
                      refine TL.storeA rfl rfl rfl rfl rfl (.here _) rfl rfl ?_
                      refine TL.run (pr_pure rfl) rfl ?_
                      refine TL.nil ?_
                      refine TX.seqN ?_
                      refine TC.ret ?_
                      refine TX.thenR ?_
                      refine TX.blkR ?_
                      refine TX.thenR ?_
                      exact TX.fin0 (.inr rfl) (results2 rfl (RVal.cellA rfl (.here _) rfl) (RVal.tmp rfl)) (RV.of (q := (v0, 405)) (by (try simp only [Bool.or_eq_true, Bool.or_eq_false_iff, decide_eq_true_eq, decide_eq_false_iff_not] at *); simp_all [applyV, isNumOp, pushV] <;> omega) RdSl.nil)
                    ·
                      refine TC.skip ?_
                      refine TX.seqN ?_
                      refine TC.seq ?_
                      refine TC.drawn (by kernel_rfl) (by kernel_rfl) ?_
                      refine TD.part 2 5 rfl rfl rfl ?_ ?_
                      ·
                        refine TD.leaf [(0, 1), (1, 2), (3, 1), (4, 2), (2, 3), (5, 3), (6, 0), (7, 1), (8, 0), (9, 1)] (by kernel_rfl) (by kernel_rfl) ?_
                        refine TF.pure (pr_field rfl) rfl ?_
                        refine TF.still (pr_own1 rfl (.there _ (.there _ (.here _))) rfl) rfl ?_
                        refine TF.pure (pr_field rfl) rfl ?_
                        refine TF.still (pr_own1 rfl (.there _ (.here _)) rfl) rfl ?_
                        refine TF.callO (enters rfl rfl rfl rfl) (cloneI_ok hA1 (by omega)) rfl (fun v168 H168 ob168 hle168 hp168 => ?_)
                        obtain ⟨rfl, hO168⟩ := hp168
                        obtain ⟨a168, c168, rfl⟩ := hO168.form
                        refine TF.bslice rfl rfl rfl rfl (fun b171 => ?_)
                        refine TF.loud ?_
                        refine TL.append (enc := I64.cells) rfl rfl rfl hO168 (Src.own [_] (.here _) rfl rfl) (by simp; omega) rfl (.skip _ (.skip _ (.skip _ (.skip _ .all)))) rfl (fun a172 c172 ob172 hO172 => ?_)
                        refine TF.back ?_
                        refine TF.pure (pr_build rfl rfl) rfl ?_
                        refine TF.loud ?_
                        refine TL.storeA rfl rfl rfl rfl rfl (.there _ (.here _)) rfl rfl ?_
                        refine TF.back ?_
                        refine TF.pure (pr_pure rfl) rfl ?_
                        refine TF.nil ?_
                        refine TX.seqN ?_
                        refine TC.ret ?_
                        refine TX.blkR ?_
                        refine TX.thenR ?_
                        refine TX.pubO hO172 (.skip _ (.skip _ (.skip _ (.skip _ .all)))) (by simp) (fun H1 hle hR => ?_)
                        exact TX.fin0 (.inr rfl) (results2 rfl (RVal.cellA rfl (.there _ (.here _)) rfl) (RVal.tmp rfl)) (RV.of (q := (⟨4, 0, [], a.l ++ [b.n]⟩, 0)) (by (try simp only [Bool.or_eq_true, Bool.or_eq_false_iff, decide_eq_true_eq, decide_eq_false_iff_not] at *); simp_all [applyV, isNumOp, pushV] <;> omega) hR)
                      ·
                        refine TD.leaf [(0, 1), (1, 2), (3, 1), (4, 2), (5, 3), (2, 3), (6, 0), (7, 1), (8, 0), (9, 1)] (by kernel_rfl) (by kernel_rfl) ?_
                        refine TF.pure (pr_field rfl) rfl ?_
                        refine TF.still (pr_own1 rfl (.there _ (.there _ (.here _))) rfl) rfl ?_
                        refine TF.pure (pr_field rfl) rfl ?_
                        refine TF.still (pr_own1 rfl (.there _ (.here _)) rfl) rfl ?_
                        refine TF.bslice rfl rfl rfl rfl (fun b171 => ?_)
                        refine TF.callO (enters rfl rfl rfl rfl) (cloneI_ok hA1 (by omega)) rfl (fun v168 H168 ob168 hle168 hp168 => ?_)
                        obtain ⟨rfl, hO168⟩ := hp168
                        obtain ⟨a168, c168, rfl⟩ := hO168.form
                        refine TF.loud ?_
                        refine TL.append (enc := I64.cells) rfl rfl rfl hO168 (Src.own [_] (.here _) rfl rfl) (by simp; omega) rfl (.skip _ (.skip _ (.skip _ (.skip _ .all)))) rfl (fun a172 c172 ob172 hO172 => ?_)
                        refine TF.back ?_
                        refine TF.pure (pr_build rfl rfl) rfl ?_
                        refine TF.loud ?_
                        refine TL.storeA rfl rfl rfl rfl rfl (.there _ (.here _)) rfl rfl ?_
                        refine TF.back ?_
                        refine TF.pure (pr_pure rfl) rfl ?_
                        refine TF.nil ?_
                        refine TX.seqN ?_
                        refine TC.ret ?_
                        refine TX.blkR ?_
                        refine TX.thenR ?_
                        refine TX.pubO hO172 (.skip _ (.skip _ (.skip _ (.skip _ .all)))) (by simp) (fun H1 hle hR => ?_)
                        exact TX.fin0 (.inr rfl) (results2 rfl (RVal.cellA rfl (.there _ (.here _)) rfl) (RVal.tmp rfl)) (RV.of (q := (⟨4, 0, [], a.l ++ [b.n]⟩, 0)) (by (try simp only [Bool.or_eq_true, Bool.or_eq_false_iff, decide_eq_true_eq, decide_eq_false_iff_not] at *); simp_all [applyV, isNumOp, pushV] <;> omega) hR)
            ·
              refine TC.skip ?_
              refine TX.blkN ?_
              refine TX.seqN ?_
              refine TC.seq ?_
              refine TC.seq ?_
              refine TC.region ?_
              refine TL.run (pr_field rfl) rfl ?_
              refine TL.run (pr_own1 rfl (.there _ (.there _ (.here _))) rfl) rfl ?_
              refine TL.run (pr_pure rfl) rfl ?_
              refine TL.run (pr_pure rfl) rfl ?_
              refine TL.split (s := 177) rfl (fun g177 => ?_) (fun g177 => ?_)
              ·
                have q177 := of_ndec_true g177
                refine TL.gdN rfl rfl rfl rfl ?_
                refine TL.gdN rfl rfl rfl rfl ?_
                refine TL.gdN rfl rfl rfl rfl ?_
                refine TL.run (pr_pure rfl) rfl ?_
                refine TL.nil ?_
                refine TX.seqN ?_
                refine TC.condT rfl ?_
                refine TC.seq ?_
                refine TC.region ?_
                refine TL.run (pr_pure rfl) rfl ?_
                refine TL.callS (enters rfl rfl rfl rfl) (apply1_ok) rfl ?_
                refine TL.run (pr_pure rfl) rfl ?_
                refine TL.run (pr_pure rfl) rfl ?_
                refine TL.storeA rfl rfl rfl rfl rfl (.here _) rfl rfl ?_
                refine TL.run (pr_pure rfl) rfl ?_
                refine TL.nil ?_
                refine TX.seqN ?_
                refine TC.ret ?_
                refine TX.thenR ?_
                exact TX.fin0 (.inr rfl) (results2 rfl (RVal.cellA rfl (.here _) rfl) (RVal.tmp rfl)) (RV.of (q := wrongV) (by (try simp only [Bool.or_eq_true, Bool.or_eq_false_iff, decide_eq_true_eq, decide_eq_false_iff_not] at *); simp_all [applyV, isNumOp]) RdSl.nil)
              ·
                have q177 := of_ndec_false g177
                refine TL.gdY rfl rfl (pr_field rfl) rfl ?_
                refine TL.gdY rfl rfl (pr_own1 rfl (.there _ (.here _)) rfl) rfl ?_
                refine TL.gdY rfl rfl (pr_pure rfl) rfl ?_
                refine TL.run (pr_pure rfl) rfl ?_
                refine TL.nil ?_
                refine TX.seqN ?_
                refine TC.condND rfl (fun c181 => ?_) (fun c181 => ?_)
                ·
                  refine TC.seq ?_
                  refine TC.region ?_
                  refine TL.run (pr_pure rfl) rfl ?_
                  refine TL.callS (enters rfl rfl rfl rfl) (apply1_ok) rfl ?_
                  refine TL.run (pr_pure rfl) rfl ?_
                  refine TL.run (pr_pure rfl) rfl ?_
                  refine TL.storeA rfl rfl rfl rfl rfl (.here _) rfl rfl ?_
                  refine TL.run (pr_pure rfl) rfl ?_
                  refine TL.nil ?_
                  refine TX.seqN ?_
                  refine TC.ret ?_
                  refine TX.thenR ?_
                  exact TX.fin0 (.inr rfl) (results2 rfl (RVal.cellA rfl (.here _) rfl) (RVal.tmp rfl)) (RV.of (q := wrongV) (by (try simp only [Bool.or_eq_true, Bool.or_eq_false_iff, decide_eq_true_eq, decide_eq_false_iff_not] at *); simp_all [applyV, isNumOp]) RdSl.nil)
                ·
                  have hs1b := hs1 q177
                  have hs2b := hs2 c181
                  refine TC.skip ?_
                  refine TX.seqN ?_
                  refine TC.seq ?_
                  refine TC.seq ?_
                  refine TC.region ?_
                  refine TL.run (pr_field rfl) rfl ?_
                  refine TL.run (pr_own1 rfl (.there _ (.there _ (.here _))) rfl) rfl ?_
                  refine TL.run (pr_lenStr rfl rfl) rfl ?_
                  refine TL.run (pr_field rfl) rfl ?_
                  refine TL.run (pr_own1 rfl (.there _ (.here _)) rfl) rfl ?_
                  refine TL.run (pr_lenStr rfl rfl) rfl ?_
                  refine TL.run ((by first | exact pr_add rfl rfl (by omega) (by omega) | exact pr_pure rfl)) rfl ?_
                  refine TL.run (pr_pure rfl) rfl ?_
                  refine TL.nil ?_
                  refine TX.seqN ?_
                  refine TC.condD rfl (fun c193 => ?_) (fun c193 => ?_)
                  ·
                    refine TC.seq ?_
                    refine TC.region ?_
                    refine TL.run (pr_build rfl rfl) rfl ?_
                    refine TL.storeA rfl rfl rfl rfl rfl (.here _) rfl rfl ?_
                    refine TL.run (pr_pure rfl) rfl ?_
                    refine TL.nil ?_
                    refine TX.seqN ?_
                    refine TC.ret ?_
                    refine TX.thenR ?_
                    exact TX.fin0 (.inr rfl) (results2 rfl (RVal.cellA rfl (.here _) rfl) (RVal.tmp rfl)) (RV.of (q := (v0, 405)) (by (try simp only [Bool.or_eq_true, Bool.or_eq_false_iff, decide_eq_true_eq, decide_eq_false_iff_not] at *); simp_all [applyV, isNumOp, joinV] <;> omega) RdSl.nil)
                  ·
                    refine TC.skip ?_
                    refine TX.seqN ?_
                    refine TC.seq ?_
                    refine TC.region ?_
                    refine TL.run (pr_field rfl) rfl ?_
                    refine TL.run (pr_own1 rfl (.there _ (.there _ (.here _))) rfl) rfl ?_
                    refine TL.run (pr_field rfl) rfl ?_
                    refine TL.run (pr_own1 rfl (.there _ (.here _)) rfl) rfl ?_
                    refine TL.run (pr_concat rfl rfl (by omega)) rfl ?_
                    refine TL.run (pr_build rfl rfl) rfl ?_
                    refine TL.storeA rfl rfl rfl rfl rfl (.here _) rfl rfl ?_
                    refine TL.run (pr_pure rfl) rfl ?_
                    refine TL.nil ?_
                    refine TX.seqN ?_
                    refine TC.ret ?_
                    exact TX.fin0 (.inr rfl) (results2 rfl (RVal.cellA rfl (.here _) rfl) (RVal.tmp rfl)) (RV.of (q := (⟨3, 0, a.s ++ b.s, []⟩, 0)) (by (try simp only [Bool.or_eq_true, Bool.or_eq_false_iff, decide_eq_true_eq, decide_eq_false_iff_not] at *); simp_all [applyV, isNumOp, joinV] <;> omega) RdSl.nil)

set_option maxRecDepth 100000 in
set_option maxHeartbeats 1000000 in
theorem leaf_ok {H : Hp} {env : List Bind} {ve : Value} (t : Term) (hE : RdSl H 5 Bind.cells ve env) (hEv : EnvOk H env) (hlen : ∀ b ∈ env, b.v.l.length ≤ 100000) :
    Fn Try.prog 36 [.agg t.cells.toArray, ve] H (fun v H1 => RV (leafV t env) v H1) := by
  have hmax := hE.max
  refine Fn.enter Try.func36 Try.ntmps36 rfl rfl (fun w0 => ?_)
  refine TC.seq ?_
  refine TC.region ?_
  refine TL.box rfl rfl (fun b2 => ?_)
  refine TL.alloc rfl (fun b4 => ?_)
  refine TL.run (pr_pure rfl) rfl ?_
  refine TL.nil ?_
  refine TX.seqN ?_
  refine TC.seq ?_
  refine TC.seq ?_
  refine TC.region ?_
  refine TL.run (pr_field rfl) rfl ?_
  refine TL.run (pr_own1 rfl (.there _ (.here _)) rfl) rfl ?_
  refine TL.nil ?_
  refine TX.seqN ?_
  refine TC.block ?_
  refine TC.seq ?_
  refine TC.region ?_
  refine TL.run (pr_pure rfl) rfl ?_
  refine TL.run (pr_pure rfl) rfl ?_
  refine TL.nil ?_
  refine TX.seqN ?_
  refine TC.condD rfl (fun c11 => ?_) (fun c11 => ?_)
  ·
    refine TC.seq ?_
    refine TC.region ?_
    refine TL.run (pr_field rfl) rfl ?_
    refine TL.run (pr_own1 rfl (.there _ (.here _)) rfl) rfl ?_
    refine TL.run (pr_build rfl rfl) rfl ?_
    refine TL.storeA rfl rfl rfl rfl rfl (.here _) rfl rfl ?_
    refine TL.run (pr_pure rfl) rfl ?_
    refine TL.nil ?_
    refine TX.seqN ?_
    refine TC.ret ?_
    refine TX.blkR ?_
    refine TX.thenR ?_
    exact TX.fin0 (.inr rfl) (results2 rfl (RVal.cellA rfl (.here _) rfl) (RVal.tmp rfl)) (RV.of (q := (⟨1, t.n, [], []⟩, 0)) (by unfold leafV; simp_all) RdSl.nil)
  ·
    refine TC.seq ?_
    refine TC.region ?_
    refine TL.run (pr_pure rfl) rfl ?_
    refine TL.run (pr_pure rfl) rfl ?_
    refine TL.nil ?_
    refine TX.seqN ?_
    refine TC.condD rfl (fun c16 => ?_) (fun c16 => ?_)
    ·
      refine TC.seq ?_
      refine TC.region ?_
      refine TL.run (pr_field rfl) rfl ?_
      refine TL.run (pr_own1 rfl (.there _ (.here _)) rfl) rfl ?_
      refine TL.run (pr_build rfl rfl) rfl ?_
      refine TL.storeA rfl rfl rfl rfl rfl (.here _) rfl rfl ?_
      refine TL.run (pr_pure rfl) rfl ?_
      refine TL.nil ?_
      refine TX.seqN ?_
      refine TC.ret ?_
      refine TX.blkR ?_
      refine TX.thenR ?_
      exact TX.fin0 (.inr rfl) (results2 rfl (RVal.cellA rfl (.here _) rfl) (RVal.tmp rfl)) (RV.of (q := (⟨2, t.n, [], []⟩, 0)) (by unfold leafV; simp_all) RdSl.nil)
    ·
      refine TC.seq ?_
      refine TC.region ?_
      refine TL.run (pr_pure rfl) rfl ?_
      refine TL.run (pr_pure rfl) rfl ?_
      refine TL.nil ?_
      refine TX.seqN ?_
      refine TC.condD rfl (fun c21 => ?_) (fun c21 => ?_)
      ·
        refine TC.seq ?_
        refine TC.region ?_
        refine TL.run (pr_field rfl) rfl ?_
        refine TL.run (pr_own1 rfl (.there _ (.here _)) rfl) rfl ?_
        refine TL.run (pr_build rfl rfl) rfl ?_
        refine TL.storeA rfl rfl rfl rfl rfl (.here _) rfl rfl ?_
        refine TL.run (pr_pure rfl) rfl ?_
        refine TL.nil ?_
        refine TX.seqN ?_
        refine TC.ret ?_
        refine TX.blkR ?_
        refine TX.thenR ?_
        exact TX.fin0 (.inr rfl) (results2 rfl (RVal.cellA rfl (.here _) rfl) (RVal.tmp rfl)) (RV.of (q := (⟨3, 0, t.text, []⟩, 0)) (by unfold leafV; simp_all) RdSl.nil)
      ·
        refine TC.seq ?_
        refine TC.region ?_
        refine TL.run (pr_pure rfl) rfl ?_
        refine TL.run (pr_pure rfl) rfl ?_
        refine TL.nil ?_
        refine TX.seqN ?_
        refine TC.condD rfl (fun c26 => ?_) (fun c26 => ?_)
        ·
          refine TC.seq ?_
          refine TC.region ?_
          refine TL.run (pr_build rfl rfl) rfl ?_
          refine TL.storeA rfl rfl rfl rfl rfl (.here _) rfl rfl ?_
          refine TL.run (pr_pure rfl) rfl ?_
          refine TL.nil ?_
          refine TX.seqN ?_
          refine TC.ret ?_
          refine TX.blkR ?_
          refine TX.thenR ?_
          exact TX.fin0 (.inr rfl) (results2 rfl (RVal.cellA rfl (.here _) rfl) (RVal.tmp rfl)) (RV.of (q := (⟨4, 0, [], []⟩, 0)) (by unfold leafV; simp_all) RdSl.nil)
        ·
          refine TC.seq ?_
          refine TC.region ?_
          refine TL.run (pr_pure rfl) rfl ?_
          refine TL.run (pr_pure rfl) rfl ?_
          refine TL.nil ?_
          refine TX.seqN ?_
          refine TC.condD rfl (fun c29 => ?_) (fun c29 => ?_)
          ·
            refine TC.seq ?_
            refine TC.region ?_
            refine TL.run (pr_build rfl rfl) rfl ?_
            refine TL.storeA rfl rfl rfl rfl rfl (.here _) rfl rfl ?_
            refine TL.run (pr_pure rfl) rfl ?_
            refine TL.nil ?_
            refine TX.seqN ?_
            refine TC.ret ?_
            refine TX.blkR ?_
            refine TX.thenR ?_
            exact TX.fin0 (.inr rfl) (results2 rfl (RVal.cellA rfl (.here _) rfl) (RVal.tmp rfl)) (RV.of (q := (v0, 0)) (by unfold leafV; simp_all) RdSl.nil)
          ·
            refine TC.skip ?_
            refine TX.blkN ?_
            refine TX.seqN ?_
            refine TC.seq ?_
            refine TC.seq ?_
            refine TC.region ?_
            refine TL.run (pr_pure rfl) rfl ?_
            refine TL.run (pr_lenSl rfl rfl hE) rfl ?_
            refine TL.run (pr_pure rfl) rfl ?_
            refine TL.nil ?_
            refine TX.seqN ?_
            refine TC.block ?_
            refine TC.loop (V := fun k => [(34, .int .i64 k)]) (K := [(2, _), (4, _), (5, _), (32, _), (33, _)]) (L := fun k => _) (I := fun k => 0 ≤ k ∧ k ≤ env.length ∧ holdV env t.name = holdV (env.drop k.toNat) t.name) (μ := fun k => (env.length - k).toNat) (i := (0 : Int)) ⟨rfl, rfl, rfl, rfl, rfl, rfl, trivial⟩ ⟨by omega, by omega, rfl⟩ (fun w hw => hw) (fun k hI => ?_)
            refine TC.seq ?_
            refine TC.region ?_
            refine TL.run (pr_pure rfl) rfl ?_
            refine TL.nil ?_
            refine TX.seqN ?_
            refine TC.seq ?_
            refine TC.condD rfl (fun c35 => ?_) (fun c35 => ?_)
            ·
              refine TC.skip ?_
              refine TX.seqN ?_
              refine TC.seq ?_
              refine TC.block ?_
              refine TC.seq ?_
              refine TC.region ?_
              obtain ⟨x, hx⟩ := getSome (l := env) hI.1 c35
              have hV : RdV H x.lv x.v := hEv x (List.mem_of_getElem? hx)
              have hV1 : RdSl H 1 I64.cells x.lv x.v.l := hV
              have hl1 := hlen x (List.mem_of_getElem? hx)
              obtain ⟨xn, xv, xl⟩ := x
              dsimp only at hV hV1 hl1
              obtain ⟨la, lc, rfl⟩ := RdSl.len hV
              refine TL.run (pr_indexSl rfl hE rfl (by omega) (by omega)) rfl ?_
              refine TL.run (pr_elA hE hx rfl rfl) rfl ?_
              refine TL.alloc rfl (fun b7 => ?_)
              refine TL.storeA rfl rfl rfl rfl rfl (.here _) rfl rfl ?_
              refine TL.nil ?_
              refine TX.seqN ?_
              refine TC.seq ?_
              refine TC.seq ?_
              refine TC.region ?_
              refine TL.run (pr_field rfl) rfl ?_
              refine TL.run (pr_own1 rfl (.here _) rfl) rfl ?_
              refine TL.run (pr_field rfl) rfl ?_
              refine TL.run (pr_own1 rfl (.there _ (.there _ (.here _))) rfl) rfl ?_
              refine TL.run (pr_str rfl rfl rfl) rfl ?_
              refine TL.nil ?_
              refine TX.seqN ?_
              refine TC.condND rfl (fun c42 => ?_) (fun c42 => ?_)
              ·
                refine TC.exit ?_
                refine TX.thenE ?_
                refine TX.blkHit ?_
                refine TX.seqN ?_
                refine TC.region ?_
                refine TL.run ((by first | exact pr_add rfl rfl (by omega) (by omega) | exact pr_pure rfl)) rfl ?_
                refine TL.run (pr_pure rfl) rfl ?_
                refine TL.nil ?_
                exact TX.round (k + 1) ⟨by omega, by omega, holdV_skip hI.1 hI.2.2 hx c42⟩ ⟨rfl, rfl, rfl, rfl, rfl, rfl, trivial⟩ (fun w hw => hw.drop) (by omega)
              ·
                refine TC.skip ?_
                refine TX.seqN ?_
                refine TC.seq ?_
                refine TC.seq ?_
                refine TC.region ?_
                refine TL.run (pr_field rfl) rfl ?_
                refine TL.run (pr_ownQ rfl (.here _) rfl) rfl ?_
                refine TL.callS (enters rfl rfl rfl rfl) (dMay_ok (x := xv) (lv := .slice la xv.l.length lc) hV) rfl ?_
                refine TL.run (pr_pure rfl) rfl ?_
                refine TL.nil ?_
                refine TX.seqN ?_
                refine TC.cond rfl (fun c46 => ?_) (fun c46 => ?_)
                ·
                  refine TC.seq ?_
                  refine TC.region ?_
                  refine TL.run (pr_build rfl rfl) rfl ?_
                  refine TL.storeA rfl rfl rfl rfl rfl (.there _ (.here _)) rfl rfl ?_
                  refine TL.run (pr_pure rfl) rfl ?_
                  refine TL.nil ?_
                  refine TX.seqN ?_
                  refine TC.ret ?_
                  refine TX.thenR ?_
                  refine TX.blkR ?_
                  refine TX.thenR ?_
                  refine TX.thenR ?_
                  refine TX.blkR ?_
                  refine TX.thenR ?_
                  exact TX.fin0 (.inr rfl) (results2 rfl (RVal.cellA rfl (.there _ (.here _)) rfl) (RVal.tmp rfl)) (RV.of (q := (v0, 402)) ((leafV_var c11 c16 c21 c26 c29).trans ((holdV_at hI.1 hI.2.2 hx c42).trans (if_neg (by simpa using c46)))).symm RdSl.nil)
                ·
                  refine TC.skip ?_
                  refine TX.seqN ?_
                  refine TC.seq ?_
                  refine TC.region ?_
                  refine TL.run (pr_field rfl) rfl ?_
                  refine TL.run (pr_ownQ rfl (.here _) rfl) rfl ?_
                  refine TL.alloc rfl (fun b8 => ?_)
                  refine TL.storeA rfl rfl rfl rfl rfl (.here _) rfl rfl ?_
                  refine TL.nil ?_
                  refine TX.seqN ?_
                  refine TC.seq ?_
                  refine TC.region ?_
                  refine TL.run (pr_field rfl) rfl ?_
                  refine TL.run (pr_own1 rfl (.here _) rfl) rfl ?_
                  refine TL.callO (enters rfl rfl rfl rfl) (cloneI_ok (l := xv.l) (v0 := .slice la xv.l.length lc) hV1 hl1) rfl (fun v52 H52 ob52 hle52 hp52 => ?_)
                  obtain ⟨rfl, hO52⟩ := hp52
                  obtain ⟨a52, c52, rfl⟩ := hO52.form
                  refine TL.run (pr_field rfl) rfl ?_
                  refine TL.store1 rfl rfl rfl (.here _) rfl rfl ?_
                  refine TL.nil ?_
                  refine TX.seqN ?_
                  refine TC.seq ?_
                  refine TC.region ?_
                  refine TL.run (pr_ownA rfl (.here _) rfl) rfl ?_
                  refine TL.storeA rfl rfl rfl rfl rfl (.there _ (.there _ (.here _))) rfl rfl ?_
                  refine TL.run (pr_pure rfl) rfl ?_
                  refine TL.nil ?_
                  refine TX.seqN ?_
                  refine TC.ret ?_
                  refine TX.blkR ?_
                  refine TX.thenR ?_
                  refine TX.thenR ?_
                  refine TX.blkR ?_
                  refine TX.thenR ?_
                  refine TX.pubO hO52 (.skip _ (.skip _ (.skip _ (.skip _ .all)))) (by simp) (fun H1 hle hR => ?_)
                  exact TX.fin0 (.inr rfl) (results2 rfl (RVal.cellA rfl (.there _ (.there _ (.here _))) rfl) (RVal.tmp rfl)) (RV.of (q := (xv, 0)) ((leafV_var c11 c16 c21 c26 c29).trans ((holdV_at hI.1 hI.2.2 hx c42).trans (if_pos (by simpa using c46)))).symm hR)
            ·
              refine TC.exit ?_
              refine TX.thenE ?_
              refine TX.thenE ?_
              refine TX.blkHit ?_
              refine TX.seqN ?_
              refine TC.seq ?_
              refine TC.region ?_
              refine TL.run (pr_build rfl rfl) rfl ?_
              refine TL.storeA rfl rfl rfl rfl rfl (.here _) rfl rfl ?_
              refine TL.run (pr_pure rfl) rfl ?_
              refine TL.nil ?_
              refine TX.seqN ?_
              refine TC.ret ?_
              exact TX.fin0 (.inr rfl) (results2 rfl (RVal.cellA rfl (.here _) rfl) (RVal.tmp rfl)) (RV.of (q := (v0, 401)) ((leafV_var c11 c16 c21 c26 c29).trans (holdV_end hI.2.2 c35)).symm RdSl.nil)

set_option maxRecDepth 100000 in
set_option maxHeartbeats 4000000 in
theorem evalW_ok {l : List Term} {env : List Bind} {v ve : Value} {bl be bw : Nat} (hlen : ∀ b ∈ env, b.v.l.length ≤ 100000) :
    ∀ (f : Nat) (at_ : Int), Tr l f at_ → ∀ (H : Hp), RdSl H 6 Term.cells v l → RdSl H 5 Bind.cells ve env → EnvOk H env → H bl 0 = some v → H be 0 = some ve → H bw 0 = some (.func (.func 35) #[] #[.pointer (some ⟨bl, 0, none⟩), .pointer (some ⟨be, 0, none⟩), .pointer (some ⟨bw, 0, none⟩)]) →
      Fn Try.prog 35 [.int .i64 at_, .pointer (some ⟨bl, 0, none⟩), .pointer (some ⟨be, 0, none⟩), .pointer (some ⟨bw, 0, none⟩)] H (fun r H1 => RV (evalW l env f at_) r H1) := by
  intro f
  induction f with
  | zero => intro at_ h; exact h.elim
  | succ f ih =>
  intro at_ hTr H hT hE hEv hl hv hw
  obtain ⟨h0, t, hx, hop, hfd, hTl0, _, hTr0, _⟩ := hTr
  have h1 : at_ < l.length := by have := (List.getElem?_eq_some_iff.1 hx).1; omega
  have hTl : ¬ operandsI t.kind = 0 → Tr l f t.l := fun h => hTl0 (by omega)
  have hTr : operandsI t.kind = 2 → Tr l f t.r := fun h => hTr0 (by omega)
  have one1 := hT.isOne
  have one2 := hE.isOne
  refine Fn.enter Try.func35 Try.ntmps35 rfl rfl (fun w0 => ?_)
  refine TC.seq ?_
  refine TC.region ?_
  refine TL.alloc rfl (fun b5 => ?_)
  refine TL.run (pr_pure rfl) rfl ?_
  refine TL.nil ?_
  refine TX.seqN ?_
  refine TC.seq ?_
  refine TC.region ?_
  refine TL.run (pr_hp1 rfl hl) rfl ?_
  refine TL.run (pr_pure rfl) rfl ?_
  refine TL.run (pr_indexSl rfl hT rfl (by omega) (by omega)) rfl ?_
  refine TL.run (pr_elA hT hx rfl rfl) rfl ?_
  refine TL.alloc rfl (fun b7 => ?_)
  refine TL.storeA rfl rfl rfl rfl rfl (.here _) rfl rfl ?_
  refine TL.nil ?_
  refine TX.seqN ?_
  refine TC.seq ?_
  refine TC.region ?_
  refine TL.run (pr_field rfl) rfl ?_
  refine TL.run (pr_own1 rfl (.here _) rfl) rfl ?_
  refine TL.callS (enters rfl rfl rfl rfl) (operands_ok t.kind) rfl ?_
  refine TL.run (pr_pure rfl) rfl ?_
  refine TL.nil ?_
  refine TX.seqN ?_
  refine TC.seq ?_
  refine TC.seq ?_
  refine TC.region ?_
  refine TL.run (pr_pure rfl) rfl ?_
  refine TL.run (pr_pure rfl) rfl ?_
  refine TL.nil ?_
  refine TX.seqN ?_
  refine TC.condD rfl (fun c20 => ?_) (fun c20 => ?_)
  ·
    refine TC.seq ?_
    refine TC.region ?_
    refine TL.run (pr_ownA rfl (.here _) rfl) rfl ?_
    refine TL.run (pr_hp1 rfl hv) rfl ?_
    refine TL.call (enters rfl rfl rfl rfl) (leaf_ok t hE hEv hlen) rfl (fun v23 H23 hle23 hp23 => ?_)
    rw [← evalW_leaf (f := f) hx c20] at hp23
    obtain ⟨lv23, rfl, hR23⟩ := hp23
    obtain ⟨la23, lc23, rfl⟩ := RdSl.len hR23
    refine TL.run (pr_pure rfl) rfl ?_
    refine TL.run (pr_pure rfl) rfl ?_
    refine TL.storeA rfl rfl rfl rfl rfl (.there _ (.here _)) rfl rfl ?_
    refine TL.run (pr_pure rfl) rfl ?_
    refine TL.nil ?_
    refine TX.seqN ?_
    refine TC.ret ?_
    refine TX.thenR ?_
    exact TX.fin0 (.inr rfl) (results2 rfl (RVal.cellA rfl (.there _ (.here _)) rfl) (RVal.tmp rfl)) ⟨_, rfl, hR23⟩
  ·
    refine TC.skip ?_
    refine TX.seqN ?_
    refine TC.seq ?_
    refine TC.region ?_
    refine TL.run (pr_hp1 rfl hw) rfl ?_
    refine TL.run (pr_field rfl) rfl ?_
    refine TL.run (pr_own1 rfl (.here _) rfl) rfl ?_
    refine TL.call (enters rfl rfl rfl rfl) (ih t.l (hTl c20) H hT hE hEv hl hv hw) rfl (fun v30 H30 hle30 hp30 => ?_)
    obtain ⟨lv30, rfl, hR30⟩ := hp30
    obtain ⟨la30, lc30, rfl⟩ := RdSl.len hR30
    refine TL.run (pr_pure rfl) rfl ?_
    refine TL.run (pr_pure rfl) rfl ?_
    refine TL.run (pr_pure rfl) rfl ?_
    refine TL.alloc rfl (fun b9 => ?_)
    refine TL.storeA rfl rfl rfl rfl rfl (.here _) rfl rfl ?_
    refine TL.run (pr_pure rfl) rfl ?_
    refine TL.nil ?_
    refine TX.seqN ?_
    refine TC.seq ?_
    refine TC.seq ?_
    refine TC.region ?_
    refine TL.run (pr_pure rfl) rfl ?_
    refine TL.run (pr_pure rfl) rfl ?_
    refine TL.nil ?_
    refine TX.seqN ?_
    refine TC.condND rfl (fun c34 => ?_) (fun c34 => ?_)
    ·
      refine TC.seq ?_
      refine TC.region ?_
      refine TL.run (pr_build rfl rfl) rfl ?_
      refine TL.run (pr_pure rfl) rfl ?_
      refine TL.storeA rfl rfl rfl rfl rfl (.there _ (.there _ (.here _))) rfl rfl ?_
      refine TL.run (pr_pure rfl) rfl ?_
      refine TL.nil ?_
      refine TX.seqN ?_
      refine TC.ret ?_
      refine TX.thenR ?_
      exact TX.fin0 (.inr rfl) (results2 rfl (RVal.cellA rfl (.there _ (.there _ (.here _))) rfl) (RVal.tmp rfl)) (RV.of (q := (v0, (evalW l env f t.l).2)) (evalW_a hx c20 c34).symm RdSl.nil)
    ·
      refine TC.skip ?_
      refine TX.seqN ?_
      refine TC.seq ?_
      refine TC.region ?_
      refine TL.alloc rfl (fun b11 => ?_)
      refine TL.nil ?_
      refine TX.seqN ?_
      refine TC.seq ?_
      refine TC.seq ?_
      refine TC.region ?_
      refine TL.run (pr_pure rfl) rfl ?_
      refine TL.run (pr_pure rfl) rfl ?_
      refine TL.nil ?_
      refine TX.seqN ?_
      refine TC.condD rfl (fun c38 => ?_) (fun c38 => ?_)
      ·
        refine TC.seq ?_
        refine TC.region ?_
        refine TL.run (pr_hp1 rfl (hle30 _ _ _ hw)) rfl ?_
        refine TL.run (pr_field rfl) rfl ?_
        refine TL.run (pr_own1 rfl (.there _ (.there _ (.here _))) rfl) rfl ?_
        refine TL.call (enters rfl rfl rfl rfl) (ih t.r (hTr c38) H30 (hT.le hle30) (hE.le hle30) (hEv.le hle30) (hle30 _ _ _ hl) (hle30 _ _ _ hv) (hle30 _ _ _ hw)) rfl (fun v43 H43 hle43 hp43 => ?_)
        obtain ⟨lv43, rfl, hR43⟩ := hp43
        obtain ⟨la43, lc43, rfl⟩ := RdSl.len hR43
        refine TL.run (pr_pure rfl) rfl ?_
        refine TL.run (pr_pure rfl) rfl ?_
        refine TL.run (pr_pure rfl) rfl ?_
        refine TL.storeA rfl rfl rfl rfl rfl (.here _) rfl rfl ?_
        refine TL.run (pr_pure rfl) rfl ?_
        refine TL.nil ?_
        refine TX.seqN ?_
        refine TC.seq ?_
        refine TC.region ?_
        refine TL.run (pr_pure rfl) rfl ?_
        refine TL.run (pr_pure rfl) rfl ?_
        refine TL.nil ?_
        refine TX.seqN ?_
        refine TC.condND rfl (fun c47 => ?_) (fun c47 => ?_)
        ·
          refine TC.seq ?_
          refine TC.region ?_
          refine TL.run (pr_build rfl rfl) rfl ?_
          refine TL.run (pr_pure rfl) rfl ?_
          refine TL.storeA rfl rfl rfl rfl rfl (.there _ (.there _ (.there _ (.here _)))) rfl rfl ?_
          refine TL.run (pr_pure rfl) rfl ?_
          refine TL.nil ?_
          refine TX.seqN ?_
          refine TC.ret ?_
          refine TX.thenR ?_
          exact TX.fin0 (.inr rfl) (results2 rfl (RVal.cellA rfl (.there _ (.there _ (.there _ (.here _)))) rfl) (RVal.tmp rfl)) (RV.of (q := (v0, (evalW l env f t.r).2)) (evalW_b hx c20 c34 c38 c47).symm RdSl.nil)
        ·
          refine TC.skip ?_
          refine TX.seqN ?_
          refine TC.seq ?_
          refine TC.region ?_
          refine TL.run (pr_field rfl) rfl ?_
          refine TL.run (pr_own1 rfl (.there _ (.there _ (.here _))) rfl) rfl ?_
          refine TL.run (pr_ownA rfl (.there _ (.here _)) rfl) rfl ?_
          refine TL.run (pr_ownA rfl (.here _) rfl) rfl ?_
          refine TL.call (enters rfl rfl rfl rfl) (apply_ok t.kind (hR30.le hle43) hR43 ⟨evalW_short f t.l (hTl c20), evalW_short f t.r (hTr c38)⟩) rfl (fun v54 H54 hle54 hp54 => ?_)
          rw [← evalW_2 hx c20 c34 c38 c47] at hp54
          obtain ⟨lv54, rfl, hR54⟩ := hp54
          obtain ⟨la54, lc54, rfl⟩ := RdSl.len hR54
          refine TL.run (pr_pure rfl) rfl ?_
          refine TL.run (pr_pure rfl) rfl ?_
          refine TL.storeA rfl rfl rfl rfl rfl (.there _ (.there _ (.there _ (.here _)))) rfl rfl ?_
          refine TL.run (pr_pure rfl) rfl ?_
          refine TL.nil ?_
          refine TX.seqN ?_
          refine TC.ret ?_
          exact TX.fin0 (.inr rfl) (results2 rfl (RVal.cellA rfl (.there _ (.there _ (.there _ (.here _)))) rfl) (RVal.tmp rfl)) ⟨_, rfl, hR54⟩
      ·
        refine TC.skip ?_
        refine TX.seqN ?_
        refine TC.seq ?_
        refine TC.region ?_
        refine TL.run (pr_field rfl) rfl ?_
        refine TL.run (pr_own1 rfl (.there _ (.there _ (.here _))) rfl) rfl ?_
        refine TL.run (pr_ownA rfl (.there _ (.here _)) rfl) rfl ?_
        refine TL.run (pr_ownA rfl (.here _) rfl) rfl ?_
        refine TL.call (enters rfl rfl rfl rfl) (apply_ok (b := v0) (lb := .slice none 0 0) t.kind hR30 RdSl.nil ⟨evalW_short f t.l (hTl c20), v0_short⟩) rfl (fun v54 H54 hle54 hp54 => ?_)
        rw [← evalW_1 hx c20 c34 c38] at hp54
        obtain ⟨lv54, rfl, hR54⟩ := hp54
        obtain ⟨la54, lc54, rfl⟩ := RdSl.len hR54
        refine TL.run (pr_pure rfl) rfl ?_
        refine TL.run (pr_pure rfl) rfl ?_
        refine TL.storeA rfl rfl rfl rfl rfl (.there _ (.there _ (.there _ (.here _)))) rfl rfl ?_
        refine TL.run (pr_pure rfl) rfl ?_
        refine TL.nil ?_
        refine TX.seqN ?_
        refine TC.ret ?_
        exact TX.fin0 (.inr rfl) (results2 rfl (RVal.cellA rfl (.there _ (.there _ (.there _ (.here _)))) rfl) (RVal.tmp rfl)) ⟨_, rfl, hR54⟩

set_option maxRecDepth 100000 in
set_option maxHeartbeats 1000000 in
theorem Eval_ok {H : Hp} {l : List Term} {env : List Bind} {v ve : Value} (root : Int) (hT : RdSl H 6 Term.cells v l) (hE : RdSl H 5 Bind.cells ve env) (hEv : EnvOk H env) (hlen : ∀ b ∈ env, b.v.l.length ≤ 100000) (hnames : ∀ t ∈ l, t.name.length ≤ 9223372036854775807) :
    Fn Try.prog 17 [v, .int .i64 root, ve] H (fun r H1 => RV (evalS l root env) r H1) := by
  have one1 := hT.isOne
  have one2 := hE.isOne
  refine Fn.enter Try.func17 Try.ntmps17 rfl rfl (fun w0 => ?_)
  refine TC.seq ?_
  refine TC.region ?_
  refine TL.box1 rfl rfl (fun b3 => ?_)
  refine TL.box1 rfl rfl (fun b5 => ?_)
  refine TL.alloc rfl (fun b6 => ?_)
  refine TL.run (pr_pure rfl) rfl ?_
  refine TL.nil ?_
  refine TX.seqN ?_
  refine TC.seq ?_
  refine TC.seq ?_
  refine TC.region ?_
  refine TL.run (pr_own1 rfl (.there _ (.there _ (.here _))) rfl) rfl ?_
  refine TL.run (pr_pure rfl) rfl ?_
  refine TL.callS (enters rfl rfl rfl rfl) (May_ok root hT hnames) rfl ?_
  refine TL.run (pr_pure rfl) rfl ?_
  refine TL.nil ?_
  refine TX.seqN ?_
  refine TC.cond rfl (fun c12 => ?_) (fun c12 => ?_)
  ·
    refine TC.seq ?_
    refine TC.region ?_
    refine TL.run (pr_build rfl rfl) rfl ?_
    refine TL.storeA rfl rfl rfl rfl rfl (.here _) rfl rfl ?_
    refine TL.run (pr_pure rfl) rfl ?_
    refine TL.nil ?_
    refine TX.seqN ?_
    refine TC.ret ?_
    refine TX.thenR ?_
    exact TX.fin0 (.inr rfl) (results2 rfl (RVal.cellA rfl (.here _) rfl) (RVal.tmp rfl)) (RV.of (q := (v0, 400)) (by unfold evalS; rw [if_neg (by simpa using c12)]) RdSl.nil)
  ·
    refine TC.skip ?_
    refine TX.seqN ?_
    refine TC.seq ?_
    refine TC.region ?_
    refine TL.alloc rfl (fun b8 => ?_)
    refine TL.nil ?_
    refine TX.seqN ?_
    refine TC.seq ?_
    refine TC.region ?_
    refine TL.run (pr_pure rfl) rfl ?_
    refine TL.storeV rfl rfl rfl (.here _) rfl ?_
    refine TL.nil ?_
    refine TX.seqN ?_
    refine TC.seq ?_
    refine TC.region ?_
    refine TL.pub (by simp) (fun H_b8 le_b8 rd_b8 => ?_)
    refine TL.front (.there _ (.here _)) ?_
    refine TL.pub (by simp) (fun H_b5 le_b5 rd_b5 => ?_)
    refine TL.front (.there _ (.here _)) ?_
    refine TL.pub (by simp) (fun H_b3 le_b3 rd_b3 => ?_)
    have hT2 := ((hT.le le_b8).le le_b5).le le_b3
    have hE2 := ((hE.le le_b8).le le_b5).le le_b3
    have hEv2 := ((hEv.le le_b8).le le_b5).le le_b3
    have hl : H_b3 b3 0 = some v := rd_b3 0 _ rfl
    have hv := le_b3 _ _ _ (rd_b5 0 _ rfl)
    have hw := le_b3 _ _ _ (le_b5 _ _ _ (rd_b8 0 _ rfl))
    have hm : mayB l root = true := by simpa using c12
    refine TL.run (pr_hp1 rfl hw) rfl ?_
    refine TL.run (pr_pure rfl) rfl ?_
    refine TL.call (enters rfl rfl rfl rfl) (evalW_ok hlen (root.toNat + 1) root (mayB_Tr hm) _ hT2 hE2 hEv2 hl hv hw) rfl (fun v17 H17 hle17 hp17 => ?_)
    obtain ⟨lv17, rfl, hR17⟩ := hp17
    obtain ⟨la17, lc17, rfl⟩ := RdSl.len hR17
    refine TL.run (pr_pure rfl) rfl ?_
    refine TL.run (pr_pure rfl) rfl ?_
    refine TL.storeA rfl rfl rfl rfl rfl (.here _) rfl rfl ?_
    refine TL.run (pr_pure rfl) rfl ?_
    refine TL.nil ?_
    refine TX.seqN ?_
    refine TC.ret ?_
    exact TX.fin0 (.inr rfl) (results2 rfl (RVal.cellA rfl (.here _) rfl) (RVal.tmp rfl)) ((show RV (evalW l env (root.toNat + 1) root) _ _ from ⟨_, rfl, hR17⟩).eq (by unfold evalS; rw [if_pos hm]))
end Go.Sx
