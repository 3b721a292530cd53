import Derived.Test.YtepbjoagighhhaaWVal
import Derived.Test.YtepbjoagighhhaaPureRf
set_option linter.unusedVariables false
set_option linter.unusedSimpArgs false
namespace Go.Sx
open Go Go.Proofs
set_option maxRecDepth 100000 in
set_option maxHeartbeats 1000000 in
theorem rnum_ok {H : Hp} (n : Int) :
    FnS Try.prog 61 [.int .i64 n] H (.agg ((⟨1, n, [], []⟩ : Val).cells (.slice none 0 0)).toArray) := by
  refine FnS.enter Try.func61 Try.ntmps61 rfl rfl (fun w0 => ?_)
  refine TC.seq ?_
  refine TC.region ?_
  refine TL.alloc rfl (fun b2 => ?_)
  refine TL.nil ?_
  refine TX.seqN ?_
  refine TC.seq ?_
  refine TC.region ?_
  refine TL.run (pr_pure rfl) rfl ?_
  refine TL.run (pr_build rfl rfl) rfl ?_
  refine TL.storeA rfl rfl rfl rfl rfl (.here _) rfl rfl ?_
  refine TL.nil ?_
  refine TX.seqN ?_
  refine TC.ret ?_
  exact TX.finS (.inr rfl) (results1 rfl (RVal.cellA rfl (.here _) rfl)) rfl

set_option maxRecDepth 100000 in
set_option maxHeartbeats 1000000 in
theorem rtruth_ok {H : Hp} (b : Bool) :
    FnS Try.prog 62 [.bool b] H (.agg ((truthV b).cells (.slice none 0 0)).toArray) := by
  refine FnS.enter Try.func62 Try.ntmps62 rfl rfl (fun w0 => ?_)
  refine TC.seq ?_
  refine TC.region ?_
  refine TL.alloc rfl (fun b2 => ?_)
  refine TL.nil ?_
  refine TX.seqN ?_
  refine TC.seq ?_
  refine TC.seq ?_
  refine TC.region ?_
  refine TL.run (pr_pure rfl) rfl ?_
  refine TL.nil ?_
  refine TX.seqN ?_
  refine TC.cond rfl (fun c3 => ?_) (fun c3 => ?_)
  ·
    refine TC.seq ?_
    refine TC.region ?_
    refine TL.run (pr_build rfl rfl) rfl ?_
    refine TL.storeA rfl rfl rfl rfl rfl (.here _) rfl rfl ?_
    refine TL.nil ?_
    refine TX.seqN ?_
    refine TC.ret ?_
    refine TX.thenR ?_
    exact TX.finS (.inr rfl) (results1 rfl (RVal.cellA rfl (.here _) rfl)) (by subst c3; rfl)
  ·
    refine TC.skip ?_
    refine TX.seqN ?_
    refine TC.seq ?_
    refine TC.region ?_
    refine TL.run (pr_build rfl rfl) rfl ?_
    refine TL.storeA rfl rfl rfl rfl rfl (.here _) rfl rfl ?_
    refine TL.nil ?_
    refine TX.seqN ?_
    refine TC.ret ?_
    exact TX.finS (.inr rfl) (results1 rfl (RVal.cellA rfl (.here _) rfl)) (by subst c3; rfl)

set_option maxRecDepth 100000 in
set_option maxHeartbeats 1000000 in
theorem rMay_ok {H : Hp} {x : Val} {lv : Value} (hV : RdV H lv x) :
    FnS Try.prog 79 [.agg (x.cells lv).toArray] H (.bool (mayV x)) := by
  refine FnS.enter Try.func79 Try.ntmps79 rfl rfl (fun w0 => ?_)
  refine TC.seq ?_
  refine TC.region ?_
  refine TL.box rfl rfl (fun b1 => ?_)
  refine TL.run (pr_pure rfl) rfl ?_
  refine TL.nil ?_
  refine TX.seqN ?_
  refine TC.seq ?_
  refine TC.seq ?_
  refine TC.region ?_
  refine TL.run (pr_field rfl) rfl ?_
  refine TL.run (pr_own1 rfl (.here _) rfl) rfl ?_
  refine TL.nil ?_
  refine TX.seqN ?_
  refine TC.block ?_
  refine TC.seq ?_
  refine TC.region ?_
  refine TL.run (pr_pure rfl) rfl ?_
  refine TL.run (pr_pure rfl) rfl ?_
  refine TL.nil ?_
  refine TX.seqN ?_
  refine TC.condD rfl (fun c5 => ?_) (fun c5 => ?_)
  ·
    refine TC.seq ?_
    refine TC.region ?_
    refine TL.run (pr_field rfl) rfl ?_
    refine TL.run (pr_own1 rfl (.here _) rfl) rfl ?_
    refine TL.run (pr_pure rfl) rfl ?_
    refine TL.run (pr_pure rfl) rfl ?_
    refine TL.split (s := 10) rfl (fun g10 => ?_) (fun g10 => ?_)
    ·
      have q10 := of_decide_eq_true g10
      refine TL.gdY rfl rfl (pr_field rfl) rfl ?_
      refine TL.gdY rfl rfl (pr_own1 rfl (.here _) rfl) rfl ?_
      refine TL.gdY rfl rfl (pr_str rfl rfl rfl) rfl ?_
      refine TL.run (pr_pure rfl) rfl ?_
      refine TL.run (pr_pure rfl) rfl ?_
      refine TL.split (s := 15) rfl (fun g15 => ?_) (fun g15 => ?_)
      ·
        have q15 := of_decide_eq_true g15
        refine TL.gdY rfl rfl (pr_field rfl) rfl ?_
        refine TL.gdY rfl rfl (pr_own1 rfl (.here _) rfl) rfl ?_
        refine TL.gdY rfl rfl (pr_lenSl rfl rfl hV) rfl ?_
        refine TL.gdY rfl rfl (pr_pure rfl) rfl ?_
        refine TL.run (pr_pure rfl) rfl ?_
        refine TL.run (pr_pure rfl) rfl ?_
        refine TL.nil ?_
        refine TX.seqN ?_
        refine TC.ret ?_
        refine TX.blkR ?_
        refine TX.thenR ?_
        exact TX.finS (.inr rfl) (results1 rfl (RVal.tmp rfl)) (congrArg Value.bool (by unfold mayV; simp_all <;> (intros; omega)))
      ·
        have q15 := of_decide_eq_false g15
        refine TL.gdN rfl rfl rfl rfl ?_
        refine TL.gdN rfl rfl rfl rfl ?_
        refine TL.gdN rfl rfl rfl rfl ?_
        refine TL.gdN rfl rfl rfl rfl ?_
        refine TL.run (pr_pure rfl) rfl ?_
        refine TL.run (pr_pure rfl) rfl ?_
        refine TL.nil ?_
        refine TX.seqN ?_
        refine TC.ret ?_
        refine TX.blkR ?_
        refine TX.thenR ?_
        exact TX.finS (.inr rfl) (results1 rfl (RVal.tmp rfl)) (congrArg Value.bool (by unfold mayV; simp_all <;> (intros; omega)))
    ·
      have q10 := of_decide_eq_false g10
      refine TL.gdN rfl rfl rfl rfl ?_
      refine TL.gdN rfl rfl rfl rfl ?_
      refine TL.gdN rfl rfl rfl rfl ?_
      refine TL.run (pr_pure rfl) rfl ?_
      refine TL.run (pr_pure rfl) rfl ?_
      refine TL.gdN rfl rfl rfl rfl ?_
      refine TL.gdN rfl rfl rfl rfl ?_
      refine TL.gdN rfl rfl rfl rfl ?_
      refine TL.gdN rfl rfl rfl rfl ?_
      refine TL.run (pr_pure rfl) rfl ?_
      refine TL.run (pr_pure rfl) rfl ?_
      refine TL.nil ?_
      refine TX.seqN ?_
      refine TC.ret ?_
      refine TX.blkR ?_
      refine TX.thenR ?_
      exact TX.finS (.inr rfl) (results1 rfl (RVal.tmp rfl)) (congrArg Value.bool (by unfold mayV; simp_all <;> (intros; omega)))
  ·
    refine TC.seq ?_
    refine TC.region ?_
    refine TL.run (pr_pure rfl) rfl ?_
    refine TL.run (pr_pure rfl) rfl ?_
    refine TL.nil ?_
    refine TX.seqN ?_
    refine TC.condD rfl (fun c21 => ?_) (fun c21 => ?_)
    ·
      refine TC.seq ?_
      refine TC.region ?_
      refine TL.run (pr_field rfl) rfl ?_
      refine TL.run (pr_own1 rfl (.here _) rfl) rfl ?_
      refine TL.run (pr_str rfl rfl rfl) rfl ?_
      refine TL.run (pr_pure rfl) rfl ?_
      refine TL.split (s := 26) rfl (fun g26 => ?_) (fun g26 => ?_)
      ·
        have q26 := of_decide_eq_true g26
        refine TL.gdY rfl rfl (pr_field rfl) rfl ?_
        refine TL.gdY rfl rfl (pr_own1 rfl (.here _) rfl) rfl ?_
        refine TL.gdY rfl rfl (pr_lenSl rfl rfl hV) rfl ?_
        refine TL.gdY rfl rfl (pr_pure rfl) rfl ?_
        refine TL.run (pr_pure rfl) rfl ?_
        refine TL.run (pr_pure rfl) rfl ?_
        refine TL.nil ?_
        refine TX.seqN ?_
        refine TC.ret ?_
        refine TX.blkR ?_
        refine TX.thenR ?_
        exact TX.finS (.inr rfl) (results1 rfl (RVal.tmp rfl)) (congrArg Value.bool (by unfold mayV; simp_all <;> (intros; omega)))
      ·
        have q26 := of_decide_eq_false g26
        refine TL.gdN rfl rfl rfl rfl ?_
        refine TL.gdN rfl rfl rfl rfl ?_
        refine TL.gdN rfl rfl rfl rfl ?_
        refine TL.gdN rfl rfl rfl rfl ?_
        refine TL.run (pr_pure rfl) rfl ?_
        refine TL.run (pr_pure rfl) rfl ?_
        refine TL.nil ?_
        refine TX.seqN ?_
        refine TC.ret ?_
        refine TX.blkR ?_
        refine TX.thenR ?_
        exact TX.finS (.inr rfl) (results1 rfl (RVal.tmp rfl)) (congrArg Value.bool (by unfold mayV; simp_all <;> (intros; omega)))
    ·
      refine TC.seq ?_
      refine TC.region ?_
      refine TL.run (pr_pure rfl) rfl ?_
      refine TL.run (pr_pure rfl) rfl ?_
      refine TL.nil ?_
      refine TX.seqN ?_
      refine TC.condD rfl (fun c32 => ?_) (fun c32 => ?_)
      ·
        refine TC.seq ?_
        refine TC.region ?_
        refine TL.run (pr_field rfl) rfl ?_
        refine TL.run (pr_own1 rfl (.here _) rfl) rfl ?_
        refine TL.run (pr_pure rfl) rfl ?_
        refine TL.run (pr_pure rfl) rfl ?_
        refine TL.split (s := 37) rfl (fun g37 => ?_) (fun g37 => ?_)
        ·
          have q37 := of_decide_eq_true g37
          refine TL.gdN rfl rfl rfl rfl ?_
          refine TL.gdN rfl rfl rfl rfl ?_
          refine TL.gdN rfl rfl rfl rfl ?_
          refine TL.run (pr_pure rfl) rfl ?_
          refine TL.run (pr_pure rfl) rfl ?_
          refine TL.gdY rfl rfl (pr_field rfl) rfl ?_
          refine TL.gdY rfl rfl (pr_own1 rfl (.here _) rfl) rfl ?_
          refine TL.gdY rfl rfl (pr_str rfl rfl rfl) rfl ?_
          refine TL.run (pr_pure rfl) rfl ?_
          refine TL.run (pr_pure rfl) rfl ?_
          refine TL.split (s := 47) rfl (fun g47 => ?_) (fun g47 => ?_)
          ·
            have q47 := of_decide_eq_true g47
            refine TL.gdY rfl rfl (pr_field rfl) rfl ?_
            refine TL.gdY rfl rfl (pr_own1 rfl (.here _) rfl) rfl ?_
            refine TL.gdY rfl rfl (pr_lenSl rfl rfl hV) rfl ?_
            refine TL.gdY rfl rfl (pr_pure rfl) rfl ?_
            refine TL.run (pr_pure rfl) rfl ?_
            refine TL.run (pr_pure rfl) rfl ?_
            refine TL.nil ?_
            refine TX.seqN ?_
            refine TC.ret ?_
            refine TX.blkR ?_
            refine TX.thenR ?_
            exact TX.finS (.inr rfl) (results1 rfl (RVal.tmp rfl)) (congrArg Value.bool (by unfold mayV; simp_all <;> (intros; omega)))
          ·
            have q47 := of_decide_eq_false g47
            refine TL.gdN rfl rfl rfl rfl ?_
            refine TL.gdN rfl rfl rfl rfl ?_
            refine TL.gdN rfl rfl rfl rfl ?_
            refine TL.gdN rfl rfl rfl rfl ?_
            refine TL.run (pr_pure rfl) rfl ?_
            refine TL.run (pr_pure rfl) rfl ?_
            refine TL.nil ?_
            refine TX.seqN ?_
            refine TC.ret ?_
            refine TX.blkR ?_
            refine TX.thenR ?_
            exact TX.finS (.inr rfl) (results1 rfl (RVal.tmp rfl)) (congrArg Value.bool (by unfold mayV; simp_all <;> (intros; omega)))
        ·
          have q37 := of_decide_eq_false g37
          refine TL.gdY rfl rfl (pr_field rfl) rfl ?_
          refine TL.gdY rfl rfl (pr_own1 rfl (.here _) rfl) rfl ?_
          refine TL.gdY rfl rfl (pr_pure rfl) rfl ?_
          refine TL.run (pr_pure rfl) rfl ?_
          refine TL.run (pr_pure rfl) rfl ?_
          refine TL.split (s := 42) rfl (fun g42 => ?_) (fun g42 => ?_)
          ·
            have q42 := of_decide_eq_true g42
            refine TL.gdY rfl rfl (pr_field rfl) rfl ?_
            refine TL.gdY rfl rfl (pr_own1 rfl (.here _) rfl) rfl ?_
            refine TL.gdY rfl rfl (pr_str rfl rfl rfl) rfl ?_
            refine TL.run (pr_pure rfl) rfl ?_
            refine TL.run (pr_pure rfl) rfl ?_
            refine TL.split (s := 47) rfl (fun g47 => ?_) (fun g47 => ?_)
            ·
              have q47 := of_decide_eq_true g47
              refine TL.gdY rfl rfl (pr_field rfl) rfl ?_
              refine TL.gdY rfl rfl (pr_own1 rfl (.here _) rfl) rfl ?_
              refine TL.gdY rfl rfl (pr_lenSl rfl rfl hV) rfl ?_
              refine TL.gdY rfl rfl (pr_pure rfl) rfl ?_
              refine TL.run (pr_pure rfl) rfl ?_
              refine TL.run (pr_pure rfl) rfl ?_
              refine TL.nil ?_
              refine TX.seqN ?_
              refine TC.ret ?_
              refine TX.blkR ?_
              refine TX.thenR ?_
              exact TX.finS (.inr rfl) (results1 rfl (RVal.tmp rfl)) (congrArg Value.bool (by unfold mayV; simp_all <;> (intros; omega)))
            ·
              have q47 := of_decide_eq_false g47
              refine TL.gdN rfl rfl rfl rfl ?_
              refine TL.gdN rfl rfl rfl rfl ?_
              refine TL.gdN rfl rfl rfl rfl ?_
              refine TL.gdN rfl rfl rfl rfl ?_
              refine TL.run (pr_pure rfl) rfl ?_
              refine TL.run (pr_pure rfl) rfl ?_
              refine TL.nil ?_
              refine TX.seqN ?_
              refine TC.ret ?_
              refine TX.blkR ?_
              refine TX.thenR ?_
              exact TX.finS (.inr rfl) (results1 rfl (RVal.tmp rfl)) (congrArg Value.bool (by unfold mayV; simp_all <;> (intros; omega)))
          ·
            have q42 := of_decide_eq_false g42
            refine TL.gdN rfl rfl rfl rfl ?_
            refine TL.gdN rfl rfl rfl rfl ?_
            refine TL.gdN rfl rfl rfl rfl ?_
            refine TL.run (pr_pure rfl) rfl ?_
            refine TL.run (pr_pure rfl) rfl ?_
            refine TL.gdN rfl rfl rfl rfl ?_
            refine TL.gdN rfl rfl rfl rfl ?_
            refine TL.gdN rfl rfl rfl rfl ?_
            refine TL.gdN rfl rfl rfl rfl ?_
            refine TL.run (pr_pure rfl) rfl ?_
            refine TL.run (pr_pure rfl) rfl ?_
            refine TL.nil ?_
            refine TX.seqN ?_
            refine TC.ret ?_
            refine TX.blkR ?_
            refine TX.thenR ?_
            exact TX.finS (.inr rfl) (results1 rfl (RVal.tmp rfl)) (congrArg Value.bool (by unfold mayV; simp_all <;> (intros; omega)))
      ·
        refine TC.seq ?_
        refine TC.region ?_
        refine TL.run (pr_pure rfl) rfl ?_
        refine TL.run (pr_pure rfl) rfl ?_
        refine TL.nil ?_
        refine TX.seqN ?_
        refine TC.condD rfl (fun c53 => ?_) (fun c53 => ?_)
        ·
          refine TC.seq ?_
          refine TC.region ?_
          refine TL.run (pr_field rfl) rfl ?_
          refine TL.run (pr_own1 rfl (.here _) rfl) rfl ?_
          refine TL.run (pr_pure rfl) rfl ?_
          refine TL.run (pr_pure rfl) rfl ?_
          refine TL.split (s := 58) rfl (fun g58 => ?_) (fun g58 => ?_)
          ·
            have q58 := of_decide_eq_true g58
            refine TL.gdY rfl rfl (pr_field rfl) rfl ?_
            refine TL.gdY rfl rfl (pr_own1 rfl (.here _) rfl) rfl ?_
            refine TL.gdY rfl rfl (pr_lenStr rfl rfl) rfl ?_
            refine TL.gdY rfl rfl (pr_pure rfl) rfl ?_
            refine TL.run (pr_pure rfl) rfl ?_
            refine TL.run (pr_pure rfl) rfl ?_
            refine TL.split (s := 64) rfl (fun g64 => ?_) (fun g64 => ?_)
            ·
              have q64 := of_decide_eq_true g64
              refine TL.gdY rfl rfl (pr_field rfl) rfl ?_
              refine TL.gdY rfl rfl (pr_own1 rfl (.here _) rfl) rfl ?_
              refine TL.gdY rfl rfl (pr_lenSl rfl rfl hV) rfl ?_
              refine TL.gdY rfl rfl (pr_pure rfl) rfl ?_
              refine TL.run (pr_pure rfl) rfl ?_
              refine TL.run (pr_pure rfl) rfl ?_
              refine TL.nil ?_
              refine TX.seqN ?_
              refine TC.ret ?_
              refine TX.blkR ?_
              refine TX.thenR ?_
              exact TX.finS (.inr rfl) (results1 rfl (RVal.tmp rfl)) (congrArg Value.bool (by unfold mayV; simp_all <;> (intros; omega)))
            ·
              have q64 := of_decide_eq_false g64
              refine TL.gdN rfl rfl rfl rfl ?_
              refine TL.gdN rfl rfl rfl rfl ?_
              refine TL.gdN rfl rfl rfl rfl ?_
              refine TL.gdN rfl rfl rfl rfl ?_
              refine TL.run (pr_pure rfl) rfl ?_
              refine TL.run (pr_pure rfl) rfl ?_
              refine TL.nil ?_
              refine TX.seqN ?_
              refine TC.ret ?_
              refine TX.blkR ?_
              refine TX.thenR ?_
              exact TX.finS (.inr rfl) (results1 rfl (RVal.tmp rfl)) (congrArg Value.bool (by unfold mayV; simp_all <;> (intros; omega)))
          ·
            have q58 := of_decide_eq_false g58
            refine TL.gdN rfl rfl rfl rfl ?_
            refine TL.gdN rfl rfl rfl rfl ?_
            refine TL.gdN rfl rfl rfl rfl ?_
            refine TL.gdN rfl rfl rfl rfl ?_
            refine TL.run (pr_pure rfl) rfl ?_
            refine TL.run (pr_pure rfl) rfl ?_
            refine TL.gdN rfl rfl rfl rfl ?_
            refine TL.gdN rfl rfl rfl rfl ?_
            refine TL.gdN rfl rfl rfl rfl ?_
            refine TL.gdN rfl rfl rfl rfl ?_
            refine TL.run (pr_pure rfl) rfl ?_
            refine TL.run (pr_pure rfl) rfl ?_
            refine TL.nil ?_
            refine TX.seqN ?_
            refine TC.ret ?_
            refine TX.blkR ?_
            refine TX.thenR ?_
            exact TX.finS (.inr rfl) (results1 rfl (RVal.tmp rfl)) (congrArg Value.bool (by unfold mayV; simp_all <;> (intros; omega)))
        ·
          refine TC.seq ?_
          refine TC.region ?_
          refine TL.run (pr_pure rfl) rfl ?_
          refine TL.run (pr_pure rfl) rfl ?_
          refine TL.nil ?_
          refine TX.seqN ?_
          refine TC.condD rfl (fun c70 => ?_) (fun c70 => ?_)
          ·
            refine TC.seq ?_
            refine TC.region ?_
            refine TL.run (pr_field rfl) rfl ?_
            refine TL.run (pr_own1 rfl (.here _) rfl) rfl ?_
            refine TL.run (pr_pure rfl) rfl ?_
            refine TL.run (pr_pure rfl) rfl ?_
            refine TL.split (s := 75) rfl (fun g75 => ?_) (fun g75 => ?_)
            ·
              have q75 := of_decide_eq_true g75
              refine TL.gdY rfl rfl (pr_field rfl) rfl ?_
              refine TL.gdY rfl rfl (pr_own1 rfl (.here _) rfl) rfl ?_
              refine TL.gdY rfl rfl (pr_str rfl rfl rfl) rfl ?_
              refine TL.run (pr_pure rfl) rfl ?_
              refine TL.run (pr_pure rfl) rfl ?_
              refine TL.split (s := 80) rfl (fun g80 => ?_) (fun g80 => ?_)
              ·
                have q80 := of_decide_eq_true g80
                refine TL.gdY rfl rfl (pr_field rfl) rfl ?_
                refine TL.gdY rfl rfl (pr_own1 rfl (.here _) rfl) rfl ?_
                refine TL.gdY rfl rfl (pr_lenSl rfl rfl hV) rfl ?_
                refine TL.gdY rfl rfl (pr_pure rfl) rfl ?_
                refine TL.run (pr_pure rfl) rfl ?_
                refine TL.run (pr_pure rfl) rfl ?_
                refine TL.nil ?_
                refine TX.seqN ?_
                refine TC.ret ?_
                refine TX.blkR ?_
                refine TX.thenR ?_
                exact TX.finS (.inr rfl) (results1 rfl (RVal.tmp rfl)) (congrArg Value.bool (by unfold mayV; simp_all <;> (intros; omega)))
              ·
                have q80 := of_decide_eq_false g80
                refine TL.gdN rfl rfl rfl rfl ?_
                refine TL.gdN rfl rfl rfl rfl ?_
                refine TL.gdN rfl rfl rfl rfl ?_
                refine TL.gdN rfl rfl rfl rfl ?_
                refine TL.run (pr_pure rfl) rfl ?_
                refine TL.run (pr_pure rfl) rfl ?_
                refine TL.nil ?_
                refine TX.seqN ?_
                refine TC.ret ?_
                refine TX.blkR ?_
                refine TX.thenR ?_
                exact TX.finS (.inr rfl) (results1 rfl (RVal.tmp rfl)) (congrArg Value.bool (by unfold mayV; simp_all <;> (intros; omega)))
            ·
              have q75 := of_decide_eq_false g75
              refine TL.gdN rfl rfl rfl rfl ?_
              refine TL.gdN rfl rfl rfl rfl ?_
              refine TL.gdN rfl rfl rfl rfl ?_
              refine TL.run (pr_pure rfl) rfl ?_
              refine TL.run (pr_pure rfl) rfl ?_
              refine TL.gdN rfl rfl rfl rfl ?_
              refine TL.gdN rfl rfl rfl rfl ?_
              refine TL.gdN rfl rfl rfl rfl ?_
              refine TL.gdN rfl rfl rfl rfl ?_
              refine TL.run (pr_pure rfl) rfl ?_
              refine TL.run (pr_pure rfl) rfl ?_
              refine TL.nil ?_
              refine TX.seqN ?_
              refine TC.ret ?_
              refine TX.blkR ?_
              refine TX.thenR ?_
              exact TX.finS (.inr rfl) (results1 rfl (RVal.tmp rfl)) (congrArg Value.bool (by unfold mayV; simp_all <;> (intros; omega)))
          ·
            refine TC.seq ?_
            refine TC.region ?_
            refine TL.run (pr_pure rfl) rfl ?_
            refine TL.run (pr_pure rfl) rfl ?_
            refine TL.nil ?_
            refine TX.seqN ?_
            refine TC.condD rfl (fun c86 => ?_) (fun c86 => ?_)
            ·
              refine TC.seq ?_
              refine TC.region ?_
              refine TL.run (pr_field rfl) rfl ?_
              refine TL.run (pr_own1 rfl (.here _) rfl) rfl ?_
              refine TL.run (pr_str rfl rfl rfl) rfl ?_
              refine TL.run (pr_pure rfl) rfl ?_
              refine TL.split (s := 91) rfl (fun g91 => ?_) (fun g91 => ?_)
              ·
                have q91 := of_ndec_true g91
                refine TL.gdY rfl rfl (pr_field rfl) rfl ?_
                refine TL.gdY rfl rfl (pr_own1 rfl (.here _) rfl) rfl ?_
                refine TL.gdY rfl rfl (pr_pure rfl) rfl ?_
                refine TL.run (pr_pure rfl) rfl ?_
                refine TL.run (pr_pure rfl) rfl ?_
                refine TL.split (s := 96) rfl (fun g96 => ?_) (fun g96 => ?_)
                ·
                  have q96 := of_decide_eq_true g96
                  refine TL.gdY rfl rfl (pr_field rfl) rfl ?_
                  refine TL.gdY rfl rfl (pr_own1 rfl (.here _) rfl) rfl ?_
                  refine TL.gdY rfl rfl (pr_pure rfl) rfl ?_
                  refine TL.run (pr_pure rfl) rfl ?_
                  refine TL.run (pr_pure rfl) rfl ?_
                  refine TL.split (s := 101) rfl (fun g101 => ?_) (fun g101 => ?_)
                  ·
                    have q101 := of_decide_eq_true g101
                    refine TL.gdY rfl rfl (pr_field rfl) rfl ?_
                    refine TL.gdY rfl rfl (pr_own1 rfl (.here _) rfl) rfl ?_
                    refine TL.gdY rfl rfl (pr_lenSl rfl rfl hV) rfl ?_
                    refine TL.gdY rfl rfl (pr_pure rfl) rfl ?_
                    refine TL.run (pr_pure rfl) rfl ?_
                    refine TL.run (pr_pure rfl) rfl ?_
                    refine TL.nil ?_
                    refine TX.seqN ?_
                    refine TC.ret ?_
                    refine TX.blkR ?_
                    refine TX.thenR ?_
                    exact TX.finS (.inr rfl) (results1 rfl (RVal.tmp rfl)) (congrArg Value.bool (by unfold mayV; simp_all <;> (intros; omega)))
                  ·
                    have q101 := of_decide_eq_false g101
                    refine TL.gdN rfl rfl rfl rfl ?_
                    refine TL.gdN rfl rfl rfl rfl ?_
                    refine TL.gdN rfl rfl rfl rfl ?_
                    refine TL.gdN rfl rfl rfl rfl ?_
                    refine TL.run (pr_pure rfl) rfl ?_
                    refine TL.run (pr_pure rfl) rfl ?_
                    refine TL.nil ?_
                    refine TX.seqN ?_
                    refine TC.ret ?_
                    refine TX.blkR ?_
                    refine TX.thenR ?_
                    exact TX.finS (.inr rfl) (results1 rfl (RVal.tmp rfl)) (congrArg Value.bool (by unfold mayV; simp_all <;> (intros; omega)))
                ·
                  have q96 := of_decide_eq_false g96
                  refine TL.gdN rfl rfl rfl rfl ?_
                  refine TL.gdN rfl rfl rfl rfl ?_
                  refine TL.gdN rfl rfl rfl rfl ?_
                  refine TL.run (pr_pure rfl) rfl ?_
                  refine TL.run (pr_pure rfl) rfl ?_
                  refine TL.gdN rfl rfl rfl rfl ?_
                  refine TL.gdN rfl rfl rfl rfl ?_
                  refine TL.gdN rfl rfl rfl rfl ?_
                  refine TL.gdN rfl rfl rfl rfl ?_
                  refine TL.run (pr_pure rfl) rfl ?_
                  refine TL.run (pr_pure rfl) rfl ?_
                  refine TL.nil ?_
                  refine TX.seqN ?_
                  refine TC.ret ?_
                  refine TX.blkR ?_
                  refine TX.thenR ?_
                  exact TX.finS (.inr rfl) (results1 rfl (RVal.tmp rfl)) (congrArg Value.bool (by unfold mayV; simp_all <;> (intros; omega)))
              ·
                have q91 := of_ndec_false g91
                refine TL.gdN rfl rfl rfl rfl ?_
                refine TL.gdN rfl rfl rfl rfl ?_
                refine TL.gdN rfl rfl rfl rfl ?_
                refine TL.run (pr_pure rfl) rfl ?_
                refine TL.run (pr_pure rfl) rfl ?_
                refine TL.gdN rfl rfl rfl rfl ?_
                refine TL.gdN rfl rfl rfl rfl ?_
                refine TL.gdN rfl rfl rfl rfl ?_
                refine TL.run (pr_pure rfl) rfl ?_
                refine TL.run (pr_pure rfl) rfl ?_
                refine TL.gdN rfl rfl rfl rfl ?_
                refine TL.gdN rfl rfl rfl rfl ?_
                refine TL.gdN rfl rfl rfl rfl ?_
                refine TL.gdN rfl rfl rfl rfl ?_
                refine TL.run (pr_pure rfl) rfl ?_
                refine TL.run (pr_pure rfl) rfl ?_
                refine TL.nil ?_
                refine TX.seqN ?_
                refine TC.ret ?_
                refine TX.blkR ?_
                refine TX.thenR ?_
                exact TX.finS (.inr rfl) (results1 rfl (RVal.tmp rfl)) (congrArg Value.bool (by unfold mayV; simp_all <;> (intros; omega)))
            ·
              refine TC.skip ?_
              refine TX.blkN ?_
              refine TX.seqN ?_
              refine TC.seq ?_
              refine TC.region ?_
              refine TL.run (pr_pure rfl) rfl ?_
              refine TL.nil ?_
              refine TX.seqN ?_
              refine TC.ret ?_
              exact TX.finS (.inr rfl) (results1 rfl (RVal.tmp rfl)) (congrArg Value.bool (by unfold mayV; simp_all <;> (intros; omega)))

set_option maxRecDepth 100000 in
set_option maxHeartbeats 1000000 in
theorem rcopy_ok {H : Hp} {x : Val} {lv : Value} (hV : RdV H lv x) (hlen : x.l.length ≤ 100000) :
    Fn Try.prog 80 [.agg (x.cells lv).toArray] H (fun r H1 => CopyV x r H1) := by
  have hV1 : RdSl H 1 I64.cells lv x.l := hV
  obtain ⟨la, lc, rfl⟩ := hV1.len
  refine Fn.enter Try.func80 Try.ntmps80 rfl rfl (fun w0 => ?_)
  refine TC.seq ?_
  refine TC.region ?_
  refine TL.box rfl rfl (fun b1 => ?_)
  refine TL.alloc rfl (fun b2 => ?_)
  refine TL.nil ?_
  refine TX.seqN ?_
  refine TC.seq ?_
  refine TC.region ?_
  refine TL.run (pr_field rfl) rfl ?_
  refine TL.run (pr_own1 rfl (.there _ (.here _)) rfl) rfl ?_
  refine TL.append (enc := I64.cells) rfl rfl rfl (OwnSl.nil (enc := I64.cells)) (Src.sl hV1) (by simp; omega) rfl (.new _ rfl) rfl (fun a5 c5 ob5 hO5 => ?_)
  refine TL.run (pr_field rfl) rfl ?_
  refine TL.store1 rfl rfl rfl (.there _ (.here _)) rfl rfl ?_
  refine TL.nil ?_
  refine TX.seqN ?_
  refine TC.seq ?_
  refine TC.region ?_
  refine TL.run (pr_ownA rfl (.there _ (.here _)) rfl) rfl ?_
  refine TL.storeA rfl rfl rfl rfl rfl (.here _) rfl rfl ?_
  refine TL.nil ?_
  refine TX.seqN ?_
  refine TC.ret ?_
  refine TX.pubO hO5 (.skip _ (.skip _ .all)) (by simp) (fun H1 hle hR => ?_)
  exact TX.fin0 (.inr rfl) (results1 rfl (RVal.cellA rfl (.here _) rfl)) ⟨_, rfl, hR⟩

set_option maxRecDepth 100000 in
set_option maxHeartbeats 1000000 in
theorem rhold_ok {H : Hp} {env : List Bind} {ve : Value} (name : Str) (hE : RdSl H 5 Bind.cells ve env) (hEv : EnvOk H env) (hlen : ∀ b ∈ env, b.v.l.length ≤ 100000) :
    Fn Try.prog 60 [ve, gs name] H (fun v H1 => RV (holdV env name) v H1) := by
  have hmax := hE.max
  refine Fn.enter Try.func60 Try.ntmps60 rfl rfl (fun w0 => ?_)
  refine TC.seq ?_
  refine TC.region ?_
  refine TL.alloc rfl (fun b4 => ?_)
  refine TL.run (pr_pure rfl) rfl ?_
  refine TL.nil ?_
  refine TX.seqN ?_
  refine TC.seq ?_
  refine TC.seq ?_
  refine TC.region ?_
  refine TL.run (pr_pure rfl) rfl ?_
  refine TL.nil ?_
  refine TX.seqN ?_
  refine TC.block ?_
  refine TC.loop (V := fun k => [(6, .int .i64 k)]) (K := [(0, _), (1, _), (4, _), (5, _)]) (L := fun k => _) (I := fun k => 0 ≤ k ∧ k ≤ env.length ∧ holdV env name = holdV (env.drop k.toNat) name) (μ := fun k => (env.length - k).toNat) (i := (0 : Int)) ⟨rfl, rfl, rfl, rfl, rfl, trivial⟩ ⟨by omega, by omega, rfl⟩ (fun w hw => hw) (fun k hI => ?_)
  refine TC.seq ?_
  refine TC.seq ?_
  refine TC.region ?_
  refine TL.run (pr_pure rfl) rfl ?_
  refine TL.run (pr_pure rfl) rfl ?_
  refine TL.run (pr_lenSl rfl rfl hE) rfl ?_
  refine TL.run (pr_pure rfl) rfl ?_
  refine TL.nil ?_
  refine TX.seqN ?_
  refine TC.condD rfl (fun c10 => ?_) (fun c10 => ?_)
  ·
    obtain ⟨x, hx⟩ := getSome (l := env) hI.1 c10
    have hV : RdV H x.lv x.v := hEv x (List.mem_of_getElem? hx)
    have hl1 := hlen x (List.mem_of_getElem? hx)
    obtain ⟨xn, xv, xl⟩ := x
    dsimp only at hV hl1
    obtain ⟨la, lc, rfl⟩ := RdSl.len hV
    refine TC.skip ?_
    refine TX.seqN ?_
    refine TC.seq ?_
    refine TC.block ?_
    refine TC.seq ?_
    refine TC.region ?_
    refine TL.run (pr_pure rfl) rfl ?_
    refine TL.run (pr_pure rfl) rfl ?_
    refine TL.run (pr_indexSl rfl hE rfl (by omega) (by omega)) rfl ?_
    refine TL.run (pr_field rfl) rfl ?_
    refine TL.run (pr_el1 hE hx rfl rfl) rfl ?_
    refine TL.run (pr_pure rfl) rfl ?_
    refine TL.run (pr_str rfl rfl rfl) rfl ?_
    refine TL.nil ?_
    refine TX.seqN ?_
    refine TC.condD rfl (fun c19 => ?_) (fun c19 => ?_)
    ·
      refine TC.seq ?_
      refine TC.seq ?_
      refine TC.region ?_
      refine TL.run (pr_pure rfl) rfl ?_
      refine TL.run (pr_pure rfl) rfl ?_
      refine TL.run (pr_indexSl rfl hE rfl (by omega) (by omega)) rfl ?_
      refine TL.run (pr_field rfl) rfl ?_
      refine TL.run (pr_elQ hE hx rfl rfl) rfl ?_
      refine TL.callS (enters rfl rfl rfl rfl) (rMay_ok (x := xv) (lv := .slice la xv.l.length lc) hV) rfl ?_
      refine TL.run (pr_pure rfl) rfl ?_
      refine TL.nil ?_
      refine TX.seqN ?_
      refine TC.cond rfl (fun c26 => ?_) (fun c26 => ?_)
      ·
        refine TC.seq ?_
        refine TC.region ?_
        refine TL.run (pr_build rfl rfl) rfl ?_
        refine TL.storeA rfl rfl rfl rfl rfl (.here _) rfl rfl ?_
        refine TL.run (pr_pure rfl) rfl ?_
        refine TL.nil ?_
        refine TX.seqN ?_
        refine TC.ret ?_
        refine TX.thenR ?_
        refine TX.blkR ?_
        refine TX.thenR ?_
        refine TX.thenR ?_
        refine TX.blkR ?_
        refine TX.thenR ?_
        exact TX.fin0 (.inr rfl) (results2 rfl (RVal.cellA rfl (.here _) rfl) (RVal.tmp rfl)) (RV.of (q := (v0, 402)) ((holdV_at hI.1 hI.2.2 hx c19).trans (if_neg (by simpa using c26))).symm RdSl.nil)
      ·
        refine TC.skip ?_
        refine TX.seqN ?_
        refine TC.seq ?_
        refine TC.region ?_
        refine TL.run (pr_pure rfl) rfl ?_
        refine TL.run (pr_pure rfl) rfl ?_
        refine TL.run (pr_indexSl rfl hE rfl (by omega) (by omega)) rfl ?_
        refine TL.run (pr_field rfl) rfl ?_
        refine TL.run (pr_elQ hE hx rfl rfl) rfl ?_
        refine TL.call (enters rfl rfl rfl rfl) (rcopy_ok (x := xv) hV hl1) rfl (fun v33 H33 hle33 hp33 => ?_)
        obtain ⟨lv33, rfl, hR33⟩ := hp33
        obtain ⟨la33, lc33, rfl⟩ := RdSl.len hR33
        refine TL.storeA rfl rfl rfl rfl rfl (.here _) rfl rfl ?_
        refine TL.run (pr_pure rfl) rfl ?_
        refine TL.nil ?_
        refine TX.seqN ?_
        refine TC.ret ?_
        refine TX.blkR ?_
        refine TX.thenR ?_
        refine TX.thenR ?_
        refine TX.blkR ?_
        refine TX.thenR ?_
        exact TX.fin0 (.inr rfl) (results2 rfl (RVal.cellA rfl (.here _) rfl) (RVal.tmp rfl)) (RV.of (q := (xv, 0)) ((holdV_at hI.1 hI.2.2 hx c19).trans (if_pos (by simpa using c26))).symm hR33)
    ·
      refine TC.skip ?_
      refine TX.blkN ?_
      refine TX.seqN ?_
      refine TC.region ?_
      refine TL.run (pr_pure rfl) rfl ?_
      refine TL.run ((by first | exact pr_add rfl rfl (by omega) (by omega) | exact pr_pure rfl)) rfl ?_
      refine TL.run (pr_pure rfl) rfl ?_
      refine TL.nil ?_
      exact TX.round (k + 1) ⟨by omega, by omega, holdV_skip hI.1 hI.2.2 hx c19⟩ ⟨rfl, rfl, rfl, rfl, rfl, trivial⟩ (fun w hw => hw) (by omega)
  ·
    refine TC.exit ?_
    refine TX.thenE ?_
    refine TX.thenE ?_
    refine TX.blkHit ?_
    refine TX.seqN ?_
    refine TC.seq ?_
    refine TC.region ?_
    refine TL.run (pr_build rfl rfl) rfl ?_
    refine TL.storeA rfl rfl rfl rfl rfl (.here _) rfl rfl ?_
    refine TL.run (pr_pure rfl) rfl ?_
    refine TL.nil ?_
    refine TX.seqN ?_
    refine TC.ret ?_
    exact TX.fin0 (.inr rfl) (results2 rfl (RVal.cellA rfl (.here _) rfl) (RVal.tmp rfl)) (RV.of (q := (v0, 401)) (holdV_end hI.2.2 c10).symm RdSl.nil)

set_option maxRecDepth 100000 in
set_option maxHeartbeats 1000000 in
theorem rleaf_ok {H : Hp} {env : List Bind} {ve : Value} {t : Term} (hf : fieldsB t = true) (ho : operandsI t.kind = 0) (hE : RdSl H 5 Bind.cells ve env) (hEv : EnvOk H env) (hlen : ∀ b ∈ env, b.v.l.length ≤ 100000) :
    Fn Try.prog 54 [.agg t.cells.toArray, ve] H (fun v H1 => RV (leafV t env) v H1) := by
  refine Fn.enter Try.func54 Try.ntmps54 rfl rfl (fun w0 => ?_)
  refine TC.seq ?_
  refine TC.region ?_
  refine TL.box rfl rfl (fun b2 => ?_)
  refine TL.alloc rfl (fun b4 => ?_)
  refine TL.run (pr_pure rfl) rfl ?_
  refine TL.nil ?_
  refine TX.seqN ?_
  refine TC.seq ?_
  refine TC.seq ?_
  refine TC.region ?_
  refine TL.run (pr_field rfl) rfl ?_
  refine TL.run (pr_own1 rfl (.there _ (.here _)) rfl) rfl ?_
  refine TL.nil ?_
  refine TX.seqN ?_
  refine TC.block ?_
  refine TC.seq ?_
  refine TC.region ?_
  refine TL.run (pr_pure rfl) rfl ?_
  refine TL.run (pr_pure rfl) rfl ?_
  refine TL.nil ?_
  refine TX.seqN ?_
  refine TC.condD rfl (fun c8 => ?_) (fun c8 => ?_)
  ·
    refine TC.seq ?_
    refine TC.region ?_
    refine TL.run (pr_pure rfl) rfl ?_
    refine TL.run (pr_field rfl) rfl ?_
    refine TL.run (pr_own1 rfl (.there _ (.here _)) rfl) rfl ?_
    refine TL.call (enters rfl rfl rfl rfl) (rhold_ok t.name hE hEv hlen) rfl (fun v13 H13 hle13 hp13 => ?_)
    obtain ⟨lv13, rfl, hR13⟩ := hp13
    obtain ⟨la13, lc13, rfl⟩ := RdSl.len hR13
    refine TL.run (pr_pure rfl) rfl ?_
    refine TL.run (pr_pure rfl) rfl ?_
    refine TL.storeA rfl rfl rfl rfl rfl (.here _) rfl rfl ?_
    refine TL.run (pr_pure rfl) rfl ?_
    refine TL.nil ?_
    refine TX.seqN ?_
    refine TC.ret ?_
    refine TX.blkR ?_
    refine TX.thenR ?_
    exact TX.fin0 (.inr rfl) (results2 rfl (RVal.cellA rfl (.here _) rfl) (RVal.tmp rfl)) (RV.of (q := holdV env t.name) (by unfold leafV; simp [*]) hR13)
  ·
    refine TC.seq ?_
    refine TC.region ?_
    refine TL.run (pr_pure rfl) rfl ?_
    refine TL.run (pr_pure rfl) rfl ?_
    refine TL.nil ?_
    refine TX.seqN ?_
    refine TC.condD rfl (fun c16 => ?_) (fun c16 => ?_)
    ·
      refine TC.seq ?_
      refine TC.region ?_
      refine TL.run (pr_field rfl) rfl ?_
      refine TL.run (pr_own1 rfl (.there _ (.here _)) rfl) rfl ?_
      refine TL.callS (enters rfl rfl rfl rfl) (rnum_ok _) rfl ?_
      refine TL.storeA rfl rfl rfl rfl rfl (.here _) rfl rfl ?_
      refine TL.run (pr_pure rfl) rfl ?_
      refine TL.nil ?_
      refine TX.seqN ?_
      refine TC.ret ?_
      refine TX.blkR ?_
      refine TX.thenR ?_
      exact TX.fin0 (.inr rfl) (results2 rfl (RVal.cellA rfl (.here _) rfl) (RVal.tmp rfl)) (RV.of (q := (⟨1, t.n, [], []⟩, 0)) (by unfold leafV; simp [*]) RdSl.nil)
    ·
      refine TC.seq ?_
      refine TC.region ?_
      refine TL.run (pr_pure rfl) rfl ?_
      refine TL.run (pr_pure rfl) rfl ?_
      refine TL.nil ?_
      refine TX.seqN ?_
      refine TC.condD rfl (fun c21 => ?_) (fun c21 => ?_)
      ·
        refine TC.seq ?_
        refine TC.region ?_
        refine TL.run (pr_field rfl) rfl ?_
        refine TL.run (pr_own1 rfl (.there _ (.here _)) rfl) rfl ?_
        refine TL.run (pr_pure rfl) rfl ?_
        refine TL.callS (enters rfl rfl rfl rfl) (rtruth_ok _) rfl ?_
        refine TL.storeA rfl rfl rfl rfl rfl (.here _) rfl rfl ?_
        refine TL.run (pr_pure rfl) rfl ?_
        refine TL.nil ?_
        refine TX.seqN ?_
        refine TC.ret ?_
        refine TX.blkR ?_
        refine TX.thenR ?_
        exact TX.fin0 (.inr rfl) (results2 rfl (RVal.cellA rfl (.here _) rfl) (RVal.tmp rfl)) (RV.of (q := (truthV (decide (t.n = 1)), 0)) (leaf_bool c21 hf) RdSl.nil)
      ·
        refine TC.seq ?_
        refine TC.region ?_
        refine TL.run (pr_pure rfl) rfl ?_
        refine TL.run (pr_pure rfl) rfl ?_
        refine TL.nil ?_
        refine TX.seqN ?_
        refine TC.condD rfl (fun c27 => ?_) (fun c27 => ?_)
        ·
          refine TC.seq ?_
          refine TC.region ?_
          refine TL.run (pr_field rfl) rfl ?_
          refine TL.run (pr_own1 rfl (.there _ (.here _)) rfl) rfl ?_
          refine TL.run (pr_build rfl rfl) rfl ?_
          refine TL.storeA rfl rfl rfl rfl rfl (.here _) rfl rfl ?_
          refine TL.run (pr_pure rfl) rfl ?_
          refine TL.nil ?_
          refine TX.seqN ?_
          refine TC.ret ?_
          refine TX.blkR ?_
          refine TX.thenR ?_
          exact TX.fin0 (.inr rfl) (results2 rfl (RVal.cellA rfl (.here _) rfl) (RVal.tmp rfl)) (RV.of (q := (⟨3, 0, t.text, []⟩, 0)) (by unfold leafV; simp [*]) RdSl.nil)
        ·
          refine TC.seq ?_
          refine TC.region ?_
          refine TL.run (pr_pure rfl) rfl ?_
          refine TL.run (pr_pure rfl) rfl ?_
          refine TL.nil ?_
          refine TX.seqN ?_
          refine TC.condD rfl (fun c32 => ?_) (fun c32 => ?_)
          ·
            refine TC.seq ?_
            refine TC.region ?_
            refine TL.run (pr_build rfl rfl) rfl ?_
            refine TL.storeA rfl rfl rfl rfl rfl (.here _) rfl rfl ?_
            refine TL.run (pr_pure rfl) rfl ?_
            refine TL.nil ?_
            refine TX.seqN ?_
            refine TC.ret ?_
            refine TX.blkR ?_
            refine TX.thenR ?_
            exact TX.fin0 (.inr rfl) (results2 rfl (RVal.cellA rfl (.here _) rfl) (RVal.tmp rfl)) (RV.of (q := (⟨4, 0, [], []⟩, 0)) (by unfold leafV; simp [*]) RdSl.nil)
          ·
            refine TC.skip ?_
            refine TX.blkN ?_
            refine TX.seqN ?_
            refine TC.seq ?_
            refine TC.region ?_
            refine TL.run (pr_build rfl rfl) rfl ?_
            refine TL.storeA rfl rfl rfl rfl rfl (.here _) rfl rfl ?_
            refine TL.run (pr_pure rfl) rfl ?_
            refine TL.nil ?_
            refine TX.seqN ?_
            refine TC.ret ?_
            exact TX.fin0 (.inr rfl) (results2 rfl (RVal.cellA rfl (.here _) rfl) (RVal.tmp rfl)) (RV.of (q := (v0, 0)) (by have := ops_zero ho; unfold leafV; simp [*]; omega) RdSl.nil)

set_option maxRecDepth 100000 in
set_option maxHeartbeats 1000000 in
theorem rone_ok {H : Hp} {t : Term} {a : Val} {la : Value} (ho : operandsI t.kind = 1) (hA : RdV H la a) :
    Fn Try.prog 55 [.agg t.cells.toArray, .agg (a.cells la).toArray] H (fun v H1 => RV (applyV t.kind a v0) v H1) := by
  have hA1 : RdSl H 1 I64.cells la a.l := hA
  obtain ⟨aa, ac, rfl⟩ := hA1.len
  refine Fn.enter Try.func55 Try.ntmps55 rfl rfl (fun w0 => ?_)
  refine TC.seq ?_
  refine TC.region ?_
  refine TL.box rfl rfl (fun b2 => ?_)
  refine TL.box rfl rfl (fun b3 => ?_)
  refine TL.alloc rfl (fun b4 => ?_)
  refine TL.run (pr_pure rfl) rfl ?_
  refine TL.nil ?_
  refine TX.seqN ?_
  refine TC.seq ?_
  refine TC.block ?_
  refine TC.seq ?_
  refine TC.region ?_
  refine TL.run (pr_field rfl) rfl ?_
  refine TL.run (pr_own1 rfl (.there _ (.there _ (.here _))) rfl) rfl ?_
  refine TL.run (pr_pure rfl) rfl ?_
  refine TL.run (pr_pure rfl) rfl ?_
  refine TL.split (s := 10) rfl (fun g10 => ?_) (fun g10 => ?_)
  ·
    have q10 := of_decide_eq_true g10
    refine TL.gdY rfl rfl (pr_field rfl) rfl ?_
    refine TL.gdY rfl rfl (pr_own1 rfl (.there _ (.here _)) rfl) rfl ?_
    refine TL.gdY rfl rfl (pr_pure rfl) rfl ?_
    refine TL.run (pr_pure rfl) rfl ?_
    refine TL.run (pr_pure rfl) rfl ?_
    refine TL.nil ?_
    refine TX.seqN ?_
    refine TC.condD rfl (fun c6 => ?_) (fun c6 => ?_)
    ·
      refine TC.seq ?_
      refine TC.region ?_
      refine TL.run (pr_field rfl) rfl ?_
      refine TL.run (pr_own1 rfl (.there _ (.here _)) rfl) rfl ?_
      refine TL.run (pr_pure rfl) rfl ?_
      refine TL.callS (enters rfl rfl rfl rfl) (rtruth_ok _) rfl ?_
      refine TL.storeA rfl rfl rfl rfl rfl (.here _) rfl rfl ?_
      refine TL.run (pr_pure rfl) rfl ?_
      refine TL.nil ?_
      refine TX.seqN ?_
      refine TC.ret ?_
      refine TX.blkR ?_
      refine TX.thenR ?_
      exact TX.fin0 (.inr rfl) (results2 rfl (RVal.cellA rfl (.here _) rfl) (RVal.tmp rfl)) (RV.of (q := (truthV (decide (a.n = 0)), 0)) (by rcases ops_one ho with e | e <;> simp_all [applyV, isNumOp, wrongV]) RdSl.nil)
    ·
      refine TC.seq ?_
      refine TC.region ?_
      refine TL.run (pr_field rfl) rfl ?_
      refine TL.run (pr_own1 rfl (.there _ (.there _ (.here _))) rfl) rfl ?_
      refine TL.run (pr_pure rfl) rfl ?_
      refine TL.run (pr_pure rfl) rfl ?_
      refine TL.split (s := 23) rfl (fun g23 => ?_) (fun g23 => ?_)
      ·
        have q23 := of_decide_eq_true g23
        refine TL.gdY rfl rfl (pr_field rfl) rfl ?_
        refine TL.gdY rfl rfl (pr_own1 rfl (.there _ (.here _)) rfl) rfl ?_
        refine TL.gdY rfl rfl (pr_pure rfl) rfl ?_
        refine TL.run (pr_pure rfl) rfl ?_
        refine TL.run (pr_pure rfl) rfl ?_
        refine TL.nil ?_
        refine TX.seqN ?_
        refine TC.condD rfl (fun c19 => ?_) (fun c19 => ?_)
        ·
          refine TC.seq ?_
          refine TC.region ?_
          refine TL.run (pr_field rfl) rfl ?_
          refine TL.run (pr_own1 rfl (.there _ (.here _)) rfl) rfl ?_
          refine TL.run (pr_lenStr rfl rfl) rfl ?_
          refine TL.callS (enters rfl rfl rfl rfl) (rnum_ok _) rfl ?_
          refine TL.storeA rfl rfl rfl rfl rfl (.here _) rfl rfl ?_
          refine TL.run (pr_pure rfl) rfl ?_
          refine TL.nil ?_
          refine TX.seqN ?_
          refine TC.ret ?_
          refine TX.blkR ?_
          refine TX.thenR ?_
          exact TX.fin0 (.inr rfl) (results2 rfl (RVal.cellA rfl (.here _) rfl) (RVal.tmp rfl)) (RV.of (q := (⟨1, a.s.length, [], []⟩, 0)) (by rcases ops_one ho with e | e <;> simp_all [applyV, isNumOp, wrongV]) RdSl.nil)
        ·
          refine TC.seq ?_
          refine TC.region ?_
          refine TL.run (pr_field rfl) rfl ?_
          refine TL.run (pr_own1 rfl (.there _ (.there _ (.here _))) rfl) rfl ?_
          refine TL.run (pr_pure rfl) rfl ?_
          refine TL.run (pr_pure rfl) rfl ?_
          refine TL.split (s := 36) rfl (fun g36 => ?_) (fun g36 => ?_)
          ·
            have q36 := of_decide_eq_true g36
            refine TL.gdY rfl rfl (pr_field rfl) rfl ?_
            refine TL.gdY rfl rfl (pr_own1 rfl (.there _ (.here _)) rfl) rfl ?_
            refine TL.gdY rfl rfl (pr_pure rfl) rfl ?_
            refine TL.run (pr_pure rfl) rfl ?_
            refine TL.run (pr_pure rfl) rfl ?_
            refine TL.nil ?_
            refine TX.seqN ?_
            refine TC.condD rfl (fun c32 => ?_) (fun c32 => ?_)
            ·
              refine TC.seq ?_
              refine TC.region ?_
              refine TL.run (pr_field rfl) rfl ?_
              refine TL.run (pr_own1 rfl (.there _ (.here _)) rfl) rfl ?_
              refine TL.run (pr_lenSl rfl rfl hA1) rfl ?_
              refine TL.callS (enters rfl rfl rfl rfl) (rnum_ok _) rfl ?_
              refine TL.storeA rfl rfl rfl rfl rfl (.here _) rfl rfl ?_
              refine TL.run (pr_pure rfl) rfl ?_
              refine TL.nil ?_
              refine TX.seqN ?_
              refine TC.ret ?_
              refine TX.blkR ?_
              refine TX.thenR ?_
              exact TX.fin0 (.inr rfl) (results2 rfl (RVal.cellA rfl (.here _) rfl) (RVal.tmp rfl)) (RV.of (q := (⟨1, a.l.length, [], []⟩, 0)) (by rcases ops_one ho with e | e <;> simp_all [applyV, isNumOp, wrongV]) RdSl.nil)
            ·
              refine TC.skip ?_
              refine TX.blkN ?_
              refine TX.seqN ?_
              refine TC.seq ?_
              refine TC.region ?_
              refine TL.run (pr_build rfl rfl) rfl ?_
              refine TL.storeA rfl rfl rfl rfl rfl (.here _) rfl rfl ?_
              refine TL.run (pr_pure rfl) rfl ?_
              refine TL.nil ?_
              refine TX.seqN ?_
              refine TC.ret ?_
              exact TX.fin0 (.inr rfl) (results2 rfl (RVal.cellA rfl (.here _) rfl) (RVal.tmp rfl)) (RV.of (q := (v0, 402)) (by rcases ops_one ho with e | e <;> simp_all [applyV, isNumOp, wrongV]) RdSl.nil)
          ·
            have q36 := of_decide_eq_false g36
            refine TL.gdN rfl rfl rfl rfl ?_
            refine TL.gdN rfl rfl rfl rfl ?_
            refine TL.gdN rfl rfl rfl rfl ?_
            refine TL.run (pr_pure rfl) rfl ?_
            refine TL.run (pr_pure rfl) rfl ?_
            refine TL.nil ?_
            refine TX.seqN ?_
            refine TC.condF rfl ?_
            refine TC.skip ?_
            refine TX.blkN ?_
            refine TX.seqN ?_
            refine TC.seq ?_
            refine TC.region ?_
            refine TL.run (pr_build rfl rfl) rfl ?_
            refine TL.storeA rfl rfl rfl rfl rfl (.here _) rfl rfl ?_
            refine TL.run (pr_pure rfl) rfl ?_
            refine TL.nil ?_
            refine TX.seqN ?_
            refine TC.ret ?_
            exact TX.fin0 (.inr rfl) (results2 rfl (RVal.cellA rfl (.here _) rfl) (RVal.tmp rfl)) (RV.of (q := (v0, 402)) (by rcases ops_one ho with e | e <;> simp_all [applyV, isNumOp, wrongV]) RdSl.nil)
      ·
        have q23 := of_decide_eq_false g23
        refine TL.gdN rfl rfl rfl rfl ?_
        refine TL.gdN rfl rfl rfl rfl ?_
        refine TL.gdN rfl rfl rfl rfl ?_
        refine TL.run (pr_pure rfl) rfl ?_
        refine TL.run (pr_pure rfl) rfl ?_
        refine TL.nil ?_
        refine TX.seqN ?_
        refine TC.condF rfl ?_
        refine TC.seq ?_
        refine TC.region ?_
        refine TL.run (pr_field rfl) rfl ?_
        refine TL.run (pr_own1 rfl (.there _ (.there _ (.here _))) rfl) rfl ?_
        refine TL.run (pr_pure rfl) rfl ?_
        refine TL.run (pr_pure rfl) rfl ?_
        refine TL.split (s := 36) rfl (fun g36 => ?_) (fun g36 => ?_)
        ·
          have q36 := of_decide_eq_true g36
          refine TL.gdY rfl rfl (pr_field rfl) rfl ?_
          refine TL.gdY rfl rfl (pr_own1 rfl (.there _ (.here _)) rfl) rfl ?_
          refine TL.gdY rfl rfl (pr_pure rfl) rfl ?_
          refine TL.run (pr_pure rfl) rfl ?_
          refine TL.run (pr_pure rfl) rfl ?_
          refine TL.nil ?_
          refine TX.seqN ?_
          refine TC.condD rfl (fun c32 => ?_) (fun c32 => ?_)
          ·
            refine TC.seq ?_
            refine TC.region ?_
            refine TL.run (pr_field rfl) rfl ?_
            refine TL.run (pr_own1 rfl (.there _ (.here _)) rfl) rfl ?_
            refine TL.run (pr_lenSl rfl rfl hA1) rfl ?_
            refine TL.callS (enters rfl rfl rfl rfl) (rnum_ok _) rfl ?_
            refine TL.storeA rfl rfl rfl rfl rfl (.here _) rfl rfl ?_
            refine TL.run (pr_pure rfl) rfl ?_
            refine TL.nil ?_
            refine TX.seqN ?_
            refine TC.ret ?_
            refine TX.blkR ?_
            refine TX.thenR ?_
            exact TX.fin0 (.inr rfl) (results2 rfl (RVal.cellA rfl (.here _) rfl) (RVal.tmp rfl)) (RV.of (q := (⟨1, a.l.length, [], []⟩, 0)) (by rcases ops_one ho with e | e <;> simp_all [applyV, isNumOp, wrongV]) RdSl.nil)
          ·
            refine TC.skip ?_
            refine TX.blkN ?_
            refine TX.seqN ?_
            refine TC.seq ?_
            refine TC.region ?_
            refine TL.run (pr_build rfl rfl) rfl ?_
            refine TL.storeA rfl rfl rfl rfl rfl (.here _) rfl rfl ?_
            refine TL.run (pr_pure rfl) rfl ?_
            refine TL.nil ?_
            refine TX.seqN ?_
            refine TC.ret ?_
            exact TX.fin0 (.inr rfl) (results2 rfl (RVal.cellA rfl (.here _) rfl) (RVal.tmp rfl)) (RV.of (q := (v0, 402)) (by rcases ops_one ho with e | e <;> simp_all [applyV, isNumOp, wrongV]) RdSl.nil)
        ·
          have q36 := of_decide_eq_false g36
          refine TL.gdN rfl rfl rfl rfl ?_
          refine TL.gdN rfl rfl rfl rfl ?_
          refine TL.gdN rfl rfl rfl rfl ?_
          refine TL.run (pr_pure rfl) rfl ?_
          refine TL.run (pr_pure rfl) rfl ?_
          refine TL.nil ?_
          refine TX.seqN ?_
          refine TC.condF rfl ?_
          refine TC.skip ?_
          refine TX.blkN ?_
          refine TX.seqN ?_
          refine TC.seq ?_
          refine TC.region ?_
          refine TL.run (pr_build rfl rfl) rfl ?_
          refine TL.storeA rfl rfl rfl rfl rfl (.here _) rfl rfl ?_
          refine TL.run (pr_pure rfl) rfl ?_
          refine TL.nil ?_
          refine TX.seqN ?_
          refine TC.ret ?_
          exact TX.fin0 (.inr rfl) (results2 rfl (RVal.cellA rfl (.here _) rfl) (RVal.tmp rfl)) (RV.of (q := (v0, 402)) (by rcases ops_one ho with e | e <;> simp_all [applyV, isNumOp, wrongV]) RdSl.nil)
  ·
    have q10 := of_decide_eq_false g10
    refine TL.gdN rfl rfl rfl rfl ?_
    refine TL.gdN rfl rfl rfl rfl ?_
    refine TL.gdN rfl rfl rfl rfl ?_
    refine TL.run (pr_pure rfl) rfl ?_
    refine TL.run (pr_pure rfl) rfl ?_
    refine TL.nil ?_
    refine TX.seqN ?_
    refine TC.condF rfl ?_
    refine TC.seq ?_
    refine TC.region ?_
    refine TL.run (pr_field rfl) rfl ?_
    refine TL.run (pr_own1 rfl (.there _ (.there _ (.here _))) rfl) rfl ?_
    refine TL.run (pr_pure rfl) rfl ?_
    refine TL.run (pr_pure rfl) rfl ?_
    refine TL.split (s := 23) rfl (fun g23 => ?_) (fun g23 => ?_)
    ·
      have q23 := of_decide_eq_true g23
      refine TL.gdY rfl rfl (pr_field rfl) rfl ?_
      refine TL.gdY rfl rfl (pr_own1 rfl (.there _ (.here _)) rfl) rfl ?_
      refine TL.gdY rfl rfl (pr_pure rfl) rfl ?_
      refine TL.run (pr_pure rfl) rfl ?_
      refine TL.run (pr_pure rfl) rfl ?_
      refine TL.nil ?_
      refine TX.seqN ?_
      refine TC.condD rfl (fun c19 => ?_) (fun c19 => ?_)
      ·
        refine TC.seq ?_
        refine TC.region ?_
        refine TL.run (pr_field rfl) rfl ?_
        refine TL.run (pr_own1 rfl (.there _ (.here _)) rfl) rfl ?_
        refine TL.run (pr_lenStr rfl rfl) rfl ?_
        refine TL.callS (enters rfl rfl rfl rfl) (rnum_ok _) rfl ?_
        refine TL.storeA rfl rfl rfl rfl rfl (.here _) rfl rfl ?_
        refine TL.run (pr_pure rfl) rfl ?_
        refine TL.nil ?_
        refine TX.seqN ?_
        refine TC.ret ?_
        refine TX.blkR ?_
        refine TX.thenR ?_
        exact TX.fin0 (.inr rfl) (results2 rfl (RVal.cellA rfl (.here _) rfl) (RVal.tmp rfl)) (RV.of (q := (⟨1, a.s.length, [], []⟩, 0)) (by rcases ops_one ho with e | e <;> simp_all [applyV, isNumOp, wrongV]) RdSl.nil)
      ·
        refine TC.seq ?_
        refine TC.region ?_
        refine TL.run (pr_field rfl) rfl ?_
        refine TL.run (pr_own1 rfl (.there _ (.there _ (.here _))) rfl) rfl ?_
        refine TL.run (pr_pure rfl) rfl ?_
        refine TL.run (pr_pure rfl) rfl ?_
        refine TL.split (s := 36) rfl (fun g36 => ?_) (fun g36 => ?_)
        ·
          have q36 := of_decide_eq_true g36
          refine TL.gdY rfl rfl (pr_field rfl) rfl ?_
          refine TL.gdY rfl rfl (pr_own1 rfl (.there _ (.here _)) rfl) rfl ?_
          refine TL.gdY rfl rfl (pr_pure rfl) rfl ?_
          refine TL.run (pr_pure rfl) rfl ?_
          refine TL.run (pr_pure rfl) rfl ?_
          refine TL.nil ?_
          refine TX.seqN ?_
          refine TC.condD rfl (fun c32 => ?_) (fun c32 => ?_)
          ·
            refine TC.seq ?_
            refine TC.region ?_
            refine TL.run (pr_field rfl) rfl ?_
            refine TL.run (pr_own1 rfl (.there _ (.here _)) rfl) rfl ?_
            refine TL.run (pr_lenSl rfl rfl hA1) rfl ?_
            refine TL.callS (enters rfl rfl rfl rfl) (rnum_ok _) rfl ?_
            refine TL.storeA rfl rfl rfl rfl rfl (.here _) rfl rfl ?_
            refine TL.run (pr_pure rfl) rfl ?_
            refine TL.nil ?_
            refine TX.seqN ?_
            refine TC.ret ?_
            refine TX.blkR ?_
            refine TX.thenR ?_
            exact TX.fin0 (.inr rfl) (results2 rfl (RVal.cellA rfl (.here _) rfl) (RVal.tmp rfl)) (RV.of (q := (⟨1, a.l.length, [], []⟩, 0)) (by rcases ops_one ho with e | e <;> simp_all [applyV, isNumOp, wrongV]) RdSl.nil)
          ·
            refine TC.skip ?_
            refine TX.blkN ?_
            refine TX.seqN ?_
            refine TC.seq ?_
            refine TC.region ?_
            refine TL.run (pr_build rfl rfl) rfl ?_
            refine TL.storeA rfl rfl rfl rfl rfl (.here _) rfl rfl ?_
            refine TL.run (pr_pure rfl) rfl ?_
            refine TL.nil ?_
            refine TX.seqN ?_
            refine TC.ret ?_
            exact TX.fin0 (.inr rfl) (results2 rfl (RVal.cellA rfl (.here _) rfl) (RVal.tmp rfl)) (RV.of (q := (v0, 402)) (by rcases ops_one ho with e | e <;> simp_all [applyV, isNumOp, wrongV]) RdSl.nil)
        ·
          have q36 := of_decide_eq_false g36
          refine TL.gdN rfl rfl rfl rfl ?_
          refine TL.gdN rfl rfl rfl rfl ?_
          refine TL.gdN rfl rfl rfl rfl ?_
          refine TL.run (pr_pure rfl) rfl ?_
          refine TL.run (pr_pure rfl) rfl ?_
          refine TL.nil ?_
          refine TX.seqN ?_
          refine TC.condF rfl ?_
          refine TC.skip ?_
          refine TX.blkN ?_
          refine TX.seqN ?_
          refine TC.seq ?_
          refine TC.region ?_
          refine TL.run (pr_build rfl rfl) rfl ?_
          refine TL.storeA rfl rfl rfl rfl rfl (.here _) rfl rfl ?_
          refine TL.run (pr_pure rfl) rfl ?_
          refine TL.nil ?_
          refine TX.seqN ?_
          refine TC.ret ?_
          exact TX.fin0 (.inr rfl) (results2 rfl (RVal.cellA rfl (.here _) rfl) (RVal.tmp rfl)) (RV.of (q := (v0, 402)) (by rcases ops_one ho with e | e <;> simp_all [applyV, isNumOp, wrongV]) RdSl.nil)
    ·
      have q23 := of_decide_eq_false g23
      refine TL.gdN rfl rfl rfl rfl ?_
      refine TL.gdN rfl rfl rfl rfl ?_
      refine TL.gdN rfl rfl rfl rfl ?_
      refine TL.run (pr_pure rfl) rfl ?_
      refine TL.run (pr_pure rfl) rfl ?_
      refine TL.nil ?_
      refine TX.seqN ?_
      refine TC.condF rfl ?_
      refine TC.seq ?_
      refine TC.region ?_
      refine TL.run (pr_field rfl) rfl ?_
      refine TL.run (pr_own1 rfl (.there _ (.there _ (.here _))) rfl) rfl ?_
      refine TL.run (pr_pure rfl) rfl ?_
      refine TL.run (pr_pure rfl) rfl ?_
      refine TL.split (s := 36) rfl (fun g36 => ?_) (fun g36 => ?_)
      ·
        have q36 := of_decide_eq_true g36
        refine TL.gdY rfl rfl (pr_field rfl) rfl ?_
        refine TL.gdY rfl rfl (pr_own1 rfl (.there _ (.here _)) rfl) rfl ?_
        refine TL.gdY rfl rfl (pr_pure rfl) rfl ?_
        refine TL.run (pr_pure rfl) rfl ?_
        refine TL.run (pr_pure rfl) rfl ?_
        refine TL.nil ?_
        refine TX.seqN ?_
        refine TC.condD rfl (fun c32 => ?_) (fun c32 => ?_)
        ·
          refine TC.seq ?_
          refine TC.region ?_
          refine TL.run (pr_field rfl) rfl ?_
          refine TL.run (pr_own1 rfl (.there _ (.here _)) rfl) rfl ?_
          refine TL.run (pr_lenSl rfl rfl hA1) rfl ?_
          refine TL.callS (enters rfl rfl rfl rfl) (rnum_ok _) rfl ?_
          refine TL.storeA rfl rfl rfl rfl rfl (.here _) rfl rfl ?_
          refine TL.run (pr_pure rfl) rfl ?_
          refine TL.nil ?_
          refine TX.seqN ?_
          refine TC.ret ?_
          refine TX.blkR ?_
          refine TX.thenR ?_
          exact TX.fin0 (.inr rfl) (results2 rfl (RVal.cellA rfl (.here _) rfl) (RVal.tmp rfl)) (RV.of (q := (⟨1, a.l.length, [], []⟩, 0)) (by rcases ops_one ho with e | e <;> simp_all [applyV, isNumOp, wrongV]) RdSl.nil)
        ·
          refine TC.skip ?_
          refine TX.blkN ?_
          refine TX.seqN ?_
          refine TC.seq ?_
          refine TC.region ?_
          refine TL.run (pr_build rfl rfl) rfl ?_
          refine TL.storeA rfl rfl rfl rfl rfl (.here _) rfl rfl ?_
          refine TL.run (pr_pure rfl) rfl ?_
          refine TL.nil ?_
          refine TX.seqN ?_
          refine TC.ret ?_
          exact TX.fin0 (.inr rfl) (results2 rfl (RVal.cellA rfl (.here _) rfl) (RVal.tmp rfl)) (RV.of (q := (v0, 402)) (by rcases ops_one ho with e | e <;> simp_all [applyV, isNumOp, wrongV]) RdSl.nil)
      ·
        have q36 := of_decide_eq_false g36
        refine TL.gdN rfl rfl rfl rfl ?_
        refine TL.gdN rfl rfl rfl rfl ?_
        refine TL.gdN rfl rfl rfl rfl ?_
        refine TL.run (pr_pure rfl) rfl ?_
        refine TL.run (pr_pure rfl) rfl ?_
        refine TL.nil ?_
        refine TX.seqN ?_
        refine TC.condF rfl ?_
        refine TC.skip ?_
        refine TX.blkN ?_
        refine TX.seqN ?_
        refine TC.seq ?_
        refine TC.region ?_
        refine TL.run (pr_build rfl rfl) rfl ?_
        refine TL.storeA rfl rfl rfl rfl rfl (.here _) rfl rfl ?_
        refine TL.run (pr_pure rfl) rfl ?_
        refine TL.nil ?_
        refine TX.seqN ?_
        refine TC.ret ?_
        exact TX.fin0 (.inr rfl) (results2 rfl (RVal.cellA rfl (.here _) rfl) (RVal.tmp rfl)) (RV.of (q := (v0, 402)) (by rcases ops_one ho with e | e <;> simp_all [applyV, isNumOp, wrongV]) RdSl.nil)

set_option maxRecDepth 100000 in
set_option maxHeartbeats 1000000 in
theorem rdiv_ok {H : Hp} (k a b : Int) (hk : k = 9 ∨ k = 10) :
    FnS Try.prog 81 [.int .i64 k, .int .i64 a, .int .i64 b] H (.tuple #[.agg ((numV k a b).1.cells (.slice none 0 0)).toArray, .int .i64 (numV k a b).2]) := by
  refine FnS.enter Try.func81 Try.ntmps81 rfl rfl (fun w0 => ?_)
  refine TC.seq ?_
  refine TC.region ?_
  refine TL.alloc rfl (fun b6 => ?_)
  refine TL.run (pr_pure rfl) rfl ?_
  refine TL.nil ?_
  refine TX.seqN ?_
  refine TC.seq ?_
  refine TC.seq ?_
  refine TC.region ?_
  refine TL.run (pr_pure rfl) rfl ?_
  refine TL.run (pr_pure rfl) rfl ?_
  refine TL.nil ?_
  refine TX.seqN ?_
  refine TC.condD rfl (fun c9 => ?_) (fun c9 => ?_)
  ·
    refine TC.seq ?_
    refine TC.region ?_
    refine TL.run (pr_build rfl rfl) rfl ?_
    refine TL.storeA rfl rfl rfl rfl rfl (.here _) rfl rfl ?_
    refine TL.run (pr_pure rfl) rfl ?_
    refine TL.nil ?_
    refine TX.seqN ?_
    refine TC.ret ?_
    refine TX.thenR ?_
    exact TX.finS (.inr rfl) (results2 rfl (RVal.cellA rfl (.here _) rfl) (RVal.tmp rfl)) (by rcases hk with rfl | rfl <;> simp only [numV_div, numV_mod] <;> first | (exfalso; omega) | (rw [if_pos c9]; rfl) | (rw [if_neg c9, c12, rem_neg]; rfl) | (rw [if_neg c9, c12, ← conv_neg]; rfl) | (rw [if_neg c9]; rfl))
  ·
    refine TC.skip ?_
    refine TX.seqN ?_
    refine TC.seq ?_
    refine TC.seq ?_
    refine TC.region ?_
    refine TL.run (pr_pure rfl) rfl ?_
    refine TL.run (pr_pure rfl) rfl ?_
    refine TL.nil ?_
    refine TX.seqN ?_
    refine TC.condD rfl (fun c12 => ?_) (fun c12 => ?_)
    ·
      refine TC.seq ?_
      refine TC.seq ?_
      refine TC.region ?_
      refine TL.run (pr_pure rfl) rfl ?_
      refine TL.run (pr_pure rfl) rfl ?_
      refine TL.nil ?_
      refine TX.seqN ?_
      refine TC.condD rfl (fun c14 => ?_) (fun c14 => ?_)
      ·
        refine TC.seq ?_
        refine TC.region ?_
        refine TL.callS (enters rfl rfl rfl rfl) (rnum_ok _) rfl ?_
        refine TL.storeA rfl rfl rfl rfl rfl (.here _) rfl rfl ?_
        refine TL.run (pr_pure rfl) rfl ?_
        refine TL.nil ?_
        refine TX.seqN ?_
        refine TC.ret ?_
        refine TX.thenR ?_
        refine TX.thenR ?_
        exact TX.finS (.inr rfl) (results2 rfl (RVal.cellA rfl (.here _) rfl) (RVal.tmp rfl)) (by rcases hk with rfl | rfl <;> simp only [numV_div, numV_mod] <;> first | (exfalso; omega) | (rw [if_pos c9]; rfl) | (rw [if_neg c9, c12, rem_neg]; rfl) | (rw [if_neg c9, c12, ← conv_neg]; rfl) | (rw [if_neg c9]; rfl))
      ·
        refine TC.skip ?_
        refine TX.seqN ?_
        refine TC.seq ?_
        refine TC.region ?_
        refine TL.run (pr_pure rfl) rfl ?_
        refine TL.run (pr_conv rfl) rfl ?_
        refine TL.run (pr_pure rfl) rfl ?_
        refine TL.run (pr_conv rfl) rfl ?_
        refine TL.callS (enters rfl rfl rfl rfl) (rnum_ok _) rfl ?_
        refine TL.storeA rfl rfl rfl rfl rfl (.here _) rfl rfl ?_
        refine TL.run (pr_pure rfl) rfl ?_
        refine TL.nil ?_
        refine TX.seqN ?_
        refine TC.ret ?_
        refine TX.thenR ?_
        exact TX.finS (.inr rfl) (results2 rfl (RVal.cellA rfl (.here _) rfl) (RVal.tmp rfl)) (by rcases hk with rfl | rfl <;> simp only [numV_div, numV_mod] <;> first | (exfalso; omega) | (rw [if_pos c9]; rfl) | (rw [if_neg c9, c12, rem_neg]; rfl) | (rw [if_neg c9, c12, ← conv_neg]; rfl) | (rw [if_neg c9]; rfl))
    ·
      refine TC.skip ?_
      refine TX.seqN ?_
      refine TC.seq ?_
      refine TC.seq ?_
      refine TC.region ?_
      refine TL.run (pr_pure rfl) rfl ?_
      refine TL.run (pr_pure rfl) rfl ?_
      refine TL.nil ?_
      refine TX.seqN ?_
      refine TC.condD rfl (fun c22 => ?_) (fun c22 => ?_)
      ·
        refine TC.seq ?_
        refine TC.region ?_
        refine TL.run (pr_pure rfl) rfl ?_
        refine TL.run (pr_pure rfl) rfl ?_
        refine TL.run (pr_rem rfl rfl c9) rfl ?_
        refine TL.callS (enters rfl rfl rfl rfl) (rnum_ok _) rfl ?_
        refine TL.storeA rfl rfl rfl rfl rfl (.here _) rfl rfl ?_
        refine TL.run (pr_pure rfl) rfl ?_
        refine TL.nil ?_
        refine TX.seqN ?_
        refine TC.ret ?_
        refine TX.thenR ?_
        exact TX.finS (.inr rfl) (results2 rfl (RVal.cellA rfl (.here _) rfl) (RVal.tmp rfl)) (by rcases hk with rfl | rfl <;> simp only [numV_div, numV_mod] <;> first | (exfalso; omega) | (rw [if_pos c9]; rfl) | (rw [if_neg c9, c12, rem_neg]; rfl) | (rw [if_neg c9, c12, ← conv_neg]; rfl) | (rw [if_neg c9]; rfl))
      ·
        refine TC.skip ?_
        refine TX.seqN ?_
        refine TC.seq ?_
        refine TC.region ?_
        refine TL.run (pr_pure rfl) rfl ?_
        refine TL.run (pr_pure rfl) rfl ?_
        refine TL.run (pr_quo rfl rfl c9) rfl ?_
        refine TL.callS (enters rfl rfl rfl rfl) (rnum_ok _) rfl ?_
        refine TL.storeA rfl rfl rfl rfl rfl (.here _) rfl rfl ?_
        refine TL.run (pr_pure rfl) rfl ?_
        refine TL.nil ?_
        refine TX.seqN ?_
        refine TC.ret ?_
        exact TX.finS (.inr rfl) (results2 rfl (RVal.cellA rfl (.here _) rfl) (RVal.tmp rfl)) (by rcases hk with rfl | rfl <;> simp only [numV_div, numV_mod] <;> first | (exfalso; omega) | (rw [if_pos c9]; rfl) | (rw [if_neg c9, c12, rem_neg]; rfl) | (rw [if_neg c9, c12, ← conv_neg]; rfl) | (rw [if_neg c9]; rfl))

set_option maxRecDepth 100000 in
set_option maxHeartbeats 1000000 in
theorem rnumbers_ok {H : Hp} (k a b : Int) (hk : isNumOp k = true) :
    FnS Try.prog 64 [.int .i64 k, .int .i64 a, .int .i64 b] H (.tuple #[.agg ((numV k a b).1.cells (.slice none 0 0)).toArray, .int .i64 (numV k a b).2]) := by
  have hk6 : k = 6 ∨ k = 7 ∨ k = 8 ∨ k = 9 ∨ k = 10 ∨ k = 12 := by unfold isNumOp at hk; simpa using hk
  refine FnS.enter Try.func64 Try.ntmps64 rfl rfl (fun w0 => ?_)
  refine TC.seq ?_
  refine TC.region ?_
  refine TL.alloc rfl (fun b6 => ?_)
  refine TL.run (pr_pure rfl) rfl ?_
  refine TL.nil ?_
  refine TX.seqN ?_
  refine TC.seq ?_
  refine TC.seq ?_
  refine TC.region ?_
  refine TL.run (pr_pure rfl) rfl ?_
  refine TL.nil ?_
  refine TX.seqN ?_
  refine TC.block ?_
  refine TC.seq ?_
  refine TC.region ?_
  refine TL.run (pr_pure rfl) rfl ?_
  refine TL.run (pr_pure rfl) rfl ?_
  refine TL.nil ?_
  refine TX.seqN ?_
  refine TC.condD rfl (fun c9 => ?_) (fun c9 => ?_)
  ·
    refine TC.seq ?_
    refine TC.region ?_
    refine TL.run (pr_pure rfl) rfl ?_
    refine TL.run (pr_conv rfl) rfl ?_
    refine TL.run (pr_pure rfl) rfl ?_
    refine TL.run (pr_conv rfl) rfl ?_
    refine TL.run (pr_pure rfl) rfl ?_
    refine TL.run (pr_conv rfl) rfl ?_
    refine TL.callS (enters rfl rfl rfl rfl) (rnum_ok _) rfl ?_
    refine TL.storeA rfl rfl rfl rfl rfl (.here _) rfl rfl ?_
    refine TL.run (pr_pure rfl) rfl ?_
    refine TL.nil ?_
    refine TX.seqN ?_
    refine TC.ret ?_
    refine TX.blkR ?_
    refine TX.thenR ?_
    exact TX.finS (.inr rfl) (results2 rfl (RVal.cellA rfl (.here _) rfl) (RVal.tmp rfl)) (by first | rfl | (subst c9; rw [conv_add]; rfl) | (subst c18; rw [conv_sub]; rfl) | (subst c27; rw [conv_mul]; rfl) | (subst c36; rfl))
  ·
    refine TC.seq ?_
    refine TC.region ?_
    refine TL.run (pr_pure rfl) rfl ?_
    refine TL.run (pr_pure rfl) rfl ?_
    refine TL.nil ?_
    refine TX.seqN ?_
    refine TC.condD rfl (fun c18 => ?_) (fun c18 => ?_)
    ·
      refine TC.seq ?_
      refine TC.region ?_
      refine TL.run (pr_pure rfl) rfl ?_
      refine TL.run (pr_conv rfl) rfl ?_
      refine TL.run (pr_pure rfl) rfl ?_
      refine TL.run (pr_conv rfl) rfl ?_
      refine TL.run (pr_pure rfl) rfl ?_
      refine TL.run (pr_conv rfl) rfl ?_
      refine TL.callS (enters rfl rfl rfl rfl) (rnum_ok _) rfl ?_
      refine TL.storeA rfl rfl rfl rfl rfl (.here _) rfl rfl ?_
      refine TL.run (pr_pure rfl) rfl ?_
      refine TL.nil ?_
      refine TX.seqN ?_
      refine TC.ret ?_
      refine TX.blkR ?_
      refine TX.thenR ?_
      exact TX.finS (.inr rfl) (results2 rfl (RVal.cellA rfl (.here _) rfl) (RVal.tmp rfl)) (by first | rfl | (subst c9; rw [conv_add]; rfl) | (subst c18; rw [conv_sub]; rfl) | (subst c27; rw [conv_mul]; rfl) | (subst c36; rfl))
    ·
      refine TC.seq ?_
      refine TC.region ?_
      refine TL.run (pr_pure rfl) rfl ?_
      refine TL.run (pr_pure rfl) rfl ?_
      refine TL.nil ?_
      refine TX.seqN ?_
      refine TC.condD rfl (fun c27 => ?_) (fun c27 => ?_)
      ·
        refine TC.seq ?_
        refine TC.region ?_
        refine TL.run (pr_pure rfl) rfl ?_
        refine TL.run (pr_conv rfl) rfl ?_
        refine TL.run (pr_pure rfl) rfl ?_
        refine TL.run (pr_conv rfl) rfl ?_
        refine TL.run (pr_pure rfl) rfl ?_
        refine TL.run (pr_conv rfl) rfl ?_
        refine TL.callS (enters rfl rfl rfl rfl) (rnum_ok _) rfl ?_
        refine TL.storeA rfl rfl rfl rfl rfl (.here _) rfl rfl ?_
        refine TL.run (pr_pure rfl) rfl ?_
        refine TL.nil ?_
        refine TX.seqN ?_
        refine TC.ret ?_
        refine TX.blkR ?_
        refine TX.thenR ?_
        exact TX.finS (.inr rfl) (results2 rfl (RVal.cellA rfl (.here _) rfl) (RVal.tmp rfl)) (by first | rfl | (subst c9; rw [conv_add]; rfl) | (subst c18; rw [conv_sub]; rfl) | (subst c27; rw [conv_mul]; rfl) | (subst c36; rfl))
      ·
        refine TC.seq ?_
        refine TC.region ?_
        refine TL.run (pr_pure rfl) rfl ?_
        refine TL.run (pr_pure rfl) rfl ?_
        refine TL.nil ?_
        refine TX.seqN ?_
        refine TC.condD rfl (fun c36 => ?_) (fun c36 => ?_)
        ·
          refine TC.seq ?_
          refine TC.region ?_
          refine TL.run (pr_pure rfl) rfl ?_
          refine TL.run (pr_pure rfl) rfl ?_
          refine TL.run (pr_pure rfl) rfl ?_
          refine TL.callS (enters rfl rfl rfl rfl) (rtruth_ok _) rfl ?_
          refine TL.storeA rfl rfl rfl rfl rfl (.here _) rfl rfl ?_
          refine TL.run (pr_pure rfl) rfl ?_
          refine TL.nil ?_
          refine TX.seqN ?_
          refine TC.ret ?_
          refine TX.blkR ?_
          refine TX.thenR ?_
          exact TX.finS (.inr rfl) (results2 rfl (RVal.cellA rfl (.here _) rfl) (RVal.tmp rfl)) (by first | rfl | (subst c9; rw [conv_add]; rfl) | (subst c18; rw [conv_sub]; rfl) | (subst c27; rw [conv_mul]; rfl) | (subst c36; rfl))
        ·
          refine TC.skip ?_
          refine TX.blkN ?_
          refine TX.seqN ?_
          refine TC.seq ?_
          refine TC.region ?_
          refine TL.run (pr_pure rfl) rfl ?_
          refine TL.run (pr_pure rfl) rfl ?_
          refine TL.run (pr_pure rfl) rfl ?_
          refine TL.callS (enters rfl rfl rfl rfl) (rdiv_ok k a b (by omega)) rfl ?_
          refine TL.run (pr_pure rfl) rfl ?_
          refine TL.run (pr_pure rfl) rfl ?_
          refine TL.storeA rfl rfl rfl rfl rfl (.here _) rfl rfl ?_
          refine TL.run (pr_pure rfl) rfl ?_
          refine TL.nil ?_
          refine TX.seqN ?_
          refine TC.ret ?_
          exact TX.finS (.inr rfl) (results2 rfl (RVal.cellA rfl (.here _) rfl) (RVal.tmp rfl)) (by first | rfl | (subst c9; rw [conv_add]; rfl) | (subst c18; rw [conv_sub]; rfl) | (subst c27; rw [conv_mul]; rfl) | (subst c36; rfl))

set_option maxRecDepth 100000 in
set_option maxHeartbeats 1000000 in
theorem rlisted_ok {H : Hp} {a b : Val} {la : Value} (k n : Int) (hn : b.n = n) (hA : RdV H la a) :
    Fn Try.prog 63 [.int .i64 k, la, .int .i64 n] H (fun v H1 => RV (if k = 17 then atV a b else pushV a b) v H1) := by
  subst hn
  have hA1 : RdSl H 1 I64.cells la a.l := hA
  have hmax := hA1.max
  obtain ⟨aa, ac, rfl⟩ := hA1.len
  refine Fn.enter Try.func63 Try.ntmps63 rfl rfl (fun w0 => ?_)
  refine TC.seq ?_
  refine TC.region ?_
  refine TL.alloc rfl (fun b6 => ?_)
  refine TL.run (pr_pure rfl) rfl ?_
  refine TL.nil ?_
  refine TX.seqN ?_
  refine TC.seq ?_
  refine TC.seq ?_
  refine TC.region ?_
  refine TL.run (pr_pure rfl) rfl ?_
  refine TL.run (pr_pure rfl) rfl ?_
  refine TL.nil ?_
  refine TX.seqN ?_
  refine TC.condD rfl (fun c9 => ?_) (fun c9 => ?_)
  ·
    refine TC.seq ?_
    refine TC.seq ?_
    refine TC.region ?_
    refine TL.run (pr_pure rfl) rfl ?_
    refine TL.run (pr_pure rfl) rfl ?_
    refine TL.run (pr_pure rfl) rfl ?_
    refine TL.split (s := 12) rfl (fun g12 => ?_) (fun g12 => ?_)
    ·
      have q12 := of_decide_eq_true g12
      refine TL.gdN rfl rfl rfl rfl ?_
      refine TL.gdN rfl rfl rfl rfl ?_
      refine TL.gdN rfl rfl rfl rfl ?_
      refine TL.gdN rfl rfl rfl rfl ?_
      refine TL.run (pr_pure rfl) rfl ?_
      refine TL.nil ?_
      refine TX.seqN ?_
      refine TC.condT rfl ?_
      refine TC.seq ?_
      refine TC.region ?_
      refine TL.run (pr_build rfl rfl) rfl ?_
      refine TL.storeA rfl rfl rfl rfl rfl (.here _) rfl rfl ?_
      refine TL.run (pr_pure rfl) rfl ?_
      refine TL.nil ?_
      refine TX.seqN ?_
      refine TC.ret ?_
      refine TX.thenR ?_
      refine TX.thenR ?_
      exact TX.fin0 (.inr rfl) (results2 rfl (RVal.cellA rfl (.here _) rfl) (RVal.tmp rfl)) (RV.of (q := (v0, 404)) (by simp only [c9, if_true]; unfold atV; rw [if_pos (by first | (simp_all; done) | (simp_all; omega))]) RdSl.nil)
    ·
      have q12 := of_decide_eq_false g12
      refine TL.gdY rfl rfl (pr_pure rfl) rfl ?_
      refine TL.gdY rfl rfl (pr_pure rfl) rfl ?_
      refine TL.gdY rfl rfl (pr_lenSl rfl rfl hA1) rfl ?_
      refine TL.gdY rfl rfl (pr_pure rfl) rfl ?_
      refine TL.run (pr_pure rfl) rfl ?_
      refine TL.nil ?_
      refine TX.seqN ?_
      refine TC.condD rfl (fun c17 => ?_) (fun c17 => ?_)
      ·
        refine TC.seq ?_
        refine TC.region ?_
        refine TL.run (pr_build rfl rfl) rfl ?_
        refine TL.storeA rfl rfl rfl rfl rfl (.here _) rfl rfl ?_
        refine TL.run (pr_pure rfl) rfl ?_
        refine TL.nil ?_
        refine TX.seqN ?_
        refine TC.ret ?_
        refine TX.thenR ?_
        refine TX.thenR ?_
        exact TX.fin0 (.inr rfl) (results2 rfl (RVal.cellA rfl (.here _) rfl) (RVal.tmp rfl)) (RV.of (q := (v0, 404)) (by simp only [c9, if_true]; unfold atV; rw [if_pos (by first | (simp_all; done) | (simp_all; omega))]) RdSl.nil)
      ·
        obtain ⟨x, hx⟩ := getSome (l := a.l) (i := b.n) (by simp_all) (by simp_all)
        refine TC.skip ?_
        refine TX.seqN ?_
        refine TC.seq ?_
        refine TC.region ?_
        refine TL.run (pr_pure rfl) rfl ?_
        refine TL.run (pr_pure rfl) rfl ?_
        refine TL.run (pr_indexSl rfl hA1 rfl (by omega) (by omega)) rfl ?_
        refine TL.run (pr_el0 hA1 hx rfl rfl) rfl ?_
        refine TL.callS (enters rfl rfl rfl rfl) (rnum_ok _) rfl ?_
        refine TL.storeA rfl rfl rfl rfl rfl (.here _) rfl rfl ?_
        refine TL.run (pr_pure rfl) rfl ?_
        refine TL.nil ?_
        refine TX.seqN ?_
        refine TC.ret ?_
        refine TX.thenR ?_
        exact TX.fin0 (.inr rfl) (results2 rfl (RVal.cellA rfl (.here _) rfl) (RVal.tmp rfl)) (RV.of (q := (⟨1, x, [], []⟩, 0)) (by simp only [c9, if_true]; unfold atV; rw [if_neg (by first | (simp_all; done) | (simp_all; omega)), hx]; rfl) RdSl.nil)
  ·
    refine TC.skip ?_
    refine TX.seqN ?_
    refine TC.seq ?_
    refine TC.seq ?_
    refine TC.region ?_
    refine TL.run (pr_pure rfl) rfl ?_
    refine TL.run (pr_lenSl rfl rfl hA1) rfl ?_
    refine TL.run (pr_pure rfl) rfl ?_
    refine TL.nil ?_
    refine TX.seqN ?_
    refine TC.condD rfl (fun c26 => ?_) (fun c26 => ?_)
    ·
      refine TC.seq ?_
      refine TC.region ?_
      refine TL.run (pr_build rfl rfl) rfl ?_
      refine TL.storeA rfl rfl rfl rfl rfl (.here _) rfl rfl ?_
      refine TL.run (pr_pure rfl) rfl ?_
      refine TL.nil ?_
      refine TX.seqN ?_
      refine TC.ret ?_
      refine TX.thenR ?_
      exact TX.fin0 (.inr rfl) (results2 rfl (RVal.cellA rfl (.here _) rfl) (RVal.tmp rfl)) (RV.of (q := (v0, 405)) (by rw [if_neg c9]; unfold pushV; rw [if_pos c26]) RdSl.nil)
    ·
      refine TC.skip ?_
      refine TX.seqN ?_
      refine TC.seq ?_
      refine TC.region ?_
      refine TL.run (pr_pure rfl) rfl ?_
      refine TL.append (enc := I64.cells) rfl rfl rfl (OwnSl.nil (enc := I64.cells)) (Src.sl hA1) (by simp; omega) rfl (.new _ rfl) rfl (fun a29 c29 ob29 hO29 => ?_)
      refine TL.run (pr_pure rfl) rfl ?_
      refine TL.bslice rfl rfl rfl rfl (fun b31 => ?_)
      refine TL.append (enc := I64.cells) rfl rfl rfl hO29 (Src.own [b.n] (.here _) rfl rfl) (by simp; omega) rfl (.skip _ (.skip _ .all)) rfl (fun a32 c32 ob32 hO32 => ?_)
      refine TL.run (pr_build rfl rfl) rfl ?_
      refine TL.storeA rfl rfl rfl rfl rfl (.there _ (.here _)) rfl rfl ?_
      refine TL.run (pr_pure rfl) rfl ?_
      refine TL.nil ?_
      refine TX.seqN ?_
      refine TC.ret ?_
      refine TX.pubO hO32 (.skip _ (.skip _ .all)) (by simp) (fun H1 hle hR => ?_)
      exact TX.fin0 (.inr rfl) (results2 rfl (RVal.cellA rfl (.there _ (.here _)) rfl) (RVal.tmp rfl)) (RV.of (q := (⟨4, 0, [], ([] ++ a.l) ++ [b.n]⟩, 0)) (by rw [if_neg c9]; unfold pushV; rw [if_neg c26]; rfl) hR)

set_option maxRecDepth 100000 in
set_option maxHeartbeats 1000000 in
theorem rnums_ok {H : Hp} {a b : List Int} {va vb : Value} (hA : RdSl H 1 I64.cells va a) (hB : RdSl H 1 I64.cells vb b) :
    FnS Try.prog 43 [va, vb] H (.bool (decide (a = b))) := by
  have hma := hA.max
  refine FnS.enter Try.func43 Try.ntmps43 rfl rfl (fun w0 => ?_)
  refine TC.seq ?_
  refine TC.region ?_
  refine TL.run (pr_pure rfl) rfl ?_
  refine TL.nil ?_
  refine TX.seqN ?_
  refine TC.seq ?_
  refine TC.seq ?_
  refine TC.region ?_
  refine TL.run (pr_pure rfl) rfl ?_
  refine TL.run (pr_lenSl rfl rfl hA) rfl ?_
  refine TL.run (pr_pure rfl) rfl ?_
  refine TL.run (pr_lenSl rfl rfl hB) rfl ?_
  refine TL.run (pr_pure rfl) rfl ?_
  refine TL.nil ?_
  refine TX.seqN ?_
  refine TC.condND rfl (fun c10 => ?_) (fun c10 => ?_)
  ·
    refine TC.seq ?_
    refine TC.region ?_
    refine TL.run (pr_pure rfl) rfl ?_
    refine TL.nil ?_
    refine TX.seqN ?_
    refine TC.ret ?_
    refine TX.thenR ?_
    exact TX.finS (.inr rfl) (results1 rfl (RVal.tmp rfl)) (congrArg Value.bool (by first | exact (decide_eq_true (same_end hI.2.2 hl c14 hI.1)).symm | exact (decide_eq_false (same_ne hx hy (by simpa using c25))).symm | exact (decide_eq_false (fun e => c10 (by rw [e]))).symm))
  ·
    have hl : (a.length : Int) = b.length := by omega
    refine TC.skip ?_
    refine TX.seqN ?_
    refine TC.seq ?_
    refine TC.seq ?_
    refine TC.region ?_
    refine TL.run (pr_pure rfl) rfl ?_
    refine TL.nil ?_
    refine TX.seqN ?_
    refine TC.block ?_
    refine TC.loop (V := fun k => [(5, .int .i64 k)]) (K := [(0, _), (1, _), (4, _)]) (L := fun k => _) (I := fun k => 0 ≤ k ∧ k ≤ a.length ∧ a.take k.toNat = b.take k.toNat) (μ := fun k => (a.length - k).toNat) (i := (0 : Int)) ⟨rfl, rfl, rfl, rfl, trivial⟩ ⟨by omega, by omega, rfl⟩ (fun w hw => hw) (fun k hI => ?_)
    refine TC.seq ?_
    refine TC.seq ?_
    refine TC.region ?_
    refine TL.run (pr_pure rfl) rfl ?_
    refine TL.run (pr_pure rfl) rfl ?_
    refine TL.run (pr_lenSl rfl rfl hA) rfl ?_
    refine TL.run (pr_pure rfl) rfl ?_
    refine TL.nil ?_
    refine TX.seqN ?_
    refine TC.condD rfl (fun c14 => ?_) (fun c14 => ?_)
    ·
      obtain ⟨x, hx⟩ := getSome (l := a) hI.1 c14
      obtain ⟨y, hy⟩ := getSome (l := b) hI.1 (by omega)
      refine TC.skip ?_
      refine TX.seqN ?_
      refine TC.seq ?_
      refine TC.block ?_
      refine TC.seq ?_
      refine TC.quiet (by kernel_rfl) (by kernel_rfl) ?_
      refine TQ.run (pr_pure rfl) rfl ?_
      refine TQ.run (pr_pure rfl) rfl ?_
      refine TQ.run (pr_indexSl rfl hA rfl (by omega) (by omega)) rfl ?_
      refine TQ.run (pr_el0 hA hx rfl rfl) rfl ?_
      refine TQ.run (pr_pure rfl) rfl ?_
      refine TQ.run (pr_pure rfl) rfl ?_
      refine TQ.run (pr_indexSl rfl hB rfl (by omega) (by omega)) rfl ?_
      refine TQ.run (pr_el0 hB hy rfl rfl) rfl ?_
      refine TQ.run (pr_pure rfl) rfl ?_
      refine TQ.nil ?_
      refine TX.seqN ?_
      refine TC.condND rfl (fun c25 => ?_) (fun c25 => ?_)
      ·
        refine TC.seq ?_
        refine TC.region ?_
        refine TL.run (pr_pure rfl) rfl ?_
        refine TL.nil ?_
        refine TX.seqN ?_
        refine TC.ret ?_
        refine TX.blkR ?_
        refine TX.thenR ?_
        refine TX.thenR ?_
        refine TX.blkR ?_
        refine TX.thenR ?_
        exact TX.finS (.inr rfl) (results1 rfl (RVal.tmp rfl)) (congrArg Value.bool (by first | exact (decide_eq_true (same_end hI.2.2 hl c14 hI.1)).symm | exact (decide_eq_false (same_ne hx hy (by simpa using c25))).symm | exact (decide_eq_false (fun e => c10 (by rw [e]))).symm))
      ·
        refine TC.skip ?_
        refine TX.blkN ?_
        refine TX.seqN ?_
        refine TC.region ?_
        refine TL.run (pr_pure rfl) rfl ?_
        refine TL.run ((by first | exact pr_add rfl rfl (by omega) (by omega) | exact pr_pure rfl)) rfl ?_
        refine TL.run (pr_pure rfl) rfl ?_
        refine TL.nil ?_
        exact TX.round (k + 1) ⟨by omega, by omega, by rw [take_snoc hI.1 hx, take_snoc hI.1 hy, hI.2.2, (by simpa using c25 : x = y)]⟩ ⟨rfl, rfl, rfl, rfl, trivial⟩ (fun w hw => hw) (by omega)
    ·
      refine TC.exit ?_
      refine TX.thenE ?_
      refine TX.thenE ?_
      refine TX.blkHit ?_
      refine TX.seqN ?_
      refine TC.seq ?_
      refine TC.region ?_
      refine TL.run (pr_pure rfl) rfl ?_
      refine TL.nil ?_
      refine TX.seqN ?_
      refine TC.ret ?_
      exact TX.finS (.inr rfl) (results1 rfl (RVal.tmp rfl)) (congrArg Value.bool (by first | exact (decide_eq_true (same_end hI.2.2 hl c14 hI.1)).symm | exact (decide_eq_false (same_ne hx hy (by simpa using c25))).symm | exact (decide_eq_false (fun e => c10 (by rw [e]))).symm))

set_option maxRecDepth 100000 in
set_option maxHeartbeats 1000000 in
theorem rsame_ok {H : Hp} {a b : Val} {la lb : Value} (hA : RdV H la a) (hB : RdV H lb b) :
    FnS Try.prog 28 [.agg (a.cells la).toArray, .agg (b.cells lb).toArray] H (.bool (sameV a b)) := by
  refine FnS.enter Try.func28 Try.ntmps28 rfl rfl (fun w0 => ?_)
  refine TC.seq ?_
  refine TC.region ?_
  refine TL.box rfl rfl (fun b2 => ?_)
  refine TL.box rfl rfl (fun b3 => ?_)
  refine TL.run (pr_pure rfl) rfl ?_
  refine TL.nil ?_
  refine TX.seqN ?_
  refine TC.seq ?_
  refine TC.region ?_
  refine TL.run (pr_field rfl) rfl ?_
  refine TL.run (pr_own1 rfl (.there _ (.here _)) rfl) rfl ?_
  refine TL.run (pr_field rfl) rfl ?_
  refine TL.run (pr_own1 rfl (.here _) rfl) rfl ?_
  refine TL.run (pr_pure rfl) rfl ?_
  refine TL.run (pr_pure rfl) rfl ?_
  refine TL.split (s := 10) rfl (fun g10 => ?_) (fun g10 => ?_)
  ·
    have q10 := of_decide_eq_true g10
    refine TL.gdY rfl rfl (pr_field rfl) rfl ?_
    refine TL.gdY rfl rfl (pr_own1 rfl (.there _ (.here _)) rfl) rfl ?_
    refine TL.gdY rfl rfl (pr_field rfl) rfl ?_
    refine TL.gdY rfl rfl (pr_own1 rfl (.here _) rfl) rfl ?_
    refine TL.gdY rfl rfl (pr_pure rfl) rfl ?_
    refine TL.run (pr_pure rfl) rfl ?_
    refine TL.run (pr_pure rfl) rfl ?_
    refine TL.split (s := 17) rfl (fun g17 => ?_) (fun g17 => ?_)
    ·
      have q17 := of_decide_eq_true g17
      refine TL.gdY rfl rfl (pr_field rfl) rfl ?_
      refine TL.gdY rfl rfl (pr_own1 rfl (.there _ (.here _)) rfl) rfl ?_
      refine TL.gdY rfl rfl (pr_field rfl) rfl ?_
      refine TL.gdY rfl rfl (pr_own1 rfl (.here _) rfl) rfl ?_
      refine TL.gdY rfl rfl (pr_str rfl rfl rfl) rfl ?_
      refine TL.run (pr_pure rfl) rfl ?_
      refine TL.run (pr_pure rfl) rfl ?_
      refine TL.split (s := 24) rfl (fun g24 => ?_) (fun g24 => ?_)
      ·
        have q24 := of_decide_eq_true g24
        refine TL.gdY rfl rfl (pr_field rfl) rfl ?_
        refine TL.gdY rfl rfl (pr_own1 rfl (.there _ (.here _)) rfl) rfl ?_
        refine TL.gdY rfl rfl (pr_field rfl) rfl ?_
        refine TL.gdY rfl rfl (pr_own1 rfl (.here _) rfl) rfl ?_
        refine TL.callSY rfl rfl (enters rfl rfl rfl rfl) (rnums_ok (a := a.l) (b := b.l) (va := la) (vb := lb) hA hB) rfl ?_
        refine TL.run (pr_pure rfl) rfl ?_
        refine TL.run (pr_pure rfl) rfl ?_
        refine TL.nil ?_
        refine TX.seqN ?_
        refine TC.ret ?_
        exact TX.finS (.inr rfl) (results1 rfl (RVal.tmp rfl)) (congrArg Value.bool (by unfold sameV; simp_all))
      ·
        have q24 := of_decide_eq_false g24
        refine TL.gdN rfl rfl rfl rfl ?_
        refine TL.gdN rfl rfl rfl rfl ?_
        refine TL.gdN rfl rfl rfl rfl ?_
        refine TL.gdN rfl rfl rfl rfl ?_
        refine TL.gdN rfl rfl rfl rfl ?_
        refine TL.run (pr_pure rfl) rfl ?_
        refine TL.run (pr_pure rfl) rfl ?_
        refine TL.nil ?_
        refine TX.seqN ?_
        refine TC.ret ?_
        exact TX.finS (.inr rfl) (results1 rfl (RVal.tmp rfl)) (congrArg Value.bool (by unfold sameV; simp_all))
    ·
      have q17 := of_decide_eq_false g17
      refine TL.gdN rfl rfl rfl rfl ?_
      refine TL.gdN rfl rfl rfl rfl ?_
      refine TL.gdN rfl rfl rfl rfl ?_
      refine TL.gdN rfl rfl rfl rfl ?_
      refine TL.gdN rfl rfl rfl rfl ?_
      refine TL.run (pr_pure rfl) rfl ?_
      refine TL.run (pr_pure rfl) rfl ?_
      refine TL.gdN rfl rfl rfl rfl ?_
      refine TL.gdN rfl rfl rfl rfl ?_
      refine TL.gdN rfl rfl rfl rfl ?_
      refine TL.gdN rfl rfl rfl rfl ?_
      refine TL.gdN rfl rfl rfl rfl ?_
      refine TL.run (pr_pure rfl) rfl ?_
      refine TL.run (pr_pure rfl) rfl ?_
      refine TL.nil ?_
      refine TX.seqN ?_
      refine TC.ret ?_
      exact TX.finS (.inr rfl) (results1 rfl (RVal.tmp rfl)) (congrArg Value.bool (by unfold sameV; simp_all))
  ·
    have q10 := of_decide_eq_false g10
    refine TL.gdN rfl rfl rfl rfl ?_
    refine TL.gdN rfl rfl rfl rfl ?_
    refine TL.gdN rfl rfl rfl rfl ?_
    refine TL.gdN rfl rfl rfl rfl ?_
    refine TL.gdN rfl rfl rfl rfl ?_
    refine TL.run (pr_pure rfl) rfl ?_
    refine TL.run (pr_pure rfl) rfl ?_
    refine TL.gdN rfl rfl rfl rfl ?_
    refine TL.gdN rfl rfl rfl rfl ?_
    refine TL.gdN rfl rfl rfl rfl ?_
    refine TL.gdN rfl rfl rfl rfl ?_
    refine TL.gdN rfl rfl rfl rfl ?_
    refine TL.run (pr_pure rfl) rfl ?_
    refine TL.run (pr_pure rfl) rfl ?_
    refine TL.gdN rfl rfl rfl rfl ?_
    refine TL.gdN rfl rfl rfl rfl ?_
    refine TL.gdN rfl rfl rfl rfl ?_
    refine TL.gdN rfl rfl rfl rfl ?_
    refine TL.gdN rfl rfl rfl rfl ?_
    refine TL.run (pr_pure rfl) rfl ?_
    refine TL.run (pr_pure rfl) rfl ?_
    refine TL.nil ?_
    refine TX.seqN ?_
    refine TC.ret ?_
    exact TX.finS (.inr rfl) (results1 rfl (RVal.tmp rfl)) (congrArg Value.bool (by unfold sameV; simp_all))

set_option maxRecDepth 100000 in
set_option maxHeartbeats 4000000 in
theorem rtwo_ok {H : Hp} {t : Term} {a b : Val} {la lb : Value} (ho : operandsI t.kind = 2) (ha : mayV a = true) (hb : mayV b = true) (hA : RdV H la a) (hB : RdV H lb b) :
    Fn Try.prog 56 [.agg t.cells.toArray, .agg (a.cells la).toArray, .agg (b.cells lb).toArray] H (fun v H1 => RV (applyV t.kind a b) v H1) := by
  have hA1 : RdSl H 1 I64.cells la a.l := hA
  obtain ⟨aa, ac, rfl⟩ := hA1.len
  have hB1 : RdSl H 1 I64.cells lb b.l := hB
  obtain ⟨ba, bc, rfl⟩ := hB1.len
  refine Fn.enter Try.func56 Try.ntmps56 rfl rfl (fun w0 => ?_)
  refine TC.seq ?_
  refine TC.region ?_
  refine TL.box rfl rfl (fun b3 => ?_)
  refine TL.box rfl rfl (fun b4 => ?_)
  refine TL.box rfl rfl (fun b5 => ?_)
  refine TL.alloc rfl (fun b6 => ?_)
  refine TL.run (pr_pure rfl) rfl ?_
  refine TL.nil ?_
  refine TX.seqN ?_
  refine TC.seq ?_
  refine TC.block ?_
  refine TC.sw (two1 t.kind a b) 8 [(3, _), (4, _), (5, _), (6, _), (7, _)] ⟨rfl, rfl, rfl, rfl, rfl, trivial⟩ ?_ ?_
  ·
    refine TC.region ?_
    refine TL.run (pr_field rfl) rfl ?_
    refine TL.run (pr_own1 rfl (.there _ (.there _ (.there _ (.here _)))) rfl) rfl ?_
    refine TL.run (pr_pure rfl) rfl ?_
    refine TL.run (pr_pure rfl) rfl ?_
    refine TL.split (s := 12) rfl (fun g12 => ?_) (fun g12 => ?_)
    ·
      have q12 := of_decide_eq_true g12
      refine TL.gdY rfl rfl (pr_field rfl) rfl ?_
      refine TL.gdY rfl rfl (pr_own1 rfl (.there _ (.there _ (.here _))) rfl) rfl ?_
      refine TL.gdY rfl rfl (pr_field rfl) rfl ?_
      refine TL.gdY rfl rfl (pr_own1 rfl (.there _ (.here _)) rfl) rfl ?_
      refine TL.gdY rfl rfl (pr_pure rfl) rfl ?_
      refine TL.run (pr_pure rfl) rfl ?_
      refine TL.run (pr_pure rfl) rfl ?_
      refine TL.split (s := 19) rfl (fun g19 => ?_) (fun g19 => ?_)
      ·
        have q19 := of_decide_eq_true g19
        refine TL.gdY rfl rfl (pr_field rfl) rfl ?_
        refine TL.gdY rfl rfl (pr_own1 rfl (.there _ (.there _ (.here _))) rfl) rfl ?_
        refine TL.gdY rfl rfl (pr_pure rfl) rfl ?_
        refine TL.run (pr_pure rfl) rfl ?_
        refine TL.run (pr_pure rfl) rfl ?_
        refine TL.nil ?_
        exact TX.sw rfl (by unfold two1; first | (simp_all; done) | (simp_all; intros; omega)) ⟨rfl, rfl, rfl, rfl, rfl, trivial⟩
      ·
        have q19 := of_decide_eq_false g19
        refine TL.gdN rfl rfl rfl rfl ?_
        refine TL.gdN rfl rfl rfl rfl ?_
        refine TL.gdN rfl rfl rfl rfl ?_
        refine TL.run (pr_pure rfl) rfl ?_
        refine TL.run (pr_pure rfl) rfl ?_
        refine TL.nil ?_
        exact TX.sw rfl (by unfold two1; first | (simp_all; done) | (simp_all; intros; omega)) ⟨rfl, rfl, rfl, rfl, rfl, trivial⟩
    ·
      have q12 := of_decide_eq_false g12
      refine TL.gdN rfl rfl rfl rfl ?_
      refine TL.gdN rfl rfl rfl rfl ?_
      refine TL.gdN rfl rfl rfl rfl ?_
      refine TL.gdN rfl rfl rfl rfl ?_
      refine TL.gdN rfl rfl rfl rfl ?_
      refine TL.run (pr_pure rfl) rfl ?_
      refine TL.run (pr_pure rfl) rfl ?_
      refine TL.gdN rfl rfl rfl rfl ?_
      refine TL.gdN rfl rfl rfl rfl ?_
      refine TL.gdN rfl rfl rfl rfl ?_
      refine TL.run (pr_pure rfl) rfl ?_
      refine TL.run (pr_pure rfl) rfl ?_
      refine TL.nil ?_
      exact TX.sw rfl (by unfold two1; first | (simp_all; done) | (simp_all; intros; omega)) ⟨rfl, rfl, rfl, rfl, rfl, trivial⟩
  refine TC.cond rfl (fun c8 => ?_) (fun c8 => ?_)
  ·
    refine TC.seq ?_
    refine TC.region ?_
    refine TL.run (pr_ownA rfl (.there _ (.there _ (.here _))) rfl) rfl ?_
    refine TL.run (pr_ownA rfl (.there _ (.here _)) rfl) rfl ?_
    refine TL.callS (enters rfl rfl rfl rfl) (rsame_ok hA hB) rfl ?_
    refine TL.callS (enters rfl rfl rfl rfl) (rtruth_ok _) rfl ?_
    refine TL.storeA rfl rfl rfl rfl rfl (.here _) rfl rfl ?_
    refine TL.run (pr_pure rfl) rfl ?_
    refine TL.nil ?_
    refine TX.seqN ?_
    refine TC.ret ?_
    refine TX.blkR ?_
    refine TX.thenR ?_
    exact TX.fin0 (.inr rfl) (results2 rfl (RVal.cellA rfl (.here _) rfl) (RVal.tmp rfl)) (RV.of (q := (truthV (sameV a b), 0)) (two1_T c8).symm RdSl.nil)
  ·
    refine TC.sw (two2 t.kind a b) 28 [(3, _), (4, _), (5, _), (6, _), (7, _)] ⟨rfl, rfl, rfl, rfl, rfl, trivial⟩ ?_ ?_
    ·
      refine TC.region ?_
      refine TL.run (pr_field rfl) rfl ?_
      refine TL.run (pr_own1 rfl (.there _ (.there _ (.there _ (.here _)))) rfl) rfl ?_
      refine TL.run (pr_pure rfl) rfl ?_
      refine TL.run (pr_pure rfl) rfl ?_
      refine TL.split (s := 32) rfl (fun g32 => ?_) (fun g32 => ?_)
      ·
        have q32 := of_decide_eq_true g32
        refine TL.gdN rfl rfl rfl rfl ?_
        refine TL.gdN rfl rfl rfl rfl ?_
        refine TL.gdN rfl rfl rfl rfl ?_
        refine TL.run (pr_pure rfl) rfl ?_
        refine TL.run (pr_pure rfl) rfl ?_
        refine TL.gdY rfl rfl (pr_field rfl) rfl ?_
        refine TL.gdY rfl rfl (pr_own1 rfl (.there _ (.there _ (.here _))) rfl) rfl ?_
        refine TL.gdY rfl rfl (pr_pure rfl) rfl ?_
        refine TL.run (pr_pure rfl) rfl ?_
        refine TL.run (pr_pure rfl) rfl ?_
        refine TL.split (s := 42) rfl (fun g42 => ?_) (fun g42 => ?_)
        ·
          have q42 := of_decide_eq_true g42
          refine TL.gdY rfl rfl (pr_field rfl) rfl ?_
          refine TL.gdY rfl rfl (pr_own1 rfl (.there _ (.here _)) rfl) rfl ?_
          refine TL.gdY rfl rfl (pr_pure rfl) rfl ?_
          refine TL.run (pr_pure rfl) rfl ?_
          refine TL.run (pr_pure rfl) rfl ?_
          refine TL.nil ?_
          exact TX.sw rfl (by unfold two2; first | (simp_all; done) | (simp_all; intros; omega)) ⟨rfl, rfl, rfl, rfl, rfl, trivial⟩
        ·
          have q42 := of_decide_eq_false g42
          refine TL.gdN rfl rfl rfl rfl ?_
          refine TL.gdN rfl rfl rfl rfl ?_
          refine TL.gdN rfl rfl rfl rfl ?_
          refine TL.run (pr_pure rfl) rfl ?_
          refine TL.run (pr_pure rfl) rfl ?_
          refine TL.nil ?_
          exact TX.sw rfl (by unfold two2; first | (simp_all; done) | (simp_all; intros; omega)) ⟨rfl, rfl, rfl, rfl, rfl, trivial⟩
      ·
        have q32 := of_decide_eq_false g32
        refine TL.gdY rfl rfl (pr_field rfl) rfl ?_
        refine TL.gdY rfl rfl (pr_own1 rfl (.there _ (.there _ (.there _ (.here _)))) rfl) rfl ?_
        refine TL.gdY rfl rfl (pr_pure rfl) rfl ?_
        refine TL.run (pr_pure rfl) rfl ?_
        refine TL.run (pr_pure rfl) rfl ?_
        refine TL.split (s := 37) rfl (fun g37 => ?_) (fun g37 => ?_)
        ·
          have q37 := of_decide_eq_true g37
          refine TL.gdY rfl rfl (pr_field rfl) rfl ?_
          refine TL.gdY rfl rfl (pr_own1 rfl (.there _ (.there _ (.here _))) rfl) rfl ?_
          refine TL.gdY rfl rfl (pr_pure rfl) rfl ?_
          refine TL.run (pr_pure rfl) rfl ?_
          refine TL.run (pr_pure rfl) rfl ?_
          refine TL.split (s := 42) rfl (fun g42 => ?_) (fun g42 => ?_)
          ·
            have q42 := of_decide_eq_true g42
            refine TL.gdY rfl rfl (pr_field rfl) rfl ?_
            refine TL.gdY rfl rfl (pr_own1 rfl (.there _ (.here _)) rfl) rfl ?_
            refine TL.gdY rfl rfl (pr_pure rfl) rfl ?_
            refine TL.run (pr_pure rfl) rfl ?_
            refine TL.run (pr_pure rfl) rfl ?_
            refine TL.nil ?_
            exact TX.sw rfl (by unfold two2; first | (simp_all; done) | (simp_all; intros; omega)) ⟨rfl, rfl, rfl, rfl, rfl, trivial⟩
          ·
            have q42 := of_decide_eq_false g42
            refine TL.gdN rfl rfl rfl rfl ?_
            refine TL.gdN rfl rfl rfl rfl ?_
            refine TL.gdN rfl rfl rfl rfl ?_
            refine TL.run (pr_pure rfl) rfl ?_
            refine TL.run (pr_pure rfl) rfl ?_
            refine TL.nil ?_
            exact TX.sw rfl (by unfold two2; first | (simp_all; done) | (simp_all; intros; omega)) ⟨rfl, rfl, rfl, rfl, rfl, trivial⟩
        ·
          have q37 := of_decide_eq_false g37
          refine TL.gdN rfl rfl rfl rfl ?_
          refine TL.gdN rfl rfl rfl rfl ?_
          refine TL.gdN rfl rfl rfl rfl ?_
          refine TL.run (pr_pure rfl) rfl ?_
          refine TL.run (pr_pure rfl) rfl ?_
          refine TL.gdN rfl rfl rfl rfl ?_
          refine TL.gdN rfl rfl rfl rfl ?_
          refine TL.gdN rfl rfl rfl rfl ?_
          refine TL.run (pr_pure rfl) rfl ?_
          refine TL.run (pr_pure rfl) rfl ?_
          refine TL.nil ?_
          exact TX.sw rfl (by unfold two2; first | (simp_all; done) | (simp_all; intros; omega)) ⟨rfl, rfl, rfl, rfl, rfl, trivial⟩
    refine TC.cond rfl (fun c28 => ?_) (fun c28 => ?_)
    ·
      have k2 : (t.kind = 13 ∨ t.kind = 14) ∧ (a.k = 2 ∧ b.k = 2) := by simpa [two2] using c28
      have na := bool_n ha k2.2.1
      have nb := bool_n hb k2.2.2
      refine TC.seq ?_
      refine TC.region ?_
      refine TL.run (pr_field rfl) rfl ?_
      refine TL.run (pr_own1 rfl (.there _ (.there _ (.here _))) rfl) rfl ?_
      refine TL.run (pr_field rfl) rfl ?_
      refine TL.run (pr_own1 rfl (.there _ (.here _)) rfl) rfl ?_
      refine TL.run ((by first | exact pr_add rfl rfl (by omega) (by omega) | exact pr_pure rfl)) rfl ?_
      refine TL.run (pr_pure rfl) rfl ?_
      refine TL.run (pr_pure rfl) rfl ?_
      refine TL.split (s := 53) rfl (fun g53 => ?_) (fun g53 => ?_)
      ·
        have q53 := of_decide_eq_true g53
        refine TL.gdN rfl rfl rfl rfl ?_
        refine TL.gdN rfl rfl rfl rfl ?_
        refine TL.gdN rfl rfl rfl rfl ?_
        refine TL.gdN rfl rfl rfl rfl ?_
        refine TL.gdU rfl rfl rfl ?_
        refine TL.gdU rfl rfl rfl ?_
        refine TL.gdU rfl rfl rfl ?_
        refine TL.gdU rfl rfl rfl ?_
        refine TL.gdU rfl rfl rfl ?_
        refine TL.gdU rfl rfl rfl ?_
        refine TL.gdN rfl rfl rfl rfl ?_
        refine TL.run (pr_pure rfl) rfl ?_
        refine TL.callS (enters rfl rfl rfl rfl) (rtruth_ok _) rfl ?_
        refine TL.storeA rfl rfl rfl rfl rfl (.here _) rfl rfl ?_
        refine TL.run (pr_pure rfl) rfl ?_
        refine TL.nil ?_
        refine TX.seqN ?_
        refine TC.ret ?_
        refine TX.blkR ?_
        refine TX.thenR ?_
        exact TX.fin0 (.inr rfl) (results2 rfl (RVal.cellA rfl (.here _) rfl) (RVal.tmp rfl)) (RV.of (q := (truthV _, 0)) (two2_T c28 (by rcases bool_n ha k2.2.1 with e1 | e1 <;> rcases bool_n hb k2.2.2 with e2 | e2 <;> rcases k2.1 with e3 | e3 <;> simp_all)).symm RdSl.nil)
      ·
        have q53 := of_decide_eq_false g53
        refine TL.gdY rfl rfl (pr_field rfl) rfl ?_
        refine TL.gdY rfl rfl (pr_own1 rfl (.there _ (.there _ (.there _ (.here _)))) rfl) rfl ?_
        refine TL.gdY rfl rfl (pr_pure rfl) rfl ?_
        refine TL.gdY rfl rfl (pr_pure rfl) rfl ?_
        refine TL.split (s := 57) rfl (fun g57 => ?_) (fun g57 => ?_)
        ·
          have q57 := of_decide_eq_true g57
          refine TL.gdY rfl rfl (pr_field rfl) rfl ?_
          refine TL.gdY rfl rfl (pr_own1 rfl (.there _ (.there _ (.here _))) rfl) rfl ?_
          refine TL.gdY rfl rfl (pr_field rfl) rfl ?_
          refine TL.gdY rfl rfl (pr_own1 rfl (.there _ (.here _)) rfl) rfl ?_
          refine TL.gdY rfl rfl ((by first | exact pr_add rfl rfl (by omega) (by omega) | exact pr_pure rfl)) rfl ?_
          refine TL.gdY rfl rfl (pr_pure rfl) rfl ?_
          refine TL.gdY rfl rfl (pr_pure rfl) rfl ?_
          refine TL.run (pr_pure rfl) rfl ?_
          refine TL.callS (enters rfl rfl rfl rfl) (rtruth_ok _) rfl ?_
          refine TL.storeA rfl rfl rfl rfl rfl (.here _) rfl rfl ?_
          refine TL.run (pr_pure rfl) rfl ?_
          refine TL.nil ?_
          refine TX.seqN ?_
          refine TC.ret ?_
          refine TX.blkR ?_
          refine TX.thenR ?_
          exact TX.fin0 (.inr rfl) (results2 rfl (RVal.cellA rfl (.here _) rfl) (RVal.tmp rfl)) (RV.of (q := (truthV _, 0)) (two2_T c28 (by rcases bool_n ha k2.2.1 with e1 | e1 <;> rcases bool_n hb k2.2.2 with e2 | e2 <;> rcases k2.1 with e3 | e3 <;> simp_all)).symm RdSl.nil)
        ·
          have q57 := of_decide_eq_false g57
          refine TL.gdN rfl rfl rfl rfl ?_
          refine TL.gdN rfl rfl rfl rfl ?_
          refine TL.gdN rfl rfl rfl rfl ?_
          refine TL.gdN rfl rfl rfl rfl ?_
          refine TL.gdN rfl rfl rfl rfl ?_
          refine TL.gdN rfl rfl rfl rfl ?_
          refine TL.gdY rfl rfl (pr_pure rfl) rfl ?_
          refine TL.run (pr_pure rfl) rfl ?_
          refine TL.callS (enters rfl rfl rfl rfl) (rtruth_ok _) rfl ?_
          refine TL.storeA rfl rfl rfl rfl rfl (.here _) rfl rfl ?_
          refine TL.run (pr_pure rfl) rfl ?_
          refine TL.nil ?_
          refine TX.seqN ?_
          refine TC.ret ?_
          refine TX.blkR ?_
          refine TX.thenR ?_
          exact TX.fin0 (.inr rfl) (results2 rfl (RVal.cellA rfl (.here _) rfl) (RVal.tmp rfl)) (RV.of (q := (truthV _, 0)) (two2_T c28 (by rcases bool_n ha k2.2.1 with e1 | e1 <;> rcases bool_n hb k2.2.2 with e2 | e2 <;> rcases k2.1 with e3 | e3 <;> simp_all)).symm RdSl.nil)
    ·
      refine TC.sw (two3 t.kind a b) 67 [(3, _), (4, _), (5, _), (6, _), (7, _)] ⟨rfl, rfl, rfl, rfl, rfl, trivial⟩ ?_ ?_
      ·
        refine TC.region ?_
        refine TL.run (pr_field rfl) rfl ?_
        refine TL.run (pr_own1 rfl (.there _ (.there _ (.there _ (.here _)))) rfl) rfl ?_
        refine TL.run (pr_pure rfl) rfl ?_
        refine TL.run (pr_pure rfl) rfl ?_
        refine TL.split (s := 71) rfl (fun g71 => ?_) (fun g71 => ?_)
        ·
          have q71 := of_decide_eq_true g71
          refine TL.gdY rfl rfl (pr_field rfl) rfl ?_
          refine TL.gdY rfl rfl (pr_own1 rfl (.there _ (.there _ (.here _))) rfl) rfl ?_
          refine TL.gdY rfl rfl (pr_pure rfl) rfl ?_
          refine TL.run (pr_pure rfl) rfl ?_
          refine TL.run (pr_pure rfl) rfl ?_
          refine TL.split (s := 76) rfl (fun g76 => ?_) (fun g76 => ?_)
          ·
            have q76 := of_decide_eq_true g76
            refine TL.gdY rfl rfl (pr_field rfl) rfl ?_
            refine TL.gdY rfl rfl (pr_own1 rfl (.there _ (.here _)) rfl) rfl ?_
            refine TL.gdY rfl rfl (pr_pure rfl) rfl ?_
            refine TL.run (pr_pure rfl) rfl ?_
            refine TL.run (pr_pure rfl) rfl ?_
            refine TL.nil ?_
            exact TX.sw rfl (by unfold two3; first | (simp_all; done) | (simp_all; intros; omega)) ⟨rfl, rfl, rfl, rfl, rfl, trivial⟩
          ·
            have q76 := of_decide_eq_false g76
            refine TL.gdN rfl rfl rfl rfl ?_
            refine TL.gdN rfl rfl rfl rfl ?_
            refine TL.gdN rfl rfl rfl rfl ?_
            refine TL.run (pr_pure rfl) rfl ?_
            refine TL.run (pr_pure rfl) rfl ?_
            refine TL.nil ?_
            exact TX.sw rfl (by unfold two3; first | (simp_all; done) | (simp_all; intros; omega)) ⟨rfl, rfl, rfl, rfl, rfl, trivial⟩
        ·
          have q71 := of_decide_eq_false g71
          refine TL.gdN rfl rfl rfl rfl ?_
          refine TL.gdN rfl rfl rfl rfl ?_
          refine TL.gdN rfl rfl rfl rfl ?_
          refine TL.run (pr_pure rfl) rfl ?_
          refine TL.run (pr_pure rfl) rfl ?_
          refine TL.gdN rfl rfl rfl rfl ?_
          refine TL.gdN rfl rfl rfl rfl ?_
          refine TL.gdN rfl rfl rfl rfl ?_
          refine TL.run (pr_pure rfl) rfl ?_
          refine TL.run (pr_pure rfl) rfl ?_
          refine TL.nil ?_
          exact TX.sw rfl (by unfold two3; first | (simp_all; done) | (simp_all; intros; omega)) ⟨rfl, rfl, rfl, rfl, rfl, trivial⟩
      refine TC.cond rfl (fun c67 => ?_) (fun c67 => ?_)
      ·
        have k3 : t.kind = 19 ∧ (a.k = 3 ∧ b.k = 3) := by simpa [two3] using c67
        have hs1 := text_len ha k3.2.1
        have hs2 := text_len hb k3.2.2
        refine TC.seq ?_
        refine TC.seq ?_
        refine TC.region ?_
        refine TL.run (pr_field rfl) rfl ?_
        refine TL.run (pr_own1 rfl (.there _ (.there _ (.here _))) rfl) rfl ?_
        refine TL.run (pr_lenStr rfl rfl) rfl ?_
        refine TL.run (pr_field rfl) rfl ?_
        refine TL.run (pr_own1 rfl (.there _ (.here _)) rfl) rfl ?_
        refine TL.run (pr_lenStr rfl rfl) rfl ?_
        refine TL.run ((by first | exact pr_add rfl rfl (by omega) (by omega) | exact pr_pure rfl)) rfl ?_
        refine TL.run (pr_pure rfl) rfl ?_
        refine TL.nil ?_
        refine TX.seqN ?_
        refine TC.condD rfl (fun c88 => ?_) (fun c88 => ?_)
        ·
          refine TC.seq ?_
          refine TC.region ?_
          refine TL.run (pr_build rfl rfl) rfl ?_
          refine TL.storeA rfl rfl rfl rfl rfl (.here _) rfl rfl ?_
          refine TL.run (pr_pure rfl) rfl ?_
          refine TL.nil ?_
          refine TX.seqN ?_
          refine TC.ret ?_
          refine TX.thenR ?_
          refine TX.blkR ?_
          refine TX.thenR ?_
          exact TX.fin0 (.inr rfl) (results2 rfl (RVal.cellA rfl (.here _) rfl) (RVal.tmp rfl)) (RV.of (q := (v0, 405)) ((two3_T c67).trans (if_pos c88)).symm RdSl.nil)
        ·
          refine TC.skip ?_
          refine TX.seqN ?_
          refine TC.seq ?_
          refine TC.region ?_
          refine TL.run (pr_field rfl) rfl ?_
          refine TL.run (pr_own1 rfl (.there _ (.there _ (.here _))) rfl) rfl ?_
          refine TL.run (pr_field rfl) rfl ?_
          refine TL.run (pr_own1 rfl (.there _ (.here _)) rfl) rfl ?_
          refine TL.run (pr_concat rfl rfl (by omega)) rfl ?_
          refine TL.run (pr_build rfl rfl) rfl ?_
          refine TL.storeA rfl rfl rfl rfl rfl (.here _) rfl rfl ?_
          refine TL.run (pr_pure rfl) rfl ?_
          refine TL.nil ?_
          refine TX.seqN ?_
          refine TC.ret ?_
          refine TX.blkR ?_
          refine TX.thenR ?_
          exact TX.fin0 (.inr rfl) (results2 rfl (RVal.cellA rfl (.here _) rfl) (RVal.tmp rfl)) (RV.of (q := (⟨3, 0, a.s ++ b.s, []⟩, 0)) ((two3_T c67).trans (if_neg c88)).symm RdSl.nil)
      ·
        refine TC.sw (two4 t.kind a b) 96 [(3, _), (4, _), (5, _), (6, _), (7, _)] ⟨rfl, rfl, rfl, rfl, rfl, trivial⟩ ?_ ?_
        ·
          refine TC.region ?_
          refine TL.run (pr_field rfl) rfl ?_
          refine TL.run (pr_own1 rfl (.there _ (.there _ (.there _ (.here _)))) rfl) rfl ?_
          refine TL.run (pr_pure rfl) rfl ?_
          refine TL.run (pr_pure rfl) rfl ?_
          refine TL.split (s := 100) rfl (fun g100 => ?_) (fun g100 => ?_)
          ·
            have q100 := of_decide_eq_true g100
            refine TL.gdN rfl rfl rfl rfl ?_
            refine TL.gdN rfl rfl rfl rfl ?_
            refine TL.gdN rfl rfl rfl rfl ?_
            refine TL.run (pr_pure rfl) rfl ?_
            refine TL.run (pr_pure rfl) rfl ?_
            refine TL.gdY rfl rfl (pr_field rfl) rfl ?_
            refine TL.gdY rfl rfl (pr_own1 rfl (.there _ (.there _ (.here _))) rfl) rfl ?_
            refine TL.gdY rfl rfl (pr_pure rfl) rfl ?_
            refine TL.run (pr_pure rfl) rfl ?_
            refine TL.run (pr_pure rfl) rfl ?_
            refine TL.split (s := 110) rfl (fun g110 => ?_) (fun g110 => ?_)
            ·
              have q110 := of_decide_eq_true g110
              refine TL.gdY rfl rfl (pr_field rfl) rfl ?_
              refine TL.gdY rfl rfl (pr_own1 rfl (.there _ (.here _)) rfl) rfl ?_
              refine TL.gdY rfl rfl (pr_pure rfl) rfl ?_
              refine TL.run (pr_pure rfl) rfl ?_
              refine TL.run (pr_pure rfl) rfl ?_
              refine TL.nil ?_
              exact TX.sw rfl (by unfold two4; first | (simp_all; done) | (simp_all; intros; omega)) ⟨rfl, rfl, rfl, rfl, rfl, trivial⟩
            ·
              have q110 := of_decide_eq_false g110
              refine TL.gdN rfl rfl rfl rfl ?_
              refine TL.gdN rfl rfl rfl rfl ?_
              refine TL.gdN rfl rfl rfl rfl ?_
              refine TL.run (pr_pure rfl) rfl ?_
              refine TL.run (pr_pure rfl) rfl ?_
              refine TL.nil ?_
              exact TX.sw rfl (by unfold two4; first | (simp_all; done) | (simp_all; intros; omega)) ⟨rfl, rfl, rfl, rfl, rfl, trivial⟩
          ·
            have q100 := of_decide_eq_false g100
            refine TL.gdY rfl rfl (pr_field rfl) rfl ?_
            refine TL.gdY rfl rfl (pr_own1 rfl (.there _ (.there _ (.there _ (.here _)))) rfl) rfl ?_
            refine TL.gdY rfl rfl (pr_pure rfl) rfl ?_
            refine TL.run (pr_pure rfl) rfl ?_
            refine TL.run (pr_pure rfl) rfl ?_
            refine TL.split (s := 105) rfl (fun g105 => ?_) (fun g105 => ?_)
            ·
              have q105 := of_decide_eq_true g105
              refine TL.gdY rfl rfl (pr_field rfl) rfl ?_
              refine TL.gdY rfl rfl (pr_own1 rfl (.there _ (.there _ (.here _))) rfl) rfl ?_
              refine TL.gdY rfl rfl (pr_pure rfl) rfl ?_
              refine TL.run (pr_pure rfl) rfl ?_
              refine TL.run (pr_pure rfl) rfl ?_
              refine TL.split (s := 110) rfl (fun g110 => ?_) (fun g110 => ?_)
              ·
                have q110 := of_decide_eq_true g110
                refine TL.gdY rfl rfl (pr_field rfl) rfl ?_
                refine TL.gdY rfl rfl (pr_own1 rfl (.there _ (.here _)) rfl) rfl ?_
                refine TL.gdY rfl rfl (pr_pure rfl) rfl ?_
                refine TL.run (pr_pure rfl) rfl ?_
                refine TL.run (pr_pure rfl) rfl ?_
                refine TL.nil ?_
                exact TX.sw rfl (by unfold two4; first | (simp_all; done) | (simp_all; intros; omega)) ⟨rfl, rfl, rfl, rfl, rfl, trivial⟩
              ·
                have q110 := of_decide_eq_false g110
                refine TL.gdN rfl rfl rfl rfl ?_
                refine TL.gdN rfl rfl rfl rfl ?_
                refine TL.gdN rfl rfl rfl rfl ?_
                refine TL.run (pr_pure rfl) rfl ?_
                refine TL.run (pr_pure rfl) rfl ?_
                refine TL.nil ?_
                exact TX.sw rfl (by unfold two4; first | (simp_all; done) | (simp_all; intros; omega)) ⟨rfl, rfl, rfl, rfl, rfl, trivial⟩
            ·
              have q105 := of_decide_eq_false g105
              refine TL.gdN rfl rfl rfl rfl ?_
              refine TL.gdN rfl rfl rfl rfl ?_
              refine TL.gdN rfl rfl rfl rfl ?_
              refine TL.run (pr_pure rfl) rfl ?_
              refine TL.run (pr_pure rfl) rfl ?_
              refine TL.gdN rfl rfl rfl rfl ?_
              refine TL.gdN rfl rfl rfl rfl ?_
              refine TL.gdN rfl rfl rfl rfl ?_
              refine TL.run (pr_pure rfl) rfl ?_
              refine TL.run (pr_pure rfl) rfl ?_
              refine TL.nil ?_
              exact TX.sw rfl (by unfold two4; first | (simp_all; done) | (simp_all; intros; omega)) ⟨rfl, rfl, rfl, rfl, rfl, trivial⟩
        refine TC.cond rfl (fun c96 => ?_) (fun c96 => ?_)
        ·
          refine TC.seq ?_
          refine TC.region ?_
          refine TL.run (pr_field rfl) rfl ?_
          refine TL.run (pr_own1 rfl (.there _ (.there _ (.there _ (.here _)))) rfl) rfl ?_
          refine TL.run (pr_field rfl) rfl ?_
          refine TL.run (pr_own1 rfl (.there _ (.there _ (.here _))) rfl) rfl ?_
          refine TL.run (pr_field rfl) rfl ?_
          refine TL.run (pr_own1 rfl (.there _ (.here _)) rfl) rfl ?_
          refine TL.call (enters rfl rfl rfl rfl) (rlisted_ok (b := b) t.kind b.n rfl hA) rfl (fun v121 H121 hle121 hp121 => ?_)
          obtain ⟨lv121, rfl, hR121⟩ := hp121
          obtain ⟨la121, lc121, rfl⟩ := RdSl.len hR121
          refine TL.run (pr_pure rfl) rfl ?_
          refine TL.run (pr_pure rfl) rfl ?_
          refine TL.storeA rfl rfl rfl rfl rfl (.here _) rfl rfl ?_
          refine TL.run (pr_pure rfl) rfl ?_
          refine TL.nil ?_
          refine TX.seqN ?_
          refine TC.ret ?_
          refine TX.blkR ?_
          refine TX.thenR ?_
          exact TX.fin0 (.inr rfl) (results2 rfl (RVal.cellA rfl (.here _) rfl) (RVal.tmp rfl)) (RV.of (q := (if t.kind = 17 then atV a b else pushV a b)) (two4_T c96).symm hR121)
        ·
          refine TC.sw (two5 t.kind a b) 124 [(3, _), (4, _), (5, _), (6, _), (7, _)] ⟨rfl, rfl, rfl, rfl, rfl, trivial⟩ ?_ ?_
          ·
            refine TC.region ?_
            refine TL.run (pr_field rfl) rfl ?_
            refine TL.run (pr_own1 rfl (.there _ (.there _ (.there _ (.here _)))) rfl) rfl ?_
            refine TL.run (pr_pure rfl) rfl ?_
            refine TL.run (pr_pure rfl) rfl ?_
            refine TL.split (s := 128) rfl (fun g128 => ?_) (fun g128 => ?_)
            ·
              have q128 := of_decide_eq_true g128
              refine TL.gdN rfl rfl rfl rfl ?_
              refine TL.gdN rfl rfl rfl rfl ?_
              refine TL.gdN rfl rfl rfl rfl ?_
              refine TL.run (pr_pure rfl) rfl ?_
              refine TL.run (pr_pure rfl) rfl ?_
              refine TL.gdY rfl rfl (pr_field rfl) rfl ?_
              refine TL.gdY rfl rfl (pr_own1 rfl (.there _ (.there _ (.here _))) rfl) rfl ?_
              refine TL.gdY rfl rfl (pr_pure rfl) rfl ?_
              refine TL.run (pr_pure rfl) rfl ?_
              refine TL.run (pr_pure rfl) rfl ?_
              refine TL.split (s := 138) rfl (fun g138 => ?_) (fun g138 => ?_)
              ·
                have q138 := of_decide_eq_true g138
                refine TL.gdY rfl rfl (pr_field rfl) rfl ?_
                refine TL.gdY rfl rfl (pr_own1 rfl (.there _ (.here _)) rfl) rfl ?_
                refine TL.gdY rfl rfl (pr_pure rfl) rfl ?_
                refine TL.run (pr_pure rfl) rfl ?_
                refine TL.run (pr_pure rfl) rfl ?_
                refine TL.nil ?_
                exact TX.sw rfl (by unfold two5; first | (simp_all; done) | (simp_all; intros; omega)) ⟨rfl, rfl, rfl, rfl, rfl, trivial⟩
              ·
                have q138 := of_decide_eq_false g138
                refine TL.gdN rfl rfl rfl rfl ?_
                refine TL.gdN rfl rfl rfl rfl ?_
                refine TL.gdN rfl rfl rfl rfl ?_
                refine TL.run (pr_pure rfl) rfl ?_
                refine TL.run (pr_pure rfl) rfl ?_
                refine TL.nil ?_
                exact TX.sw rfl (by unfold two5; first | (simp_all; done) | (simp_all; intros; omega)) ⟨rfl, rfl, rfl, rfl, rfl, trivial⟩
            ·
              have q128 := of_decide_eq_false g128
              refine TL.gdY rfl rfl (pr_field rfl) rfl ?_
              refine TL.gdY rfl rfl (pr_own1 rfl (.there _ (.there _ (.there _ (.here _)))) rfl) rfl ?_
              refine TL.gdY rfl rfl (pr_pure rfl) rfl ?_
              refine TL.run (pr_pure rfl) rfl ?_
              refine TL.run (pr_pure rfl) rfl ?_
              refine TL.split (s := 133) rfl (fun g133 => ?_) (fun g133 => ?_)
              ·
                have q133 := of_decide_eq_true g133
                refine TL.gdY rfl rfl (pr_field rfl) rfl ?_
                refine TL.gdY rfl rfl (pr_own1 rfl (.there _ (.there _ (.here _))) rfl) rfl ?_
                refine TL.gdY rfl rfl (pr_pure rfl) rfl ?_
                refine TL.run (pr_pure rfl) rfl ?_
                refine TL.run (pr_pure rfl) rfl ?_
                refine TL.split (s := 138) rfl (fun g138 => ?_) (fun g138 => ?_)
                ·
                  have q138 := of_decide_eq_true g138
                  refine TL.gdY rfl rfl (pr_field rfl) rfl ?_
                  refine TL.gdY rfl rfl (pr_own1 rfl (.there _ (.here _)) rfl) rfl ?_
                  refine TL.gdY rfl rfl (pr_pure rfl) rfl ?_
                  refine TL.run (pr_pure rfl) rfl ?_
                  refine TL.run (pr_pure rfl) rfl ?_
                  refine TL.nil ?_
                  exact TX.sw rfl (by unfold two5; first | (simp_all; done) | (simp_all; intros; omega)) ⟨rfl, rfl, rfl, rfl, rfl, trivial⟩
                ·
                  have q138 := of_decide_eq_false g138
                  refine TL.gdN rfl rfl rfl rfl ?_
                  refine TL.gdN rfl rfl rfl rfl ?_
                  refine TL.gdN rfl rfl rfl rfl ?_
                  refine TL.run (pr_pure rfl) rfl ?_
                  refine TL.run (pr_pure rfl) rfl ?_
                  refine TL.nil ?_
                  exact TX.sw rfl (by unfold two5; first | (simp_all; done) | (simp_all; intros; omega)) ⟨rfl, rfl, rfl, rfl, rfl, trivial⟩
              ·
                have q133 := of_decide_eq_false g133
                refine TL.gdN rfl rfl rfl rfl ?_
                refine TL.gdN rfl rfl rfl rfl ?_
                refine TL.gdN rfl rfl rfl rfl ?_
                refine TL.run (pr_pure rfl) rfl ?_
                refine TL.run (pr_pure rfl) rfl ?_
                refine TL.gdN rfl rfl rfl rfl ?_
                refine TL.gdN rfl rfl rfl rfl ?_
                refine TL.gdN rfl rfl rfl rfl ?_
                refine TL.run (pr_pure rfl) rfl ?_
                refine TL.run (pr_pure rfl) rfl ?_
                refine TL.nil ?_
                exact TX.sw rfl (by unfold two5; first | (simp_all; done) | (simp_all; intros; omega)) ⟨rfl, rfl, rfl, rfl, rfl, trivial⟩
          refine TC.cond rfl (fun c124 => ?_) (fun c124 => ?_)
          ·
            refine TC.seq ?_
            refine TC.region ?_
            refine TL.run (pr_field rfl) rfl ?_
            refine TL.run (pr_own1 rfl (.there _ (.there _ (.there _ (.here _)))) rfl) rfl ?_
            refine TL.run (pr_field rfl) rfl ?_
            refine TL.run (pr_own1 rfl (.there _ (.there _ (.here _))) rfl) rfl ?_
            refine TL.run (pr_field rfl) rfl ?_
            refine TL.run (pr_own1 rfl (.there _ (.here _)) rfl) rfl ?_
            refine TL.callS (enters rfl rfl rfl rfl) (rnumbers_ok t.kind a.n b.n (two5_T ho c124).2) rfl ?_
            refine TL.run (pr_pure rfl) rfl ?_
            refine TL.run (pr_pure rfl) rfl ?_
            refine TL.storeA rfl rfl rfl rfl rfl (.here _) rfl rfl ?_
            refine TL.run (pr_pure rfl) rfl ?_
            refine TL.nil ?_
            refine TX.seqN ?_
            refine TC.ret ?_
            refine TX.blkR ?_
            refine TX.thenR ?_
            exact TX.fin0 (.inr rfl) (results2 rfl (RVal.cellA rfl (.here _) rfl) (RVal.tmp rfl)) (RV.of (q := numV t.kind a.n b.n) (two5_T ho c124).1.symm (by unfold numV; (repeat' split) <;> exact RdSl.nil))
          ·
            refine TC.skip ?_
            refine TX.blkN ?_
            refine TX.seqN ?_
            refine TC.seq ?_
            refine TC.region ?_
            refine TL.run (pr_build rfl rfl) rfl ?_
            refine TL.storeA rfl rfl rfl rfl rfl (.here _) rfl rfl ?_
            refine TL.run (pr_pure rfl) rfl ?_
            refine TL.nil ?_
            refine TX.seqN ?_
            refine TC.ret ?_
            exact TX.fin0 (.inr rfl) (results2 rfl (RVal.cellA rfl (.here _) rfl) (RVal.tmp rfl)) (RV.of (q := (v0, 402)) (two_F ho c8 c28 c67 c96 c124).symm RdSl.nil)
end Go.Sx
