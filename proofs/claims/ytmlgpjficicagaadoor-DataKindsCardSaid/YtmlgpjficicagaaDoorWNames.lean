import Derived.Test.YtmlgpjficicagaaDoorFacts
import Derived.Test.YtmlgpjficicagaaDoorPureB
set_option linter.unusedVariables false
set_option linter.unusedSimpArgs false
namespace Go.Sx
open Go Go.Proofs
set_option maxRecDepth 100000 in
set_option maxHeartbeats 1000000 in
theorem n_Keyword_ok {H : Hp} (s : Str) :
    FnS Tryd.prog 46 [gs s] H (.bool (keywordB s)) := by
  refine FnS.enter Tryd.func46 Tryd.ntmps46 rfl rfl (fun w0 => ?_)
  refine TC.seq ?_
  refine TC.region ?_
  refine TL.run (pr_pure rfl) rfl ?_
  refine TL.nil ?_
  refine TX.seqN ?_
  refine TC.seq ?_
  refine TC.seq ?_
  refine TC.region ?_
  refine TL.run (pr_pure rfl) rfl ?_
  refine TL.nil ?_
  refine TX.seqN ?_
  refine TC.block ?_
  refine TC.sw (kw1 s) 4 [(2, _), (3, _)] ⟨rfl, rfl, trivial⟩ ?_ ?_
  ·
    refine TC.swG (pr_str rfl rfl rfl) rfl rfl ⟨rfl, rfl, trivial⟩ ?_
    refine TC.swG (pr_str rfl rfl rfl) rfl rfl ⟨rfl, rfl, trivial⟩ ?_
    refine TC.swG (pr_str rfl rfl rfl) rfl rfl ⟨rfl, rfl, trivial⟩ ?_
    refine TC.swG (pr_str rfl rfl rfl) rfl rfl ⟨rfl, rfl, trivial⟩ ?_
    refine TC.swG (pr_str rfl rfl rfl) rfl rfl ⟨rfl, rfl, trivial⟩ ?_
    refine TC.swG (pr_str rfl rfl rfl) rfl rfl ⟨rfl, rfl, trivial⟩ ?_
    refine TC.swG (pr_str rfl rfl rfl) rfl rfl ⟨rfl, rfl, trivial⟩ ?_
    refine TC.swG (pr_str rfl rfl rfl) rfl rfl ⟨rfl, rfl, trivial⟩ ?_
    refine TC.swG (pr_str rfl rfl rfl) rfl rfl ⟨rfl, rfl, trivial⟩ ?_
    refine TC.swG (pr_str rfl rfl rfl) rfl rfl ⟨rfl, rfl, trivial⟩ ?_
    refine TC.swG (pr_str rfl rfl rfl) rfl rfl ⟨rfl, rfl, trivial⟩ ?_
    refine TC.swG (pr_str rfl rfl rfl) rfl rfl ⟨rfl, rfl, trivial⟩ ?_
    exact TC.swE (pr_str rfl rfl rfl) rfl rfl ⟨rfl, rfl, trivial⟩
  refine TC.cond rfl (fun c4 => ?_) (fun c4 => ?_)
  ·
    refine TC.seq ?_
    refine TC.region ?_
    refine TL.run (pr_pure rfl) rfl ?_
    refine TL.nil ?_
    refine TX.seqN ?_
    refine TC.ret ?_
    refine TX.blkR ?_
    refine TX.thenR ?_
    exact TX.fin0 (.inr rfl) (results1 rfl (RVal.tmp rfl)) ⟨congrArg Value.bool (by simp_all [keywordB]), rfl⟩
  ·
    refine TC.sw (kw2 s) 18 [(2, _), (3, _)] ⟨rfl, rfl, trivial⟩ ?_ ?_
    ·
      refine TC.swG (pr_str rfl rfl rfl) rfl rfl ⟨rfl, rfl, trivial⟩ ?_
      refine TC.swG (pr_str rfl rfl rfl) rfl rfl ⟨rfl, rfl, trivial⟩ ?_
      refine TC.swG (pr_str rfl rfl rfl) rfl rfl ⟨rfl, rfl, trivial⟩ ?_
      refine TC.swG (pr_str rfl rfl rfl) rfl rfl ⟨rfl, rfl, trivial⟩ ?_
      refine TC.swG (pr_str rfl rfl rfl) rfl rfl ⟨rfl, rfl, trivial⟩ ?_
      refine TC.swG (pr_str rfl rfl rfl) rfl rfl ⟨rfl, rfl, trivial⟩ ?_
      refine TC.swG (pr_str rfl rfl rfl) rfl rfl ⟨rfl, rfl, trivial⟩ ?_
      refine TC.swG (pr_str rfl rfl rfl) rfl rfl ⟨rfl, rfl, trivial⟩ ?_
      refine TC.swG (pr_str rfl rfl rfl) rfl rfl ⟨rfl, rfl, trivial⟩ ?_
      refine TC.swG (pr_str rfl rfl rfl) rfl rfl ⟨rfl, rfl, trivial⟩ ?_
      refine TC.swG (pr_str rfl rfl rfl) rfl rfl ⟨rfl, rfl, trivial⟩ ?_
      refine TC.swG (pr_str rfl rfl rfl) rfl rfl ⟨rfl, rfl, trivial⟩ ?_
      exact TC.swE (pr_str rfl rfl rfl) rfl rfl ⟨rfl, rfl, trivial⟩
    refine TC.cond rfl (fun c18 => ?_) (fun c18 => ?_)
    ·
      refine TC.seq ?_
      refine TC.region ?_
      refine TL.run (pr_pure rfl) rfl ?_
      refine TL.nil ?_
      refine TX.seqN ?_
      refine TC.ret ?_
      refine TX.blkR ?_
      refine TX.thenR ?_
      exact TX.fin0 (.inr rfl) (results1 rfl (RVal.tmp rfl)) ⟨congrArg Value.bool (by simp_all [keywordB]), rfl⟩
    ·
      refine TC.sw (kw3 s) 32 [(2, _)] ⟨rfl, trivial⟩ ?_ ?_
      ·
        refine TC.swG (pr_str rfl rfl rfl) rfl rfl ⟨rfl, trivial⟩ ?_
        refine TC.swG (pr_str rfl rfl rfl) rfl rfl ⟨rfl, trivial⟩ ?_
        refine TC.swG (pr_str rfl rfl rfl) rfl rfl ⟨rfl, trivial⟩ ?_
        refine TC.swG (pr_str rfl rfl rfl) rfl rfl ⟨rfl, trivial⟩ ?_
        refine TC.swG (pr_str rfl rfl rfl) rfl rfl ⟨rfl, trivial⟩ ?_
        refine TC.swG (pr_str rfl rfl rfl) rfl rfl ⟨rfl, trivial⟩ ?_
        refine TC.swG (pr_str rfl rfl rfl) rfl rfl ⟨rfl, trivial⟩ ?_
        refine TC.swG (pr_str rfl rfl rfl) rfl rfl ⟨rfl, trivial⟩ ?_
        refine TC.swG (pr_str rfl rfl rfl) rfl rfl ⟨rfl, trivial⟩ ?_
        refine TC.swG (pr_str rfl rfl rfl) rfl rfl ⟨rfl, trivial⟩ ?_
        refine TC.swG (pr_str rfl rfl rfl) rfl rfl ⟨rfl, trivial⟩ ?_
        refine TC.swG (pr_str rfl rfl rfl) rfl rfl ⟨rfl, trivial⟩ ?_
        exact TC.swE (pr_str rfl rfl rfl) rfl rfl ⟨rfl, trivial⟩
      refine TC.cond rfl (fun c32 => ?_) (fun c32 => ?_)
      ·
        refine TC.seq ?_
        refine TC.region ?_
        refine TL.run (pr_pure rfl) rfl ?_
        refine TL.nil ?_
        refine TX.seqN ?_
        refine TC.ret ?_
        refine TX.blkR ?_
        refine TX.thenR ?_
        exact TX.fin0 (.inr rfl) (results1 rfl (RVal.tmp rfl)) ⟨congrArg Value.bool (by simp_all [keywordB]), rfl⟩
      ·
        refine TC.skip ?_
        refine TX.blkN ?_
        refine TX.seqN ?_
        refine TC.seq ?_
        refine TC.region ?_
        refine TL.run (pr_pure rfl) rfl ?_
        refine TL.nil ?_
        refine TX.seqN ?_
        refine TC.ret ?_
        exact TX.fin0 (.inr rfl) (results1 rfl (RVal.tmp rfl)) ⟨congrArg Value.bool (by simp_all [keywordB]), rfl⟩

set_option maxRecDepth 100000 in
set_option maxHeartbeats 1000000 in
theorem r_digit_ok {H : Hp} (c : UInt8) :
    FnS Tryd.prog 55 [.int .u8 (c.toNat : Int)] H (.bool (digitB c)) := by
  refine FnS.enter Tryd.func55 Tryd.ntmps55 rfl rfl (fun w0 => ?_)
  refine TC.seq ?_
  refine TC.region ?_
  refine TL.run (pr_pure rfl) rfl ?_
  refine TL.nil ?_
  refine TX.seqN ?_
  refine TC.seq ?_
  refine TC.region ?_
  refine TL.run (pr_pure rfl) rfl ?_
  refine TL.run (pr_pure rfl) rfl ?_
  refine TL.run (pr_pure rfl) rfl ?_
  refine TL.split (s := 5) rfl (fun g5 => ?_) (fun g5 => ?_)
  ·
    have q5 := of_decide_eq_true g5
    refine TL.gdY rfl rfl (pr_pure rfl) rfl ?_
    refine TL.gdY rfl rfl (pr_pure rfl) rfl ?_
    refine TL.run (pr_pure rfl) rfl ?_
    refine TL.run (pr_pure rfl) rfl ?_
    refine TL.nil ?_
    refine TX.seqN ?_
    refine TC.ret ?_
    exact TX.fin0 (.inr rfl) (results1 rfl (RVal.tmp rfl)) ⟨congrArg Value.bool (by simp [digitB, g5]), rfl⟩
  ·
    have q5 := of_decide_eq_false g5
    refine TL.gdN rfl rfl rfl rfl ?_
    refine TL.gdN rfl rfl rfl rfl ?_
    refine TL.run (pr_pure rfl) rfl ?_
    refine TL.run (pr_pure rfl) rfl ?_
    refine TL.nil ?_
    refine TX.seqN ?_
    refine TC.ret ?_
    exact TX.fin0 (.inr rfl) (results1 rfl (RVal.tmp rfl)) ⟨congrArg Value.bool (by simp [digitB, g5]), rfl⟩
end Go.Sx
