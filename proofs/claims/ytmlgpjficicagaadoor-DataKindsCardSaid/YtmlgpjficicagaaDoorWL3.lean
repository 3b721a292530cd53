import Derived.Test.YtmlgpjficicagaaDoorWData
import Derived.Test.YtmlgpjficicagaaDoorPureD4
set_option linter.unusedVariables false
set_option linter.unusedSimpArgs false
namespace Go.Sx
open Go Go.Proofs
set_option maxRecDepth 100000 in
set_option maxHeartbeats 1000000 in
theorem first3_ok {H : Hp} (hG : LibG H) :
    FnGS Tabs Tryd.prog 8 [] H (.bool true) := by
  refine FnGS.enter Tryd.func8 Tryd.ntmps8 rfl rfl (fun w0 hT => ?_)
  refine TC.seq ?_
  refine TC.region ?_
  refine TL.run (pr_pure rfl) rfl ?_
  refine TL.nil ?_
  refine TX.seqN ?_
  refine TC.seq ?_
  refine TC.region ?_
  refine TL.callT hT (enters rfl rfl rfl rfl) (dRead_ok [91, 93] (by decide) hG) rfl (fun v4 H4 hle4 hp4 => ?_)
  rw [first_read] at hp4
  obtain ⟨lv4, rfl, hR4⟩ := hp4
  replace hG := hG.le hle4
  obtain ⟨la4, lc4, rfl⟩ := RdSl.len (show RdSl _ 1 I64.cells lv4 _ from hR4)
  refine TL.run (pr_pure rfl) rfl ?_
  refine TL.run (pr_pure rfl) rfl ?_
  refine TL.run (pr_pure rfl) rfl ?_
  refine TL.alloc rfl (fun b1 => ?_)
  refine TL.storeA rfl rfl rfl rfl rfl (.here _) rfl rfl ?_
  refine TL.run (pr_pure rfl) rfl ?_
  refine TL.nil ?_
  refine TX.seqN ?_
  refine TC.seq ?_
  refine TC.region ?_
  refine TL.bslice rfl rfl rfl rfl (fun b7 => ?_)
  refine TL.run (pr_build rfl rfl) rfl ?_
  refine TL.pub (by simp) (fun H_b7 le_b7 rd_b7 => ?_)
  replace hG := hG.le le_b7
  replace hR4 := hR4.le le_b7
  have hX : RdSl H_b7 1 I64.cells _ ([1, -2]) := RdSl.blk (cap := 2) rd_b7 (by intro x hx; rfl) (by kernel_rfl) (by show 2 ≤ 9223372036854775807; decide)
  refine TL.callTS hT (enters rfl rfl rfl rfl) (first_show ▸ dShow_ok (a := ⟨4, 0, [], [1, -2]⟩) hX first_i64 (fun _ h => absurd h (by decide))) rfl ?_
  refine TL.run (pr_str rfl rfl rfl) rfl ?_
  refine TL.run (pr_pure rfl) rfl ?_
  refine TL.split (s := 11) rfl (fun g11 => ?_) (fun g11 => ?_)
  ·
    have q11 := of_decide_eq_true g11
    refine TL.gdY rfl rfl (pr_pure rfl) rfl ?_
    refine TL.gdY rfl rfl (pr_pure rfl) rfl ?_
    refine TL.run (pr_pure rfl) rfl ?_
    refine TL.run (pr_pure rfl) rfl ?_
    refine TL.split (s := 15) rfl (fun g15 => ?_) (fun g15 => ?_)
    ·
      have q15 := of_decide_eq_true g15
      refine TL.gdY rfl rfl (pr_field rfl) rfl ?_
      refine TL.gdY rfl rfl (pr_own1 rfl (.here _) rfl) rfl ?_
      refine TL.gdY rfl rfl (pr_pure rfl) rfl ?_
      refine TL.run (pr_pure rfl) rfl ?_
      refine TL.run (pr_pure rfl) rfl ?_
      refine TL.split (s := 20) rfl (fun g20 => ?_) (fun g20 => ?_)
      ·
        have q20 := of_decide_eq_true g20
        refine TL.gdY rfl rfl (pr_field rfl) rfl ?_
        refine TL.gdY rfl rfl (pr_own1 rfl (.here _) rfl) rfl ?_
        have hR4b : RdSl _ 1 I64.cells _ [] := hR4
        refine TL.gdY rfl rfl (pr_lenSl rfl rfl hR4b) rfl ?_
        refine TL.gdY rfl rfl (pr_pure rfl) rfl ?_
        refine TL.run (pr_pure rfl) rfl ?_
        refine TL.run (pr_pure rfl) rfl ?_
        refine TL.split (s := 26) rfl (fun g26 => ?_) (fun g26 => ?_)
        ·
          have q26 := of_decide_eq_true g26
          refine TL.gdY rfl rfl (pr_ownA rfl (.here _) rfl) rfl ?_
          refine TL.callSY rfl rfl (enters rfl rfl rfl rfl) (dMay_ok (x := ⟨4, 0, [], []⟩) hR4) rfl ?_
          refine TL.run (pr_pure rfl) rfl ?_
          refine TL.run (pr_pure rfl) rfl ?_
          refine TL.split (s := 30) rfl (fun g30 => ?_) (fun g30 => ?_)
          ·
            refine TL.gdY rfl rfl (pr_build rfl rfl) rfl ?_
            refine TL.callSY rfl rfl (enters rfl rfl rfl rfl) (dMay_ok (x := ⟨9, 0, [], []⟩) (lv := .slice none 0 0) RdSl.nil) rfl ?_
            refine TL.gdY rfl rfl (pr_pure rfl) rfl ?_
            refine TL.run (pr_pure rfl) rfl ?_
            refine TL.run (pr_pure rfl) rfl ?_
            refine TL.nil ?_
            refine TX.seqN ?_
            refine TC.ret ?_
            exact TX.finS (.inr rfl) (results1 rfl (RVal.tmp rfl)) (congrArg Value.bool (by decide))
          ·
            exact absurd g30 (by decide)
        ·
          have q26 := of_decide_eq_false g26
          exact absurd g26 (by decide)
      ·
        have q20 := of_decide_eq_false g20
        exact absurd g20 (by decide)
    ·
      have q15 := of_decide_eq_false g15
      exact absurd g15 (by decide)
  ·
    have q11 := of_decide_eq_false g11
    exact absurd g11 (by decide)
end Go.Sx
