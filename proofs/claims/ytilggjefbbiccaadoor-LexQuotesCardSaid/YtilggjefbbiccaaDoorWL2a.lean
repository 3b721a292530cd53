import Derived.Test.YtilggjefbbiccaaDoorWL2
set_option linter.unusedVariables false
set_option linter.unusedSimpArgs false
namespace Go.Sx
open Go Go.Proofs
set_option maxRecDepth 100000 in
set_option maxHeartbeats 1000000 in
theorem LexQuotes_ok {H : Hp} (s u : Str) (hG : LibG H) :
    FnS Tryd.prog 3 [gs s, gs u] H (.bool true) := by
  refine FnS.enter Tryd.func3 Tryd.ntmps3 rfl rfl (fun w0 => ?_)
  refine TC.seq ?_
  refine TC.region ?_
  refine TL.run (pr_pure rfl) rfl ?_
  refine TL.nil ?_
  refine TX.seqN ?_
  refine TC.seq ?_
  refine TC.seq ?_
  refine TC.region ?_
  refine TL.callS (enters rfl rfl rfl rfl) (first2_ok hG) rfl ?_
  refine TL.run (pr_pure rfl) rfl ?_
  refine TL.nil ?_
  refine TX.seqN ?_
  refine TC.cond rfl (fun c11 => ?_) (fun c11 => ?_)
  ·
    exact absurd c11 (by decide)
  ·
    refine TC.skip ?_
    refine TX.seqN ?_
    refine TC.seq ?_
    refine TC.seq ?_
    refine TC.region ?_
    refine TL.run (pr_pure rfl) rfl ?_
    refine TL.run (pr_lenStr rfl rfl) rfl ?_
    refine TL.run (pr_pure rfl) rfl ?_
    refine TL.nil ?_
    refine TX.seqN ?_
    refine TC.condD rfl (fun c14 => ?_) (fun c14 => ?_)
    ·
      refine TC.seq ?_
      refine TC.region ?_
      refine TL.run (pr_pure rfl) rfl ?_
      refine TL.nil ?_
      refine TX.seqN ?_
      refine TC.ret ?_
      refine TX.thenR ?_
      exact TX.finS (.inr rfl) (results1 rfl (RVal.tmp rfl)) (congrArg Value.bool (by first | rfl | exact decide_eq_true (by omega)))
    ·
      have hq2 := quotedL_len s
      refine TC.skip ?_
      refine TX.seqN ?_
      refine TC.seq ?_
      refine TC.region ?_
      refine TL.run (pr_pure rfl) rfl ?_
      refine TL.callS (enters rfl rfl rfl rfl) (x_Quoted_ok s (by omega)) rfl ?_
      refine TL.run (pr_pure rfl) rfl ?_
      refine TL.nil ?_
      refine TX.seqN ?_
      refine TC.seq ?_
      refine TC.seq ?_
      refine TC.region ?_
      refine TL.run (pr_pure rfl) rfl ?_
      refine TL.nil ?_
      refine TX.seqN ?_
      refine TC.block ?_
      refine TC.loop (V := fun k => [(6, .int .i64 k)]) (K := [(0, _), (4, _), (5, _)]) (L := fun k => _) (I := fun k => 0 ≤ k ∧ k ≤ (quotedL s).length) (μ := fun k => ((quotedL s).length - k).toNat) (i := (0 : Int)) ⟨rfl, rfl, rfl, rfl, trivial⟩ ⟨by omega, by omega⟩ (fun w hw => hw) (fun k hI => ?_)
      refine TC.seq ?_
      refine TC.seq ?_
      refine TC.region ?_
      refine TL.run (pr_pure rfl) rfl ?_
      refine TL.run (pr_pure rfl) rfl ?_
      refine TL.run (pr_lenStr rfl rfl) rfl ?_
      refine TL.run (pr_pure rfl) rfl ?_
      refine TL.nil ?_
      refine TX.seqN ?_
      refine TC.condD rfl (fun c20 => ?_) (fun c20 => ?_)
      ·
        obtain ⟨c, hc⟩ := getSome (l := quotedL s) hI.1 c20
        have hpl := List.all_eq_true.1 (quotedL_plain s) c (List.mem_of_getElem? hc)
        refine TC.skip ?_
        refine TX.seqN ?_
        refine TC.seq ?_
        refine TC.block ?_
        refine TC.sw (!plainB c) 32 [(0, _), (4, _), (5, _), (6, _), (17, _), (18, _), (19, _), (20, _)] ⟨rfl, rfl, rfl, rfl, rfl, rfl, rfl, rfl, trivial⟩ ?_ ?_
        ·
          refine TC.region ?_
          refine TL.run (pr_pure rfl) rfl ?_
          refine TL.run (pr_pure rfl) rfl ?_
          refine TL.run (pr_strIx rfl rfl (by omega) hc) rfl ?_
          refine TL.run (pr_pure rfl) rfl ?_
          refine TL.run (pr_pure rfl) rfl ?_
          refine TL.split (s := 27) rfl (fun g27 => ?_) (fun g27 => ?_)
          ·
            have q27 := of_decide_eq_true g27
            refine TL.gdN rfl rfl rfl rfl ?_
            refine TL.gdN rfl rfl rfl rfl ?_
            refine TL.gdN rfl rfl rfl rfl ?_
            refine TL.gdN rfl rfl rfl rfl ?_
            refine TL.run (pr_pure rfl) rfl ?_
            refine TL.nil ?_
            exact TX.sw rfl (by first | exact plain_1 g27 | exact plain_2 g27) ⟨rfl, rfl, rfl, rfl, rfl, rfl, rfl, rfl, trivial⟩
          ·
            have q27 := of_decide_eq_false g27
            refine TL.gdY rfl rfl (pr_pure rfl) rfl ?_
            refine TL.gdY rfl rfl (pr_pure rfl) rfl ?_
            refine TL.gdY rfl rfl (pr_strIx rfl rfl (by omega) hc) rfl ?_
            refine TL.gdY rfl rfl (pr_pure rfl) rfl ?_
            refine TL.run (pr_pure rfl) rfl ?_
            refine TL.nil ?_
            exact TX.sw rfl (by first | exact plain_1 g27 | exact plain_2 g27) ⟨rfl, rfl, rfl, rfl, rfl, rfl, rfl, rfl, trivial⟩
        refine TC.cond rfl (fun c32 => ?_) (fun c32 => ?_)
        ·
          exact absurd c32 (by rw [hpl]; decide)
        ·
          refine TC.skip ?_
          refine TX.blkN ?_
          refine TX.seqN ?_
          refine TC.region ?_
          refine TL.run (pr_pure rfl) rfl ?_
          refine TL.run ((by first | exact pr_add rfl rfl (by omega) (by omega) | exact pr_pure rfl)) rfl ?_
          refine TL.run (pr_pure rfl) rfl ?_
          refine TL.nil ?_
          exact TX.round (k + 1) ⟨by omega, by omega⟩ ⟨rfl, rfl, rfl, rfl, trivial⟩ (fun w hw => hw) (by omega)
      ·
        refine TC.exit ?_
        refine TX.thenE ?_
        refine TX.thenE ?_
        refine TX.blkHit ?_
        refine TX.seqN ?_
        refine TC.seq ?_
        refine TC.region ?_
        refine TL.run (pr_pure rfl) rfl ?_
        refine TL.call (enters rfl rfl rfl rfl) (x_Tokens_ok (quotedL s) (by omega) hG) rfl (fun v35 H35 hle35 hp35 => ?_)
        rw [lexS_quoted (by omega)] at hp35
        obtain ⟨lv35, rfl, hR35⟩ := hp35
        replace hG := hG.le hle35
        obtain ⟨la35, lc35, rfl⟩ := RdSl.len hR35
        refine TL.run (pr_pure rfl) rfl ?_
        refine TL.run (pr_pure rfl) rfl ?_
        refine TL.run (pr_pure rfl) rfl ?_
        refine TL.run (pr_pure rfl) rfl ?_
        refine TL.run (pr_pure rfl) rfl ?_
        refine TL.run (pr_pure rfl) rfl ?_
        refine TL.run (pr_pure rfl) rfl ?_
        refine TL.nil ?_
        refine TX.seqN ?_
        refine TC.seq ?_
        refine TC.region ?_
        refine TL.run (pr_pure rfl) rfl ?_
        refine TL.run (pr_pure rfl) rfl ?_
        refine TL.run (pr_pure rfl) rfl ?_
        refine TL.split (s := 41) rfl (fun g41 => ?_) (fun g41 => ?_)
        ·
          have q41 := of_decide_eq_true g41
          refine TL.gdY rfl rfl (pr_pure rfl) rfl ?_
          refine TL.gdY rfl rfl (pr_pure rfl) rfl ?_
          refine TL.gdY rfl rfl (pr_build rfl rfl) rfl ?_
          refine TL.gd rfl rfl ?_
          refine TL.bslice rfl rfl rfl rfl (fun b45 => ?_)
          refine TL.pub (by simp) (fun H_b45 le_b45 rd_b45 => ?_)
          replace hG := hG.le le_b45
          replace hR35 := hR35.le le_b45
          have hX : RdSl H_b45 3 Token.cells _ ([⟨2, s, 0⟩]) := RdSl.blk (cap := 1) rd_b45 (by intro x hx; rfl) (by kernel_rfl) (by show 1 ≤ 9223372036854775807; decide)
          refine TL.callSY rfl rfl (enters rfl rfl rfl rfl) (same2_ok true hR35 hX) rfl ?_
          refine TL.run (pr_pure rfl) rfl ?_
          refine TL.run (pr_pure rfl) rfl ?_
          refine TL.split (s := 48) rfl (fun g48 => ?_) (fun g48 => ?_)
          ·
            refine TL.gdY rfl rfl (pr_pure rfl) rfl ?_
            refine TL.gdY rfl rfl (pr_lenStr rfl rfl) rfl ?_
            refine TL.gdY rfl rfl (pr_pure rfl) rfl ?_
            refine TL.gdY rfl rfl (pr_lenStr rfl rfl) rfl ?_
            refine TL.gdY rfl rfl ((by first | exact pr_add rfl rfl (by omega) (by omega) | exact pr_pure rfl)) rfl ?_
            refine TL.gdY rfl rfl (pr_pure rfl) rfl ?_
            refine TL.run (pr_pure rfl) rfl ?_
            refine TL.run (pr_pure rfl) rfl ?_
            refine TL.nil ?_
            refine TX.seqN ?_
            refine TC.ret ?_
            exact TX.finS (.inr rfl) (results1 rfl (RVal.tmp rfl)) (congrArg Value.bool (by first | rfl | exact decide_eq_true (by omega)))
          ·
            exact absurd g48 (by rw [sameT_refl]; decide)
        ·
          have q41 := of_decide_eq_false g41
          exact absurd g41 (by show ¬ decide ((0 : Int) = 0) = false; decide)
end Go.Sx
