import Derived.Test.YtilggjefbbiccaaDoorWLexT
import Derived.Test.YtilggjefbbiccaaDoorWLexW
import Derived.Test.YtilggjefbbiccaaDoorPureL3
set_option linter.unusedVariables false
set_option linter.unusedSimpArgs false
namespace Go.Sx
open Go Go.Proofs
set_option maxRecDepth 100000 in
set_option maxHeartbeats 1000000 in
theorem same2_ok {H : Hp} {a b : List Token} {va vb : Value} (w : Bool) (hA : RdSl H 3 Token.cells va a) (hB : RdSl H 3 Token.cells vb b) :
    FnS Tryd.prog 13 [va, vb, .bool w] H (.bool (sameT w a b)) := by
  have hma := hA.max
  refine FnS.enter Tryd.func13 Tryd.ntmps13 rfl rfl (fun w0 => ?_)
  refine TC.seq ?_
  refine TC.region ?_
  refine TL.run (pr_pure rfl) rfl ?_
  refine TL.nil ?_
  refine TX.seqN ?_
  refine TC.seq ?_
  refine TC.seq ?_
  refine TC.region ?_
  refine TL.run (pr_pure rfl) rfl ?_
  refine TL.run (pr_lenSl rfl rfl hA) rfl ?_
  refine TL.run (pr_pure rfl) rfl ?_
  refine TL.run (pr_lenSl rfl rfl hB) rfl ?_
  refine TL.run (pr_pure rfl) rfl ?_
  refine TL.nil ?_
  refine TX.seqN ?_
  refine TC.condND rfl (fun c12 => ?_) (fun c12 => ?_)
  ·
    refine TC.seq ?_
    refine TC.region ?_
    refine TL.run (pr_pure rfl) rfl ?_
    refine TL.nil ?_
    refine TX.seqN ?_
    refine TC.ret ?_
    refine TX.thenR ?_
    exact TX.finS (.inr rfl) (results1 rfl (RVal.tmp rfl)) (congrArg Value.bool (by first | exact (sameT_len (fun e => c12 (by rw [e]))).symm | exact (same_bad hI.1 hx hy c58 hI.2.2).symm | exact (sameT_end hl c16 hI.1 hI.2.2).symm))
  ·
    have hl : (a.length : Int) = b.length := by omega
    refine TC.skip ?_
    refine TX.seqN ?_
    refine TC.seq ?_
    refine TC.seq ?_
    refine TC.region ?_
    refine TL.run (pr_pure rfl) rfl ?_
    refine TL.nil ?_
    refine TX.seqN ?_
    refine TC.block ?_
    refine TC.loop (V := fun k => [(7, .int .i64 k)]) (K := [(0, _), (1, _), (2, _), (6, _)]) (L := fun k => _) (I := fun k => 0 ≤ k ∧ k ≤ a.length ∧ sameT w a b = sameT w (a.drop k.toNat) (b.drop k.toNat)) (μ := fun k => (a.length - k).toNat) (i := (0 : Int)) ⟨rfl, rfl, rfl, rfl, rfl, trivial⟩ ⟨by omega, by omega, rfl⟩ (fun w hw => hw) (fun k hI => ?_)
    refine TC.seq ?_
    refine TC.seq ?_
    refine TC.region ?_
    refine TL.run (pr_pure rfl) rfl ?_
    refine TL.run (pr_pure rfl) rfl ?_
    refine TL.run (pr_lenSl rfl rfl hA) rfl ?_
    refine TL.run (pr_pure rfl) rfl ?_
    refine TL.nil ?_
    refine TX.seqN ?_
    refine TC.condD rfl (fun c16 => ?_) (fun c16 => ?_)
    ·
      obtain ⟨x, hx⟩ := getSome (l := a) hI.1 c16
      obtain ⟨y, hy⟩ := getSome (l := b) hI.1 (by omega)
      refine TC.skip ?_
      refine TX.seqN ?_
      refine TC.seq ?_
      refine TC.block ?_
      refine TC.sw (!eqT w x y) 58 [(0, _), (1, _), (2, _), (6, _), (7, _), (13, _), (14, _), (15, _), (16, _)] ⟨rfl, rfl, rfl, rfl, rfl, rfl, rfl, rfl, rfl, trivial⟩ ?_ ?_
      ·
        refine TC.quiet (by kernel_rfl) (by kernel_rfl) ?_
        refine TQ.run (pr_pure rfl) rfl ?_
        refine TQ.run (pr_pure rfl) rfl ?_
        refine TQ.run (pr_indexSl rfl hA rfl (by omega) (by omega)) rfl ?_
        refine TQ.run (pr_field rfl) rfl ?_
        refine TQ.run (pr_el1 hA hx rfl rfl) rfl ?_
        refine TQ.run (pr_pure rfl) rfl ?_
        refine TQ.run (pr_pure rfl) rfl ?_
        refine TQ.run (pr_indexSl rfl hB rfl (by omega) (by omega)) rfl ?_
        refine TQ.run (pr_field rfl) rfl ?_
        refine TQ.run (pr_el1 hB hy rfl rfl) rfl ?_
        refine TQ.run (pr_pure rfl) rfl ?_
        refine TQ.run (pr_pure rfl) rfl ?_
        refine TQ.split (s := 30) rfl (fun g30 => ?_) (fun g30 => ?_)
        ·
          have q30 := of_ndec_true g30
          refine TQ.gdN rfl rfl rfl rfl ?_
          refine TQ.gdN rfl rfl rfl rfl ?_
          refine TQ.gdN rfl rfl rfl rfl ?_
          refine TQ.gdN rfl rfl rfl rfl ?_
          refine TQ.gdN rfl rfl rfl rfl ?_
          refine TQ.gdN rfl rfl rfl rfl ?_
          refine TQ.gdN rfl rfl rfl rfl ?_
          refine TQ.gdN rfl rfl rfl rfl ?_
          refine TQ.gdN rfl rfl rfl rfl ?_
          refine TQ.gdN rfl rfl rfl rfl ?_
          refine TQ.gdN rfl rfl rfl rfl ?_
          refine TQ.run (pr_pure rfl) rfl ?_
          refine TQ.run (pr_pure rfl) rfl ?_
          refine TQ.gdN rfl rfl rfl rfl ?_
          refine TQ.gdN rfl rfl rfl rfl ?_
          refine TQ.gdU rfl rfl rfl ?_
          refine TQ.gdU rfl rfl rfl ?_
          refine TQ.gdU rfl rfl rfl ?_
          refine TQ.gdU rfl rfl rfl ?_
          refine TQ.gdU rfl rfl rfl ?_
          refine TQ.gdU rfl rfl rfl ?_
          refine TQ.gdU rfl rfl rfl ?_
          refine TQ.gdU rfl rfl rfl ?_
          refine TQ.gdU rfl rfl rfl ?_
          refine TQ.gdU rfl rfl rfl ?_
          refine TQ.gdU rfl rfl rfl ?_
          refine TQ.gdN rfl rfl rfl rfl ?_
          refine TQ.run (pr_pure rfl) rfl ?_
          refine TQ.nil ?_
          exact TX.sw rfl (by first | exact eqT_1 g30 | exact eqT_2 g43 | exact eqT_3 g30 g43 g45 | exact eqT_4 g30 g43 g45) ⟨rfl, rfl, rfl, rfl, rfl, rfl, rfl, rfl, rfl, trivial⟩
        ·
          have q30 := of_ndec_false g30
          refine TQ.gdY rfl rfl (pr_pure rfl) rfl ?_
          refine TQ.gdY rfl rfl (pr_pure rfl) rfl ?_
          refine TQ.gdY rfl rfl (pr_indexSl rfl hA rfl (by omega) (by omega)) rfl ?_
          refine TQ.gdY rfl rfl (pr_field rfl) rfl ?_
          refine TQ.gdY rfl rfl (pr_el1 hA hx rfl rfl) rfl ?_
          refine TQ.gdY rfl rfl (pr_pure rfl) rfl ?_
          refine TQ.gdY rfl rfl (pr_pure rfl) rfl ?_
          refine TQ.gdY rfl rfl (pr_indexSl rfl hB rfl (by omega) (by omega)) rfl ?_
          refine TQ.gdY rfl rfl (pr_field rfl) rfl ?_
          refine TQ.gdY rfl rfl (pr_el1 hB hy rfl rfl) rfl ?_
          refine TQ.gdY rfl rfl (pr_str rfl rfl rfl) rfl ?_
          refine TQ.run (pr_pure rfl) rfl ?_
          refine TQ.run (pr_pure rfl) rfl ?_
          refine TQ.split (s := 43) rfl (fun g43 => ?_) (fun g43 => ?_)
          ·
            have q43 := of_ndec_true g43
            refine TQ.gdN rfl rfl rfl rfl ?_
            refine TQ.gdN rfl rfl rfl rfl ?_
            refine TQ.gdU rfl rfl rfl ?_
            refine TQ.gdU rfl rfl rfl ?_
            refine TQ.gdU rfl rfl rfl ?_
            refine TQ.gdU rfl rfl rfl ?_
            refine TQ.gdU rfl rfl rfl ?_
            refine TQ.gdU rfl rfl rfl ?_
            refine TQ.gdU rfl rfl rfl ?_
            refine TQ.gdU rfl rfl rfl ?_
            refine TQ.gdU rfl rfl rfl ?_
            refine TQ.gdU rfl rfl rfl ?_
            refine TQ.gdU rfl rfl rfl ?_
            refine TQ.gdN rfl rfl rfl rfl ?_
            refine TQ.run (pr_pure rfl) rfl ?_
            refine TQ.nil ?_
            exact TX.sw rfl (by first | exact eqT_1 g30 | exact eqT_2 g43 | exact eqT_3 g30 g43 g45 | exact eqT_4 g30 g43 g45) ⟨rfl, rfl, rfl, rfl, rfl, rfl, rfl, rfl, rfl, trivial⟩
          ·
            have q43 := of_ndec_false g43
            refine TQ.gdY rfl rfl (pr_pure rfl) rfl ?_
            refine TQ.gdY rfl rfl (pr_pure rfl) rfl ?_
            refine TQ.split (s := 45) rfl (fun g45 => ?_) (fun g45 => ?_)
            ·
              refine TQ.gdY rfl rfl (pr_pure rfl) rfl ?_
              refine TQ.gdY rfl rfl (pr_pure rfl) rfl ?_
              refine TQ.gdY rfl rfl (pr_indexSl rfl hA rfl (by omega) (by omega)) rfl ?_
              refine TQ.gdY rfl rfl (pr_field rfl) rfl ?_
              refine TQ.gdY rfl rfl (pr_el1 hA hx rfl rfl) rfl ?_
              refine TQ.gdY rfl rfl (pr_pure rfl) rfl ?_
              refine TQ.gdY rfl rfl (pr_pure rfl) rfl ?_
              refine TQ.gdY rfl rfl (pr_indexSl rfl hB rfl (by omega) (by omega)) rfl ?_
              refine TQ.gdY rfl rfl (pr_field rfl) rfl ?_
              refine TQ.gdY rfl rfl (pr_el1 hB hy rfl rfl) rfl ?_
              refine TQ.gdY rfl rfl (pr_pure rfl) rfl ?_
              refine TQ.gdY rfl rfl (pr_pure rfl) rfl ?_
              refine TQ.run (pr_pure rfl) rfl ?_
              refine TQ.nil ?_
              exact TX.sw rfl (by first | exact eqT_1 g30 | exact eqT_2 g43 | exact eqT_3 g30 g43 g45 | exact eqT_4 g30 g43 g45) ⟨rfl, rfl, rfl, rfl, rfl, rfl, rfl, rfl, rfl, trivial⟩
            ·
              refine TQ.gdN rfl rfl rfl rfl ?_
              refine TQ.gdN rfl rfl rfl rfl ?_
              refine TQ.gdN rfl rfl rfl rfl ?_
              refine TQ.gdN rfl rfl rfl rfl ?_
              refine TQ.gdN rfl rfl rfl rfl ?_
              refine TQ.gdN rfl rfl rfl rfl ?_
              refine TQ.gdN rfl rfl rfl rfl ?_
              refine TQ.gdN rfl rfl rfl rfl ?_
              refine TQ.gdN rfl rfl rfl rfl ?_
              refine TQ.gdN rfl rfl rfl rfl ?_
              refine TQ.gdN rfl rfl rfl rfl ?_
              refine TQ.gdY rfl rfl (pr_pure rfl) rfl ?_
              refine TQ.run (pr_pure rfl) rfl ?_
              refine TQ.nil ?_
              exact TX.sw rfl (by first | exact eqT_1 g30 | exact eqT_2 g43 | exact eqT_3 g30 g43 g45 | exact eqT_4 g30 g43 g45) ⟨rfl, rfl, rfl, rfl, rfl, rfl, rfl, rfl, rfl, trivial⟩
      refine TC.cond rfl (fun c58 => ?_) (fun c58 => ?_)
      ·
        refine TC.seq ?_
        refine TC.region ?_
        refine TL.run (pr_pure rfl) rfl ?_
        refine TL.nil ?_
        refine TX.seqN ?_
        refine TC.ret ?_
        refine TX.blkR ?_
        refine TX.thenR ?_
        refine TX.thenR ?_
        refine TX.blkR ?_
        refine TX.thenR ?_
        exact TX.finS (.inr rfl) (results1 rfl (RVal.tmp rfl)) (congrArg Value.bool (by first | exact (sameT_len (fun e => c12 (by rw [e]))).symm | exact (same_bad hI.1 hx hy c58 hI.2.2).symm | exact (sameT_end hl c16 hI.1 hI.2.2).symm))
      ·
        refine TC.skip ?_
        refine TX.blkN ?_
        refine TX.seqN ?_
        refine TC.region ?_
        refine TL.run (pr_pure rfl) rfl ?_
        refine TL.run ((by first | exact pr_add rfl rfl (by omega) (by omega) | exact pr_pure rfl)) rfl ?_
        refine TL.run (pr_pure rfl) rfl ?_
        refine TL.nil ?_
        exact TX.round (k + 1) ⟨by omega, by omega, same_next hI.1 hx hy c58 hI.2.2⟩ ⟨rfl, rfl, rfl, rfl, rfl, trivial⟩ (fun w hw => hw) (by omega)
    ·
      refine TC.exit ?_
      refine TX.thenE ?_
      refine TX.thenE ?_
      refine TX.blkHit ?_
      refine TX.seqN ?_
      refine TC.seq ?_
      refine TC.region ?_
      refine TL.run (pr_pure rfl) rfl ?_
      refine TL.nil ?_
      refine TX.seqN ?_
      refine TC.ret ?_
      exact TX.finS (.inr rfl) (results1 rfl (RVal.tmp rfl)) (congrArg Value.bool (by first | exact (sameT_len (fun e => c12 (by rw [e]))).symm | exact (same_bad hI.1 hx hy c58 hI.2.2).symm | exact (sameT_end hl c16 hI.1 hI.2.2).symm))

set_option maxRecDepth 100000 in
set_option maxHeartbeats 1000000 in
theorem first2_ok {H : Hp} (hG : LibG H) :
    FnS Tryd.prog 10 [] H (.bool true) := by
  refine FnS.enter Tryd.func10 Tryd.ntmps10 rfl rfl (fun w0 => ?_)
  refine TC.seq ?_
  refine TC.region ?_
  refine TL.run (pr_pure rfl) rfl ?_
  refine TL.nil ?_
  refine TX.seqN ?_
  refine TC.seq ?_
  refine TC.region ?_
  refine TL.call (enters rfl rfl rfl rfl) (x_Tokens_ok [120, 45, 49] (by decide) hG) rfl (fun v8 H8 hle8 hp8 => ?_)
  rw [fst_a] at hp8
  obtain ⟨lv8, rfl, hR8⟩ := hp8
  replace hG := hG.le hle8
  obtain ⟨la8, lc8, rfl⟩ := RdSl.len hR8
  refine TL.run (pr_pure rfl) rfl ?_
  refine TL.run (pr_pure rfl) rfl ?_
  refine TL.run (pr_pure rfl) rfl ?_
  refine TL.run (pr_pure rfl) rfl ?_
  refine TL.run (pr_pure rfl) rfl ?_
  refine TL.run (pr_pure rfl) rfl ?_
  refine TL.run (pr_pure rfl) rfl ?_
  refine TL.nil ?_
  refine TX.seqN ?_
  refine TC.seq ?_
  refine TC.region ?_
  refine TL.call (enters rfl rfl rfl rfl) (x_Tokens_ok [61, 32, 45, 49] (by decide) hG) rfl (fun v13 H13 hle13 hp13 => ?_)
  rw [fst_b] at hp13
  obtain ⟨lv13, rfl, hR13⟩ := hp13
  replace hG := hG.le hle13
  replace hR8 := hR8.le hle13
  obtain ⟨la13, lc13, rfl⟩ := RdSl.len hR13
  refine TL.run (pr_pure rfl) rfl ?_
  refine TL.run (pr_pure rfl) rfl ?_
  refine TL.run (pr_pure rfl) rfl ?_
  refine TL.run (pr_pure rfl) rfl ?_
  refine TL.run (pr_pure rfl) rfl ?_
  refine TL.run (pr_pure rfl) rfl ?_
  refine TL.run (pr_pure rfl) rfl ?_
  refine TL.nil ?_
  refine TX.seqN ?_
  refine TC.seq ?_
  refine TC.region ?_
  refine TL.run (pr_pure rfl) rfl ?_
  refine TL.run (pr_pure rfl) rfl ?_
  refine TL.run (pr_pure rfl) rfl ?_
  refine TL.split (s := 19) rfl (fun g19 => ?_) (fun g19 => ?_)
  ·
    have q19 := of_decide_eq_true g19
    refine TL.gdY rfl rfl (pr_pure rfl) rfl ?_
    refine TL.gdY rfl rfl (pr_build rfl rfl) rfl ?_
    refine TL.gdY rfl rfl (pr_build rfl rfl) rfl ?_
    refine TL.gdY rfl rfl (pr_build rfl rfl) rfl ?_
    refine TL.gd rfl rfl ?_
    refine TL.bslice rfl rfl rfl rfl (fun b24 => ?_)
    refine TL.pub (by simp) (fun H_b24 le_b24 rd_b24 => ?_)
    replace hG := hG.le le_b24
    replace hR8 := hR8.le le_b24
    replace hR13 := hR13.le le_b24
    have hX : RdSl H_b24 3 Token.cells _ ([⟨0, [120], 0⟩, ⟨3, [45], 1⟩, ⟨1, [49], 2⟩]) := RdSl.blk (cap := 3) rd_b24 (by intro x hx; rfl) (by kernel_rfl) (by show 3 ≤ 9223372036854775807; decide)
    refine TL.callSY rfl rfl (enters rfl rfl rfl rfl) (same2_ok true hR8 hX) rfl ?_
    refine TL.run (pr_pure rfl) rfl ?_
    refine TL.run (pr_pure rfl) rfl ?_
    refine TL.split (s := 27) rfl (fun g27 => ?_) (fun g27 => ?_)
    ·
      refine TL.gdY rfl rfl (pr_pure rfl) rfl ?_
      refine TL.gdY rfl rfl (pr_pure rfl) rfl ?_
      refine TL.run (pr_pure rfl) rfl ?_
      refine TL.run (pr_pure rfl) rfl ?_
      refine TL.split (s := 31) rfl (fun g31 => ?_) (fun g31 => ?_)
      ·
        have q31 := of_decide_eq_true g31
        refine TL.gdY rfl rfl (pr_pure rfl) rfl ?_
        refine TL.gdY rfl rfl (pr_build rfl rfl) rfl ?_
        refine TL.gdY rfl rfl (pr_build rfl rfl) rfl ?_
        refine TL.gd rfl rfl ?_
        refine TL.bslice rfl rfl rfl rfl (fun b35 => ?_)
        refine TL.pub (by simp) (fun H_b35 le_b35 rd_b35 => ?_)
        replace hG := hG.le le_b35
        replace hR8 := hR8.le le_b35
        replace hR13 := hR13.le le_b35
        replace hX := hX.le le_b35
        have hY : RdSl H_b35 3 Token.cells _ ([⟨3, [61], 0⟩, ⟨1, [45, 49], 2⟩]) := RdSl.blk (cap := 2) rd_b35 (by intro x hx; rfl) (by kernel_rfl) (by show 2 ≤ 9223372036854775807; decide)
        refine TL.callSY rfl rfl (enters rfl rfl rfl rfl) (same2_ok true hR13 hY) rfl ?_
        refine TL.run (pr_pure rfl) rfl ?_
        refine TL.run (pr_pure rfl) rfl ?_
        refine TL.split (s := 38) rfl (fun g38 => ?_) (fun g38 => ?_)
        ·
          refine TL.callSY rfl rfl (enters rfl rfl rfl rfl) (x_Quoted_ok [97, 34, 10] (by decide)) rfl ?_
          refine TL.gdY rfl rfl (pr_str rfl rfl rfl) rfl ?_
          refine TL.run (pr_pure rfl) rfl ?_
          refine TL.run (pr_pure rfl) rfl ?_
          refine TL.nil ?_
          refine TX.seqN ?_
          refine TC.ret ?_
          exact TX.finS (.inr rfl) (results1 rfl (RVal.tmp rfl)) (congrArg Value.bool (by first | rfl | decide +kernel))
        ·
          exact absurd g38 (by decide +kernel)
      ·
        have q31 := of_decide_eq_false g31
        exact absurd g31 (by decide +kernel)
    ·
      exact absurd g27 (by decide +kernel)
  ·
    have q19 := of_decide_eq_false g19
    exact absurd g19 (by decide +kernel)
end Go.Sx
