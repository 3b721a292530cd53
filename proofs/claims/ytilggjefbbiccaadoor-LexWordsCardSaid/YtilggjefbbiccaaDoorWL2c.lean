import Derived.Test.YtilggjefbbiccaaDoorWL2
set_option linter.unusedVariables false
set_option linter.unusedSimpArgs false
namespace Go.Sx
open Go Go.Proofs
set_option maxRecDepth 100000 in
set_option maxHeartbeats 1000000 in
theorem LexWords_ok {H : Hp} (a b : Str) (ha : a.length ≤ 9223372036854775807) (hb : b.length ≤ 9223372036854775807) (hG : LibG H) :
    FnS Tryd.prog 6 [gs a, gs b] H (.bool true) := by
  refine FnS.enter Tryd.func6 Tryd.ntmps6 rfl rfl (fun w0 => ?_)
  refine TC.seq ?_
  refine TC.region ?_
  refine TL.run (pr_pure rfl) rfl ?_
  refine TL.nil ?_
  refine TX.seqN ?_
  refine TC.seq ?_
  refine TC.seq ?_
  refine TC.region ?_
  refine TL.callS (enters rfl rfl rfl rfl) (first2_ok hG) rfl ?_
  refine TL.run (pr_pure rfl) rfl ?_
  refine TL.nil ?_
  refine TX.seqN ?_
  refine TC.cond rfl (fun c9 => ?_) (fun c9 => ?_)
  ·
    exact absurd c9 (by decide)
  ·
    refine TC.skip ?_
    refine TX.seqN ?_
    refine TC.seq ?_
    refine TC.seq ?_
    refine TC.region ?_
    refine TL.run (pr_pure rfl) rfl ?_
    refine TL.callS (enters rfl rfl rfl rfl) (n_May_ok a (by omega)) rfl ?_
    refine TL.run (pr_pure rfl) rfl ?_
    refine TL.run (pr_pure rfl) rfl ?_
    refine TL.split (s := 13) rfl (fun g13 => ?_) (fun g13 => ?_)
    ·
      refine TL.gdN rfl rfl rfl rfl ?_
      refine TL.gdN rfl rfl rfl rfl ?_
      refine TL.gdN rfl rfl rfl rfl ?_
      refine TL.run (pr_pure rfl) rfl ?_
      refine TL.nil ?_
      refine TX.seqN ?_
      refine TC.condT rfl ?_
      refine TC.seq ?_
      refine TC.region ?_
      refine TL.run (pr_pure rfl) rfl ?_
      refine TL.nil ?_
      refine TX.seqN ?_
      refine TC.ret ?_
      refine TX.thenR ?_
      exact TX.finS (.inr rfl) (results1 rfl (RVal.tmp rfl)) (congrArg Value.bool (by first | rfl | exact sameT_refl true _))
    ·
      refine TL.gdY rfl rfl (pr_pure rfl) rfl ?_
      refine TL.callSY rfl rfl (enters rfl rfl rfl rfl) (n_May_ok b (by omega)) rfl ?_
      refine TL.gdY rfl rfl (pr_pure rfl) rfl ?_
      refine TL.run (pr_pure rfl) rfl ?_
      refine TL.nil ?_
      refine TX.seqN ?_
      refine TC.cond rfl (fun c17 => ?_) (fun c17 => ?_)
      ·
        refine TC.seq ?_
        refine TC.region ?_
        refine TL.run (pr_pure rfl) rfl ?_
        refine TL.nil ?_
        refine TX.seqN ?_
        refine TC.ret ?_
        refine TX.thenR ?_
        exact TX.finS (.inr rfl) (results1 rfl (RVal.tmp rfl)) (congrArg Value.bool (by first | rfl | exact sameT_refl true _))
      ·
        have ma : nameMay a = true := by simp_all
        have mb : nameMay b = true := by simp_all
        have la := (name_right ma).2
        have lb := (name_right mb).2
        refine TC.skip ?_
        refine TX.seqN ?_
        refine TC.seq ?_
        refine TC.region ?_
        refine TL.run (pr_pure rfl) rfl ?_
        refine TL.run (pr_concat rfl rfl (by simp; omega)) rfl ?_
        refine TL.run (pr_pure rfl) rfl ?_
        refine TL.run (pr_concat rfl rfl (by simp; omega)) rfl ?_
        refine TL.run (pr_concat rfl rfl (by simp; omega)) rfl ?_
        refine TL.call (enters rfl rfl rfl rfl) (x_Tokens_ok (((a ++ [32]) ++ b) ++ [32, 115, 97, 121]) (by simp; omega) hG) rfl (fun v24 H24 hle24 hp24 => ?_)
        rw [lexS_words ma mb] at hp24
        obtain ⟨lv24, rfl, hR24⟩ := hp24
        replace hG := hG.le hle24
        obtain ⟨la24, lc24, rfl⟩ := RdSl.len hR24
        refine TL.run (pr_pure rfl) rfl ?_
        refine TL.run (pr_pure rfl) rfl ?_
        refine TL.run (pr_pure rfl) rfl ?_
        refine TL.run (pr_pure rfl) rfl ?_
        refine TL.run (pr_pure rfl) rfl ?_
        refine TL.run (pr_pure rfl) rfl ?_
        refine TL.run (pr_pure rfl) rfl ?_
        refine TL.nil ?_
        refine TX.seqN ?_
        refine TC.seq ?_
        refine TC.region ?_
        refine TL.run (pr_pure rfl) rfl ?_
        refine TL.run (pr_pure rfl) rfl ?_
        refine TL.run (pr_pure rfl) rfl ?_
        refine TL.split (s := 30) rfl (fun g30 => ?_) (fun g30 => ?_)
        ·
          have q30 := of_decide_eq_true g30
          refine TL.gdY rfl rfl (pr_pure rfl) rfl ?_
          refine TL.gdY rfl rfl (pr_pure rfl) rfl ?_
          refine TL.gdY rfl rfl (pr_build rfl rfl) rfl ?_
          refine TL.gdY rfl rfl (pr_pure rfl) rfl ?_
          refine TL.gdY rfl rfl (pr_pure rfl) rfl ?_
          refine TL.gdY rfl rfl (pr_lenStr rfl rfl) rfl ?_
          refine TL.gdY rfl rfl ((by first | exact pr_add rfl rfl (by omega) (by omega) | exact pr_pure rfl)) rfl ?_
          refine TL.gdY rfl rfl (pr_build rfl rfl) rfl ?_
          refine TL.gdY rfl rfl (pr_pure rfl) rfl ?_
          refine TL.gdY rfl rfl (pr_lenStr rfl rfl) rfl ?_
          refine TL.gdY rfl rfl (pr_pure rfl) rfl ?_
          refine TL.gdY rfl rfl (pr_lenStr rfl rfl) rfl ?_
          refine TL.gdY rfl rfl ((by first | exact pr_add rfl rfl (by omega) (by omega) | exact pr_pure rfl)) rfl ?_
          refine TL.gdY rfl rfl ((by first | exact pr_add rfl rfl (by omega) (by omega) | exact pr_pure rfl)) rfl ?_
          refine TL.gdY rfl rfl (pr_build rfl rfl) rfl ?_
          refine TL.gd rfl rfl ?_
          refine TL.bslice rfl rfl rfl rfl (fun b46 => ?_)
          refine TL.pub (by simp) (fun H_b46 le_b46 rd_b46 => ?_)
          replace hG := hG.le le_b46
          replace hR24 := hR24.le le_b46
          have hX : RdSl H_b46 3 Token.cells _ ([⟨0, a, 0⟩, ⟨0, b, (a.length : Int) + 1⟩, ⟨0, [115, 97, 121], (a.length : Int) + b.length + 2⟩]) := RdSl.blk (cap := 3) rd_b46 (by intro x hx; rfl) (by kernel_rfl) (by show 3 ≤ 9223372036854775807; decide)
          refine TL.callSY rfl rfl (enters rfl rfl rfl rfl) (same2_ok true hR24 hX) rfl ?_
          refine TL.run (pr_pure rfl) rfl ?_
          refine TL.run (pr_pure rfl) rfl ?_
          refine TL.nil ?_
          refine TX.seqN ?_
          refine TC.ret ?_
          exact TX.finS (.inr rfl) (results1 rfl (RVal.tmp rfl)) (congrArg Value.bool (by first | rfl | exact sameT_refl true _))
        ·
          have q30 := of_decide_eq_false g30
          exact absurd g30 (by show ¬ decide ((0 : Int) = 0) = false; decide)
end Go.Sx
