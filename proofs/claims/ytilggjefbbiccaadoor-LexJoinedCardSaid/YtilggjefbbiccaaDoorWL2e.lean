import Derived.Test.YtilggjefbbiccaaDoorWL2
set_option linter.unusedVariables false
set_option linter.unusedSimpArgs false
namespace Go.Sx
open Go Go.Proofs
set_option maxRecDepth 100000 in
set_option maxHeartbeats 2000000 in
theorem LexJoined_ok {H : Hp} (a b : Str) (hG : LibG H) :
    FnS Tryd.prog 5 [gs a, gs b] H (.bool true) := by
  refine FnS.enter Tryd.func5 Tryd.ntmps5 rfl rfl (fun w0 => ?_)
  refine TC.seq ?_
  refine TC.region ?_
  refine TL.run (pr_pure rfl) rfl ?_
  refine TL.nil ?_
  refine TX.seqN ?_
  refine TC.seq ?_
  refine TC.seq ?_
  refine TC.region ?_
  refine TL.callS (enters rfl rfl rfl rfl) (first2_ok hG) rfl ?_
  refine TL.run (pr_pure rfl) rfl ?_
  refine TL.nil ?_
  refine TX.seqN ?_
  refine TC.cond rfl (fun c16 => ?_) (fun c16 => ?_)
  ·
    exact absurd c16 (by decide)
  ·
    refine TC.skip ?_
    refine TX.seqN ?_
    refine TC.seq ?_
    refine TC.seq ?_
    refine TC.region ?_
    refine TL.run (pr_pure rfl) rfl ?_
    refine TL.run (pr_lenStr rfl rfl) rfl ?_
    refine TL.run (pr_pure rfl) rfl ?_
    refine TL.run (pr_pure rfl) rfl ?_
    refine TL.split (s := 20) rfl (fun g20 => ?_) (fun g20 => ?_)
    ·
      have q20 := of_decide_eq_true g20
      refine TL.gdN rfl rfl rfl rfl ?_
      refine TL.gdN rfl rfl rfl rfl ?_
      refine TL.gdN rfl rfl rfl rfl ?_
      refine TL.run (pr_pure rfl) rfl ?_
      refine TL.nil ?_
      refine TX.seqN ?_
      refine TC.condT rfl ?_
      refine TC.seq ?_
      refine TC.region ?_
      refine TL.run (pr_pure rfl) rfl ?_
      refine TL.nil ?_
      refine TX.seqN ?_
      refine TC.ret ?_
      refine TX.thenR ?_
      exact TX.finS (.inr rfl) (results1 rfl (RVal.tmp rfl)) (congrArg Value.bool (by first | rfl | exact hj2 | exact decide_eq_true (by rw [hj3]; rfl) | exact decide_eq_true (by rw [hj1, hj2]; rfl)))
    ·
      have q20 := of_decide_eq_false g20
      refine TL.gdY rfl rfl (pr_pure rfl) rfl ?_
      refine TL.gdY rfl rfl (pr_lenStr rfl rfl) rfl ?_
      refine TL.gdY rfl rfl (pr_pure rfl) rfl ?_
      refine TL.run (pr_pure rfl) rfl ?_
      refine TL.nil ?_
      refine TX.seqN ?_
      refine TC.condD rfl (fun c24 => ?_) (fun c24 => ?_)
      ·
        refine TC.seq ?_
        refine TC.region ?_
        refine TL.run (pr_pure rfl) rfl ?_
        refine TL.nil ?_
        refine TX.seqN ?_
        refine TC.ret ?_
        refine TX.thenR ?_
        exact TX.finS (.inr rfl) (results1 rfl (RVal.tmp rfl)) (congrArg Value.bool (by first | rfl | exact hj2 | exact decide_eq_true (by rw [hj3]; rfl) | exact decide_eq_true (by rw [hj1, hj2]; rfl)))
      ·
        have hab : (a.length : Int) ≤ 1000 ∧ (b.length : Int) ≤ 1000 := by simp_all
        have ha : a.length ≤ 1000 := by omega
        have hb : b.length ≤ 1000 := by omega
        have hz1 := lexS_count (s := a) (by omega)
        have hz2 := lexS_count (s := b) (by omega)
        refine TC.skip ?_
        refine TX.seqN ?_
        refine TC.seq ?_
        refine TC.region ?_
        refine TL.run (pr_pure rfl) rfl ?_
        refine TL.call (enters rfl rfl rfl rfl) (x_Tokens_ok a (by omega) hG) rfl (fun v27 H27 hle27 hp27 => ?_)
        obtain ⟨lv27, rfl, hR27⟩ := hp27
        replace hG := hG.le hle27
        obtain ⟨la27, lc27, rfl⟩ := RdSl.len hR27
        refine TL.run (pr_pure rfl) rfl ?_
        refine TL.run (pr_pure rfl) rfl ?_
        refine TL.run (pr_pure rfl) rfl ?_
        refine TL.run (pr_pure rfl) rfl ?_
        refine TL.run (pr_pure rfl) rfl ?_
        refine TL.run (pr_pure rfl) rfl ?_
        refine TL.run (pr_pure rfl) rfl ?_
        refine TL.nil ?_
        refine TX.seqN ?_
        refine TC.seq ?_
        refine TC.region ?_
        refine TL.run (pr_pure rfl) rfl ?_
        refine TL.call (enters rfl rfl rfl rfl) (x_Tokens_ok b (by omega) hG) rfl (fun v33 H33 hle33 hp33 => ?_)
        obtain ⟨lv33, rfl, hR33⟩ := hp33
        replace hG := hG.le hle33
        replace hR27 := hR27.le hle33
        obtain ⟨la33, lc33, rfl⟩ := RdSl.len hR33
        refine TL.run (pr_pure rfl) rfl ?_
        refine TL.run (pr_pure rfl) rfl ?_
        refine TL.run (pr_pure rfl) rfl ?_
        refine TL.run (pr_pure rfl) rfl ?_
        refine TL.run (pr_pure rfl) rfl ?_
        refine TL.run (pr_pure rfl) rfl ?_
        refine TL.run (pr_pure rfl) rfl ?_
        refine TL.nil ?_
        refine TX.seqN ?_
        refine TC.seq ?_
        refine TC.region ?_
        refine TL.run (pr_pure rfl) rfl ?_
        refine TL.run (pr_concat rfl rfl (by simp; omega)) rfl ?_
        refine TL.run (pr_pure rfl) rfl ?_
        refine TL.run (pr_concat rfl rfl (by simp; omega)) rfl ?_
        refine TL.call (enters rfl rfl rfl rfl) (x_Tokens_ok ((a ++ [10, 59, 10]) ++ b) (by simp; omega) hG) rfl (fun v42 H42 hle42 hp42 => ?_)
        obtain ⟨lv42, rfl, hR42⟩ := hp42
        replace hG := hG.le hle42
        replace hR27 := hR27.le hle42
        replace hR33 := hR33.le hle42
        obtain ⟨la42, lc42, rfl⟩ := RdSl.len hR42
        refine TL.run (pr_pure rfl) rfl ?_
        refine TL.run (pr_pure rfl) rfl ?_
        refine TL.run (pr_pure rfl) rfl ?_
        refine TL.run (pr_pure rfl) rfl ?_
        refine TL.run (pr_pure rfl) rfl ?_
        refine TL.run (pr_pure rfl) rfl ?_
        refine TL.run (pr_pure rfl) rfl ?_
        refine TL.nil ?_
        refine TX.seqN ?_
        refine TC.seq ?_
        refine TC.seq ?_
        refine TC.region ?_
        refine TL.run (pr_pure rfl) rfl ?_
        refine TL.run (pr_pure rfl) rfl ?_
        refine TL.nil ?_
        refine TX.seqN ?_
        refine TC.condND rfl (fun c47 => ?_) (fun c47 => ?_)
        ·
          obtain ⟨hj1, hj2⟩ := joined_1 ha hb c47
          refine TC.seq ?_
          refine TC.region ?_
          refine TL.run (pr_pure rfl) rfl ?_
          refine TL.run (pr_pure rfl) rfl ?_
          refine TL.run (pr_pure rfl) rfl ?_
          refine TL.run (pr_pure rfl) rfl ?_
          refine TL.split (s := 51) rfl (fun g51 => ?_) (fun g51 => ?_)
          ·
            have q51 := of_decide_eq_true g51
            refine TL.gdY rfl rfl (pr_pure rfl) rfl ?_
            refine TL.gdY rfl rfl (pr_pure rfl) rfl ?_
            refine TL.gdY rfl rfl (pr_pure rfl) rfl ?_
            refine TL.run (pr_pure rfl) rfl ?_
            refine TL.run (pr_pure rfl) rfl ?_
            refine TL.split (s := 56) rfl (fun g56 => ?_) (fun g56 => ?_)
            ·
              have q56 := of_decide_eq_true g56
              refine TL.gdY rfl rfl (pr_pure rfl) rfl ?_
              refine TL.gdY rfl rfl (pr_lenSl rfl rfl hR42) rfl ?_
              refine TL.gdY rfl rfl (pr_pure rfl) rfl ?_
              refine TL.run (pr_pure rfl) rfl ?_
              refine TL.run (pr_pure rfl) rfl ?_
              refine TL.nil ?_
              refine TX.seqN ?_
              refine TC.ret ?_
              refine TX.thenR ?_
              exact TX.finS (.inr rfl) (results1 rfl (RVal.tmp rfl)) (congrArg Value.bool (by first | rfl | exact hj2 | exact decide_eq_true (by rw [hj3]; rfl) | exact decide_eq_true (by rw [hj1, hj2]; rfl)))
            ·
              have q56 := of_decide_eq_false g56
              exact absurd (congrArg LexR.at_ hj1) (of_decide_eq_false g56)
          ·
            have q51 := of_decide_eq_false g51
            exact absurd (congrArg LexR.e hj1) (of_decide_eq_false g51)
        ·
          have he1 : (lexS a).e = 0 := by simpa using c47
          refine TC.skip ?_
          refine TX.seqN ?_
          refine TC.seq ?_
          refine TC.seq ?_
          refine TC.region ?_
          refine TL.run (pr_pure rfl) rfl ?_
          refine TL.run (pr_pure rfl) rfl ?_
          refine TL.nil ?_
          refine TX.seqN ?_
          refine TC.condND rfl (fun c62 => ?_) (fun c62 => ?_)
          ·
            obtain ⟨hj1, hj2, hj3⟩ := joined_2 ha hb he1 c62
            obtain ⟨hq0, hq1, _⟩ := (lexS_places (s := b) (by omega)).2 c62
            refine TC.seq ?_
            refine TC.region ?_
            refine TL.run (pr_pure rfl) rfl ?_
            refine TL.run (pr_pure rfl) rfl ?_
            refine TL.run (pr_pure rfl) rfl ?_
            refine TL.run (pr_pure rfl) rfl ?_
            refine TL.split (s := 66) rfl (fun g66 => ?_) (fun g66 => ?_)
            ·
              have q66 := of_decide_eq_true g66
              refine TL.gdY rfl rfl (pr_pure rfl) rfl ?_
              refine TL.gdY rfl rfl (pr_pure rfl) rfl ?_
              refine TL.gdY rfl rfl (pr_lenStr rfl rfl) rfl ?_
              refine TL.gdY rfl rfl ((by first | exact pr_add rfl rfl (by omega) (by omega) | exact pr_pure rfl)) rfl ?_
              refine TL.gdY rfl rfl (pr_pure rfl) rfl ?_
              refine TL.gdY rfl rfl ((by first | exact pr_add rfl rfl (by omega) (by omega) | exact pr_pure rfl)) rfl ?_
              refine TL.gdY rfl rfl (pr_pure rfl) rfl ?_
              refine TL.run (pr_pure rfl) rfl ?_
              refine TL.run (pr_pure rfl) rfl ?_
              refine TL.split (s := 75) rfl (fun g75 => ?_) (fun g75 => ?_)
              ·
                have q75 := of_decide_eq_true g75
                refine TL.gdY rfl rfl (pr_pure rfl) rfl ?_
                refine TL.gdY rfl rfl (pr_lenSl rfl rfl hR42) rfl ?_
                refine TL.gdY rfl rfl (pr_pure rfl) rfl ?_
                refine TL.run (pr_pure rfl) rfl ?_
                refine TL.run (pr_pure rfl) rfl ?_
                refine TL.nil ?_
                refine TX.seqN ?_
                refine TC.ret ?_
                refine TX.thenR ?_
                exact TX.finS (.inr rfl) (results1 rfl (RVal.tmp rfl)) (congrArg Value.bool (by first | rfl | exact hj2 | exact decide_eq_true (by rw [hj3]; rfl) | exact decide_eq_true (by rw [hj1, hj2]; rfl)))
              ·
                have q75 := of_decide_eq_false g75
                exact absurd hj2 (of_decide_eq_false g75)
            ·
              have q66 := of_decide_eq_false g66
              exact absurd hj1 (of_decide_eq_false g66)
          ·
            have he2 : (lexS b).e = 0 := by simpa using c62
            obtain ⟨hj1, hj2⟩ := joined_3 ha hb he1 he2
            refine TC.skip ?_
            refine TX.seqN ?_
            refine TC.seq ?_
            refine TC.region ?_
            refine TL.run (pr_pure rfl) rfl ?_
            refine TL.append (enc := Token.cells) rfl rfl rfl (OwnSl.nil (enc := Token.cells)) (Src.sl hR27) (by simp; omega) rfl (.new _ rfl) rfl (fun a81 c81 ob81 hO81 => ?_)
            refine TL.run (pr_build rfl rfl) rfl ?_
            refine TL.bslice rfl rfl rfl rfl (fun b83 => ?_)
            refine TL.append (enc := Token.cells) rfl rfl rfl hO81 (Src.own [⟨3, [59], 0⟩] (.here _) rfl rfl) (by simp; omega) rfl (.skip _ .all) rfl (fun a84 c84 ob84 hO84 => ?_)
            refine TL.run (pr_pure rfl) rfl ?_
            refine TL.nil ?_
            refine TX.seqN ?_
            refine TC.seq ?_
            refine TC.region ?_
            refine TL.run (pr_pure rfl) rfl ?_
            refine TL.run (pr_pure rfl) rfl ?_
            refine TL.run (pr_pure rfl) rfl ?_
            refine TL.split (s := 87) rfl (fun g87 => ?_) (fun g87 => ?_)
            ·
              have q87 := of_decide_eq_true g87
              refine TL.gdY rfl rfl (pr_pure rfl) rfl ?_
              refine TL.gdY rfl rfl (pr_pure rfl) rfl ?_
              refine TL.gdY rfl rfl (pr_pure rfl) rfl ?_
              refine TL.gd rfl rfl ?_
              refine TL.append (enc := Token.cells) rfl rfl rfl hO84 (Src.sl hR33) (by simp; omega) rfl (.skip _ .all) rfl (fun a91 c91 ob91 hO91 => ?_)
              refine TL.pubO hO91 (.skip _ .all) (by simp) (fun HL leL hL => ?_)
              replace hG := hG.le leL
              replace hR27 := hR27.le leL
              replace hR33 := hR33.le leL
              replace hR42 := hR42.le leL
              refine TL.callSY rfl rfl (enters rfl rfl rfl rfl) (same2_ok false hR42 hL) rfl ?_
              refine TL.run (pr_pure rfl) rfl ?_
              refine TL.run (pr_pure rfl) rfl ?_
              refine TL.nil ?_
              refine TX.seqN ?_
              refine TC.ret ?_
              exact TX.finS (.inr rfl) (results1 rfl (RVal.tmp rfl)) (congrArg Value.bool (by first | rfl | exact hj2 | exact decide_eq_true (by rw [hj3]; rfl) | exact decide_eq_true (by rw [hj1, hj2]; rfl)))
            ·
              have q87 := of_decide_eq_false g87
              exact absurd hj1 (of_decide_eq_false g87)
end Go.Sx
