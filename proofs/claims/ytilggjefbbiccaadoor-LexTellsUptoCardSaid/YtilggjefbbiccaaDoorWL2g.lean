import Derived.Test.YtilggjefbbiccaaDoorWL2
import Derived.Test.YtilggjefbbiccaaDoorWRly
set_option linter.unusedVariables false
set_option linter.unusedSimpArgs false
namespace Go.Sx
open Go Go.Proofs
set_option maxRecDepth 100000 in
set_option maxHeartbeats 2000000 in
theorem LexTells_ok {H : Hp} {l : List Token} {v : Value} (s : Str) (hL : RdSl H 3 Token.cells v l) (hs : sumW l ≤ 30000000000000) (hG : LibG H) :
    FnS Tryd.prog 7 [gs s, v] H (.bool true) := by
  obtain ⟨la, lc, rfl⟩ := hL.len
  have hsr := sameT_refl true (lexS s).l
  refine FnS.enter Tryd.func7 Tryd.ntmps7 rfl rfl (fun w0 => ?_)
  refine TC.seq ?_
  refine TC.region ?_
  refine TL.run (pr_pure rfl) rfl ?_
  refine TL.nil ?_
  refine TX.seqN ?_
  refine TC.seq ?_
  refine TC.seq ?_
  refine TC.region ?_
  refine TL.callS (enters rfl rfl rfl rfl) (first2_ok hG) rfl ?_
  refine TL.run (pr_pure rfl) rfl ?_
  refine TL.nil ?_
  refine TX.seqN ?_
  refine TC.cond rfl (fun c16 => ?_) (fun c16 => ?_)
  ·
    exact absurd c16 (by decide)
  ·
    refine TC.skip ?_
    refine TX.seqN ?_
    refine TC.seq ?_
    refine TC.seq ?_
    refine TC.region ?_
    refine TL.run (pr_pure rfl) rfl ?_
    refine TL.run (pr_lenStr rfl rfl) rfl ?_
    refine TL.run (pr_pure rfl) rfl ?_
    refine TL.run (pr_pure rfl) rfl ?_
    refine TL.split (s := 20) rfl (fun g20 => ?_) (fun g20 => ?_)
    ·
      have q20 := of_decide_eq_true g20
      refine TL.gdN rfl rfl rfl rfl ?_
      refine TL.gdN rfl rfl rfl rfl ?_
      refine TL.gdN rfl rfl rfl rfl ?_
      refine TL.run (pr_pure rfl) rfl ?_
      refine TL.nil ?_
      refine TX.seqN ?_
      refine TC.condT rfl ?_
      refine TC.seq ?_
      refine TC.region ?_
      refine TL.run (pr_pure rfl) rfl ?_
      refine TL.nil ?_
      refine TX.seqN ?_
      refine TC.ret ?_
      refine TX.thenR ?_
      exact TX.finS (.inr rfl) (results1 rfl (RVal.tmp rfl)) (congrArg Value.bool (by first | rfl | (simp_all; done)))
    ·
      have q20 := of_decide_eq_false g20
      refine TL.gdY rfl rfl (pr_pure rfl) rfl ?_
      refine TL.gdY rfl rfl (pr_lenSl rfl rfl hL) rfl ?_
      refine TL.gdY rfl rfl (pr_pure rfl) rfl ?_
      refine TL.run (pr_pure rfl) rfl ?_
      refine TL.nil ?_
      refine TX.seqN ?_
      refine TC.condD rfl (fun c24 => ?_) (fun c24 => ?_)
      ·
        refine TC.seq ?_
        refine TC.region ?_
        refine TL.run (pr_pure rfl) rfl ?_
        refine TL.nil ?_
        refine TX.seqN ?_
        refine TC.ret ?_
        refine TX.thenR ?_
        exact TX.finS (.inr rfl) (results1 rfl (RVal.tmp rfl)) (congrArg Value.bool (by first | rfl | (simp_all; done)))
      ·
        have hlen : (s.length : Int) ≤ 3000 := by simp_all
        have hl2 : s.length ≤ 3000 := by omega
        refine TC.skip ?_
        refine TX.seqN ?_
        refine TC.seq ?_
        refine TC.region ?_
        refine TL.run (pr_pure rfl) rfl ?_
        refine TL.call (enters rfl rfl rfl rfl) (x_Tokens_ok s (by omega) hG) rfl (fun v27 H27 hle27 hp27 => ?_)
        obtain ⟨lv27, rfl, hR27⟩ := hp27
        replace hG := hG.le hle27
        replace hL := hL.le hle27
        obtain ⟨la27, lc27, rfl⟩ := RdSl.len hR27
        refine TL.run (pr_pure rfl) rfl ?_
        refine TL.run (pr_pure rfl) rfl ?_
        refine TL.run (pr_pure rfl) rfl ?_
        refine TL.run (pr_pure rfl) rfl ?_
        refine TL.run (pr_pure rfl) rfl ?_
        refine TL.run (pr_pure rfl) rfl ?_
        refine TL.run (pr_pure rfl) rfl ?_
        refine TL.nil ?_
        refine TX.seqN ?_
        refine TC.seq ?_
        refine TC.region ?_
        refine TL.run (pr_pure rfl) rfl ?_
        refine TL.call (enters rfl rfl rfl rfl) (r_Tokens_ok s) rfl (fun v33 H33 hle33 hp33 => ?_)
        obtain ⟨lv33, rfl, hR33⟩ := hp33
        replace hG := hG.le hle33
        replace hL := hL.le hle33
        replace hR27 := hR27.le hle33
        obtain ⟨la33, lc33, rfl⟩ := RdSl.len hR33
        refine TL.run (pr_pure rfl) rfl ?_
        refine TL.run (pr_pure rfl) rfl ?_
        refine TL.run (pr_pure rfl) rfl ?_
        refine TL.run (pr_pure rfl) rfl ?_
        refine TL.run (pr_pure rfl) rfl ?_
        refine TL.run (pr_pure rfl) rfl ?_
        refine TL.run (pr_pure rfl) rfl ?_
        refine TL.nil ?_
        refine TX.seqN ?_
        refine TC.seq ?_
        refine TC.region ?_
        refine TL.run (pr_pure rfl) rfl ?_
        refine TL.callS (enters rfl rfl rfl rfl) (x_Write_ok hL (by omega) hG) rfl ?_
        refine TL.run (pr_pure rfl) rfl ?_
        refine TL.run (pr_pure rfl) rfl ?_
        refine TL.run (pr_pure rfl) rfl ?_
        refine TL.run (pr_pure rfl) rfl ?_
        refine TL.run (pr_pure rfl) rfl ?_
        refine TL.nil ?_
        refine TX.seqN ?_
        refine TC.seq ?_
        refine TC.region ?_
        refine TL.run (pr_pure rfl) rfl ?_
        refine TL.callS (enters rfl rfl rfl rfl) (r_Write_ok hL hs) rfl ?_
        refine TL.run (pr_pure rfl) rfl ?_
        refine TL.run (pr_pure rfl) rfl ?_
        refine TL.run (pr_pure rfl) rfl ?_
        refine TL.run (pr_pure rfl) rfl ?_
        refine TL.run (pr_pure rfl) rfl ?_
        refine TL.nil ?_
        refine TX.seqN ?_
        refine TC.seq ?_
        refine TC.region ?_
        refine TL.run (pr_pure rfl) rfl ?_
        refine TL.run (pr_pure rfl) rfl ?_
        refine TL.callS (enters rfl rfl rfl rfl) (same2_ok true hR27 hR33) rfl ?_
        refine TL.run (pr_pure rfl) rfl ?_
        refine TL.split (s := 50) rfl (fun g50 => ?_) (fun g50 => ?_)
        ·
          refine TL.gdY rfl rfl (pr_pure rfl) rfl ?_
          refine TL.gdY rfl rfl (pr_pure rfl) rfl ?_
          refine TL.gdY rfl rfl (pr_pure rfl) rfl ?_
          refine TL.run (pr_pure rfl) rfl ?_
          refine TL.run (pr_pure rfl) rfl ?_
          refine TL.split (s := 55) rfl (fun g55 => ?_) (fun g55 => ?_)
          ·
            have q55 := of_decide_eq_true g55
            refine TL.gdY rfl rfl (pr_pure rfl) rfl ?_
            refine TL.gdY rfl rfl (pr_pure rfl) rfl ?_
            refine TL.gdY rfl rfl (pr_pure rfl) rfl ?_
            refine TL.run (pr_pure rfl) rfl ?_
            refine TL.run (pr_pure rfl) rfl ?_
            refine TL.split (s := 60) rfl (fun g60 => ?_) (fun g60 => ?_)
            ·
              have q60 := of_decide_eq_true g60
              refine TL.gdY rfl rfl (pr_pure rfl) rfl ?_
              refine TL.gdY rfl rfl (pr_pure rfl) rfl ?_
              refine TL.gdY rfl rfl (pr_str rfl rfl rfl) rfl ?_
              refine TL.run (pr_pure rfl) rfl ?_
              refine TL.run (pr_pure rfl) rfl ?_
              refine TL.split (s := 65) rfl (fun g65 => ?_) (fun g65 => ?_)
              ·
                have q65 := of_decide_eq_true g65
                refine TL.gdY rfl rfl (pr_pure rfl) rfl ?_
                refine TL.gdY rfl rfl (pr_pure rfl) rfl ?_
                refine TL.gdY rfl rfl (pr_pure rfl) rfl ?_
                refine TL.run (pr_pure rfl) rfl ?_
                refine TL.run (pr_pure rfl) rfl ?_
                refine TL.split (s := 70) rfl (fun g70 => ?_) (fun g70 => ?_)
                ·
                  have q70 := of_decide_eq_true g70
                  refine TL.gdY rfl rfl (pr_pure rfl) rfl ?_
                  refine TL.callSY rfl rfl (enters rfl rfl rfl rfl) (x_Quoted_ok s (by omega)) rfl ?_
                  refine TL.gdY rfl rfl (pr_pure rfl) rfl ?_
                  refine TL.callSY rfl rfl (enters rfl rfl rfl rfl) (r_Quoted_ok s (by omega)) rfl ?_
                  refine TL.gdY rfl rfl (pr_str rfl rfl rfl) rfl ?_
                  refine TL.run (pr_pure rfl) rfl ?_
                  refine TL.run (pr_pure rfl) rfl ?_
                  refine TL.nil ?_
                  refine TX.seqN ?_
                  refine TC.ret ?_
                  exact TX.finS (.inr rfl) (results1 rfl (RVal.tmp rfl)) (congrArg Value.bool (by first | rfl | (simp_all; done)))
                ·
                  have q70 := of_decide_eq_false g70
                  exact absurd g70 (by simp)
              ·
                have q65 := of_decide_eq_false g65
                exact absurd g65 (by simp)
            ·
              have q60 := of_decide_eq_false g60
              exact absurd g60 (by simp)
          ·
            have q55 := of_decide_eq_false g55
            exact absurd g55 (by simp)
        ·
          exact absurd g50 (by rw [hsr]; decide)
end Go.Sx
