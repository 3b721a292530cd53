import Derived.Test.YtmlgpjficicagaaDoorWL3
set_option linter.unusedVariables false
set_option linter.unusedSimpArgs false
namespace Go.Sx
open Go Go.Proofs
set_option maxRecDepth 100000 in
set_option maxHeartbeats 4000000 in
theorem DataTexts_ok {H : Hp} {l : List Int} {v : Value} (s : Str) (hL : RdSl H 1 I64.cells v l) (iL : ∀ n ∈ l, i64ok n) (hG : LibG H) :
    FnGS Tabs Tryd.prog 3 [gs s, v] H (.bool true) := by
  obtain ⟨va, vc, rfl⟩ := hL.len
  have hlm := hL.max
  refine FnGS.enter Tryd.func3 Tryd.ntmps3 rfl rfl (fun w0 hT => ?_)
  refine TC.seq ?_
  refine TC.region ?_
  refine TL.run (pr_pure rfl) rfl ?_
  refine TL.nil ?_
  refine TX.seqN ?_
  refine TC.seq ?_
  refine TC.seq ?_
  refine TC.region ?_
  refine TL.callTS hT (enters rfl rfl rfl rfl) (first3_ok hG) rfl ?_
  refine TL.run (pr_pure rfl) rfl ?_
  refine TL.nil ?_
  refine TX.seqN ?_
  refine TC.cond rfl (fun c13 => ?_) (fun c13 => ?_)
  ·
    exact absurd c13 (by decide)
  ·
    refine TC.skip ?_
    refine TX.seqN ?_
    refine TC.seq ?_
    refine TC.seq ?_
    refine TC.region ?_
    refine TL.run (pr_pure rfl) rfl ?_
    refine TL.run (pr_lenStr rfl rfl) rfl ?_
    refine TL.run (pr_pure rfl) rfl ?_
    refine TL.run (pr_pure rfl) rfl ?_
    refine TL.split (s := 17) rfl (fun g17 => ?_) (fun g17 => ?_)
    ·
      have q17 := of_decide_eq_true g17
      refine TL.gdN rfl rfl rfl rfl ?_
      refine TL.gdN rfl rfl rfl rfl ?_
      refine TL.gdN rfl rfl rfl rfl ?_
      refine TL.run (pr_pure rfl) rfl ?_
      refine TL.nil ?_
      refine TX.seqN ?_
      refine TC.condT rfl ?_
      refine TC.seq ?_
      refine TC.region ?_
      refine TL.run (pr_pure rfl) rfl ?_
      refine TL.run (pr_build rfl rfl) rfl ?_
      refine TL.callTS hT (enters rfl rfl rfl rfl) (dShow_ok (a := ⟨3, 0, s, []⟩) (lv := .slice none 0 0) RdSl.nil (text_i64 s) (fun _ h => absurd h (by simp))) rfl ?_
      refine TL.run (pr_str rfl rfl rfl) rfl ?_
      refine TL.run (pr_pure rfl) rfl ?_
      refine TL.split (s := 26) rfl (fun g26 => ?_) (fun g26 => ?_)
      ·
        have q26 := of_decide_eq_true g26
        refine TL.gdN rfl rfl rfl rfl ?_
        refine TL.gdN rfl rfl rfl rfl ?_
        refine TL.gdN rfl rfl rfl rfl ?_
        refine TL.run (pr_pure rfl) rfl ?_
        refine TL.run (pr_pure rfl) rfl ?_
        refine TL.nil ?_
        refine TX.seqN ?_
        refine TC.ret ?_
        refine TX.thenR ?_
        exact TX.finS (.inr rfl) (results1 rfl (RVal.tmp rfl)) (congrArg Value.bool (by first | rfl | exact txt_no g26 | exact decide_eq_true hcn))
      ·
        have q26 := of_decide_eq_false g26
        refine TL.gdY rfl rfl (pr_pure rfl) rfl ?_
        refine TL.gdY rfl rfl (pr_lenStr rfl rfl) rfl ?_
        refine TL.gdY rfl rfl (pr_pure rfl) rfl ?_
        refine TL.run (pr_pure rfl) rfl ?_
        refine TL.run (pr_pure rfl) rfl ?_
        refine TL.nil ?_
        refine TX.seqN ?_
        refine TC.ret ?_
        refine TX.thenR ?_
        exact TX.finS (.inr rfl) (results1 rfl (RVal.tmp rfl)) (congrArg Value.bool (by first | rfl | exact txt_no g26 | exact decide_eq_true hcn))
    ·
      have q17 := of_decide_eq_false g17
      refine TL.gdY rfl rfl (pr_pure rfl) rfl ?_
      refine TL.gdY rfl rfl (pr_lenSl rfl rfl hL) rfl ?_
      refine TL.gdY rfl rfl (pr_pure rfl) rfl ?_
      refine TL.run (pr_pure rfl) rfl ?_
      refine TL.nil ?_
      refine TX.seqN ?_
      refine TC.condD rfl (fun c21 => ?_) (fun c21 => ?_)
      ·
        refine TC.seq ?_
        refine TC.region ?_
        refine TL.run (pr_pure rfl) rfl ?_
        refine TL.run (pr_build rfl rfl) rfl ?_
        refine TL.callTS hT (enters rfl rfl rfl rfl) (dShow_ok (a := ⟨3, 0, s, []⟩) (lv := .slice none 0 0) RdSl.nil (text_i64 s) (fun _ h => absurd h (by simp))) rfl ?_
        refine TL.run (pr_str rfl rfl rfl) rfl ?_
        refine TL.run (pr_pure rfl) rfl ?_
        refine TL.split (s := 26) rfl (fun g26 => ?_) (fun g26 => ?_)
        ·
          have q26 := of_decide_eq_true g26
          refine TL.gdN rfl rfl rfl rfl ?_
          refine TL.gdN rfl rfl rfl rfl ?_
          refine TL.gdN rfl rfl rfl rfl ?_
          refine TL.run (pr_pure rfl) rfl ?_
          refine TL.run (pr_pure rfl) rfl ?_
          refine TL.nil ?_
          refine TX.seqN ?_
          refine TC.ret ?_
          refine TX.thenR ?_
          exact TX.finS (.inr rfl) (results1 rfl (RVal.tmp rfl)) (congrArg Value.bool (by first | rfl | exact txt_no g26 | exact decide_eq_true hcn))
        ·
          have q26 := of_decide_eq_false g26
          refine TL.gdY rfl rfl (pr_pure rfl) rfl ?_
          refine TL.gdY rfl rfl (pr_lenStr rfl rfl) rfl ?_
          refine TL.gdY rfl rfl (pr_pure rfl) rfl ?_
          refine TL.run (pr_pure rfl) rfl ?_
          refine TL.run (pr_pure rfl) rfl ?_
          refine TL.nil ?_
          refine TX.seqN ?_
          refine TC.ret ?_
          refine TX.thenR ?_
          exact TX.finS (.inr rfl) (results1 rfl (RVal.tmp rfl)) (congrArg Value.bool (by first | rfl | exact txt_no g26 | exact decide_eq_true hcn))
      ·
        have hs : s.length ≤ 24 := by have : (s.length : Int) ≤ 24 := (by simp_all); omega
        have hl : l.length ≤ 16 := by have : (l.length : Int) ≤ 16 := (by simp_all); omega
        have hq2 := quotedL_len s
        have hN := join_len (m := 21) (l.map Lib.itoa) (fun w hw => by obtain ⟨n, hn, rfl⟩ := List.mem_map.1 hw; exact itoa_len (iL n hn))
        rw [List.length_map] at hN
        have hN2 : (([91] ++ Lib.join (l.map Lib.itoa) [32]) ++ [93]).length = (Lib.join (l.map Lib.itoa) [32]).length + 2 := by simp
        refine TC.skip ?_
        refine TX.seqN ?_
        refine TC.seq ?_
        refine TC.region ?_
        refine TL.run (pr_pure rfl) rfl ?_
        refine TL.run (pr_build rfl rfl) rfl ?_
        refine TL.callTS hT (enters rfl rfl rfl rfl) (show_text hs ▸ dShow_ok (a := ⟨3, 0, s, []⟩) (lv := .slice none 0 0) RdSl.nil (text_i64 s) (fun _ h => absurd h (by simp))) rfl ?_
        refine TL.run (pr_pure rfl) rfl ?_
        refine TL.nil ?_
        refine TX.seqN ?_
        refine TC.seq ?_
        refine TC.region ?_
        refine TL.run (pr_pure rfl) rfl ?_
        refine TL.call (enters rfl rfl rfl rfl) (x_Tokens_ok (quotedL s) (by omega) hG) rfl (fun v36 H36 hle36 hp36 => ?_)
        rw [lexS_quoted (by omega)] at hp36
        obtain ⟨lv36, rfl, hR36⟩ := hp36
        replace hG := hG.le hle36
        replace hL := hL.le hle36
        obtain ⟨la36, lc36, rfl⟩ := RdSl.len hR36
        refine TL.run (pr_pure rfl) rfl ?_
        refine TL.run (pr_pure rfl) rfl ?_
        refine TL.run (pr_pure rfl) rfl ?_
        refine TL.run (pr_pure rfl) rfl ?_
        refine TL.run (pr_pure rfl) rfl ?_
        refine TL.run (pr_pure rfl) rfl ?_
        refine TL.run (pr_pure rfl) rfl ?_
        refine TL.nil ?_
        refine TX.seqN ?_
        refine TC.seq ?_
        refine TC.region ?_
        refine TL.run (pr_pure rfl) rfl ?_
        refine TL.run (pr_build rfl rfl) rfl ?_
        refine TL.callTS hT (enters rfl rfl rfl rfl) (show_list hl ▸ dShow_ok (a := ⟨4, 0, [], l⟩) hL ⟨i64_0, iL⟩ (fun _ h => absurd h (by simp))) rfl ?_
        refine TL.run (pr_pure rfl) rfl ?_
        refine TL.nil ?_
        refine TX.seqN ?_
        refine TC.seq ?_
        refine TC.region ?_
        refine TL.run (pr_pure rfl) rfl ?_
        refine TL.nil ?_
        refine TX.seqN ?_
        refine TC.seq ?_
        refine TC.seq ?_
        refine TC.region ?_
        refine TL.run (pr_pure rfl) rfl ?_
        refine TL.nil ?_
        refine TX.seqN ?_
        refine TC.block ?_
        refine TC.loop (V := fun (p : Int × Int) => [(10, .int .i64 p.2), (11, .int .i64 p.1)]) (K := [(0, _), (1, _), (4, _), (5, _), (6, _), (8, _), (9, _)]) (L := fun (p : Int × Int) => _) (I := fun (p : Int × Int) => 0 ≤ p.1 ∧ p.1 ≤ (([91] ++ Lib.join (l.map Lib.itoa) [32]) ++ [93]).length ∧ p.2 = cnt32 ((([91] ++ Lib.join (l.map Lib.itoa) [32]) ++ [93]).take p.1.toNat) ∧ 0 ≤ p.2 ∧ p.2 ≤ p.1) (μ := fun (p : Int × Int) => ((([91] ++ Lib.join (l.map Lib.itoa) [32]) ++ [93]).length - p.1).toNat) (i := ((0 : Int), (0 : Int))) ⟨rfl, rfl, rfl, rfl, rfl, rfl, rfl, rfl, rfl, trivial⟩ ⟨by omega, by omega, rfl, by omega, by omega⟩ (fun w hw => hw) (fun (p : Int × Int) hI => ?_)
        refine TC.seq ?_
        refine TC.seq ?_
        refine TC.region ?_
        refine TL.run (pr_pure rfl) rfl ?_
        refine TL.run (pr_pure rfl) rfl ?_
        refine TL.run (pr_lenStr rfl rfl) rfl ?_
        refine TL.run (pr_pure rfl) rfl ?_
        refine TL.nil ?_
        refine TX.seqN ?_
        refine TC.condD rfl (fun c46 => ?_) (fun c46 => ?_)
        ·
          obtain ⟨c, hc⟩ := getSome (l := (([91] ++ Lib.join (l.map Lib.itoa) [32]) ++ [93])) hI.1 c46
          refine TC.skip ?_
          refine TX.seqN ?_
          refine TC.seq ?_
          refine TC.block ?_
          refine TC.seq ?_
          refine TC.region ?_
          refine TL.run (pr_pure rfl) rfl ?_
          refine TL.run (pr_pure rfl) rfl ?_
          refine TL.run (pr_strIx rfl rfl (by omega) hc) rfl ?_
          refine TL.run (pr_pure rfl) rfl ?_
          refine TL.nil ?_
          refine TX.seqN ?_
          refine TC.condD rfl (fun c52 => ?_) (fun c52 => ?_)
          ·
            refine TC.region ?_
            refine TL.run (pr_pure rfl) rfl ?_
            refine TL.run ((by first | exact pr_add rfl rfl (by omega) (by omega) | exact pr_pure rfl)) rfl ?_
            refine TL.run (pr_pure rfl) rfl ?_
            refine TL.nil ?_
            refine TX.blkN ?_
            refine TX.seqN ?_
            refine TC.region ?_
            refine TL.run (pr_pure rfl) rfl ?_
            refine TL.run ((by first | exact pr_add rfl rfl (by omega) (by omega) | exact pr_pure rfl)) rfl ?_
            refine TL.run (pr_pure rfl) rfl ?_
            refine TL.nil ?_
            exact TX.round (p.1 + 1, p.2 + 1) ⟨by omega, by omega, by rw [cnt_T hI.1 hc c52, ← hI.2.2.1], by omega, by omega⟩ ⟨rfl, rfl, rfl, rfl, rfl, rfl, rfl, rfl, rfl, trivial⟩ (fun w hw => hw) (by omega)
          ·
            refine TC.skip ?_
            refine TX.blkN ?_
            refine TX.seqN ?_
            refine TC.region ?_
            refine TL.run (pr_pure rfl) rfl ?_
            refine TL.run ((by first | exact pr_add rfl rfl (by omega) (by omega) | exact pr_pure rfl)) rfl ?_
            refine TL.run (pr_pure rfl) rfl ?_
            refine TL.nil ?_
            exact TX.round (p.1 + 1, p.2) ⟨by omega, by omega, by rw [cnt_F hI.1 hc c52, ← hI.2.2.1], by omega, by omega⟩ ⟨rfl, rfl, rfl, rfl, rfl, rfl, rfl, rfl, rfl, trivial⟩ (fun w hw => hw) (by omega)
        ·
          have hcn := cnt_end hI.1 c46 hI.2.2.1
          rw [cnt_list] at hcn
          have hx0 : ([⟨2, s, 0⟩] : List Token)[(0 : Int).toNat]? = some ⟨2, s, 0⟩ := rfl
          refine TC.exit ?_
          refine TX.thenE ?_
          refine TX.thenE ?_
          refine TX.blkHit ?_
          refine TX.seqN ?_
          refine TC.seq ?_
          refine TC.region ?_
          refine TL.run (pr_pure rfl) rfl ?_
          refine TL.run (pr_pure rfl) rfl ?_
          refine TL.callS (enters rfl rfl rfl rfl) (x_Quoted_ok s (by omega)) rfl ?_
          refine TL.run (pr_str rfl rfl rfl) rfl ?_
          refine TL.run (pr_pure rfl) rfl ?_
          refine TL.split (s := 59) rfl (fun g59 => ?_) (fun g59 => ?_)
          ·
            have q59 := of_decide_eq_true g59
            refine TL.gdY rfl rfl (pr_pure rfl) rfl ?_
            refine TL.gdY rfl rfl (pr_pure rfl) rfl ?_
            refine TL.run (pr_pure rfl) rfl ?_
            refine TL.run (pr_pure rfl) rfl ?_
            refine TL.split (s := 63) rfl (fun g63 => ?_) (fun g63 => ?_)
            ·
              have q63 := of_decide_eq_true g63
              refine TL.gdY rfl rfl (pr_pure rfl) rfl ?_
              refine TL.gdY rfl rfl (pr_lenSl rfl rfl hR36) rfl ?_
              refine TL.gdY rfl rfl (pr_pure rfl) rfl ?_
              refine TL.run (pr_pure rfl) rfl ?_
              refine TL.run (pr_pure rfl) rfl ?_
              refine TL.split (s := 68) rfl (fun g68 => ?_) (fun g68 => ?_)
              ·
                have q68 := of_decide_eq_true g68
                refine TL.gdY rfl rfl (pr_pure rfl) rfl ?_
                refine TL.gdY rfl rfl (pr_indexSl rfl hR36 rfl (by omega) (by omega)) rfl ?_
                refine TL.gdY rfl rfl (pr_field rfl) rfl ?_
                refine TL.gdY rfl rfl (pr_el1 hR36 hx0 rfl rfl) rfl ?_
                refine TL.gdY rfl rfl (pr_pure rfl) rfl ?_
                refine TL.run (pr_pure rfl) rfl ?_
                refine TL.run (pr_pure rfl) rfl ?_
                refine TL.split (s := 75) rfl (fun g75 => ?_) (fun g75 => ?_)
                ·
                  have q75 := of_decide_eq_true g75
                  refine TL.gdY rfl rfl (pr_pure rfl) rfl ?_
                  refine TL.gdY rfl rfl (pr_indexSl rfl hR36 rfl (by omega) (by omega)) rfl ?_
                  refine TL.gdY rfl rfl (pr_field rfl) rfl ?_
                  refine TL.gdY rfl rfl (pr_el1 hR36 hx0 rfl rfl) rfl ?_
                  refine TL.gdY rfl rfl (pr_pure rfl) rfl ?_
                  refine TL.gdY rfl rfl (pr_str rfl rfl rfl) rfl ?_
                  refine TL.run (pr_pure rfl) rfl ?_
                  refine TL.run (pr_pure rfl) rfl ?_
                  refine TL.split (s := 83) rfl (fun g83 => ?_) (fun g83 => ?_)
                  ·
                    have q83 := of_decide_eq_true g83
                    refine TL.gdY rfl rfl (pr_pure rfl) rfl ?_
                    refine TL.gdY rfl rfl (pr_lenStr rfl rfl) rfl ?_
                    refine TL.gdY rfl rfl (pr_pure rfl) rfl ?_
                    refine TL.run (pr_pure rfl) rfl ?_
                    refine TL.run (pr_pure rfl) rfl ?_
                    refine TL.split (s := 88) rfl (fun g88 => ?_) (fun g88 => ?_)
                    ·
                      have q88 := of_decide_eq_true g88
                      refine TL.gdY rfl rfl (pr_pure rfl) rfl ?_
                      refine TL.gdY rfl rfl (pr_pure rfl) rfl ?_
                      refine TL.gdY rfl rfl (pr_lenSl rfl rfl hL) rfl ?_
                      refine TL.gdY rfl rfl ((by first | exact pr_sub rfl rfl (by omega) (by omega) | exact pr_pure rfl)) rfl ?_
                      refine TL.gdY rfl rfl (pr_max rfl rfl rfl) rfl ?_
                      refine TL.gdY rfl rfl (pr_pure rfl) rfl ?_
                      refine TL.run (pr_pure rfl) rfl ?_
                      refine TL.run (pr_pure rfl) rfl ?_
                      refine TL.nil ?_
                      refine TX.seqN ?_
                      refine TC.ret ?_
                      exact TX.finS (.inr rfl) (results1 rfl (RVal.tmp rfl)) (congrArg Value.bool (by first | rfl | exact txt_no g26 | exact decide_eq_true hcn))
                    ·
                      have q88 := of_decide_eq_false g88
                      exact absurd g88 (by rw [decide_eq_true (by omega)]; decide)
                  ·
                    have q83 := of_decide_eq_false g83
                    exact absurd g83 (by simp)
                ·
                  have q75 := of_decide_eq_false g75
                  exact absurd g75 (by simp)
              ·
                have q68 := of_decide_eq_false g68
                exact absurd g68 (by simp)
            ·
              have q63 := of_decide_eq_false g63
              exact absurd g63 (by simp)
          ·
            have q59 := of_decide_eq_false g59
            exact absurd g59 (by simp)
end Go.Sx
