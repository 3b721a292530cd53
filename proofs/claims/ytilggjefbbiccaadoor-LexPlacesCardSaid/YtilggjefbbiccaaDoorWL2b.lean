import Derived.Test.YtilggjefbbiccaaDoorWL2
set_option linter.unusedVariables false
set_option linter.unusedSimpArgs false
namespace Go.Sx
open Go Go.Proofs
set_option maxRecDepth 100000 in
set_option maxHeartbeats 2000000 in
theorem LexPlaces_ok {H : Hp} (s : Str) (hG : LibG H) :
    FnS Tryd.prog 4 [gs s] H (.bool true) := by
  refine FnS.enter Tryd.func4 Tryd.ntmps4 rfl rfl (fun w0 => ?_)
  refine TC.seq ?_
  refine TC.region ?_
  refine TL.run (pr_pure rfl) rfl ?_
  refine TL.nil ?_
  refine TX.seqN ?_
  refine TC.seq ?_
  refine TC.seq ?_
  refine TC.region ?_
  refine TL.callS (enters rfl rfl rfl rfl) (first2_ok hG) rfl ?_
  refine TL.run (pr_pure rfl) rfl ?_
  refine TL.nil ?_
  refine TX.seqN ?_
  refine TC.cond rfl (fun c10 => ?_) (fun c10 => ?_)
  ·
    exact absurd c10 (by decide)
  ·
    refine TC.skip ?_
    refine TX.seqN ?_
    refine TC.seq ?_
    refine TC.seq ?_
    refine TC.region ?_
    refine TL.run (pr_pure rfl) rfl ?_
    refine TL.run (pr_lenStr rfl rfl) rfl ?_
    refine TL.run (pr_pure rfl) rfl ?_
    refine TL.nil ?_
    refine TX.seqN ?_
    refine TC.condD rfl (fun c13 => ?_) (fun c13 => ?_)
    ·
      refine TC.seq ?_
      refine TC.region ?_
      refine TL.run (pr_pure rfl) rfl ?_
      refine TL.nil ?_
      refine TX.seqN ?_
      refine TC.ret ?_
      refine TX.thenR ?_
      exact TX.finS (.inr rfl) (results1 rfl (RVal.tmp rfl)) (congrArg Value.bool (by first | rfl | (simp_all; done) | (simp_all; omega)))
    ·
      have hpp := lexS_places (s := s) (by omega)
      refine TC.skip ?_
      refine TX.seqN ?_
      refine TC.seq ?_
      refine TC.region ?_
      refine TL.run (pr_pure rfl) rfl ?_
      refine TL.call (enters rfl rfl rfl rfl) (x_Tokens_ok s (by omega) hG) rfl (fun v16 H16 hle16 hp16 => ?_)
      obtain ⟨lv16, rfl, hR16⟩ := hp16
      replace hG := hG.le hle16
      obtain ⟨la16, lc16, rfl⟩ := RdSl.len hR16
      refine TL.run (pr_pure rfl) rfl ?_
      refine TL.run (pr_pure rfl) rfl ?_
      refine TL.run (pr_pure rfl) rfl ?_
      refine TL.run (pr_pure rfl) rfl ?_
      refine TL.run (pr_pure rfl) rfl ?_
      refine TL.run (pr_pure rfl) rfl ?_
      refine TL.run (pr_pure rfl) rfl ?_
      refine TL.nil ?_
      refine TX.seqN ?_
      refine TC.seq ?_
      refine TC.seq ?_
      refine TC.region ?_
      refine TL.run (pr_pure rfl) rfl ?_
      refine TL.run (pr_pure rfl) rfl ?_
      refine TL.nil ?_
      refine TX.seqN ?_
      refine TC.condND rfl (fun c21 => ?_) (fun c21 => ?_)
      ·
        obtain ⟨hp0, hp1, hp2⟩ := hpp.2 c21
        have hp3 : ((lexS s).l.length : Int) = 0 := by rw [hp2]; rfl
        refine TC.seq ?_
        refine TC.region ?_
        refine TL.run (pr_pure rfl) rfl ?_
        refine TL.run (pr_pure rfl) rfl ?_
        refine TL.run (pr_pure rfl) rfl ?_
        refine TL.split (s := 24) rfl (fun g24 => ?_) (fun g24 => ?_)
        ·
          have q24 := of_decide_eq_true g24
          refine TL.gdY rfl rfl (pr_pure rfl) rfl ?_
          refine TL.gdY rfl rfl (pr_pure rfl) rfl ?_
          refine TL.gdY rfl rfl (pr_lenStr rfl rfl) rfl ?_
          refine TL.gdY rfl rfl (pr_pure rfl) rfl ?_
          refine TL.gdY rfl rfl (pr_pure rfl) rfl ?_
          refine TL.split (s := 29) rfl (fun g29 => ?_) (fun g29 => ?_)
          ·
            have q29 := of_decide_eq_true g29
            refine TL.gdN rfl rfl rfl rfl ?_
            refine TL.gdN rfl rfl rfl rfl ?_
            refine TL.gdN rfl rfl rfl rfl ?_
            refine TL.gdN rfl rfl rfl rfl ?_
            refine TL.gdU rfl rfl rfl ?_
            refine TL.gdU rfl rfl rfl ?_
            refine TL.gdN rfl rfl rfl rfl ?_
            refine TL.gdY rfl rfl (pr_pure rfl) rfl ?_
            refine TL.run (pr_pure rfl) rfl ?_
            refine TL.run (pr_pure rfl) rfl ?_
            refine TL.gdY rfl rfl (pr_pure rfl) rfl ?_
            refine TL.gdY rfl rfl (pr_lenSl rfl rfl hR16) rfl ?_
            refine TL.gdY rfl rfl (pr_pure rfl) rfl ?_
            refine TL.run (pr_pure rfl) rfl ?_
            refine TL.run (pr_pure rfl) rfl ?_
            refine TL.nil ?_
            refine TX.seqN ?_
            refine TC.ret ?_
            refine TX.thenR ?_
            exact TX.finS (.inr rfl) (results1 rfl (RVal.tmp rfl)) (congrArg Value.bool (by first | rfl | (simp_all; done) | (simp_all; omega)))
          ·
            have q29 := of_decide_eq_false g29
            refine TL.gdY rfl rfl (pr_pure rfl) rfl ?_
            refine TL.gdY rfl rfl (pr_lenStr rfl rfl) rfl ?_
            refine TL.gdY rfl rfl (pr_pure rfl) rfl ?_
            refine TL.gdY rfl rfl (pr_pure rfl) rfl ?_
            refine TL.split (s := 33) rfl (fun g33 => ?_) (fun g33 => ?_)
            ·
              have q33 := of_decide_eq_true g33
              refine TL.gdY rfl rfl (pr_pure rfl) rfl ?_
              refine TL.gdY rfl rfl (pr_pure rfl) rfl ?_
              refine TL.gdY rfl rfl (pr_pure rfl) rfl ?_
              refine TL.gdY rfl rfl (pr_pure rfl) rfl ?_
              refine TL.run (pr_pure rfl) rfl ?_
              refine TL.run (pr_pure rfl) rfl ?_
              refine TL.split (s := 39) rfl (fun g39 => ?_) (fun g39 => ?_)
              ·
                have q39 := of_decide_eq_true g39
                refine TL.gdY rfl rfl (pr_pure rfl) rfl ?_
                refine TL.gdY rfl rfl (pr_lenSl rfl rfl hR16) rfl ?_
                refine TL.gdY rfl rfl (pr_pure rfl) rfl ?_
                refine TL.run (pr_pure rfl) rfl ?_
                refine TL.run (pr_pure rfl) rfl ?_
                refine TL.nil ?_
                refine TX.seqN ?_
                refine TC.ret ?_
                refine TX.thenR ?_
                exact TX.finS (.inr rfl) (results1 rfl (RVal.tmp rfl)) (congrArg Value.bool (by first | rfl | (simp_all; done) | (simp_all; omega)))
              ·
                have q39 := of_decide_eq_false g39
                refine TL.gdN rfl rfl rfl rfl ?_
                refine TL.gdN rfl rfl rfl rfl ?_
                refine TL.gdN rfl rfl rfl rfl ?_
                refine TL.run (pr_pure rfl) rfl ?_
                refine TL.run (pr_pure rfl) rfl ?_
                refine TL.nil ?_
                refine TX.seqN ?_
                refine TC.ret ?_
                refine TX.thenR ?_
                exact TX.finS (.inr rfl) (results1 rfl (RVal.tmp rfl)) (congrArg Value.bool (by first | rfl | (simp_all; done) | (simp_all; omega)))
            ·
              have q33 := of_decide_eq_false g33
              refine TL.gdN rfl rfl rfl rfl ?_
              refine TL.gdN rfl rfl rfl rfl ?_
              refine TL.gdY rfl rfl (pr_pure rfl) rfl ?_
              refine TL.gdY rfl rfl (pr_pure rfl) rfl ?_
              refine TL.run (pr_pure rfl) rfl ?_
              refine TL.run (pr_pure rfl) rfl ?_
              refine TL.gdN rfl rfl rfl rfl ?_
              refine TL.gdN rfl rfl rfl rfl ?_
              refine TL.gdN rfl rfl rfl rfl ?_
              refine TL.run (pr_pure rfl) rfl ?_
              refine TL.run (pr_pure rfl) rfl ?_
              refine TL.nil ?_
              refine TX.seqN ?_
              refine TC.ret ?_
              refine TX.thenR ?_
              exact TX.finS (.inr rfl) (results1 rfl (RVal.tmp rfl)) (congrArg Value.bool (by first | rfl | (simp_all; done) | (simp_all; omega)))
        ·
          have q24 := of_decide_eq_false g24
          refine TL.gdN rfl rfl rfl rfl ?_
          refine TL.gdN rfl rfl rfl rfl ?_
          refine TL.gdN rfl rfl rfl rfl ?_
          refine TL.gdN rfl rfl rfl rfl ?_
          refine TL.gdN rfl rfl rfl rfl ?_
          refine TL.gdU rfl rfl rfl ?_
          refine TL.gdU rfl rfl rfl ?_
          refine TL.gdU rfl rfl rfl ?_
          refine TL.gdU rfl rfl rfl ?_
          refine TL.gdU rfl rfl rfl ?_
          refine TL.gdU rfl rfl rfl ?_
          refine TL.gdU rfl rfl rfl ?_
          refine TL.gdN rfl rfl rfl rfl ?_
          refine TL.run (pr_pure rfl) rfl ?_
          refine TL.run (pr_pure rfl) rfl ?_
          refine TL.gdN rfl rfl rfl rfl ?_
          refine TL.gdN rfl rfl rfl rfl ?_
          refine TL.gdN rfl rfl rfl rfl ?_
          refine TL.run (pr_pure rfl) rfl ?_
          refine TL.run (pr_pure rfl) rfl ?_
          refine TL.nil ?_
          refine TX.seqN ?_
          refine TC.ret ?_
          refine TX.thenR ?_
          exact TX.finS (.inr rfl) (results1 rfl (RVal.tmp rfl)) (congrArg Value.bool (by first | rfl | (simp_all; done) | (simp_all; omega)))
      ·
        have hp0 := hpp.1 (by simpa using c21)
        have hlm := hR16.max
        refine TC.skip ?_
        refine TX.seqN ?_
        refine TC.seq ?_
        refine TC.region ?_
        refine TL.run (pr_pure rfl) rfl ?_
        refine TL.nil ?_
        refine TX.seqN ?_
        refine TC.seq ?_
        refine TC.seq ?_
        refine TC.region ?_
        refine TL.run (pr_pure rfl) rfl ?_
        refine TL.nil ?_
        refine TX.seqN ?_
        refine TC.block ?_
        refine TC.loop (V := fun (p : Int × Int) => [(6, .int .i64 p.1), (7, .int .i64 p.2)]) (K := [(0, _), (2, _), (3, _)]) (L := fun (p : Int × Int) => _) (I := fun (p : Int × Int) => 0 ≤ p.2 ∧ p.2 ≤ (lexS s).l.length ∧ 0 ≤ p.1 ∧ placesOk s p.1 ((lexS s).l.drop p.2.toNat)) (μ := fun (p : Int × Int) => ((lexS s).l.length - p.2).toNat) (i := ((0 : Int), (0 : Int))) ⟨rfl, rfl, rfl, rfl, rfl, trivial⟩ ⟨by omega, by omega, by omega, hp0⟩ (fun w hw => hw) (fun (p : Int × Int) hI => ?_)
        refine TC.seq ?_
        refine TC.seq ?_
        refine TC.region ?_
        refine TL.run (pr_pure rfl) rfl ?_
        refine TL.run (pr_pure rfl) rfl ?_
        refine TL.run (pr_lenSl rfl rfl hR16) rfl ?_
        refine TL.run (pr_pure rfl) rfl ?_
        refine TL.nil ?_
        refine TX.seqN ?_
        refine TC.condD rfl (fun c47 => ?_) (fun c47 => ?_)
        ·
          obtain ⟨k0, k1, e0, hpl⟩ := hI
          obtain ⟨t, hx⟩ := getSome (l := (lexS s).l) k0 c47
          obtain ⟨ha1, ha2, ha3⟩ := placesOk_at k0 hx hpl
          have ha0 : 0 ≤ t.at_ := by omega
          have htx := placesOk_len ha3
          refine TC.skip ?_
          refine TX.seqN ?_
          refine TC.seq ?_
          refine TC.block ?_
          refine TC.seq ?_
          refine TC.region ?_
          refine TL.run (pr_pure rfl) rfl ?_
          refine TL.run (pr_pure rfl) rfl ?_
          refine TL.run (pr_indexSl rfl hR16 rfl (by omega) (by omega)) rfl ?_
          refine TL.run (pr_elA hR16 hx rfl rfl) rfl ?_
          refine TL.alloc rfl (fun b8 => ?_)
          refine TL.storeA rfl rfl rfl rfl rfl (.here _) rfl rfl ?_
          refine TL.nil ?_
          refine TX.seqN ?_
          refine TC.seq ?_
          refine TC.sw false 64 [(0, _), (2, _), (3, _), (6, _), (7, _), (8, _), (44, _), (45, _), (46, _), (47, _), (50, _), (51, _), (52, _), (53, _)] ⟨rfl, rfl, rfl, rfl, rfl, rfl, rfl, rfl, rfl, rfl, rfl, rfl, rfl, rfl, trivial⟩ ?_ ?_
          ·
            refine TC.region ?_
            refine TL.run (pr_field rfl) rfl ?_
            refine TL.run (pr_own1 rfl (.here _) rfl) rfl ?_
            refine TL.run (pr_pure rfl) rfl ?_
            refine TL.run (pr_pure rfl) rfl ?_
            refine TL.run (pr_pure rfl) rfl ?_
            refine TL.split (s := 58) rfl (fun g58 => ?_) (fun g58 => ?_)
            ·
              have q58 := of_decide_eq_true g58
              refine TL.gdN rfl rfl rfl rfl ?_
              refine TL.gdN rfl rfl rfl rfl ?_
              refine TL.gdN rfl rfl rfl rfl ?_
              refine TL.gdN rfl rfl rfl rfl ?_
              refine TL.gdN rfl rfl rfl rfl ?_
              refine TL.run (pr_pure rfl) rfl ?_
              refine TL.nil ?_
              exact TX.sw rfl (by first | exact pl_1 (by omega) g58 | exact (decide_eq_false (by omega))) ⟨rfl, rfl, rfl, rfl, rfl, rfl, rfl, rfl, rfl, rfl, rfl, rfl, rfl, rfl, trivial⟩
            ·
              have q58 := of_decide_eq_false g58
              refine TL.gdY rfl rfl (pr_field rfl) rfl ?_
              refine TL.gdY rfl rfl (pr_own1 rfl (.here _) rfl) rfl ?_
              refine TL.gdY rfl rfl (pr_pure rfl) rfl ?_
              refine TL.gdY rfl rfl (pr_lenStr rfl rfl) rfl ?_
              refine TL.gdY rfl rfl (pr_pure rfl) rfl ?_
              refine TL.run (pr_pure rfl) rfl ?_
              refine TL.nil ?_
              exact TX.sw rfl (by first | exact pl_1 (by omega) g58 | exact (decide_eq_false (by omega))) ⟨rfl, rfl, rfl, rfl, rfl, rfl, rfl, rfl, rfl, rfl, rfl, rfl, rfl, rfl, trivial⟩
          refine TC.cond rfl (fun c64 => ?_) (fun c64 => ?_)
          ·
            exact absurd c64 (by decide)
          ·
            refine TC.skip ?_
            refine TX.seqN ?_
            refine TC.seq ?_
            refine TC.region ?_
            refine TL.run (pr_field rfl) rfl ?_
            refine TL.run (pr_own1 rfl (.here _) rfl) rfl ?_
            refine TL.run ((by first | exact pr_add rfl rfl (by omega) (by omega) | exact pr_pure rfl)) rfl ?_
            refine TL.run (pr_pure rfl) rfl ?_
            refine TL.nil ?_
            refine TX.seqN ?_
            refine TC.seq ?_
            refine TC.seq ?_
            refine TC.region ?_
            refine TL.run (pr_field rfl) rfl ?_
            refine TL.run (pr_own1 rfl (.here _) rfl) rfl ?_
            refine TL.run (pr_pure rfl) rfl ?_
            refine TL.nil ?_
            refine TX.seqN ?_
            refine TC.condD rfl (fun c70 => ?_) (fun c70 => ?_)
            ·
              obtain ⟨h34, hnx⟩ := places_q c70 ha3
              refine TC.seq ?_
              refine TC.seq ?_
              refine TC.region ?_
              refine TL.run (pr_pure rfl) rfl ?_
              refine TL.run (pr_field rfl) rfl ?_
              refine TL.run (pr_own1 rfl (.here _) rfl) rfl ?_
              refine TL.run (pr_strIx rfl rfl (by omega) h34) rfl ?_
              refine TL.run (pr_pure rfl) rfl ?_
              refine TL.nil ?_
              refine TX.seqN ?_
              refine TC.condND rfl (fun c75 => ?_) (fun c75 => ?_)
              ·
                exact absurd rfl c75
              ·
                refine TC.skip ?_
                refine TX.seqN ?_
                refine TC.exit ?_
                refine TX.thenE ?_
                refine TX.blkHit ?_
                refine TX.seqN ?_
                refine TC.region ?_
                refine TL.run (pr_pure rfl) rfl ?_
                refine TL.run ((by first | exact pr_add rfl rfl (by omega) (by omega) | exact pr_pure rfl)) rfl ?_
                refine TL.run (pr_pure rfl) rfl ?_
                refine TL.nil ?_
                exact TX.round (t.at_ + 1, p.2 + 1) ⟨by omega, by omega, by omega, hnx⟩ ⟨rfl, rfl, rfl, rfl, rfl, trivial⟩ (fun w hw => hw.drop) (by omega)
            ·
              obtain ⟨hb1, hb2, hb3, hnx⟩ := places_w c70 ha3
              refine TC.skip ?_
              refine TX.seqN ?_
              refine TC.seq ?_
              refine TC.sw false 104 [(0, _), (2, _), (3, _), (6, _), (7, _), (8, _), (44, _), (45, _), (46, _), (47, _), (50, _), (51, _), (52, _), (53, _), (64, _), (65, _), (66, _), (67, _), (68, _), (69, _), (70, _)] ⟨rfl, rfl, rfl, rfl, rfl, rfl, rfl, rfl, rfl, rfl, rfl, rfl, rfl, rfl, rfl, rfl, rfl, rfl, rfl, rfl, rfl, trivial⟩ ?_ ?_
              ·
                refine TC.quiet (by kernel_rfl) (by kernel_rfl) ?_
                refine TQ.run (pr_field rfl) rfl ?_
                refine TQ.run (pr_own1 rfl (.here _) rfl) rfl ?_
                refine TQ.run (pr_field rfl) rfl ?_
                refine TQ.run (pr_own1 rfl (.here _) rfl) rfl ?_
                refine TQ.run (pr_lenStr rfl rfl) rfl ?_
                refine TQ.run ((by first | exact pr_add rfl rfl (by omega) (by omega) | exact pr_pure rfl)) rfl ?_
                refine TQ.run (pr_pure rfl) rfl ?_
                refine TQ.run (pr_lenStr rfl rfl) rfl ?_
                refine TQ.run (pr_pure rfl) rfl ?_
                refine TQ.run (pr_pure rfl) rfl ?_
                refine TQ.split (s := 85) rfl (fun g85 => ?_) (fun g85 => ?_)
                ·
                  have q85 := of_decide_eq_true g85
                  refine TQ.gdN rfl rfl rfl rfl ?_
                  refine TQ.gdN rfl rfl rfl rfl ?_
                  refine TQ.gdN rfl rfl rfl rfl ?_
                  refine TQ.gdN rfl rfl rfl rfl ?_
                  refine TQ.gdN rfl rfl rfl rfl ?_
                  refine TQ.gdN rfl rfl rfl rfl ?_
                  refine TQ.gdN rfl rfl rfl rfl ?_
                  refine TQ.gdN rfl rfl rfl rfl ?_
                  refine TQ.gdN rfl rfl rfl rfl ?_
                  refine TQ.gdN rfl rfl rfl rfl ?_
                  refine TQ.gdN rfl rfl rfl rfl ?_
                  refine TQ.gdN rfl rfl rfl rfl ?_
                  refine TQ.gdN rfl rfl rfl rfl ?_
                  refine TQ.run (pr_pure rfl) rfl ?_
                  refine TQ.run (pr_pure rfl) rfl ?_
                  refine TQ.gdN rfl rfl rfl rfl ?_
                  refine TQ.gdN rfl rfl rfl rfl ?_
                  refine TQ.gdN rfl rfl rfl rfl ?_
                  refine TQ.run (pr_pure rfl) rfl ?_
                  refine TQ.nil ?_
                  exact TX.sw rfl (by first | exact pl_2 (by omega) g85 | exact pl_3 (by omega) hb2 g100 | exact decide_eq_false hb3) ⟨rfl, rfl, rfl, rfl, rfl, rfl, rfl, rfl, rfl, rfl, rfl, rfl, rfl, rfl, rfl, rfl, rfl, rfl, rfl, rfl, rfl, trivial⟩
                ·
                  have q85 := of_decide_eq_false g85
                  refine TQ.gdY rfl rfl (pr_pure rfl) rfl ?_
                  refine TQ.gdY rfl rfl (pr_field rfl) rfl ?_
                  refine TQ.gdY rfl rfl (pr_own1 rfl (.here _) rfl) rfl ?_
                  refine TQ.gdY rfl rfl (pr_field rfl) rfl ?_
                  refine TQ.gdY rfl rfl (pr_own1 rfl (.here _) rfl) rfl ?_
                  refine TQ.gdY rfl rfl (pr_field rfl) rfl ?_
                  refine TQ.gdY rfl rfl (pr_own1 rfl (.here _) rfl) rfl ?_
                  refine TQ.gdY rfl rfl (pr_lenStr rfl rfl) rfl ?_
                  refine TQ.gdY rfl rfl ((by first | exact pr_add rfl rfl (by omega) (by omega) | exact pr_pure rfl)) rfl ?_
                  refine TQ.gdY rfl rfl (pr_strLH rfl rfl rfl (by omega) (by omega) (by omega)) rfl ?_
                  refine TQ.gdY rfl rfl (pr_field rfl) rfl ?_
                  refine TQ.gdY rfl rfl (pr_own1 rfl (.here _) rfl) rfl ?_
                  refine TQ.gdY rfl rfl (pr_str rfl rfl rfl) rfl ?_
                  refine TQ.run (pr_pure rfl) rfl ?_
                  refine TQ.run (pr_pure rfl) rfl ?_
                  refine TQ.split (s := 100) rfl (fun g100 => ?_) (fun g100 => ?_)
                  ·
                    have q100 := of_ndec_true g100
                    refine TQ.gdN rfl rfl rfl rfl ?_
                    refine TQ.gdN rfl rfl rfl rfl ?_
                    refine TQ.gdN rfl rfl rfl rfl ?_
                    refine TQ.run (pr_pure rfl) rfl ?_
                    refine TQ.nil ?_
                    exact TX.sw rfl (by first | exact pl_2 (by omega) g85 | exact pl_3 (by omega) hb2 g100 | exact decide_eq_false hb3) ⟨rfl, rfl, rfl, rfl, rfl, rfl, rfl, rfl, rfl, rfl, rfl, rfl, rfl, rfl, rfl, rfl, rfl, rfl, rfl, rfl, rfl, trivial⟩
                  ·
                    have q100 := of_ndec_false g100
                    refine TQ.gdY rfl rfl (pr_field rfl) rfl ?_
                    refine TQ.gdY rfl rfl (pr_own1 rfl (.here _) rfl) rfl ?_
                    refine TQ.gdY rfl rfl (pr_str rfl rfl rfl) rfl ?_
                    refine TQ.run (pr_pure rfl) rfl ?_
                    refine TQ.nil ?_
                    exact TX.sw rfl (by first | exact pl_2 (by omega) g85 | exact pl_3 (by omega) hb2 g100 | exact decide_eq_false hb3) ⟨rfl, rfl, rfl, rfl, rfl, rfl, rfl, rfl, rfl, rfl, rfl, rfl, rfl, rfl, rfl, rfl, rfl, rfl, rfl, rfl, rfl, trivial⟩
              refine TC.cond rfl (fun c104 => ?_) (fun c104 => ?_)
              ·
                exact absurd c104 (by decide)
              ·
                refine TC.skip ?_
                refine TX.seqN ?_
                refine TC.region ?_
                refine TL.run (pr_field rfl) rfl ?_
                refine TL.run (pr_own1 rfl (.here _) rfl) rfl ?_
                refine TL.run (pr_field rfl) rfl ?_
                refine TL.run (pr_own1 rfl (.here _) rfl) rfl ?_
                refine TL.run (pr_lenStr rfl rfl) rfl ?_
                refine TL.run ((by first | exact pr_add rfl rfl (by omega) (by omega) | exact pr_pure rfl)) rfl ?_
                refine TL.run (pr_pure rfl) rfl ?_
                refine TL.nil ?_
                refine TX.blkN ?_
                refine TX.seqN ?_
                refine TC.region ?_
                refine TL.run (pr_pure rfl) rfl ?_
                refine TL.run ((by first | exact pr_add rfl rfl (by omega) (by omega) | exact pr_pure rfl)) rfl ?_
                refine TL.run (pr_pure rfl) rfl ?_
                refine TL.nil ?_
                exact TX.round (t.at_ + t.text.length, p.2 + 1) ⟨by omega, by omega, by omega, hnx⟩ ⟨rfl, rfl, rfl, rfl, rfl, trivial⟩ (fun w hw => hw.drop) (by omega)
        ·
          refine TC.exit ?_
          refine TX.thenE ?_
          refine TX.thenE ?_
          refine TX.blkHit ?_
          refine TX.seqN ?_
          refine TC.seq ?_
          refine TC.region ?_
          refine TL.run (pr_pure rfl) rfl ?_
          refine TL.nil ?_
          refine TX.seqN ?_
          refine TC.ret ?_
          exact TX.finS (.inr rfl) (results1 rfl (RVal.tmp rfl)) (congrArg Value.bool (by first | rfl | (simp_all; done) | (simp_all; omega)))
end Go.Sx
