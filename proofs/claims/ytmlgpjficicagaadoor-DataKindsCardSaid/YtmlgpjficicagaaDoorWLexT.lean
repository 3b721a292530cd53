import Derived.Test.YtmlgpjficicagaaDoorWLex
import Derived.Test.YtmlgpjficicagaaDoorPureLt
set_option linter.unusedVariables false
set_option linter.unusedSimpArgs false
namespace Go.Sx
open Go Go.Proofs
set_option maxRecDepth 100000 in
set_option maxHeartbeats 8000000 in
theorem x_Tokens_ok {H : Hp} (s : Str) (hmax : s.length ≤ 140737488355328) (hG : LibG H) :
    Fn Tryd.prog 10 [gs s] H (fun r H1 => LexP (lexS s) r H1) := by
  refine Fn.enter Tryd.func10 Tryd.ntmps10 rfl rfl (fun w0 => ?_)
  refine TC.seq ?_
  refine TC.region ?_
  refine TL.run (pr_pure rfl) rfl ?_
  refine TL.run (pr_pure rfl) rfl ?_
  refine TL.run (pr_pure rfl) rfl ?_
  refine TL.nil ?_
  refine TX.seqN ?_
  refine TC.seq ?_
  refine TC.seq ?_
  refine TC.region ?_
  refine TL.run (pr_pure rfl) rfl ?_
  refine TL.run (pr_lenStr rfl rfl) rfl ?_
  refine TL.run (pr_pure rfl) rfl ?_
  refine TL.nil ?_
  refine TX.seqN ?_
  refine TC.condD rfl (fun c17 => ?_) (fun c17 => ?_)
  ·
    refine TC.seq ?_
    refine TC.region ?_
    refine TL.run (pr_pure rfl) rfl ?_
    refine TL.run (pr_pure rfl) rfl ?_
    refine TL.run (pr_pure rfl) rfl ?_
    refine TL.nil ?_
    refine TX.seqN ?_
    refine TC.ret ?_
    refine TX.thenR ?_
    exact TX.fin0 (.inr rfl) (results3 rfl (RVal.tmp rfl) (RVal.tmp rfl) (RVal.tmp rfl)) ⟨_, by rw [lexS_long c17], by rw [lexS_long c17]; exact RdSl.nil⟩
  ·
    refine TC.skip ?_
    refine TX.seqN ?_
    refine TC.seq ?_
    refine TC.region ?_
    refine TL.run (pr_pure rfl) rfl ?_
    refine TL.nil ?_
    refine TX.seqN ?_
    refine TC.seq ?_
    refine TC.region ?_
    refine TL.run (pr_pure rfl) rfl ?_
    refine TL.nil ?_
    refine TX.seqN ?_
    refine TC.seq ?_
    refine TC.block ?_
    refine TC.loop4 (V := fun k v ob H1 => [(5, v), (6, .int .i64 k)]) (K := [(0, _), (2, _), (3, _), (4, _)]) (L := fun k v ob H1 => St [] w0 H H1 (ob)) (I := fun k v ob H1 => (0 ≤ k ∧ k ≤ s.length) ∧ H.le H1 ∧ ∃ l : List Token, OwnSl 3 Token.cells v l ob ∧ lexN false 0 s = LexR.after l (lexN (lastB l) k (s.drop k.toNat)) ∧ (l.length : Int) ≤ k) (μ := fun k => (s.length - k).toNat) 0 (.slice none 0 0) [] H ⟨rfl, rfl, rfl, rfl, rfl, rfl, trivial⟩ ⟨⟨by omega, by omega⟩, Hp.le.refl _, [], OwnSl.nil, by rw [LexR.after_nil]; rfl, by simp⟩ (fun w hw => hw) (fun k v ob H1 hI => ?_)
    obtain ⟨⟨k0, k1⟩, hle, l, hO, hN, hll⟩ := hI
    replace hG := hG.le hle
    obtain ⟨va, vc, rfl⟩ := hO.form
    refine TC.seq ?_
    refine TC.seq ?_
    refine TC.region ?_
    refine TL.run (pr_pure rfl) rfl ?_
    refine TL.run (pr_pure rfl) rfl ?_
    refine TL.run (pr_lenStr rfl rfl) rfl ?_
    refine TL.run (pr_pure rfl) rfl ?_
    refine TL.nil ?_
    refine TX.seqN ?_
    refine TC.condD rfl (fun c21 => ?_) (fun c21 => ?_)
    ·
      obtain ⟨c, hc⟩ := getSome (l := s) k0 c21
      obtain ⟨hla1, hla2, hla3⟩ := runL_bound s k0 k1
      replace hla3 := hla3 c21
      obtain ⟨hsg1, hsg2⟩ := signL_bound s k0 c21
      refine TC.skip ?_
      refine TX.seqN ?_
      refine TC.block ?_
      refine TC.seq ?_
      refine TC.region ?_
      refine TL.run (pr_pure rfl) rfl ?_
      refine TL.run (pr_pure rfl) rfl ?_
      refine TL.run (pr_strIx rfl rfl (by omega) hc) rfl ?_
      refine TL.run (pr_pure rfl) rfl ?_
      refine TL.nil ?_
      refine TX.seqN ?_
      refine TC.seq ?_
      refine TC.region ?_
      refine TL.run (pr_pure rfl) rfl ?_
      refine TL.run (pr_build rfl rfl) rfl ?_
      refine TL.alloc rfl (fun b8 => ?_)
      refine TL.storeA rfl rfl rfl rfl rfl (.here _) rfl rfl ?_
      refine TL.nil ?_
      refine TX.seqN ?_
      refine TC.sw (decide (c = 45) && ((((s.drop (k + 1).toNat).head?).map digitB).getD false && !(lastB l))) 9 [(0, _), (2, _), (3, _), (4, _), (5, _), (6, _), (7, _), (8, _), (18, _), (19, _), (20, _), (21, _), (22, _), (23, _), (24, _), (25, _), (26, _)] ⟨rfl, rfl, rfl, rfl, rfl, rfl, rfl, rfl, rfl, rfl, rfl, rfl, rfl, rfl, rfl, rfl, rfl, trivial⟩ ?_ ?_
      ·
        refine TC.region ?_
        refine TL.run (pr_pure rfl) rfl ?_
        refine TL.run (pr_pure rfl) rfl ?_
        refine TL.run (pr_pure rfl) rfl ?_
        refine TL.split (s := 29) rfl (fun g29 => ?_) (fun g29 => ?_)
        ·
          have q29 := of_decide_eq_true g29
          refine TL.gdY rfl rfl (pr_pure rfl) rfl ?_
          refine TL.gdY rfl rfl ((by first | exact pr_add rfl rfl (by omega) (by omega) | exact pr_pure rfl)) rfl ?_
          refine TL.gdY rfl rfl (pr_pure rfl) rfl ?_
          refine TL.gdY rfl rfl (pr_lenStr rfl rfl) rfl ?_
          refine TL.gdY rfl rfl (pr_pure rfl) rfl ?_
          refine TL.run (pr_pure rfl) rfl ?_
          refine TL.run (pr_pure rfl) rfl ?_
          refine TL.split (s := 36) rfl (fun g36 => ?_) (fun g36 => ?_)
          ·
            have q36 := of_decide_eq_true g36
            refine TL.gdY rfl rfl (pr_pure rfl) rfl ?_
            refine TL.gdY rfl rfl (pr_pure rfl) rfl ?_
            refine TL.gdY rfl rfl ((by first | exact pr_add rfl rfl (by omega) (by omega) | exact pr_pure rfl)) rfl ?_
            have hk1 : k + 1 < (s.length : Int) := by simp_all
            obtain ⟨d, hd⟩ := getSome (l := s) (i := k + 1) (by omega) hk1
            refine TL.gdY rfl rfl (pr_strIx rfl rfl (by omega) hd) rfl ?_
            refine TL.callSY rfl rfl (enters rfl rfl rfl rfl) (x_digit_ok d) rfl ?_
            refine TL.run (pr_pure rfl) rfl ?_
            refine TL.run (pr_pure rfl) rfl ?_
            refine TL.split (s := 43) rfl (fun g43 => ?_) (fun g43 => ?_)
            ·
              refine TL.gdY rfl rfl (pr_pure rfl) rfl ?_
              refine TL.gdY rfl rfl (pr_lenO rfl rfl hO) rfl ?_
              refine TL.gdY rfl rfl (pr_pure rfl) rfl ?_
              refine TL.gdY rfl rfl (pr_pure rfl) rfl ?_
              refine TL.split (s := 47) rfl (fun g47 => ?_) (fun g47 => ?_)
              ·
                have q47 := of_decide_eq_true g47
                refine TL.gdN rfl rfl rfl rfl ?_
                refine TL.gdN rfl rfl rfl rfl ?_
                refine TL.gdN rfl rfl rfl rfl ?_
                refine TL.gdN rfl rfl rfl rfl ?_
                refine TL.gdN rfl rfl rfl rfl ?_
                refine TL.gdN rfl rfl rfl rfl ?_
                refine TL.gdN rfl rfl rfl rfl ?_
                refine TL.gdN rfl rfl rfl rfl ?_
                refine TL.gdY rfl rfl (pr_pure rfl) rfl ?_
                refine TL.run (pr_pure rfl) rfl ?_
                refine TL.run (pr_pure rfl) rfl ?_
                refine TL.nil ?_
                exact TX.sw rfl (by first | exact minus_0 g29 | exact minus_1 q36 | exact minus_2 hd g43 | exact minus_3 g29 hd g43 g47 | exact minus_4 g29 hd g43 htl) ⟨rfl, rfl, rfl, rfl, rfl, rfl, rfl, rfl, rfl, rfl, rfl, rfl, rfl, rfl, rfl, rfl, rfl, trivial⟩
              ·
                have q47 := of_decide_eq_false g47
                refine TL.gdY rfl rfl (pr_pure rfl) rfl ?_
                refine TL.gdY rfl rfl (pr_pure rfl) rfl ?_
                have hl0 : ¬ (l.length : Int) = 0 := by simp_all
                obtain ⟨tl, htl⟩ := getLast hl0
                refine TL.gdY rfl rfl (pr_lenO rfl rfl hO) rfl ?_
                refine TL.gdY rfl rfl ((by first | exact pr_sub rfl rfl (by omega) (by omega) | exact pr_pure rfl)) rfl ?_
                refine TL.gdY rfl rfl (pr_indexO rfl rfl hO (by omega) (by omega)) rfl ?_
                refine TL.gdY rfl rfl (pr_ldO rfl hO (.skip _ .all) htl) rfl ?_
                refine TL.callSY rfl rfl (enters rfl rfl rfl rfl) (x_closed_ok tl) rfl ?_
                refine TL.gdY rfl rfl (pr_pure rfl) rfl ?_
                refine TL.gdY rfl rfl (pr_pure rfl) rfl ?_
                refine TL.run (pr_pure rfl) rfl ?_
                refine TL.run (pr_pure rfl) rfl ?_
                refine TL.nil ?_
                exact TX.sw rfl (by first | exact minus_0 g29 | exact minus_1 q36 | exact minus_2 hd g43 | exact minus_3 g29 hd g43 g47 | exact minus_4 g29 hd g43 htl) ⟨rfl, rfl, rfl, rfl, rfl, rfl, rfl, rfl, rfl, rfl, rfl, rfl, rfl, rfl, rfl, rfl, rfl, trivial⟩
            ·
              refine TL.gdN rfl rfl rfl rfl ?_
              refine TL.gdN rfl rfl rfl rfl ?_
              refine TL.gdN rfl rfl rfl rfl ?_
              refine TL.gdN rfl rfl rfl rfl ?_
              refine TL.gdU rfl rfl rfl ?_
              refine TL.gdU rfl rfl rfl ?_
              refine TL.gdU rfl rfl rfl ?_
              refine TL.gdU rfl rfl rfl ?_
              refine TL.gdU rfl rfl rfl ?_
              refine TL.gdU rfl rfl rfl ?_
              refine TL.gdU rfl rfl rfl ?_
              refine TL.gdU rfl rfl rfl ?_
              refine TL.gdN rfl rfl rfl rfl ?_
              refine TL.run (pr_pure rfl) rfl ?_
              refine TL.run (pr_pure rfl) rfl ?_
              refine TL.nil ?_
              exact TX.sw rfl (by first | exact minus_0 g29 | exact minus_1 q36 | exact minus_2 hd g43 | exact minus_3 g29 hd g43 g47 | exact minus_4 g29 hd g43 htl) ⟨rfl, rfl, rfl, rfl, rfl, rfl, rfl, rfl, rfl, rfl, rfl, rfl, rfl, rfl, rfl, rfl, rfl, trivial⟩
          ·
            have q36 := of_decide_eq_false g36
            refine TL.gdN rfl rfl rfl rfl ?_
            refine TL.gdN rfl rfl rfl rfl ?_
            refine TL.gdN rfl rfl rfl rfl ?_
            refine TL.gdN rfl rfl rfl rfl ?_
            refine TL.gdN rfl rfl rfl rfl ?_
            refine TL.run (pr_pure rfl) rfl ?_
            refine TL.run (pr_pure rfl) rfl ?_
            refine TL.gdN rfl rfl rfl rfl ?_
            refine TL.gdN rfl rfl rfl rfl ?_
            refine TL.gdN rfl rfl rfl rfl ?_
            refine TL.gdN rfl rfl rfl rfl ?_
            refine TL.gdU rfl rfl rfl ?_
            refine TL.gdU rfl rfl rfl ?_
            refine TL.gdU rfl rfl rfl ?_
            refine TL.gdU rfl rfl rfl ?_
            refine TL.gdU rfl rfl rfl ?_
            refine TL.gdU rfl rfl rfl ?_
            refine TL.gdU rfl rfl rfl ?_
            refine TL.gdU rfl rfl rfl ?_
            refine TL.gdN rfl rfl rfl rfl ?_
            refine TL.run (pr_pure rfl) rfl ?_
            refine TL.run (pr_pure rfl) rfl ?_
            refine TL.nil ?_
            exact TX.sw rfl (by first | exact minus_0 g29 | exact minus_1 q36 | exact minus_2 hd g43 | exact minus_3 g29 hd g43 g47 | exact minus_4 g29 hd g43 htl) ⟨rfl, rfl, rfl, rfl, rfl, rfl, rfl, rfl, rfl, rfl, rfl, rfl, rfl, rfl, rfl, rfl, rfl, trivial⟩
        ·
          have q29 := of_decide_eq_false g29
          refine TL.gdN rfl rfl rfl rfl ?_
          refine TL.gdN rfl rfl rfl rfl ?_
          refine TL.gdN rfl rfl rfl rfl ?_
          refine TL.gdN rfl rfl rfl rfl ?_
          refine TL.gdN rfl rfl rfl rfl ?_
          refine TL.run (pr_pure rfl) rfl ?_
          refine TL.run (pr_pure rfl) rfl ?_
          refine TL.gdN rfl rfl rfl rfl ?_
          refine TL.gdN rfl rfl rfl rfl ?_
          refine TL.gdN rfl rfl rfl rfl ?_
          refine TL.gdN rfl rfl rfl rfl ?_
          refine TL.gdN rfl rfl rfl rfl ?_
          refine TL.run (pr_pure rfl) rfl ?_
          refine TL.run (pr_pure rfl) rfl ?_
          refine TL.gdN rfl rfl rfl rfl ?_
          refine TL.gdN rfl rfl rfl rfl ?_
          refine TL.gdN rfl rfl rfl rfl ?_
          refine TL.gdN rfl rfl rfl rfl ?_
          refine TL.gdU rfl rfl rfl ?_
          refine TL.gdU rfl rfl rfl ?_
          refine TL.gdU rfl rfl rfl ?_
          refine TL.gdU rfl rfl rfl ?_
          refine TL.gdU rfl rfl rfl ?_
          refine TL.gdU rfl rfl rfl ?_
          refine TL.gdU rfl rfl rfl ?_
          refine TL.gdU rfl rfl rfl ?_
          refine TL.gdN rfl rfl rfl rfl ?_
          refine TL.run (pr_pure rfl) rfl ?_
          refine TL.run (pr_pure rfl) rfl ?_
          refine TL.nil ?_
          exact TX.sw rfl (by first | exact minus_0 g29 | exact minus_1 q36 | exact minus_2 hd g43 | exact minus_3 g29 hd g43 g47 | exact minus_4 g29 hd g43 htl) ⟨rfl, rfl, rfl, rfl, rfl, rfl, rfl, rfl, rfl, rfl, rfl, rfl, rfl, rfl, rfl, rfl, rfl, trivial⟩
      refine TC.seq ?_
      refine TC.region ?_
      refine TL.run (pr_pure rfl) rfl ?_
      refine TL.run (pr_pure rfl) rfl ?_
      refine TL.nil ?_
      refine TX.seqN ?_
      refine TC.seq ?_
      refine TC.block ?_
      refine TC.sw (blankB c) 70 [(0, _), (2, _), (3, _), (4, _), (5, _), (6, _), (7, _), (8, _), (9, _), (10, _), (18, _), (19, _), (20, _), (21, _), (22, _), (23, _), (24, _), (25, _), (26, _), (58, _)] ⟨rfl, rfl, rfl, rfl, rfl, rfl, rfl, rfl, rfl, rfl, rfl, rfl, rfl, rfl, rfl, rfl, rfl, rfl, rfl, rfl, trivial⟩ ?_ ?_
      ·
        refine TC.region ?_
        refine TL.run (pr_pure rfl) rfl ?_
        refine TL.run (pr_pure rfl) rfl ?_
        refine TL.run (pr_pure rfl) rfl ?_
        refine TL.split (s := 73) rfl (fun g73 => ?_) (fun g73 => ?_)
        ·
          have q73 := of_decide_eq_true g73
          refine TL.gdN rfl rfl rfl rfl ?_
          refine TL.gdN rfl rfl rfl rfl ?_
          refine TL.run (pr_pure rfl) rfl ?_
          refine TL.run (pr_pure rfl) rfl ?_
          refine TL.gdN rfl rfl rfl rfl ?_
          refine TL.gdN rfl rfl rfl rfl ?_
          refine TL.run (pr_pure rfl) rfl ?_
          refine TL.run (pr_pure rfl) rfl ?_
          refine TL.nil ?_
          exact TX.sw rfl (by first | exact blank_1 g73 | exact blank_2 g77 | exact blank_3 g73 g77) ⟨rfl, rfl, rfl, rfl, rfl, rfl, rfl, rfl, rfl, rfl, rfl, rfl, rfl, rfl, rfl, rfl, rfl, rfl, rfl, rfl, trivial⟩
        ·
          have q73 := of_decide_eq_false g73
          refine TL.gdY rfl rfl (pr_pure rfl) rfl ?_
          refine TL.gdY rfl rfl (pr_pure rfl) rfl ?_
          refine TL.run (pr_pure rfl) rfl ?_
          refine TL.run (pr_pure rfl) rfl ?_
          refine TL.split (s := 77) rfl (fun g77 => ?_) (fun g77 => ?_)
          ·
            have q77 := of_decide_eq_true g77
            refine TL.gdN rfl rfl rfl rfl ?_
            refine TL.gdN rfl rfl rfl rfl ?_
            refine TL.run (pr_pure rfl) rfl ?_
            refine TL.run (pr_pure rfl) rfl ?_
            refine TL.nil ?_
            exact TX.sw rfl (by first | exact blank_1 g73 | exact blank_2 g77 | exact blank_3 g73 g77) ⟨rfl, rfl, rfl, rfl, rfl, rfl, rfl, rfl, rfl, rfl, rfl, rfl, rfl, rfl, rfl, rfl, rfl, rfl, rfl, rfl, trivial⟩
          ·
            have q77 := of_decide_eq_false g77
            refine TL.gdY rfl rfl (pr_pure rfl) rfl ?_
            refine TL.gdY rfl rfl (pr_pure rfl) rfl ?_
            refine TL.run (pr_pure rfl) rfl ?_
            refine TL.run (pr_pure rfl) rfl ?_
            refine TL.nil ?_
            exact TX.sw rfl (by first | exact blank_1 g73 | exact blank_2 g77 | exact blank_3 g73 g77) ⟨rfl, rfl, rfl, rfl, rfl, rfl, rfl, rfl, rfl, rfl, rfl, rfl, rfl, rfl, rfl, rfl, rfl, rfl, rfl, rfl, trivial⟩
      refine TC.cond rfl (fun c70 => ?_) (fun c70 => ?_)
      ·
        refine TC.seq ?_
        refine TC.region ?_
        refine TL.run (pr_pure rfl) rfl ?_
        refine TL.run ((by first | exact pr_add rfl rfl (by omega) (by omega) | exact pr_pure rfl)) rfl ?_
        refine TL.run (pr_pure rfl) rfl ?_
        refine TL.nil ?_
        refine TX.seqN ?_
        refine TC.exit ?_
        refine TX.blkMiss rfl ?_
        refine TX.thenE ?_
        refine TX.blkHit ?_
        exact TX.round4 (k + 1) _ ob H1 ⟨⟨by omega, by omega⟩, hle, _, hO, lx_blank k0 hc c70 hN, by omega⟩ ⟨rfl, rfl, rfl, rfl, rfl, rfl, trivial⟩ (fun w hw => hw.drop) (by omega)
      ·
        refine TC.seq ?_
        refine TC.region ?_
        refine TL.run (pr_pure rfl) rfl ?_
        refine TL.run (pr_pure rfl) rfl ?_
        refine TL.run (pr_pure rfl) rfl ?_
        refine TL.nil ?_
        refine TX.seqN ?_
        refine TC.condD rfl (fun c83 => ?_) (fun c83 => ?_)
        ·
          have hw1 := runL_pos (p := fun c => !decide (c = 10)) k0 hc (by rw [u8_35.1 c83]; decide)
          refine TC.seq ?_
          refine TC.region ?_
          refine TL.run (pr_pure rfl) rfl ?_
          refine TL.run (pr_pure rfl) rfl ?_
          refine TL.callS (enters rfl rfl rfl rfl) (x_run_ok s (fun c => !decide (c = 10)) k (fun c => x_note_ok c) (by omega) (by omega) (by omega)) rfl ?_
          refine TL.run (pr_pure rfl) rfl ?_
          refine TL.nil ?_
          refine TX.seqN ?_
          refine TC.exit ?_
          refine TX.blkMiss rfl ?_
          refine TX.thenE ?_
          refine TX.blkHit ?_
          exact TX.round4 (k + (runL (fun c => !decide (c = 10)) (s.drop k.toNat) : Nat)) _ ob H1 ⟨⟨by omega, by omega⟩, hle, _, hO, lx_note k0 hc c70 c83 hN, by omega⟩ ⟨rfl, rfl, rfl, rfl, rfl, rfl, trivial⟩ (fun w hw => hw.drop) (by omega)
        ·
          refine TC.seq ?_
          refine TC.region ?_
          refine TL.run (pr_pure rfl) rfl ?_
          refine TL.callS (enters rfl rfl rfl rfl) (x_letter_ok c) rfl ?_
          refine TL.run (pr_pure rfl) rfl ?_
          refine TL.nil ?_
          refine TX.seqN ?_
          refine TC.cond rfl (fun c89 => ?_) (fun c89 => ?_)
          ·
            have hw1 := runL_pos (p := nameC) k0 hc (nameC_of c89)
            refine TC.seq ?_
            refine TC.region ?_
            refine TL.run (pr_field rfl) rfl ?_
            refine TL.store1 rfl rfl rfl (.here _) rfl rfl ?_
            refine TL.nil ?_
            refine TX.seqN ?_
            refine TC.region ?_
            refine TL.run (pr_pure rfl) rfl ?_
            refine TL.run (pr_pure rfl) rfl ?_
            refine TL.callS (enters rfl rfl rfl rfl) (x_run_ok s nameC k (fun c => x_word_ok c) (by omega) (by omega) (by omega)) rfl ?_
            refine TL.run (pr_pure rfl) rfl ?_
            refine TL.nil ?_
            refine TX.blkN ?_
            refine TX.seqN ?_
            refine TC.seq ?_
            refine TC.region ?_
            refine TL.run (pr_pure rfl) rfl ?_
            refine TL.run (pr_pure rfl) rfl ?_
            refine TL.run (pr_pure rfl) rfl ?_
            refine TL.run (pr_strLH rfl rfl rfl (by omega) (by omega) (by omega)) rfl ?_
            refine TL.run (pr_field rfl) rfl ?_
            refine TL.store1 rfl rfl rfl (.here _) rfl rfl ?_
            refine TL.nil ?_
            refine TX.seqN ?_
            refine TC.seq ?_
            refine TC.region ?_
            refine TL.run (pr_pure rfl) rfl ?_
            refine TL.run (pr_ownA rfl (.here _) rfl) rfl ?_
            refine TL.bslice rfl rfl rfl rfl (fun b142 => ?_)
            refine TL.append (enc := Token.cells) rfl rfl rfl hO (Src.own [⟨0, (s.take (k + (runL nameC (s.drop k.toNat) : Nat)).toNat).drop k.toNat, k⟩] (.here _) rfl rfl) (by simp; omega) rfl (.skip _ (.skip _ .all)) rfl (fun a143 c143 ob143 hO143 => ?_)
            refine TL.run (pr_pure rfl) rfl ?_
            refine TL.nil ?_
            refine TX.seqN ?_
            refine TC.region ?_
            refine TL.run (pr_pure rfl) rfl ?_
            refine TL.run (pr_pure rfl) rfl ?_
            refine TL.nil ?_
            refine TX.blkN ?_
            exact TX.round4 (k + (runL nameC (s.drop k.toNat) : Nat)) _ ob143 H1 ⟨⟨by omega, by omega⟩, hle, _, hO143, lx_ok (n := (runL nameC (s.drop k.toNat))) k0 hc c70 c83 (tk_word k0 hc c89) (by omega) hN, by simp; omega⟩ ⟨rfl, rfl, rfl, rfl, rfl, rfl, trivial⟩ (fun w hw => hw.drop.drop) (by omega)
          ·
            refine TC.sw (digitB c || (decide (c = 45) && ((((s.drop (k + 1).toNat).head?).map digitB).getD false && !(lastB l)))) 96 [(0, _), (2, _), (3, _), (4, _), (5, _), (6, _), (7, _), (8, _), (9, _), (10, _), (18, _), (19, _), (20, _), (21, _), (22, _), (23, _), (24, _), (25, _), (26, _), (58, _), (70, _), (83, _), (84, _), (85, _), (89, _), (90, _), (91, _)] ⟨rfl, rfl, rfl, rfl, rfl, rfl, rfl, rfl, rfl, rfl, rfl, rfl, rfl, rfl, rfl, rfl, rfl, rfl, rfl, rfl, rfl, rfl, rfl, rfl, rfl, rfl, rfl, trivial⟩ ?_ ?_
            ·
              refine TC.region ?_
              refine TL.run (pr_pure rfl) rfl ?_
              refine TL.callS (enters rfl rfl rfl rfl) (x_digit_ok c) rfl ?_
              refine TL.run (pr_pure rfl) rfl ?_
              refine TL.split (s := 99) rfl (fun g99 => ?_) (fun g99 => ?_)
              ·
                refine TL.gdN rfl rfl rfl rfl ?_
                refine TL.run (pr_pure rfl) rfl ?_
                refine TL.run (pr_pure rfl) rfl ?_
                refine TL.nil ?_
                exact TX.sw rfl (by simp_all) ⟨rfl, rfl, rfl, rfl, rfl, rfl, rfl, rfl, rfl, rfl, rfl, rfl, rfl, rfl, rfl, rfl, rfl, rfl, rfl, rfl, rfl, rfl, rfl, rfl, rfl, rfl, rfl, trivial⟩
              ·
                refine TL.gdY rfl rfl (pr_pure rfl) rfl ?_
                refine TL.run (pr_pure rfl) rfl ?_
                refine TL.run (pr_pure rfl) rfl ?_
                refine TL.nil ?_
                exact TX.sw rfl (by simp_all) ⟨rfl, rfl, rfl, rfl, rfl, rfl, rfl, rfl, rfl, rfl, rfl, rfl, rfl, rfl, rfl, rfl, rfl, rfl, rfl, rfl, rfl, rfl, rfl, rfl, rfl, rfl, rfl, trivial⟩
            refine TC.cond rfl (fun c96 => ?_) (fun c96 => ?_)
            ·
              refine TC.seq ?_
              refine TC.region ?_
              refine TL.run (pr_field rfl) rfl ?_
              refine TL.store1 rfl rfl rfl (.here _) rfl rfl ?_
              refine TL.nil ?_
              refine TX.seqN ?_
              refine TC.seq ?_
              refine TC.region ?_
              refine TL.run (pr_pure rfl) rfl ?_
              refine TL.run (pr_pure rfl) rfl ?_
              refine TL.run ((by first | exact pr_add rfl rfl (by omega) (by omega) | exact pr_pure rfl)) rfl ?_
              refine TL.callS (enters rfl rfl rfl rfl) (x_run_ok s digitB (k + 1) (fun c => x_digit_ok c) (by omega) (by omega) (by omega)) rfl ?_
              refine TL.run (pr_pure rfl) rfl ?_
              refine TL.nil ?_
              refine TX.seqN ?_
              refine TC.seq ?_
              refine TC.region ?_
              refine TL.run (pr_pure rfl) rfl ?_
              refine TL.run (pr_pure rfl) rfl ?_
              refine TL.run (pr_pure rfl) rfl ?_
              refine TL.run (pr_strLH rfl rfl rfl (by omega) (by omega) (by omega)) rfl ?_
              refine TL.callS (enters rfl rfl rfl rfl) (x_number_ok ((s.take (k + 1 + (runL digitB (s.drop (k + 1).toNat) : Nat)).toNat).drop k.toNat) (by simp; omega) hG) rfl ?_
              refine TL.run (pr_pure rfl) rfl ?_
              refine TL.nil ?_
              refine TX.seqN ?_
              refine TC.cond rfl (fun c112 => ?_) (fun c112 => ?_)
              ·
                have hnum : numeralB ((s.take (k + 1 + (runL digitB (s.drop (k + 1).toNat) : Nat)).toNat).drop k.toNat) = false := by simpa using c112
                refine TC.seq ?_
                refine TC.region ?_
                refine TL.run (pr_pure rfl) rfl ?_
                refine TL.run (pr_pure rfl) rfl ?_
                refine TL.run (pr_pure rfl) rfl ?_
                refine TL.run (pr_pure rfl) rfl ?_
                refine TL.nil ?_
                refine TX.seqN ?_
                refine TC.ret ?_
                refine TX.blkR ?_
                refine TX.thenR ?_
                refine TX.blkR ?_
                refine TX.thenR ?_
                refine TX.blkR ?_
                refine TX.thenR ?_
                exact TX.fin0 (.inr rfl) (results3 rfl (RVal.tmp rfl) (RVal.tmp rfl) (RVal.tmp rfl)) (LexP.err (lexS_N (by omega)) (lx_err k0 hc c70 c83 (tk_nonum k0 hc c89 c96 hnum) hN))
              ·
                have hnum : numeralB ((s.take (k + 1 + (runL digitB (s.drop (k + 1).toNat) : Nat)).toNat).drop k.toNat) = true := by simpa using c112
                refine TC.skip ?_
                refine TX.blkN ?_
                refine TX.seqN ?_
                refine TC.seq ?_
                refine TC.region ?_
                refine TL.run (pr_pure rfl) rfl ?_
                refine TL.run (pr_pure rfl) rfl ?_
                refine TL.run (pr_pure rfl) rfl ?_
                refine TL.run (pr_strLH rfl rfl rfl (by omega) (by omega) (by omega)) rfl ?_
                refine TL.run (pr_field rfl) rfl ?_
                refine TL.store1 rfl rfl rfl (.here _) rfl rfl ?_
                refine TL.nil ?_
                refine TX.seqN ?_
                refine TC.seq ?_
                refine TC.region ?_
                refine TL.run (pr_pure rfl) rfl ?_
                refine TL.run (pr_ownA rfl (.here _) rfl) rfl ?_
                refine TL.bslice rfl rfl rfl rfl (fun b142 => ?_)
                refine TL.append (enc := Token.cells) rfl rfl rfl hO (Src.own [⟨1, (s.take (k + 1 + (runL digitB (s.drop (k + 1).toNat) : Nat)).toNat).drop k.toNat, k⟩] (.here _) rfl rfl) (by simp; omega) rfl (.skip _ (.skip _ .all)) rfl (fun a143 c143 ob143 hO143 => ?_)
                refine TL.run (pr_pure rfl) rfl ?_
                refine TL.nil ?_
                refine TX.seqN ?_
                refine TC.region ?_
                refine TL.run (pr_pure rfl) rfl ?_
                refine TL.run (pr_pure rfl) rfl ?_
                refine TL.nil ?_
                refine TX.blkN ?_
                exact TX.round4 (k + 1 + (runL digitB (s.drop (k + 1).toNat) : Nat)) _ ob143 H1 ⟨⟨by omega, by omega⟩, hle, _, hO143, lx_ok (n := (runL digitB (s.drop (k + 1).toNat) + 1)) k0 hc c70 c83 (tk_num k0 hc c89 c96 hnum) (by omega) hN, by simp; omega⟩ ⟨rfl, rfl, rfl, rfl, rfl, rfl, trivial⟩ (fun w hw => hw.drop.drop) (by omega)
            ·
              refine TC.seq ?_
              refine TC.region ?_
              refine TL.run (pr_pure rfl) rfl ?_
              refine TL.run (pr_pure rfl) rfl ?_
              refine TL.run (pr_pure rfl) rfl ?_
              refine TL.nil ?_
              refine TX.seqN ?_
              refine TC.condD rfl (fun c114 => ?_) (fun c114 => ?_)
              ·
                refine TC.seq ?_
                refine TC.region ?_
                refine TL.run (pr_pure rfl) rfl ?_
                refine TL.run (pr_pure rfl) rfl ?_
                refine TL.call (enters rfl rfl rfl rfl) (x_quote_ok s k k0 (by omega) (by omega)) rfl (fun v120 H120 hle120 hp120 => ?_)
                replace hG := hG.le hle120
                replace hle := hle.trans hle120
                rcases quoteV_cases hp120 with ⟨hq, rfl⟩ | ⟨qt, qr, hq, rfl⟩
                ·
                  refine TL.run (pr_pure rfl) rfl ?_
                  refine TL.run (pr_pure rfl) rfl ?_
                  refine TL.run (pr_pure rfl) rfl ?_
                  refine TL.run (pr_pure rfl) rfl ?_
                  refine TL.run (pr_pure rfl) rfl ?_
                  refine TL.run (pr_pure rfl) rfl ?_
                  refine TL.run (pr_pure rfl) rfl ?_
                  refine TL.nil ?_
                  refine TX.seqN ?_
                  refine TC.seq ?_
                  refine TC.seq ?_
                  refine TC.region ?_
                  refine TL.run (pr_pure rfl) rfl ?_
                  refine TL.run (pr_pure rfl) rfl ?_
                  refine TL.nil ?_
                  refine TX.seqN ?_
                  refine TC.cond rfl (fun c125 => ?_) (fun c125 => ?_)
                  ·
                    refine TC.seq ?_
                    refine TC.region ?_
                    refine TL.run (pr_pure rfl) rfl ?_
                    refine TL.run (pr_pure rfl) rfl ?_
                    refine TL.run (pr_pure rfl) rfl ?_
                    refine TL.run (pr_pure rfl) rfl ?_
                    refine TL.nil ?_
                    refine TX.seqN ?_
                    refine TC.ret ?_
                    refine TX.thenR ?_
                    refine TX.blkR ?_
                    refine TX.thenR ?_
                    refine TX.blkR ?_
                    refine TX.thenR ?_
                    refine TX.blkR ?_
                    refine TX.thenR ?_
                    exact TX.fin0 (.inr rfl) (results3 rfl (RVal.tmp rfl) (RVal.tmp rfl) (RVal.tmp rfl)) (LexP.err (lexS_N (by omega)) (lx_err k0 hc c70 c83 (tk_noquote k0 hc c89 c96 c114 hq) hN))
                  ·
                    exact absurd c125 (by decide)
                ·
                  have hqs := quoteL_size hq
                  rw [List.length_drop] at hqs
                  have hql : (qr.length : Int) + k + 2 + qt.length ≤ s.length := by omega
                  refine TL.run (pr_pure rfl) rfl ?_
                  refine TL.run (pr_pure rfl) rfl ?_
                  refine TL.run (pr_pure rfl) rfl ?_
                  refine TL.run (pr_pure rfl) rfl ?_
                  refine TL.run (pr_pure rfl) rfl ?_
                  refine TL.run (pr_pure rfl) rfl ?_
                  refine TL.run (pr_pure rfl) rfl ?_
                  refine TL.nil ?_
                  refine TX.seqN ?_
                  refine TC.seq ?_
                  refine TC.seq ?_
                  refine TC.region ?_
                  refine TL.run (pr_pure rfl) rfl ?_
                  refine TL.run (pr_pure rfl) rfl ?_
                  refine TL.nil ?_
                  refine TX.seqN ?_
                  refine TC.cond rfl (fun c125 => ?_) (fun c125 => ?_)
                  ·
                    exact absurd c125 (by decide)
                  ·
                    refine TC.skip ?_
                    refine TX.seqN ?_
                    refine TC.seq ?_
                    refine TC.region ?_
                    refine TL.run (pr_field rfl) rfl ?_
                    refine TL.store1 rfl rfl rfl (.here _) rfl rfl ?_
                    refine TL.nil ?_
                    refine TX.seqN ?_
                    refine TC.seq ?_
                    refine TC.region ?_
                    refine TL.run (pr_pure rfl) rfl ?_
                    refine TL.run (pr_field rfl) rfl ?_
                    refine TL.store1 rfl rfl rfl (.here _) rfl rfl ?_
                    refine TL.nil ?_
                    refine TX.seqN ?_
                    refine TC.seq ?_
                    refine TC.region ?_
                    refine TL.run (pr_pure rfl) rfl ?_
                    refine TL.run (pr_ownA rfl (.here _) rfl) rfl ?_
                    refine TL.bslice rfl rfl rfl rfl (fun b132 => ?_)
                    refine TL.append (enc := Token.cells) rfl rfl rfl hO (Src.own [⟨2, qt, k⟩] (.here _) rfl rfl) (by simp; omega) rfl (.skip _ (.skip _ .all)) rfl (fun a133 c133 ob133 hO133 => ?_)
                    refine TL.run (pr_pure rfl) rfl ?_
                    refine TL.nil ?_
                    refine TX.seqN ?_
                    refine TC.seq ?_
                    refine TC.region ?_
                    refine TL.run (pr_pure rfl) rfl ?_
                    refine TL.run (pr_pure rfl) rfl ?_
                    refine TL.nil ?_
                    refine TX.seqN ?_
                    refine TC.exit ?_
                    refine TX.blkMiss rfl ?_
                    refine TX.thenE ?_
                    refine TX.blkHit ?_
                    exact TX.round4 ((s.length : Int) - qr.length) _ ob133 H120 ⟨⟨by omega, by omega⟩, hle, _, hO133, lx_ok k0 hc c70 c83 (tk_quote k0 hc c89 c96 c114 hq) (by omega) hN, by simp; omega⟩ ⟨rfl, rfl, rfl, rfl, rfl, rfl, trivial⟩ (fun w hw => hw.drop.drop) (by omega)
              ·
                refine TC.seq ?_
                refine TC.region ?_
                refine TL.run (pr_pure rfl) rfl ?_
                refine TL.run (pr_pure rfl) rfl ?_
                refine TL.callS (enters rfl rfl rfl rfl) (x_sign_ok s k k0 (by omega) (by omega)) rfl ?_
                refine TL.run (pr_pure rfl) rfl ?_
                refine TL.nil ?_
                refine TX.seqN ?_
                refine TC.seq ?_
                refine TC.seq ?_
                refine TC.region ?_
                refine TL.run (pr_pure rfl) rfl ?_
                refine TL.run (pr_str rfl rfl rfl) rfl ?_
                refine TL.nil ?_
                refine TX.seqN ?_
                refine TC.condD rfl (fun c63 => ?_) (fun c63 => ?_)
                ·
                  refine TC.seq ?_
                  refine TC.region ?_
                  refine TL.run (pr_pure rfl) rfl ?_
                  refine TL.run (pr_pure rfl) rfl ?_
                  refine TL.run (pr_pure rfl) rfl ?_
                  refine TL.run (pr_pure rfl) rfl ?_
                  refine TL.nil ?_
                  refine TX.seqN ?_
                  refine TC.ret ?_
                  refine TX.thenR ?_
                  refine TX.blkR ?_
                  refine TX.thenR ?_
                  refine TX.blkR ?_
                  refine TX.thenR ?_
                  refine TX.blkR ?_
                  refine TX.thenR ?_
                  exact TX.fin0 (.inr rfl) (results3 rfl (RVal.tmp rfl) (RVal.tmp rfl) (RVal.tmp rfl)) (LexP.err (lexS_N (by omega)) (lx_err k0 hc c70 c83 (tk_nosign k0 hc c89 c96 c114 c63) hN))
                ·
                  have hsg := c63
                  have hw1 := sign_pos hsg2 c63
                  refine TC.skip ?_
                  refine TX.seqN ?_
                  refine TC.seq ?_
                  refine TC.region ?_
                  refine TL.run (pr_field rfl) rfl ?_
                  refine TL.store1 rfl rfl rfl (.here _) rfl rfl ?_
                  refine TL.nil ?_
                  refine TX.seqN ?_
                  refine TC.region ?_
                  refine TL.run (pr_pure rfl) rfl ?_
                  refine TL.run (pr_pure rfl) rfl ?_
                  refine TL.run (pr_lenStr rfl rfl) rfl ?_
                  refine TL.run ((by first | exact pr_add rfl rfl (by omega) (by omega) | exact pr_pure rfl)) rfl ?_
                  refine TL.run (pr_pure rfl) rfl ?_
                  refine TL.nil ?_
                  refine TX.blkN ?_
                  refine TX.seqN ?_
                  refine TC.seq ?_
                  refine TC.region ?_
                  refine TL.run (pr_pure rfl) rfl ?_
                  refine TL.run (pr_pure rfl) rfl ?_
                  refine TL.run (pr_pure rfl) rfl ?_
                  refine TL.run (pr_strLH rfl rfl rfl (by omega) (by omega) (by omega)) rfl ?_
                  refine TL.run (pr_field rfl) rfl ?_
                  refine TL.store1 rfl rfl rfl (.here _) rfl rfl ?_
                  refine TL.nil ?_
                  refine TX.seqN ?_
                  refine TC.seq ?_
                  refine TC.region ?_
                  refine TL.run (pr_pure rfl) rfl ?_
                  refine TL.run (pr_ownA rfl (.here _) rfl) rfl ?_
                  refine TL.bslice rfl rfl rfl rfl (fun b142 => ?_)
                  refine TL.append (enc := Token.cells) rfl rfl rfl hO (Src.own [⟨3, (s.take (k + (((s.drop k.toNat).take (signL (s.drop k.toNat))).length : Nat)).toNat).drop k.toNat, k⟩] (.here _) rfl rfl) (by simp; omega) rfl (.skip _ (.skip _ .all)) rfl (fun a143 c143 ob143 hO143 => ?_)
                  refine TL.run (pr_pure rfl) rfl ?_
                  refine TL.nil ?_
                  refine TX.seqN ?_
                  refine TC.region ?_
                  refine TL.run (pr_pure rfl) rfl ?_
                  refine TL.run (pr_pure rfl) rfl ?_
                  refine TL.nil ?_
                  refine TX.blkN ?_
                  exact TX.round4 (k + (((s.drop k.toNat).take (signL (s.drop k.toNat))).length : Nat)) _ ob143 H1 ⟨⟨by omega, by omega⟩, hle, _, hO143, lx_ok (n := (signL (s.drop k.toNat))) k0 hc c70 c83 (tk_sign k0 hc c89 c96 c114 hsg) (by omega) hN, by simp; omega⟩ ⟨rfl, rfl, rfl, rfl, rfl, rfl, trivial⟩ (fun w hw => hw.drop.drop) (by omega)
    ·
      refine TC.exit ?_
      refine TX.thenE ?_
      refine TX.thenE ?_
      refine TX.blkHit ?_
      refine TX.seqN ?_
      refine TC.seq ?_
      refine TC.region ?_
      refine TL.run (pr_pure rfl) rfl ?_
      refine TL.run (pr_pure rfl) rfl ?_
      refine TL.run (pr_pure rfl) rfl ?_
      refine TL.run (pr_pure rfl) rfl ?_
      refine TL.nil ?_
      refine TX.seqN ?_
      refine TC.ret ?_
      refine TX.pubO hO .all (by simp) (fun H2 hle2 hR => ?_)
      exact TX.fin0 (.inr rfl) (results3 rfl (RVal.tmp rfl) (RVal.tmp rfl) (RVal.tmp rfl)) ⟨_, by rw [lexS_N (by omega), lx_end c21 hN], by rw [lexS_N (by omega), lx_end c21 hN]; exact hR⟩
end Go.Sx
