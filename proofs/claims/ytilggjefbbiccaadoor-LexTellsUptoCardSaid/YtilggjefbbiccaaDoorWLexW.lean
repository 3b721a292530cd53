import Derived.Test.YtilggjefbbiccaaDoorWLex
import Derived.Test.YtilggjefbbiccaaDoorPureLw
set_option linter.unusedVariables false
set_option linter.unusedSimpArgs false
namespace Go.Sx
open Go Go.Proofs
set_option maxRecDepth 100000 in
set_option maxHeartbeats 2000000 in
theorem x_Quoted_ok {H : Hp} (s : Str) (hmax : s.length ≤ 30000000000000) :
    FnS Tryd.prog 11 [gs s] H (gs (quotedL s)) := by
  refine FnS.enter Tryd.func11 Tryd.ntmps11 rfl rfl (fun w0 => ?_)
  refine TC.seq ?_
  refine TC.region ?_
  refine TL.run (pr_pure rfl) rfl ?_
  refine TL.nil ?_
  refine TX.seqN ?_
  refine TC.seq ?_
  refine TC.region ?_
  refine TL.bslice rfl rfl rfl rfl (fun b6 => ?_)
  refine TL.run (pr_pure rfl) rfl ?_
  refine TL.nil ?_
  refine TX.seqN ?_
  refine TC.seq ?_
  refine TC.seq ?_
  refine TC.region ?_
  refine TL.run (pr_pure rfl) rfl ?_
  refine TL.nil ?_
  refine TX.seqN ?_
  refine TC.block ?_
  refine TC.loop4 (V := fun k v ob H1 => [(3, v), (4, .int .i64 k)]) (K := [(0, _), (2, _)]) (L := fun k v ob H1 => St [] w0 H H ob) (I := fun k v ob H1 => (0 ≤ k ∧ k ≤ s.length) ∧ ∃ o : Str, OwnSl 1 U8.cells v o ob ∧ o = 34 :: (s.take k.toNat).flatMap quotedC ∧ (o.length : Int) ≤ 4 * k + 1) (μ := fun k => (s.length - k).toNat) 0 (.slice (some ⟨b6, 0, none⟩) 1 1) [(b6, [.int .u8 34])] H ⟨rfl, rfl, rfl, rfl, trivial⟩ ⟨⟨by omega, by omega⟩, [34], OwnSl.blk [34] rfl rfl (by decide), rfl, by simp⟩ (fun w hw => hw) (fun k v ob H1 hI => ?_)
  obtain ⟨⟨k0, k1⟩, o, hO, ho, hol⟩ := hI
  obtain ⟨va, vc, rfl⟩ := hO.form
  refine TC.seq ?_
  refine TC.seq ?_
  refine TC.region ?_
  refine TL.run (pr_pure rfl) rfl ?_
  refine TL.run (pr_pure rfl) rfl ?_
  refine TL.run (pr_lenStr rfl rfl) rfl ?_
  refine TL.run (pr_pure rfl) rfl ?_
  refine TL.nil ?_
  refine TX.seqN ?_
  refine TC.condD rfl (fun c10 => ?_) (fun c10 => ?_)
  ·
    obtain ⟨c, hc⟩ := getSome (l := s) k0 c10
    refine TC.skip ?_
    refine TX.seqN ?_
    refine TC.seq ?_
    refine TC.block ?_
    refine TC.seq ?_
    refine TC.region ?_
    refine TL.run (pr_pure rfl) rfl ?_
    refine TL.run (pr_pure rfl) rfl ?_
    refine TL.run (pr_strIx rfl rfl (by omega) hc) rfl ?_
    refine TL.run (pr_pure rfl) rfl ?_
    refine TL.nil ?_
    refine TX.seqN ?_
    refine TC.block ?_
    refine TC.sw (decide (c = 34 ∨ c = 92)) 20 [(0, _), (2, _), (3, _), (4, _), (5, _), (7, _), (8, _), (9, _), (10, _), (13, _), (14, _), (15, _)] ⟨rfl, rfl, rfl, rfl, rfl, rfl, rfl, rfl, rfl, rfl, rfl, rfl, trivial⟩ ?_ ?_
    ·
      refine TC.region ?_
      refine TL.run (pr_pure rfl) rfl ?_
      refine TL.run (pr_pure rfl) rfl ?_
      refine TL.run (pr_pure rfl) rfl ?_
      refine TL.split (s := 23) rfl (fun g23 => ?_) (fun g23 => ?_)
      ·
        have q23 := of_decide_eq_true g23
        refine TL.gdN rfl rfl rfl rfl ?_
        refine TL.gdN rfl rfl rfl rfl ?_
        refine TL.run (pr_pure rfl) rfl ?_
        refine TL.run (pr_pure rfl) rfl ?_
        refine TL.nil ?_
        exact TX.sw rfl (by first | exact esc_1 g23 | exact esc_2 g23) ⟨rfl, rfl, rfl, rfl, rfl, rfl, rfl, rfl, rfl, rfl, rfl, rfl, trivial⟩
      ·
        have q23 := of_decide_eq_false g23
        refine TL.gdY rfl rfl (pr_pure rfl) rfl ?_
        refine TL.gdY rfl rfl (pr_pure rfl) rfl ?_
        refine TL.run (pr_pure rfl) rfl ?_
        refine TL.run (pr_pure rfl) rfl ?_
        refine TL.nil ?_
        exact TX.sw rfl (by first | exact esc_1 g23 | exact esc_2 g23) ⟨rfl, rfl, rfl, rfl, rfl, rfl, rfl, rfl, rfl, rfl, rfl, rfl, trivial⟩
    refine TC.cond rfl (fun c20 => ?_) (fun c20 => ?_)
    ·
      refine TC.region ?_
      refine TL.run (pr_pure rfl) rfl ?_
      refine TL.run (pr_pure rfl) rfl ?_
      refine TL.bslice rfl rfl rfl rfl (fun b29 => ?_)
      refine TL.append (enc := U8.cells) rfl rfl rfl hO (Src.own [92, c] (.here _) rfl rfl) (by simp; omega) rfl (.skip _ .all) rfl (fun a30 c30 ob30 hO30 => ?_)
      refine TL.run (pr_pure rfl) rfl ?_
      refine TL.nil ?_
      refine TX.blkN ?_
      refine TX.blkN ?_
      refine TX.seqN ?_
      refine TC.region ?_
      refine TL.run (pr_pure rfl) rfl ?_
      refine TL.run ((by first | exact pr_add rfl rfl (by omega) (by omega) | exact pr_pure rfl)) rfl ?_
      refine TL.run (pr_pure rfl) rfl ?_
      refine TL.nil ?_
      exact TX.round4 (k + 1) _ ob30 H1 ⟨⟨by omega, by omega⟩, _, hO30, qd_next k0 hc (qc_esc c20) ho, by simp; omega⟩ ⟨rfl, rfl, rfl, rfl, trivial⟩ (fun w hw => hw.drop) (by omega)
    ·
      refine TC.seq ?_
      refine TC.region ?_
      refine TL.run (pr_pure rfl) rfl ?_
      refine TL.run (pr_pure rfl) rfl ?_
      refine TL.run (pr_pure rfl) rfl ?_
      refine TL.nil ?_
      refine TX.seqN ?_
      refine TC.condD rfl (fun c31 => ?_) (fun c31 => ?_)
      ·
        refine TC.region ?_
        refine TL.run (pr_pure rfl) rfl ?_
        refine TL.bslice rfl rfl rfl rfl (fun b35 => ?_)
        refine TL.append (enc := U8.cells) rfl rfl rfl hO (Src.own [92, 110] (.here _) rfl rfl) (by simp; omega) rfl (.skip _ .all) rfl (fun a36 c36 ob36 hO36 => ?_)
        refine TL.run (pr_pure rfl) rfl ?_
        refine TL.nil ?_
        refine TX.blkN ?_
        refine TX.blkN ?_
        refine TX.seqN ?_
        refine TC.region ?_
        refine TL.run (pr_pure rfl) rfl ?_
        refine TL.run ((by first | exact pr_add rfl rfl (by omega) (by omega) | exact pr_pure rfl)) rfl ?_
        refine TL.run (pr_pure rfl) rfl ?_
        refine TL.nil ?_
        exact TX.round4 (k + 1) _ ob36 H1 ⟨⟨by omega, by omega⟩, _, hO36, qd_next k0 hc (qc_n c20 c31) ho, by simp; omega⟩ ⟨rfl, rfl, rfl, rfl, trivial⟩ (fun w hw => hw.drop) (by omega)
      ·
        refine TC.sw (!plainB c) 37 [(0, _), (2, _), (3, _), (4, _), (5, _), (7, _), (8, _), (9, _), (10, _), (13, _), (14, _), (15, _), (20, _), (31, _), (32, _), (33, _)] ⟨rfl, rfl, rfl, rfl, rfl, rfl, rfl, rfl, rfl, rfl, rfl, rfl, rfl, rfl, rfl, rfl, trivial⟩ ?_ ?_
        ·
          refine TC.region ?_
          refine TL.run (pr_pure rfl) rfl ?_
          refine TL.run (pr_pure rfl) rfl ?_
          refine TL.run (pr_pure rfl) rfl ?_
          refine TL.split (s := 40) rfl (fun g40 => ?_) (fun g40 => ?_)
          ·
            have q40 := of_decide_eq_true g40
            refine TL.gdN rfl rfl rfl rfl ?_
            refine TL.gdN rfl rfl rfl rfl ?_
            refine TL.run (pr_pure rfl) rfl ?_
            refine TL.run (pr_pure rfl) rfl ?_
            refine TL.nil ?_
            exact TX.sw rfl (by first | exact plain_1 g40 | exact plain_2 g40) ⟨rfl, rfl, rfl, rfl, rfl, rfl, rfl, rfl, rfl, rfl, rfl, rfl, rfl, rfl, rfl, rfl, trivial⟩
          ·
            have q40 := of_decide_eq_false g40
            refine TL.gdY rfl rfl (pr_pure rfl) rfl ?_
            refine TL.gdY rfl rfl (pr_pure rfl) rfl ?_
            refine TL.run (pr_pure rfl) rfl ?_
            refine TL.run (pr_pure rfl) rfl ?_
            refine TL.nil ?_
            exact TX.sw rfl (by first | exact plain_1 g40 | exact plain_2 g40) ⟨rfl, rfl, rfl, rfl, rfl, rfl, rfl, rfl, rfl, rfl, rfl, rfl, rfl, rfl, rfl, rfl, trivial⟩
        refine TC.cond rfl (fun c37 => ?_) (fun c37 => ?_)
        ·
          refine TC.drawn (by kernel_rfl) (by kernel_rfl) ?_
          refine TD.leaf [(0, 1), (1, 1), (2, 1), (3, 1), (4, 1), (5, 1), (6, 1), (7, 3), (8, 0), (9, 1)] (by kernel_rfl) (by kernel_rfl) ?_
          refine TF.pure (pr_pure rfl) rfl ?_
          refine TF.pure (pr_pure rfl) rfl ?_
          refine TF.pure (PR.to (pr_shr rfl rfl (by decide) (by decide)) (congrArg (Value.int .u8) (u8_shr4 _))) rfl ?_
          refine TF.pure (pr_strIx rfl rfl (by omega) (hexd_hi c)) rfl ?_
          refine TF.pure (pr_pure rfl) rfl ?_
          refine TF.pure (PR.to (pr_and rfl rfl) (congrArg (Value.int .u8) (u8_and15 _))) rfl ?_
          refine TF.pure (pr_strIx rfl rfl (by omega) (hexd_lo c)) rfl ?_
          refine TF.bslice rfl rfl rfl rfl (fun b51 => ?_)
          refine TF.loud ?_
          refine TL.append (enc := U8.cells) rfl rfl rfl hO (Src.own [92, 120, quotedC.hexC (c / 16), quotedC.hexC (c % 16)] (.here _) rfl rfl) (by simp; omega) rfl (.skip _ .all) rfl (fun a52 c52 ob52 hO52 => ?_)
          refine TF.back ?_
          refine TF.pure (pr_pure rfl) rfl ?_
          refine TF.nil ?_
          refine TX.blkN ?_
          refine TX.blkN ?_
          refine TX.seqN ?_
          refine TC.region ?_
          refine TL.run (pr_pure rfl) rfl ?_
          refine TL.run ((by first | exact pr_add rfl rfl (by omega) (by omega) | exact pr_pure rfl)) rfl ?_
          refine TL.run (pr_pure rfl) rfl ?_
          refine TL.nil ?_
          exact TX.round4 (k + 1) _ ob52 H1 ⟨⟨by omega, by omega⟩, _, hO52, qd_next k0 hc (qc_x c20 c31 c37) ho, by simp; omega⟩ ⟨rfl, rfl, rfl, rfl, trivial⟩ (fun w hw => hw.drop) (by omega)
        ·
          refine TC.region ?_
          refine TL.run (pr_pure rfl) rfl ?_
          refine TL.run (pr_pure rfl) rfl ?_
          refine TL.bslice rfl rfl rfl rfl (fun b18 => ?_)
          refine TL.append (enc := U8.cells) rfl rfl rfl hO (Src.own [c] (.here _) rfl rfl) (by simp; omega) rfl (.skip _ .all) rfl (fun a19 c19 ob19 hO19 => ?_)
          refine TL.run (pr_pure rfl) rfl ?_
          refine TL.nil ?_
          refine TX.blkN ?_
          refine TX.blkN ?_
          refine TX.seqN ?_
          refine TC.region ?_
          refine TL.run (pr_pure rfl) rfl ?_
          refine TL.run ((by first | exact pr_add rfl rfl (by omega) (by omega) | exact pr_pure rfl)) rfl ?_
          refine TL.run (pr_pure rfl) rfl ?_
          refine TL.nil ?_
          exact TX.round4 (k + 1) _ ob19 H1 ⟨⟨by omega, by omega⟩, _, hO19, qd_next k0 hc (qc_p c20 c31 c37) ho, by simp; omega⟩ ⟨rfl, rfl, rfl, rfl, trivial⟩ (fun w hw => hw.drop) (by omega)
  ·
    refine TC.exit ?_
    refine TX.thenE ?_
    refine TX.thenE ?_
    refine TX.blkHit ?_
    refine TX.seqN ?_
    refine TC.seq ?_
    refine TC.region ?_
    refine TL.run (pr_pure rfl) rfl ?_
    refine TL.bslice rfl rfl rfl rfl (fun b54 => ?_)
    refine TL.append (enc := U8.cells) rfl rfl rfl hO (Src.own [34] (.here _) rfl rfl) (by simp; omega) rfl (.skip _ .all) rfl (fun a55 c55 ob55 hO55 => ?_)
    refine TL.run (pr_bytes rfl hO55 (.skip _ .all)) rfl ?_
    refine TL.run (pr_pure rfl) rfl ?_
    refine TL.nil ?_
    refine TX.seqN ?_
    refine TC.ret ?_
    exact TX.finS (.inr rfl) (results1 rfl (RVal.tmp rfl)) (congrArg gs (qd_end k0 c10 ho))

set_option maxRecDepth 100000 in
set_option maxHeartbeats 1000000 in
theorem x_right_ok {H : Hp} (t : Token) (hmax : t.text.length ≤ 281474976710656) (hG : LibG H) :
    FnS Tryd.prog 34 [.agg t.cells.toArray] H (.bool (rightB t)) := by
  refine FnS.enter Tryd.func34 Tryd.ntmps34 rfl rfl (fun w0 => ?_)
  refine TC.seq ?_
  refine TC.region ?_
  refine TL.box rfl rfl (fun b1 => ?_)
  refine TL.run (pr_pure rfl) rfl ?_
  refine TL.nil ?_
  refine TX.seqN ?_
  refine TC.seq ?_
  refine TC.seq ?_
  refine TC.region ?_
  refine TL.run (pr_field rfl) rfl ?_
  refine TL.run (pr_own1 rfl (.here _) rfl) rfl ?_
  refine TL.nil ?_
  refine TX.seqN ?_
  refine TC.block ?_
  refine TC.seq ?_
  refine TC.region ?_
  refine TL.run (pr_pure rfl) rfl ?_
  refine TL.run (pr_pure rfl) rfl ?_
  refine TL.nil ?_
  refine TX.seqN ?_
  refine TC.condD rfl (fun c5 => ?_) (fun c5 => ?_)
  ·
    refine TC.seq ?_
    refine TC.quiet (by kernel_rfl) (by kernel_rfl) ?_
    refine TQ.run (pr_field rfl) rfl ?_
    refine TQ.run (pr_own1 rfl (.here _) rfl) rfl ?_
    refine TQ.run (pr_str rfl rfl rfl) rfl ?_
    refine TQ.run (pr_pure rfl) rfl ?_
    refine TQ.split (s := 10) rfl (fun g10 => ?_) (fun g10 => ?_)
    ·
      have q10 := of_ndec_true g10
      have hpos := pos_of q10
      obtain ⟨c, hc⟩ := getSome (l := t.text) (i := 0) (by omega) hpos
      refine TQ.gdY rfl rfl (pr_field rfl) rfl ?_
      refine TQ.gdY rfl rfl (pr_own1 rfl (.here _) rfl) rfl ?_
      refine TQ.gdY rfl rfl (pr_strIx rfl rfl (by omega) hc) rfl ?_
      refine TQ.callSY rfl rfl (enters rfl rfl rfl rfl) (x_letter_ok c) rfl ?_
      refine TQ.run (pr_pure rfl) rfl ?_
      refine TQ.run (pr_pure rfl) rfl ?_
      refine TQ.split (s := 16) rfl (fun g16 => ?_) (fun g16 => ?_)
      ·
        refine TQ.gdY rfl rfl (pr_field rfl) rfl ?_
        refine TQ.gdY rfl rfl (pr_own1 rfl (.here _) rfl) rfl ?_
        refine TQ.callSY rfl rfl (enters rfl rfl rfl rfl) (x_run_ok t.text nameC 0 (fun c => x_word2_ok c) (by decide) (by omega) (by omega)) rfl ?_
        refine TQ.gdY rfl rfl (pr_field rfl) rfl ?_
        refine TQ.gdY rfl rfl (pr_own1 rfl (.here _) rfl) rfl ?_
        refine TQ.gdY rfl rfl (pr_lenStr rfl rfl) rfl ?_
        refine TQ.gdY rfl rfl (pr_pure rfl) rfl ?_
        refine TQ.run (pr_pure rfl) rfl ?_
        refine TQ.run (pr_pure rfl) rfl ?_
        refine TQ.nil ?_
        refine TX.seqN ?_
        refine TC.ret ?_
        refine TX.blkR ?_
        refine TX.thenR ?_
        exact TX.finS (.inr rfl) (results1 rfl (RVal.tmp rfl)) (congrArg Value.bool (by first | exact right_w0 c5 q10 | exact right_w1 c5 hc g16 | exact right_w2 c5 hc g16 | exact right_n c25 | exact right_q c30 | exact right_s0 c32 q37 | exact right_s1 c32 q37 | exact right_no c5 c25 c30 c32))
      ·
        refine TQ.gdN rfl rfl rfl rfl ?_
        refine TQ.gdN rfl rfl rfl rfl ?_
        refine TQ.gdN rfl rfl rfl rfl ?_
        refine TQ.gdN rfl rfl rfl rfl ?_
        refine TQ.gdN rfl rfl rfl rfl ?_
        refine TQ.gdN rfl rfl rfl rfl ?_
        refine TQ.gdN rfl rfl rfl rfl ?_
        refine TQ.run (pr_pure rfl) rfl ?_
        refine TQ.run (pr_pure rfl) rfl ?_
        refine TQ.nil ?_
        refine TX.seqN ?_
        refine TC.ret ?_
        refine TX.blkR ?_
        refine TX.thenR ?_
        exact TX.finS (.inr rfl) (results1 rfl (RVal.tmp rfl)) (congrArg Value.bool (by first | exact right_w0 c5 q10 | exact right_w1 c5 hc g16 | exact right_w2 c5 hc g16 | exact right_n c25 | exact right_q c30 | exact right_s0 c32 q37 | exact right_s1 c32 q37 | exact right_no c5 c25 c30 c32))
    ·
      have q10 := of_ndec_false g10
      refine TQ.gdN rfl rfl rfl rfl ?_
      refine TQ.gdN rfl rfl rfl rfl ?_
      refine TQ.gdN rfl rfl rfl rfl ?_
      refine TQ.gdN rfl rfl rfl rfl ?_
      refine TQ.run (pr_pure rfl) rfl ?_
      refine TQ.run (pr_pure rfl) rfl ?_
      refine TQ.gdN rfl rfl rfl rfl ?_
      refine TQ.gdN rfl rfl rfl rfl ?_
      refine TQ.gdN rfl rfl rfl rfl ?_
      refine TQ.gdN rfl rfl rfl rfl ?_
      refine TQ.gdN rfl rfl rfl rfl ?_
      refine TQ.gdN rfl rfl rfl rfl ?_
      refine TQ.gdN rfl rfl rfl rfl ?_
      refine TQ.run (pr_pure rfl) rfl ?_
      refine TQ.run (pr_pure rfl) rfl ?_
      refine TQ.nil ?_
      refine TX.seqN ?_
      refine TC.ret ?_
      refine TX.blkR ?_
      refine TX.thenR ?_
      exact TX.finS (.inr rfl) (results1 rfl (RVal.tmp rfl)) (congrArg Value.bool (by first | exact right_w0 c5 q10 | exact right_w1 c5 hc g16 | exact right_w2 c5 hc g16 | exact right_n c25 | exact right_q c30 | exact right_s0 c32 q37 | exact right_s1 c32 q37 | exact right_no c5 c25 c30 c32))
  ·
    refine TC.seq ?_
    refine TC.region ?_
    refine TL.run (pr_pure rfl) rfl ?_
    refine TL.run (pr_pure rfl) rfl ?_
    refine TL.nil ?_
    refine TX.seqN ?_
    refine TC.condD rfl (fun c25 => ?_) (fun c25 => ?_)
    ·
      refine TC.seq ?_
      refine TC.region ?_
      refine TL.run (pr_field rfl) rfl ?_
      refine TL.run (pr_own1 rfl (.here _) rfl) rfl ?_
      refine TL.callS (enters rfl rfl rfl rfl) (x_number_ok t.text hmax hG) rfl ?_
      refine TL.run (pr_pure rfl) rfl ?_
      refine TL.nil ?_
      refine TX.seqN ?_
      refine TC.ret ?_
      refine TX.blkR ?_
      refine TX.thenR ?_
      exact TX.finS (.inr rfl) (results1 rfl (RVal.tmp rfl)) (congrArg Value.bool (by first | exact right_w0 c5 q10 | exact right_w1 c5 hc g16 | exact right_w2 c5 hc g16 | exact right_n c25 | exact right_q c30 | exact right_s0 c32 q37 | exact right_s1 c32 q37 | exact right_no c5 c25 c30 c32))
    ·
      refine TC.seq ?_
      refine TC.region ?_
      refine TL.run (pr_pure rfl) rfl ?_
      refine TL.run (pr_pure rfl) rfl ?_
      refine TL.nil ?_
      refine TX.seqN ?_
      refine TC.condD rfl (fun c30 => ?_) (fun c30 => ?_)
      ·
        refine TC.seq ?_
        refine TC.region ?_
        refine TL.run (pr_pure rfl) rfl ?_
        refine TL.nil ?_
        refine TX.seqN ?_
        refine TC.ret ?_
        refine TX.blkR ?_
        refine TX.thenR ?_
        exact TX.finS (.inr rfl) (results1 rfl (RVal.tmp rfl)) (congrArg Value.bool (by first | exact right_w0 c5 q10 | exact right_w1 c5 hc g16 | exact right_w2 c5 hc g16 | exact right_n c25 | exact right_q c30 | exact right_s0 c32 q37 | exact right_s1 c32 q37 | exact right_no c5 c25 c30 c32))
      ·
        refine TC.seq ?_
        refine TC.region ?_
        refine TL.run (pr_pure rfl) rfl ?_
        refine TL.run (pr_pure rfl) rfl ?_
        refine TL.nil ?_
        refine TX.seqN ?_
        refine TC.condD rfl (fun c32 => ?_) (fun c32 => ?_)
        ·
          refine TC.seq ?_
          refine TC.quiet (by kernel_rfl) (by kernel_rfl) ?_
          refine TQ.run (pr_field rfl) rfl ?_
          refine TQ.run (pr_own1 rfl (.here _) rfl) rfl ?_
          refine TQ.run (pr_str rfl rfl rfl) rfl ?_
          refine TQ.run (pr_pure rfl) rfl ?_
          refine TQ.split (s := 37) rfl (fun g37 => ?_) (fun g37 => ?_)
          ·
            have q37 := of_ndec_true g37
            have hpos := pos_of q37
            refine TQ.gdY rfl rfl (pr_field rfl) rfl ?_
            refine TQ.gdY rfl rfl (pr_own1 rfl (.here _) rfl) rfl ?_
            refine TQ.callSY rfl rfl (enters rfl rfl rfl rfl) (x_sign_ok t.text 0 (by decide) hpos hmax) rfl ?_
            refine TQ.gdY rfl rfl (pr_field rfl) rfl ?_
            refine TQ.gdY rfl rfl (pr_own1 rfl (.here _) rfl) rfl ?_
            refine TQ.gdY rfl rfl (pr_str rfl rfl rfl) rfl ?_
            refine TQ.run (pr_pure rfl) rfl ?_
            refine TQ.run (pr_pure rfl) rfl ?_
            refine TQ.nil ?_
            refine TX.seqN ?_
            refine TC.ret ?_
            refine TX.blkR ?_
            refine TX.thenR ?_
            exact TX.finS (.inr rfl) (results1 rfl (RVal.tmp rfl)) (congrArg Value.bool (by first | exact right_w0 c5 q10 | exact right_w1 c5 hc g16 | exact right_w2 c5 hc g16 | exact right_n c25 | exact right_q c30 | exact right_s0 c32 q37 | exact right_s1 c32 q37 | exact right_no c5 c25 c30 c32))
          ·
            have q37 := of_ndec_false g37
            refine TQ.gdN rfl rfl rfl rfl ?_
            refine TQ.gdN rfl rfl rfl rfl ?_
            refine TQ.gdN rfl rfl rfl rfl ?_
            refine TQ.gdN rfl rfl rfl rfl ?_
            refine TQ.gdN rfl rfl rfl rfl ?_
            refine TQ.gdN rfl rfl rfl rfl ?_
            refine TQ.run (pr_pure rfl) rfl ?_
            refine TQ.run (pr_pure rfl) rfl ?_
            refine TQ.nil ?_
            refine TX.seqN ?_
            refine TC.ret ?_
            refine TX.blkR ?_
            refine TX.thenR ?_
            exact TX.finS (.inr rfl) (results1 rfl (RVal.tmp rfl)) (congrArg Value.bool (by first | exact right_w0 c5 q10 | exact right_w1 c5 hc g16 | exact right_w2 c5 hc g16 | exact right_n c25 | exact right_q c30 | exact right_s0 c32 q37 | exact right_s1 c32 q37 | exact right_no c5 c25 c30 c32))
        ·
          refine TC.skip ?_
          refine TX.blkN ?_
          refine TX.seqN ?_
          refine TC.seq ?_
          refine TC.region ?_
          refine TL.run (pr_pure rfl) rfl ?_
          refine TL.nil ?_
          refine TX.seqN ?_
          refine TC.ret ?_
          exact TX.finS (.inr rfl) (results1 rfl (RVal.tmp rfl)) (congrArg Value.bool (by first | exact right_w0 c5 q10 | exact right_w1 c5 hc g16 | exact right_w2 c5 hc g16 | exact right_n c25 | exact right_q c30 | exact right_s0 c32 q37 | exact right_s1 c32 q37 | exact right_no c5 c25 c30 c32))

set_option maxRecDepth 100000 in
set_option maxHeartbeats 4000000 in
theorem x_Write_ok {H : Hp} {l : List Token} {v : Value} (hL : RdSl H 3 Token.cells v l) (hs : sumW l ≤ 100000000000000) (hG : LibG H) :
    FnS Tryd.prog 16 [v] H (.tuple #[gs (writeS l).1, .int .i64 (writeS l).2]) := by
  obtain ⟨la, lc, rfl⟩ := hL.len
  have hmx := hL.max
  refine FnS.enter Tryd.func16 Tryd.ntmps16 rfl rfl (fun w0 => ?_)
  refine TC.seq ?_
  refine TC.region ?_
  refine TL.run (pr_pure rfl) rfl ?_
  refine TL.run (pr_pure rfl) rfl ?_
  refine TL.nil ?_
  refine TX.seqN ?_
  refine TC.seq ?_
  refine TC.region ?_
  refine TL.run (pr_pure rfl) rfl ?_
  refine TL.nil ?_
  refine TX.seqN ?_
  refine TC.seq ?_
  refine TC.seq ?_
  refine TC.region ?_
  refine TL.run (pr_pure rfl) rfl ?_
  refine TL.run (pr_lenSl rfl rfl hL) rfl ?_
  refine TL.run (pr_pure rfl) rfl ?_
  refine TL.nil ?_
  refine TX.seqN ?_
  refine TC.block ?_
  refine TC.loop4 (V := fun k v ob H1 => [(4, v), (9, .int .i64 k)]) (K := [(0, _), (2, _), (3, _), (7, _), (8, _)]) (L := fun k v ob H1 => St [] w0 H H ob) (I := fun k v ob H1 => (0 ≤ k ∧ k ≤ l.length) ∧ ∃ o : Str, OwnSl 1 U8.cells v o ob ∧ writeF none l = (writeF (prevT l k) (l.drop k.toNat)).map (fun x => o ++ x) ∧ o.length ≤ sumW (l.take k.toNat)) (μ := fun k => (l.length - k).toNat) 0 (.slice none 0 0) [] H ⟨rfl, rfl, rfl, rfl, rfl, rfl, rfl, trivial⟩ ⟨⟨by omega, by omega⟩, [], OwnSl.nil, (by show writeF none l = (writeF none l).map _; simp), Nat.zero_le _⟩ (fun w hw => hw) (fun k v ob H1 hI => ?_)
  obtain ⟨⟨k0, k1⟩, o, hO, hw, hol⟩ := hI
  obtain ⟨va, vc, rfl⟩ := hO.form
  refine TC.seq ?_
  refine TC.region ?_
  refine TL.run (pr_pure rfl) rfl ?_
  refine TL.nil ?_
  refine TX.seqN ?_
  refine TC.seq ?_
  refine TC.condD rfl (fun c10 => ?_) (fun c10 => ?_)
  ·
    obtain ⟨t, hx⟩ := getSome (l := l) k0 c10
    have hsw := sumW_at k0 hx
    refine TC.skip ?_
    refine TX.seqN ?_
    refine TC.seq ?_
    refine TC.block ?_
    refine TC.seq ?_
    refine TC.region ?_
    refine TL.run (pr_pure rfl) rfl ?_
    refine TL.run (pr_indexSl rfl hL rfl (by omega) (by omega)) rfl ?_
    refine TL.run (pr_elA hL hx rfl rfl) rfl ?_
    refine TL.alloc rfl (fun b6 => ?_)
    refine TL.run (pr_pure rfl) rfl ?_
    refine TL.storeA rfl rfl rfl rfl rfl (.here _) rfl rfl ?_
    refine TL.nil ?_
    refine TX.seqN ?_
    refine TC.seq ?_
    refine TC.sw (badW (prevT l k) t) 39 [(0, _), (2, _), (3, _), (4, _), (5, _), (6, _), (7, _), (8, _), (9, _), (10, _), (11, _), (12, _), (13, _)] ⟨rfl, rfl, rfl, rfl, rfl, rfl, rfl, rfl, rfl, rfl, rfl, rfl, rfl, trivial⟩ ?_ ?_
    ·
      refine TC.region ?_
      refine TL.run (pr_ownA rfl (.here _) rfl) rfl ?_
      refine TL.callS (enters rfl rfl rfl rfl) (x_right_ok t (by omega) hG) rfl ?_
      refine TL.run (pr_pure rfl) rfl ?_
      refine TL.run (pr_pure rfl) rfl ?_
      refine TL.split (s := 17) rfl (fun g17 => ?_) (fun g17 => ?_)
      ·
        refine TL.gdN rfl rfl rfl rfl ?_
        refine TL.gdN rfl rfl rfl rfl ?_
        refine TL.gdN rfl rfl rfl rfl ?_
        refine TL.gdN rfl rfl rfl rfl ?_
        refine TL.gdU rfl rfl rfl ?_
        refine TL.gdU rfl rfl rfl ?_
        refine TL.gdU rfl rfl rfl ?_
        refine TL.gdU rfl rfl rfl ?_
        refine TL.gdN rfl rfl rfl rfl ?_
        refine TL.gdN rfl rfl rfl rfl ?_
        refine TL.gdU rfl rfl rfl ?_
        refine TL.gdU rfl rfl rfl ?_
        refine TL.gdN rfl rfl rfl rfl ?_
        refine TL.gdN rfl rfl rfl rfl ?_
        refine TL.gdU rfl rfl rfl ?_
        refine TL.gdU rfl rfl rfl ?_
        refine TL.gdU rfl rfl rfl ?_
        refine TL.gdU rfl rfl rfl ?_
        refine TL.gdU rfl rfl rfl ?_
        refine TL.gdU rfl rfl rfl ?_
        refine TL.gdN rfl rfl rfl rfl ?_
        refine TL.run (pr_pure rfl) rfl ?_
        refine TL.nil ?_
        exact TX.sw rfl (by first | exact bw_1 g17 | exact bw_2 g17 q21 | exact bw_3 g17 hc g27 | exact bw_4 g17 q31 | exact bw_5 g17 q21 hc g27 hp q31) ⟨rfl, rfl, rfl, rfl, rfl, rfl, rfl, rfl, rfl, rfl, rfl, rfl, rfl, trivial⟩
      ·
        refine TL.gdY rfl rfl (pr_field rfl) rfl ?_
        refine TL.gdY rfl rfl (pr_own1 rfl (.here _) rfl) rfl ?_
        refine TL.gdY rfl rfl (pr_pure rfl) rfl ?_
        refine TL.gdY rfl rfl (pr_pure rfl) rfl ?_
        refine TL.split (s := 21) rfl (fun g21 => ?_) (fun g21 => ?_)
        ·
          have q21 := of_decide_eq_true g21
          obtain ⟨c, hc⟩ := right_head g17 q21
          refine TL.gdY rfl rfl (pr_field rfl) rfl ?_
          refine TL.gdY rfl rfl (pr_own1 rfl (.here _) rfl) rfl ?_
          refine TL.gdY rfl rfl (pr_strIx rfl rfl (by omega) hc) rfl ?_
          refine TL.gdY rfl rfl (pr_pure rfl) rfl ?_
          refine TL.gdY rfl rfl (pr_pure rfl) rfl ?_
          refine TL.gdY rfl rfl (pr_pure rfl) rfl ?_
          refine TL.split (s := 27) rfl (fun g27 => ?_) (fun g27 => ?_)
          ·
            have q27 := of_decide_eq_true g27
            refine TL.gdY rfl rfl (pr_pure rfl) rfl ?_
            refine TL.gdY rfl rfl (pr_pure rfl) rfl ?_
            refine TL.gdY rfl rfl (pr_pure rfl) rfl ?_
            refine TL.gdY rfl rfl (pr_pure rfl) rfl ?_
            refine TL.split (s := 31) rfl (fun g31 => ?_) (fun g31 => ?_)
            ·
              have q31 := of_decide_eq_true g31
              refine TL.gdY rfl rfl (pr_pure rfl) rfl ?_
              refine TL.gdY rfl rfl (pr_pure rfl) rfl ?_
              refine TL.gdY rfl rfl ((by first | exact pr_sub rfl rfl (by omega) (by omega) | exact pr_pure rfl)) rfl ?_
              obtain ⟨tp, hp⟩ := getSome (l := l) (i := k - 1) (by simp_all; omega) (by omega)
              refine TL.gdY rfl rfl (pr_indexSl rfl hL rfl (by omega) (by omega)) rfl ?_
              refine TL.gdY rfl rfl (pr_elA hL hp rfl rfl) rfl ?_
              refine TL.callSY rfl rfl (enters rfl rfl rfl rfl) (x_closed_ok tp) rfl ?_
              refine TL.gdY rfl rfl (pr_pure rfl) rfl ?_
              refine TL.run (pr_pure rfl) rfl ?_
              refine TL.nil ?_
              exact TX.sw rfl (by first | exact bw_1 g17 | exact bw_2 g17 q21 | exact bw_3 g17 hc g27 | exact bw_4 g17 q31 | exact bw_5 g17 q21 hc g27 hp q31) ⟨rfl, rfl, rfl, rfl, rfl, rfl, rfl, rfl, rfl, rfl, rfl, rfl, rfl, trivial⟩
            ·
              have q31 := of_decide_eq_false g31
              refine TL.gdN rfl rfl rfl rfl ?_
              refine TL.gdN rfl rfl rfl rfl ?_
              refine TL.gdN rfl rfl rfl rfl ?_
              refine TL.gdN rfl rfl rfl rfl ?_
              refine TL.gdN rfl rfl rfl rfl ?_
              refine TL.gdN rfl rfl rfl rfl ?_
              refine TL.gdY rfl rfl (pr_pure rfl) rfl ?_
              refine TL.run (pr_pure rfl) rfl ?_
              refine TL.nil ?_
              exact TX.sw rfl (by first | exact bw_1 g17 | exact bw_2 g17 q21 | exact bw_3 g17 hc g27 | exact bw_4 g17 q31 | exact bw_5 g17 q21 hc g27 hp q31) ⟨rfl, rfl, rfl, rfl, rfl, rfl, rfl, rfl, rfl, rfl, rfl, rfl, rfl, trivial⟩
          ·
            have q27 := of_decide_eq_false g27
            refine TL.gdN rfl rfl rfl rfl ?_
            refine TL.gdN rfl rfl rfl rfl ?_
            refine TL.gdY rfl rfl (pr_pure rfl) rfl ?_
            refine TL.gdY rfl rfl (pr_pure rfl) rfl ?_
            refine TL.gdN rfl rfl rfl rfl ?_
            refine TL.gdN rfl rfl rfl rfl ?_
            refine TL.gdN rfl rfl rfl rfl ?_
            refine TL.gdN rfl rfl rfl rfl ?_
            refine TL.gdN rfl rfl rfl rfl ?_
            refine TL.gdN rfl rfl rfl rfl ?_
            refine TL.gdY rfl rfl (pr_pure rfl) rfl ?_
            refine TL.run (pr_pure rfl) rfl ?_
            refine TL.nil ?_
            exact TX.sw rfl (by first | exact bw_1 g17 | exact bw_2 g17 q21 | exact bw_3 g17 hc g27 | exact bw_4 g17 q31 | exact bw_5 g17 q21 hc g27 hp q31) ⟨rfl, rfl, rfl, rfl, rfl, rfl, rfl, rfl, rfl, rfl, rfl, rfl, rfl, trivial⟩
        ·
          have q21 := of_decide_eq_false g21
          refine TL.gdN rfl rfl rfl rfl ?_
          refine TL.gdN rfl rfl rfl rfl ?_
          refine TL.gdN rfl rfl rfl rfl ?_
          refine TL.gdN rfl rfl rfl rfl ?_
          refine TL.gdY rfl rfl (pr_pure rfl) rfl ?_
          refine TL.gdY rfl rfl (pr_pure rfl) rfl ?_
          refine TL.gdN rfl rfl rfl rfl ?_
          refine TL.gdN rfl rfl rfl rfl ?_
          refine TL.gdY rfl rfl (pr_pure rfl) rfl ?_
          refine TL.gdY rfl rfl (pr_pure rfl) rfl ?_
          refine TL.gdN rfl rfl rfl rfl ?_
          refine TL.gdN rfl rfl rfl rfl ?_
          refine TL.gdN rfl rfl rfl rfl ?_
          refine TL.gdN rfl rfl rfl rfl ?_
          refine TL.gdN rfl rfl rfl rfl ?_
          refine TL.gdN rfl rfl rfl rfl ?_
          refine TL.gdY rfl rfl (pr_pure rfl) rfl ?_
          refine TL.run (pr_pure rfl) rfl ?_
          refine TL.nil ?_
          exact TX.sw rfl (by first | exact bw_1 g17 | exact bw_2 g17 q21 | exact bw_3 g17 hc g27 | exact bw_4 g17 q31 | exact bw_5 g17 q21 hc g27 hp q31) ⟨rfl, rfl, rfl, rfl, rfl, rfl, rfl, rfl, rfl, rfl, rfl, rfl, rfl, trivial⟩
    refine TC.cond rfl (fun c39 => ?_) (fun c39 => ?_)
    ·
      refine TC.seq ?_
      refine TC.region ?_
      refine TL.run (pr_pure rfl) rfl ?_
      refine TL.run (pr_pure rfl) rfl ?_
      refine TL.nil ?_
      refine TX.seqN ?_
      refine TC.ret ?_
      refine TX.thenR ?_
      refine TX.blkR ?_
      refine TX.thenR ?_
      refine TX.thenR ?_
      refine TX.blkR ?_
      refine TX.thenR ?_
      exact TX.finS (.inr rfl) (results2 rfl (RVal.tmp rfl) (RVal.tmp rfl)) (by rw [wr_bad k0 hx c39 hw]; rfl)
    ·
      have hbad := c39
      refine TC.skip ?_
      refine TX.seqN ?_
      refine TC.seq ?_
      refine TC.seq ?_
      refine TC.region ?_
      refine TL.run (pr_pure rfl) rfl ?_
      refine TL.run (pr_pure rfl) rfl ?_
      refine TL.nil ?_
      refine TX.seqN ?_
      refine TC.condD rfl (fun c41 => ?_) (fun c41 => ?_)
      ·
        refine TC.region ?_
        refine TL.run (pr_pure rfl) rfl ?_
        refine TL.bslice rfl rfl rfl rfl (fun b43 => ?_)
        refine TL.append (enc := U8.cells) rfl rfl rfl hO (Src.own [32] (.here _) rfl rfl) (by simp; omega) rfl (.skip _ (.skip _ .all)) rfl (fun a44 c44 ob44 hO44 => ?_)
        refine TL.run (pr_pure rfl) rfl ?_
        refine TL.nil ?_
        refine TX.seqN ?_
        refine TC.seq ?_
        refine TC.region ?_
        refine TL.run (pr_field rfl) rfl ?_
        refine TL.run (pr_own1 rfl (.there _ (.here _)) rfl) rfl ?_
        refine TL.run (pr_pure rfl) rfl ?_
        refine TL.nil ?_
        refine TX.seqN ?_
        refine TC.condD rfl (fun c47 => ?_) (fun c47 => ?_)
        ·
          refine TC.region ?_
          refine TL.run (pr_pure rfl) rfl ?_
          refine TL.run (pr_field rfl) rfl ?_
          refine TL.run (pr_own1 rfl (.there _ (.here _)) rfl) rfl ?_
          refine TL.callS (enters rfl rfl rfl rfl) (x_Quoted_ok t.text (by omega)) rfl ?_
          refine TL.appendS rfl rfl rfl hO44 (by have := (quotedL_len t.text).2; simp; omega) rfl (.skip _ (.skip _ .all)) rfl (fun a52 c52 ob52 hO52 => ?_)
          refine TL.run (pr_pure rfl) rfl ?_
          refine TL.nil ?_
          refine TX.blkN ?_
          refine TX.seqN ?_
          refine TC.region ?_
          refine TL.run ((by first | exact pr_add rfl rfl (by omega) (by omega) | exact pr_pure rfl)) rfl ?_
          refine TL.run (pr_pure rfl) rfl ?_
          refine TL.nil ?_
          exact TX.round4 (k + 1) _ ob52 H1 ⟨⟨by omega, by omega⟩, _, hO52, wr_next_pq k0 hx hbad c41 c47 hw, by have hq2 := (quotedL_len t.text).2; simp only [List.length_append, List.length_cons, List.length_nil]; omega⟩ ⟨rfl, rfl, rfl, rfl, rfl, rfl, rfl, trivial⟩ (fun w hw => hw.drop.drop) (by omega)
        ·
          refine TC.region ?_
          refine TL.run (pr_pure rfl) rfl ?_
          refine TL.run (pr_field rfl) rfl ?_
          refine TL.run (pr_own1 rfl (.there _ (.here _)) rfl) rfl ?_
          refine TL.appendS rfl rfl rfl hO44 (by simp; omega) rfl (.skip _ (.skip _ .all)) rfl (fun a56 c56 ob56 hO56 => ?_)
          refine TL.run (pr_pure rfl) rfl ?_
          refine TL.nil ?_
          refine TX.blkN ?_
          refine TX.seqN ?_
          refine TC.region ?_
          refine TL.run ((by first | exact pr_add rfl rfl (by omega) (by omega) | exact pr_pure rfl)) rfl ?_
          refine TL.run (pr_pure rfl) rfl ?_
          refine TL.nil ?_
          exact TX.round4 (k + 1) _ ob56 H1 ⟨⟨by omega, by omega⟩, _, hO56, wr_next_pt k0 hx hbad c41 c47 hw, by have hq2 := (quotedL_len t.text).2; simp only [List.length_append, List.length_cons, List.length_nil]; omega⟩ ⟨rfl, rfl, rfl, rfl, rfl, rfl, rfl, trivial⟩ (fun w hw => hw.drop.drop) (by omega)
      ·
        refine TC.skip ?_
        refine TX.seqN ?_
        refine TC.seq ?_
        refine TC.region ?_
        refine TL.run (pr_field rfl) rfl ?_
        refine TL.run (pr_own1 rfl (.here _) rfl) rfl ?_
        refine TL.run (pr_pure rfl) rfl ?_
        refine TL.nil ?_
        refine TX.seqN ?_
        refine TC.condD rfl (fun c47 => ?_) (fun c47 => ?_)
        ·
          refine TC.region ?_
          refine TL.run (pr_pure rfl) rfl ?_
          refine TL.run (pr_field rfl) rfl ?_
          refine TL.run (pr_own1 rfl (.here _) rfl) rfl ?_
          refine TL.callS (enters rfl rfl rfl rfl) (x_Quoted_ok t.text (by omega)) rfl ?_
          refine TL.appendS rfl rfl rfl hO (by have := (quotedL_len t.text).2; simp; omega) rfl (.skip _ .all) rfl (fun a52 c52 ob52 hO52 => ?_)
          refine TL.run (pr_pure rfl) rfl ?_
          refine TL.nil ?_
          refine TX.blkN ?_
          refine TX.seqN ?_
          refine TC.region ?_
          refine TL.run ((by first | exact pr_add rfl rfl (by omega) (by omega) | exact pr_pure rfl)) rfl ?_
          refine TL.run (pr_pure rfl) rfl ?_
          refine TL.nil ?_
          exact TX.round4 (k + 1) _ ob52 H1 ⟨⟨by omega, by omega⟩, _, hO52, wr_next_zq k0 hx hbad c41 c47 hw, by have hq2 := (quotedL_len t.text).2; simp only [List.length_append, List.length_cons, List.length_nil]; omega⟩ ⟨rfl, rfl, rfl, rfl, rfl, rfl, rfl, trivial⟩ (fun w hw => hw.drop) (by omega)
        ·
          refine TC.region ?_
          refine TL.run (pr_pure rfl) rfl ?_
          refine TL.run (pr_field rfl) rfl ?_
          refine TL.run (pr_own1 rfl (.here _) rfl) rfl ?_
          refine TL.appendS rfl rfl rfl hO (by simp; omega) rfl (.skip _ .all) rfl (fun a56 c56 ob56 hO56 => ?_)
          refine TL.run (pr_pure rfl) rfl ?_
          refine TL.nil ?_
          refine TX.blkN ?_
          refine TX.seqN ?_
          refine TC.region ?_
          refine TL.run ((by first | exact pr_add rfl rfl (by omega) (by omega) | exact pr_pure rfl)) rfl ?_
          refine TL.run (pr_pure rfl) rfl ?_
          refine TL.nil ?_
          exact TX.round4 (k + 1) _ ob56 H1 ⟨⟨by omega, by omega⟩, _, hO56, wr_next_zt k0 hx hbad c41 c47 hw, by have hq2 := (quotedL_len t.text).2; simp only [List.length_append, List.length_cons, List.length_nil]; omega⟩ ⟨rfl, rfl, rfl, rfl, rfl, rfl, rfl, trivial⟩ (fun w hw => hw.drop) (by omega)
  ·
    refine TC.exit ?_
    refine TX.thenE ?_
    refine TX.thenE ?_
    refine TX.blkHit ?_
    refine TX.seqN ?_
    refine TC.seq ?_
    refine TC.region ?_
    refine TL.run (pr_pure rfl) rfl ?_
    refine TL.run (pr_bytes rfl hO .all) rfl ?_
    refine TL.run (pr_pure rfl) rfl ?_
    refine TL.run (pr_pure rfl) rfl ?_
    refine TL.nil ?_
    refine TX.seqN ?_
    refine TC.ret ?_
    exact TX.finS (.inr rfl) (results2 rfl (RVal.tmp rfl) (RVal.tmp rfl)) (by rw [wr_end c10 k0 hw])
end Go.Sx
