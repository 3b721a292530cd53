import Derived.Test.YtmlgpjficicagaaDoorWLex
import Derived.Test.YtmlgpjficicagaaDoorPureLw
set_option linter.unusedVariables false
set_option linter.unusedSimpArgs false
namespace Go.Sx
open Go Go.Proofs
set_option maxRecDepth 100000 in
set_option maxHeartbeats 2000000 in
theorem x_Quoted_ok {H : Hp} (s : Str) (hmax : s.length ≤ 30000000000000) :
    FnS Tryd.prog 11 [gs s] H (gs (quotedL s)) := by
  refine FnS.enter Tryd.func11 Tryd.ntmps11 rfl rfl (fun w0 => ?_)
  refine TC.seq ?_
  refine TC.region ?_
  refine TL.run (pr_pure rfl) rfl ?_
  refine TL.nil ?_
  refine TX.seqN ?_
  refine TC.seq ?_
  refine TC.region ?_
  refine TL.bslice rfl rfl rfl rfl (fun b6 => ?_)
  refine TL.run (pr_pure rfl) rfl ?_
  refine TL.nil ?_
  refine TX.seqN ?_
  refine TC.seq ?_
  refine TC.seq ?_
  refine TC.region ?_
  refine TL.run (pr_pure rfl) rfl ?_
  refine TL.nil ?_
  refine TX.seqN ?_
  refine TC.block ?_
  refine TC.loop4 (V := fun k v ob H1 => [(3, v), (4, .int .i64 k)]) (K := [(0, _), (2, _)]) (L := fun k v ob H1 => St [] w0 H H ob) (I := fun k v ob H1 => (0 ≤ k ∧ k ≤ s.length) ∧ ∃ o : Str, OwnSl 1 U8.cells v o ob ∧ o = 34 :: (s.take k.toNat).flatMap quotedC ∧ (o.length : Int) ≤ 4 * k + 1) (μ := fun k => (s.length - k).toNat) 0 (.slice (some ⟨b6, 0, none⟩) 1 1) [(b6, [.int .u8 34])] H ⟨rfl, rfl, rfl, rfl, trivial⟩ ⟨⟨by omega, by omega⟩, [34], OwnSl.blk [34] rfl rfl (by decide), rfl, by simp⟩ (fun w hw => hw) (fun k v ob H1 hI => ?_)
  obtain ⟨⟨k0, k1⟩, o, hO, ho, hol⟩ := hI
  obtain ⟨va, vc, rfl⟩ := hO.form
  refine TC.seq ?_
  refine TC.seq ?_
  refine TC.region ?_
  refine TL.run (pr_pure rfl) rfl ?_
  refine TL.run (pr_pure rfl) rfl ?_
  refine TL.run (pr_lenStr rfl rfl) rfl ?_
  refine TL.run (pr_pure rfl) rfl ?_
  refine TL.nil ?_
  refine TX.seqN ?_
  refine TC.condD rfl (fun c10 => ?_) (fun c10 => ?_)
  ·
    obtain ⟨c, hc⟩ := getSome (l := s) k0 c10
    refine TC.skip ?_
    refine TX.seqN ?_
    refine TC.seq ?_
    refine TC.block ?_
    refine TC.seq ?_
    refine TC.region ?_
    refine TL.run (pr_pure rfl) rfl ?_
    refine TL.run (pr_pure rfl) rfl ?_
    refine TL.run (pr_strIx rfl rfl (by omega) hc) rfl ?_
    refine TL.run (pr_pure rfl) rfl ?_
    refine TL.nil ?_
    refine TX.seqN ?_
    refine TC.block ?_
    refine TC.sw (decide (c = 34 ∨ c = 92)) 20 [(0, _), (2, _), (3, _), (4, _), (5, _), (7, _), (8, _), (9, _), (10, _), (13, _), (14, _), (15, _)] ⟨rfl, rfl, rfl, rfl, rfl, rfl, rfl, rfl, rfl, rfl, rfl, rfl, trivial⟩ ?_ ?_
    ·
      refine TC.region ?_
      refine TL.run (pr_pure rfl) rfl ?_
      refine TL.run (pr_pure rfl) rfl ?_
      refine TL.run (pr_pure rfl) rfl ?_
      refine TL.split (s := 23) rfl (fun g23 => ?_) (fun g23 => ?_)
      ·
        have q23 := of_decide_eq_true g23
        refine TL.gdN rfl rfl rfl rfl ?_
        refine TL.gdN rfl rfl rfl rfl ?_
        refine TL.run (pr_pure rfl) rfl ?_
        refine TL.run (pr_pure rfl) rfl ?_
        refine TL.nil ?_
        exact TX.sw rfl (by first | exact esc_1 g23 | exact esc_2 g23) ⟨rfl, rfl, rfl, rfl, rfl, rfl, rfl, rfl, rfl, rfl, rfl, rfl, trivial⟩
      ·
        have q23 := of_decide_eq_false g23
        refine TL.gdY rfl rfl (pr_pure rfl) rfl ?_
        refine TL.gdY rfl rfl (pr_pure rfl) rfl ?_
        refine TL.run (pr_pure rfl) rfl ?_
        refine TL.run (pr_pure rfl) rfl ?_
        refine TL.nil ?_
        exact TX.sw rfl (by first | exact esc_1 g23 | exact esc_2 g23) ⟨rfl, rfl, rfl, rfl, rfl, rfl, rfl, rfl, rfl, rfl, rfl, rfl, trivial⟩
    refine TC.cond rfl (fun c20 => ?_) (fun c20 => ?_)
    ·
      refine TC.region ?_
      refine TL.run (pr_pure rfl) rfl ?_
      refine TL.run (pr_pure rfl) rfl ?_
      refine TL.bslice rfl rfl rfl rfl (fun b29 => ?_)
      refine TL.append (enc := U8.cells) rfl rfl rfl hO (Src.own [92, c] (.here _) rfl rfl) (by simp; omega) rfl (.skip _ .all) rfl (fun a30 c30 ob30 hO30 => ?_)
      refine TL.run (pr_pure rfl) rfl ?_
      refine TL.nil ?_
      refine TX.blkN ?_
      refine TX.blkN ?_
      refine TX.seqN ?_
      refine TC.region ?_
      refine TL.run (pr_pure rfl) rfl ?_
      refine TL.run ((by first | exact pr_add rfl rfl (by omega) (by omega) | exact pr_pure rfl)) rfl ?_
      refine TL.run (pr_pure rfl) rfl ?_
      refine TL.nil ?_
      exact TX.round4 (k + 1) _ ob30 H1 ⟨⟨by omega, by omega⟩, _, hO30, qd_next k0 hc (qc_esc c20) ho, by simp; omega⟩ ⟨rfl, rfl, rfl, rfl, trivial⟩ (fun w hw => hw.drop) (by omega)
    ·
      refine TC.seq ?_
      refine TC.region ?_
      refine TL.run (pr_pure rfl) rfl ?_
      refine TL.run (pr_pure rfl) rfl ?_
      refine TL.run (pr_pure rfl) rfl ?_
      refine TL.nil ?_
      refine TX.seqN ?_
      refine TC.condD rfl (fun c31 => ?_) (fun c31 => ?_)
      ·
        refine TC.region ?_
        refine TL.run (pr_pure rfl) rfl ?_
        refine TL.bslice rfl rfl rfl rfl (fun b35 => ?_)
        refine TL.append (enc := U8.cells) rfl rfl rfl hO (Src.own [92, 110] (.here _) rfl rfl) (by simp; omega) rfl (.skip _ .all) rfl (fun a36 c36 ob36 hO36 => ?_)
        refine TL.run (pr_pure rfl) rfl ?_
        refine TL.nil ?_
        refine TX.blkN ?_
        refine TX.blkN ?_
        refine TX.seqN ?_
        refine TC.region ?_
        refine TL.run (pr_pure rfl) rfl ?_
        refine TL.run ((by first | exact pr_add rfl rfl (by omega) (by omega) | exact pr_pure rfl)) rfl ?_
        refine TL.run (pr_pure rfl) rfl ?_
        refine TL.nil ?_
        exact TX.round4 (k + 1) _ ob36 H1 ⟨⟨by omega, by omega⟩, _, hO36, qd_next k0 hc (qc_n c20 c31) ho, by simp; omega⟩ ⟨rfl, rfl, rfl, rfl, trivial⟩ (fun w hw => hw.drop) (by omega)
      ·
        refine TC.sw (!plainB c) 37 [(0, _), (2, _), (3, _), (4, _), (5, _), (7, _), (8, _), (9, _), (10, _), (13, _), (14, _), (15, _), (20, _), (31, _), (32, _), (33, _)] ⟨rfl, rfl, rfl, rfl, rfl, rfl, rfl, rfl, rfl, rfl, rfl, rfl, rfl, rfl, rfl, rfl, trivial⟩ ?_ ?_
        ·
          refine TC.region ?_
          refine TL.run (pr_pure rfl) rfl ?_
          refine TL.run (pr_pure rfl) rfl ?_
          refine TL.run (pr_pure rfl) rfl ?_
          refine TL.split (s := 40) rfl (fun g40 => ?_) (fun g40 => ?_)
          ·
            have q40 := of_decide_eq_true g40
            refine TL.gdN rfl rfl rfl rfl ?_
            refine TL.gdN rfl rfl rfl rfl ?_
            refine TL.run (pr_pure rfl) rfl ?_
            refine TL.run (pr_pure rfl) rfl ?_
            refine TL.nil ?_
            exact TX.sw rfl (by first | exact plain_1 g40 | exact plain_2 g40) ⟨rfl, rfl, rfl, rfl, rfl, rfl, rfl, rfl, rfl, rfl, rfl, rfl, rfl, rfl, rfl, rfl, trivial⟩
          ·
            have q40 := of_decide_eq_false g40
            refine TL.gdY rfl rfl (pr_pure rfl) rfl ?_
            refine TL.gdY rfl rfl (pr_pure rfl) rfl ?_
            refine TL.run (pr_pure rfl) rfl ?_
            refine TL.run (pr_pure rfl) rfl ?_
            refine TL.nil ?_
            exact TX.sw rfl (by first | exact plain_1 g40 | exact plain_2 g40) ⟨rfl, rfl, rfl, rfl, rfl, rfl, rfl, rfl, rfl, rfl, rfl, rfl, rfl, rfl, rfl, rfl, trivial⟩
        refine TC.cond rfl (fun c37 => ?_) (fun c37 => ?_)
        ·
          refine TC.drawn (by kernel_rfl) (by kernel_rfl) ?_
          refine TD.leaf [(0, 1), (1, 1), (2, 1), (3, 1), (4, 1), (5, 1), (6, 1), (7, 3), (8, 0), (9, 1)] (by kernel_rfl) (by kernel_rfl) ?_
          refine TF.pure (pr_pure rfl) rfl ?_
          refine TF.pure (pr_pure rfl) rfl ?_
          refine TF.pure (PR.to (pr_shr rfl rfl (by decide) (by decide)) (congrArg (Value.int .u8) (u8_shr4 _))) rfl ?_
          refine TF.pure (pr_strIx rfl rfl (by omega) (hexd_hi c)) rfl ?_
          refine TF.pure (pr_pure rfl) rfl ?_
          refine TF.pure (PR.to (pr_and rfl rfl) (congrArg (Value.int .u8) (u8_and15 _))) rfl ?_
          refine TF.pure (pr_strIx rfl rfl (by omega) (hexd_lo c)) rfl ?_
          refine TF.bslice rfl rfl rfl rfl (fun b51 => ?_)
          refine TF.loud ?_
          refine TL.append (enc := U8.cells) rfl rfl rfl hO (Src.own [92, 120, quotedC.hexC (c / 16), quotedC.hexC (c % 16)] (.here _) rfl rfl) (by simp; omega) rfl (.skip _ .all) rfl (fun a52 c52 ob52 hO52 => ?_)
          refine TF.back ?_
          refine TF.pure (pr_pure rfl) rfl ?_
          refine TF.nil ?_
          refine TX.blkN ?_
          refine TX.blkN ?_
          refine TX.seqN ?_
          refine TC.region ?_
          refine TL.run (pr_pure rfl) rfl ?_
          refine TL.run ((by first | exact pr_add rfl rfl (by omega) (by omega) | exact pr_pure rfl)) rfl ?_
          refine TL.run (pr_pure rfl) rfl ?_
          refine TL.nil ?_
          exact TX.round4 (k + 1) _ ob52 H1 ⟨⟨by omega, by omega⟩, _, hO52, qd_next k0 hc (qc_x c20 c31 c37) ho, by simp; omega⟩ ⟨rfl, rfl, rfl, rfl, trivial⟩ (fun w hw => hw.drop) (by omega)
        ·
          refine TC.region ?_
          refine TL.run (pr_pure rfl) rfl ?_
          refine TL.run (pr_pure rfl) rfl ?_
          refine TL.bslice rfl rfl rfl rfl (fun b18 => ?_)
          refine TL.append (enc := U8.cells) rfl rfl rfl hO (Src.own [c] (.here _) rfl rfl) (by simp; omega) rfl (.skip _ .all) rfl (fun a19 c19 ob19 hO19 => ?_)
          refine TL.run (pr_pure rfl) rfl ?_
          refine TL.nil ?_
          refine TX.blkN ?_
          refine TX.blkN ?_
          refine TX.seqN ?_
          refine TC.region ?_
          refine TL.run (pr_pure rfl) rfl ?_
          refine TL.run ((by first | exact pr_add rfl rfl (by omega) (by omega) | exact pr_pure rfl)) rfl ?_
          refine TL.run (pr_pure rfl) rfl ?_
          refine TL.nil ?_
          exact TX.round4 (k + 1) _ ob19 H1 ⟨⟨by omega, by omega⟩, _, hO19, qd_next k0 hc (qc_p c20 c31 c37) ho, by simp; omega⟩ ⟨rfl, rfl, rfl, rfl, trivial⟩ (fun w hw => hw.drop) (by omega)
  ·
    refine TC.exit ?_
    refine TX.thenE ?_
    refine TX.thenE ?_
    refine TX.blkHit ?_
    refine TX.seqN ?_
    refine TC.seq ?_
    refine TC.region ?_
    refine TL.run (pr_pure rfl) rfl ?_
    refine TL.bslice rfl rfl rfl rfl (fun b54 => ?_)
    refine TL.append (enc := U8.cells) rfl rfl rfl hO (Src.own [34] (.here _) rfl rfl) (by simp; omega) rfl (.skip _ .all) rfl (fun a55 c55 ob55 hO55 => ?_)
    refine TL.run (pr_bytes rfl hO55 (.skip _ .all)) rfl ?_
    refine TL.run (pr_pure rfl) rfl ?_
    refine TL.nil ?_
    refine TX.seqN ?_
    refine TC.ret ?_
    exact TX.finS (.inr rfl) (results1 rfl (RVal.tmp rfl)) (congrArg gs (qd_end k0 c10 ho))
end Go.Sx
