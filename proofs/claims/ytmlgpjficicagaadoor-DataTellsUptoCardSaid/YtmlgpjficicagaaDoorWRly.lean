import Derived.Test.YtmlgpjficicagaaDoorWRlx
set_option linter.unusedVariables false
set_option linter.unusedSimpArgs false
namespace Go.Sx
open Go Go.Proofs
set_option maxRecDepth 100000 in
set_option maxHeartbeats 2000000 in
theorem r_Quoted_ok {H : Hp} (s : Str) (hmax : s.length ≤ 30000000000000) :
    FnS Tryd.prog 40 [gs s] H (gs (quotedL s)) := by
  refine FnS.enter Tryd.func40 Tryd.ntmps40 rfl rfl (fun w0 => ?_)
  refine TC.seq ?_
  refine TC.region ?_
  refine TL.run (pr_pure rfl) rfl ?_
  refine TL.nil ?_
  refine TX.seqN ?_
  refine TC.seq ?_
  refine TC.region ?_
  refine TL.bslice rfl rfl rfl rfl (fun b7 => ?_)
  refine TL.run (pr_pure rfl) rfl ?_
  refine TL.nil ?_
  refine TX.seqN ?_
  refine TC.seq ?_
  refine TC.region ?_
  refine TL.run (pr_pure rfl) rfl ?_
  refine TL.nil ?_
  refine TX.seqN ?_
  refine TC.seq ?_
  refine TC.seq ?_
  refine TC.region ?_
  refine TL.run (pr_pure rfl) rfl ?_
  refine TL.nil ?_
  refine TX.seqN ?_
  refine TC.block ?_
  refine TC.loop4 (V := fun k v ob H1 => [(3, v), (5, .int .i64 k)]) (K := [(0, _), (2, _), (4, _)]) (L := fun k v ob H1 => St [] w0 H H ob) (I := fun k v ob H1 => (0 ≤ k ∧ k ≤ s.length) ∧ ∃ o : Str, OwnSl 1 U8.cells v o ob ∧ o = 34 :: (s.take k.toNat).flatMap quotedC ∧ (o.length : Int) ≤ 4 * k + 1) (μ := fun k => (s.length - k).toNat) 0 (.slice (some ⟨b7, 0, none⟩) 1 1) [(b7, [.int .u8 34])] H ⟨rfl, rfl, rfl, rfl, rfl, trivial⟩ ⟨⟨by omega, by omega⟩, [34], OwnSl.blk [34] rfl rfl (by decide), rfl, by simp⟩ (fun w hw => hw) (fun k v ob H1 hI => ?_)
  obtain ⟨⟨k0, k1⟩, o, hO, ho, hol⟩ := hI
  obtain ⟨va, vc, rfl⟩ := hO.form
  refine TC.seq ?_
  refine TC.seq ?_
  refine TC.region ?_
  refine TL.run (pr_pure rfl) rfl ?_
  refine TL.run (pr_pure rfl) rfl ?_
  refine TL.run (pr_lenStr rfl rfl) rfl ?_
  refine TL.run (pr_pure rfl) rfl ?_
  refine TL.nil ?_
  refine TX.seqN ?_
  refine TC.condD rfl (fun c11 => ?_) (fun c11 => ?_)
  ·
    obtain ⟨c, hc⟩ := getSome (l := s) k0 c11
    refine TC.skip ?_
    refine TX.seqN ?_
    refine TC.seq ?_
    refine TC.block ?_
    refine TC.seq ?_
    refine TC.region ?_
    refine TL.run (pr_pure rfl) rfl ?_
    refine TL.run (pr_pure rfl) rfl ?_
    refine TL.run (pr_strIx rfl rfl (by omega) hc) rfl ?_
    refine TL.run (pr_pure rfl) rfl ?_
    refine TL.nil ?_
    refine TX.seqN ?_
    refine TC.block ?_
    refine TC.sw (decide (c = 34 ∨ c = 92)) 21 [(0, _), (2, _), (3, _), (4, _), (5, _), (6, _), (8, _), (9, _), (10, _), (11, _), (14, _), (15, _), (16, _)] ⟨rfl, rfl, rfl, rfl, rfl, rfl, rfl, rfl, rfl, rfl, rfl, rfl, rfl, trivial⟩ ?_ ?_
    ·
      refine TC.region ?_
      refine TL.run (pr_pure rfl) rfl ?_
      refine TL.run (pr_pure rfl) rfl ?_
      refine TL.run (pr_pure rfl) rfl ?_
      refine TL.split (s := 24) rfl (fun g24 => ?_) (fun g24 => ?_)
      ·
        have q24 := of_decide_eq_true g24
        refine TL.gdN rfl rfl rfl rfl ?_
        refine TL.gdN rfl rfl rfl rfl ?_
        refine TL.run (pr_pure rfl) rfl ?_
        refine TL.run (pr_pure rfl) rfl ?_
        refine TL.nil ?_
        exact TX.sw rfl (by first | exact esc_1 g24 | exact esc_2 g24) ⟨rfl, rfl, rfl, rfl, rfl, rfl, rfl, rfl, rfl, rfl, rfl, rfl, rfl, trivial⟩
      ·
        have q24 := of_decide_eq_false g24
        refine TL.gdY rfl rfl (pr_pure rfl) rfl ?_
        refine TL.gdY rfl rfl (pr_pure rfl) rfl ?_
        refine TL.run (pr_pure rfl) rfl ?_
        refine TL.run (pr_pure rfl) rfl ?_
        refine TL.nil ?_
        exact TX.sw rfl (by first | exact esc_1 g24 | exact esc_2 g24) ⟨rfl, rfl, rfl, rfl, rfl, rfl, rfl, rfl, rfl, rfl, rfl, rfl, rfl, trivial⟩
    refine TC.cond rfl (fun c21 => ?_) (fun c21 => ?_)
    ·
      refine TC.region ?_
      refine TL.run (pr_pure rfl) rfl ?_
      refine TL.run (pr_pure rfl) rfl ?_
      refine TL.bslice rfl rfl rfl rfl (fun b30 => ?_)
      refine TL.append (enc := U8.cells) rfl rfl rfl hO (Src.own [92, c] (.here _) rfl rfl) (by simp; omega) rfl (.skip _ .all) rfl (fun a31 c31 ob31 hO31 => ?_)
      refine TL.run (pr_pure rfl) rfl ?_
      refine TL.nil ?_
      refine TX.blkN ?_
      refine TX.blkN ?_
      refine TX.seqN ?_
      refine TC.region ?_
      refine TL.run (pr_pure rfl) rfl ?_
      refine TL.run ((by first | exact pr_add rfl rfl (by omega) (by omega) | exact pr_pure rfl)) rfl ?_
      refine TL.run (pr_pure rfl) rfl ?_
      refine TL.nil ?_
      exact TX.round4 (k + 1) _ ob31 H1 ⟨⟨by omega, by omega⟩, _, hO31, qd_next k0 hc (qc_esc c21) ho, by simp; omega⟩ ⟨rfl, rfl, rfl, rfl, rfl, trivial⟩ (fun w hw => hw.drop) (by omega)
    ·
      refine TC.seq ?_
      refine TC.region ?_
      refine TL.run (pr_pure rfl) rfl ?_
      refine TL.run (pr_pure rfl) rfl ?_
      refine TL.run (pr_pure rfl) rfl ?_
      refine TL.nil ?_
      refine TX.seqN ?_
      refine TC.condD rfl (fun c32 => ?_) (fun c32 => ?_)
      ·
        refine TC.region ?_
        refine TL.run (pr_pure rfl) rfl ?_
        refine TL.bslice rfl rfl rfl rfl (fun b36 => ?_)
        refine TL.append (enc := U8.cells) rfl rfl rfl hO (Src.own [92, 110] (.here _) rfl rfl) (by simp; omega) rfl (.skip _ .all) rfl (fun a37 c37 ob37 hO37 => ?_)
        refine TL.run (pr_pure rfl) rfl ?_
        refine TL.nil ?_
        refine TX.blkN ?_
        refine TX.blkN ?_
        refine TX.seqN ?_
        refine TC.region ?_
        refine TL.run (pr_pure rfl) rfl ?_
        refine TL.run ((by first | exact pr_add rfl rfl (by omega) (by omega) | exact pr_pure rfl)) rfl ?_
        refine TL.run (pr_pure rfl) rfl ?_
        refine TL.nil ?_
        exact TX.round4 (k + 1) _ ob37 H1 ⟨⟨by omega, by omega⟩, _, hO37, qd_next k0 hc (qc_n c21 c32) ho, by simp; omega⟩ ⟨rfl, rfl, rfl, rfl, rfl, trivial⟩ (fun w hw => hw.drop) (by omega)
      ·
        refine TC.sw (!plainB c) 38 [(0, _), (2, _), (3, _), (4, _), (5, _), (6, _), (8, _), (9, _), (10, _), (11, _), (14, _), (15, _), (16, _), (21, _), (32, _), (33, _), (34, _)] ⟨rfl, rfl, rfl, rfl, rfl, rfl, rfl, rfl, rfl, rfl, rfl, rfl, rfl, rfl, rfl, rfl, rfl, trivial⟩ ?_ ?_
        ·
          refine TC.region ?_
          refine TL.run (pr_pure rfl) rfl ?_
          refine TL.run (pr_pure rfl) rfl ?_
          refine TL.run (pr_pure rfl) rfl ?_
          refine TL.split (s := 41) rfl (fun g41 => ?_) (fun g41 => ?_)
          ·
            have q41 := of_decide_eq_true g41
            refine TL.gdN rfl rfl rfl rfl ?_
            refine TL.gdN rfl rfl rfl rfl ?_
            refine TL.run (pr_pure rfl) rfl ?_
            refine TL.run (pr_pure rfl) rfl ?_
            refine TL.nil ?_
            exact TX.sw rfl (by first | exact plain_1 g41 | exact plain_2 g41) ⟨rfl, rfl, rfl, rfl, rfl, rfl, rfl, rfl, rfl, rfl, rfl, rfl, rfl, rfl, rfl, rfl, rfl, trivial⟩
          ·
            have q41 := of_decide_eq_false g41
            refine TL.gdY rfl rfl (pr_pure rfl) rfl ?_
            refine TL.gdY rfl rfl (pr_pure rfl) rfl ?_
            refine TL.run (pr_pure rfl) rfl ?_
            refine TL.run (pr_pure rfl) rfl ?_
            refine TL.nil ?_
            exact TX.sw rfl (by first | exact plain_1 g41 | exact plain_2 g41) ⟨rfl, rfl, rfl, rfl, rfl, rfl, rfl, rfl, rfl, rfl, rfl, rfl, rfl, rfl, rfl, rfl, rfl, trivial⟩
        refine TC.cond rfl (fun c38 => ?_) (fun c38 => ?_)
        ·
          refine TC.drawn (by kernel_rfl) (by kernel_rfl) ?_
          refine TD.leaf [(0, 1), (1, 1), (2, 1), (3, 1), (4, 1), (5, 1), (6, 1), (7, 1), (8, 1), (9, 3), (10, 0), (11, 1)] (by kernel_rfl) (by kernel_rfl) ?_
          refine TF.pure (pr_pure rfl) rfl ?_
          refine TF.pure (pr_pure rfl) rfl ?_
          refine TF.pure (pr_pure rfl) rfl ?_
          refine TF.pure (PR.to (pr_shr rfl rfl (by decide) (by decide)) (congrArg (Value.int .u8) (u8_shr4 _))) rfl ?_
          refine TF.pure (pr_strIx rfl rfl (by omega) (hexd_hi c)) rfl ?_
          refine TF.pure (pr_pure rfl) rfl ?_
          refine TF.pure (pr_pure rfl) rfl ?_
          refine TF.pure (PR.to (pr_and rfl rfl) (congrArg (Value.int .u8) (u8_and15 _))) rfl ?_
          refine TF.pure (pr_strIx rfl rfl (by omega) (hexd_lo c)) rfl ?_
          refine TF.bslice rfl rfl rfl rfl (fun b54 => ?_)
          refine TF.loud ?_
          refine TL.append (enc := U8.cells) rfl rfl rfl hO (Src.own [92, 120, quotedC.hexC (c / 16), quotedC.hexC (c % 16)] (.here _) rfl rfl) (by simp; omega) rfl (.skip _ .all) rfl (fun a55 c55 ob55 hO55 => ?_)
          refine TF.back ?_
          refine TF.pure (pr_pure rfl) rfl ?_
          refine TF.nil ?_
          refine TX.blkN ?_
          refine TX.blkN ?_
          refine TX.seqN ?_
          refine TC.region ?_
          refine TL.run (pr_pure rfl) rfl ?_
          refine TL.run ((by first | exact pr_add rfl rfl (by omega) (by omega) | exact pr_pure rfl)) rfl ?_
          refine TL.run (pr_pure rfl) rfl ?_
          refine TL.nil ?_
          exact TX.round4 (k + 1) _ ob55 H1 ⟨⟨by omega, by omega⟩, _, hO55, qd_next k0 hc (qc_x c21 c32 c38) ho, by simp; omega⟩ ⟨rfl, rfl, rfl, rfl, rfl, trivial⟩ (fun w hw => hw.drop) (by omega)
        ·
          refine TC.region ?_
          refine TL.run (pr_pure rfl) rfl ?_
          refine TL.run (pr_pure rfl) rfl ?_
          refine TL.bslice rfl rfl rfl rfl (fun b19 => ?_)
          refine TL.append (enc := U8.cells) rfl rfl rfl hO (Src.own [c] (.here _) rfl rfl) (by simp; omega) rfl (.skip _ .all) rfl (fun a20 c20 ob20 hO20 => ?_)
          refine TL.run (pr_pure rfl) rfl ?_
          refine TL.nil ?_
          refine TX.blkN ?_
          refine TX.blkN ?_
          refine TX.seqN ?_
          refine TC.region ?_
          refine TL.run (pr_pure rfl) rfl ?_
          refine TL.run ((by first | exact pr_add rfl rfl (by omega) (by omega) | exact pr_pure rfl)) rfl ?_
          refine TL.run (pr_pure rfl) rfl ?_
          refine TL.nil ?_
          exact TX.round4 (k + 1) _ ob20 H1 ⟨⟨by omega, by omega⟩, _, hO20, qd_next k0 hc (qc_p c21 c32 c38) ho, by simp; omega⟩ ⟨rfl, rfl, rfl, rfl, rfl, trivial⟩ (fun w hw => hw.drop) (by omega)
  ·
    refine TC.exit ?_
    refine TX.thenE ?_
    refine TX.thenE ?_
    refine TX.blkHit ?_
    refine TX.seqN ?_
    refine TC.seq ?_
    refine TC.region ?_
    refine TL.run (pr_pure rfl) rfl ?_
    refine TL.bslice rfl rfl rfl rfl (fun b57 => ?_)
    refine TL.append (enc := U8.cells) rfl rfl rfl hO (Src.own [34] (.here _) rfl rfl) (by simp; omega) rfl (.skip _ .all) rfl (fun a58 c58 ob58 hO58 => ?_)
    refine TL.run (pr_bytes rfl hO58 (.skip _ .all)) rfl ?_
    refine TL.run (pr_pure rfl) rfl ?_
    refine TL.nil ?_
    refine TX.seqN ?_
    refine TC.ret ?_
    exact TX.finS (.inr rfl) (results1 rfl (RVal.tmp rfl)) (congrArg gs (qd_end k0 c11 ho))
end Go.Sx
