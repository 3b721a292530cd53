import Derived.Test.YtmlgpjficicagaaDoorWDataR
set_option linter.unusedVariables false
set_option linter.unusedSimpArgs false
namespace Go.Sx
open Go Go.Proofs
set_option maxRecDepth 100000 in
set_option maxHeartbeats 2000000 in
theorem rReadList_ok {H : Hp} (s : Str) (hmax : s.length ≤ 100000) :
    Fn Tryd.prog 35 [gs s] H (fun v H1 => GV ⟨4, 0, [], rl s⟩ v H1) := by
  refine Fn.enter Tryd.func35 Tryd.ntmps35 rfl rfl (fun w0 => ?_)
  refine TC.seq ?_
  refine TC.region ?_
  refine TL.alloc rfl (fun b2 => ?_)
  refine TL.nil ?_
  refine TX.seqN ?_
  refine TC.seq ?_
  refine TC.region ?_
  refine TL.run (pr_build rfl rfl) rfl ?_
  refine TL.alloc rfl (fun b3 => ?_)
  refine TL.storeA rfl rfl rfl rfl rfl (.here _) rfl rfl ?_
  refine TL.nil ?_
  refine TX.seqN ?_
  refine TC.seq ?_
  refine TC.region ?_
  refine TL.run (pr_pure rfl) rfl ?_
  refine TL.nil ?_
  refine TX.seqN ?_
  refine TC.seq ?_
  refine TC.seq ?_
  refine TC.region ?_
  refine TL.run (pr_pure rfl) rfl ?_
  refine TL.nil ?_
  refine TX.seqN ?_
  refine TC.block ?_
  refine TC.loop4 (V := fun (p : Int × Str) v ob H1 => [(4, gs p.2), (5, .int .i64 p.1)]) (K := [(0, _), (2, _), (3, _)]) (L := fun (p : Int × Str) v ob H1 => St [] w0 H H ((b3, [.int .i64 4, .int .i64 0, gs [], v]) :: (b2, [.int .i64 0, .int .i64 0, gs [], .slice none 0 0]) :: ob)) (I := fun (p : Int × Str) v ob H1 => (1 ≤ p.1) ∧ ∃ o : List Int, OwnSl 1 I64.cells v o ob ∧ rl s = rlF o p.2 (s.drop p.1.toNat) ∧ (o.length : Int) ≤ 17 ∧ (p.2.length : Int) ≤ p.1) (μ := fun (p : Int × Str) => (s.length - p.1).toNat) ((1 : Int), ([] : Str)) (.slice none 0 0) [] H ⟨rfl, rfl, rfl, rfl, rfl, trivial⟩ ⟨by omega, [], OwnSl.nil, rfl, by decide, by decide⟩ (fun w hw => hw) (fun p v ob H1 hI => ?_)
  obtain ⟨k1, o, hO, hrl, hol, hwl⟩ := hI
  have k0 : 0 ≤ p.1 := by omega
  obtain ⟨va, vc, rfl⟩ := hO.form
  refine TC.seq ?_
  refine TC.seq ?_
  refine TC.region ?_
  refine TL.run (pr_pure rfl) rfl ?_
  refine TL.run (pr_pure rfl) rfl ?_
  refine TL.run (pr_lenStr rfl rfl) rfl ?_
  refine TL.run (pr_pure rfl) rfl ?_
  refine TL.nil ?_
  refine TX.seqN ?_
  refine TC.condD rfl (fun c10 => ?_) (fun c10 => ?_)
  ·
    obtain ⟨c, hc⟩ := getSome (l := s) k0 c10
    have hsl := hc
    refine TC.skip ?_
    refine TX.seqN ?_
    refine TC.seq ?_
    refine TC.block ?_
    refine TC.seq ?_
    refine TC.sw (!decide ((c.toNat : Int) = 32) && !decide ((c.toNat : Int) = 93)) 22 [(0, _), (2, _), (3, _), (4, _), (5, _), (7, _), (8, _), (9, _), (10, _)] ⟨rfl, rfl, rfl, rfl, rfl, rfl, rfl, rfl, rfl, trivial⟩ ?_ ?_
    ·
      refine TC.region ?_
      refine TL.run (pr_pure rfl) rfl ?_
      refine TL.run (pr_pure rfl) rfl ?_
      refine TL.run (pr_strIx rfl rfl (by omega) hc) rfl ?_
      refine TL.run (pr_pure rfl) rfl ?_
      refine TL.run (pr_pure rfl) rfl ?_
      refine TL.split (s := 17) rfl (fun g17 => ?_) (fun g17 => ?_)
      ·
        have q17 := of_ndec_true g17
        refine TL.gdY rfl rfl (pr_pure rfl) rfl ?_
        refine TL.gdY rfl rfl (pr_pure rfl) rfl ?_
        refine TL.gdY rfl rfl (pr_strIx rfl rfl (by omega) hc) rfl ?_
        refine TL.gdY rfl rfl (pr_pure rfl) rfl ?_
        refine TL.run (pr_pure rfl) rfl ?_
        refine TL.nil ?_
        exact TX.sw rfl (by first | exact sep_1 g17 | exact sep_2 g17) ⟨rfl, rfl, rfl, rfl, rfl, rfl, rfl, rfl, rfl, trivial⟩
      ·
        have q17 := of_ndec_false g17
        refine TL.gdN rfl rfl rfl rfl ?_
        refine TL.gdN rfl rfl rfl rfl ?_
        refine TL.gdN rfl rfl rfl rfl ?_
        refine TL.gdN rfl rfl rfl rfl ?_
        refine TL.run (pr_pure rfl) rfl ?_
        refine TL.nil ?_
        exact TX.sw rfl (by first | exact sep_1 g17 | exact sep_2 g17) ⟨rfl, rfl, rfl, rfl, rfl, rfl, rfl, rfl, rfl, trivial⟩
    refine TC.cond rfl (fun c22 => ?_) (fun c22 => ?_)
    ·
      refine TC.seq ?_
      refine TC.region ?_
      refine TL.run (pr_pure rfl) rfl ?_
      refine TL.run (pr_pure rfl) rfl ?_
      refine TL.run (pr_pure rfl) rfl ?_
      refine TL.run (pr_pure rfl) rfl ?_
      refine TL.run ((by first | exact pr_add rfl rfl (by omega) (by omega) | exact pr_pure rfl)) rfl ?_
      refine TL.run (PR.to (pr_strLH rfl rfl rfl (by omega) (by omega) (by omega)) (congrArg gs (one_byte k0 hc))) rfl ?_
      refine TL.run (pr_concat rfl rfl (by first | (simp; omega) | omega)) rfl ?_
      refine TL.run (pr_pure rfl) rfl ?_
      refine TL.nil ?_
      refine TX.seqN ?_
      refine TC.exit ?_
      refine TX.thenE ?_
      refine TX.blkHit ?_
      refine TX.seqN ?_
      refine TC.region ?_
      refine TL.run (pr_pure rfl) rfl ?_
      refine TL.run ((by first | exact pr_add rfl rfl (by omega) (by omega) | exact pr_pure rfl)) rfl ?_
      refine TL.run (pr_pure rfl) rfl ?_
      refine TL.nil ?_
      exact TX.round4 (p.1 + 1, _) _ ob H ⟨by omega, _, hO, by first | exact rl_add1 k0 hc c22 hrl | exact rl_add k0 hc (sep_T c22) hrl, hol, by simp; omega⟩ ⟨rfl, rfl, rfl, rfl, rfl, trivial⟩ (fun w hw => hw) (by omega)
    ·
      refine TC.skip ?_
      refine TX.seqN ?_
      refine TC.seq ?_
      refine TC.sw (!decide (p.2 = []) && decide ((o.length : Int) ≤ 16)) 37 [(0, _), (2, _), (3, _), (4, _), (5, _), (7, _), (8, _), (9, _), (10, _), (22, _)] ⟨rfl, rfl, rfl, rfl, rfl, rfl, rfl, rfl, rfl, rfl, trivial⟩ ?_ ?_
      ·
        refine TC.region ?_
        refine TL.run (pr_pure rfl) rfl ?_
        refine TL.run (pr_str rfl rfl rfl) rfl ?_
        refine TL.run (pr_pure rfl) rfl ?_
        refine TL.split (s := 32) rfl (fun g32 => ?_) (fun g32 => ?_)
        ·
          have q32 := of_ndec_true g32
          refine TL.gdY rfl rfl (pr_field rfl) rfl ?_
          refine TL.gdY rfl rfl (pr_own1 rfl (.here _) rfl) rfl ?_
          refine TL.gdY rfl rfl (pr_lenO rfl rfl hO) rfl ?_
          refine TL.gdY rfl rfl (pr_pure rfl) rfl ?_
          refine TL.run (pr_pure rfl) rfl ?_
          refine TL.nil ?_
          exact TX.sw rfl (by first | simp [g32] | (simp_all; done)) ⟨rfl, rfl, rfl, rfl, rfl, rfl, rfl, rfl, rfl, rfl, trivial⟩
        ·
          have q32 := of_ndec_false g32
          refine TL.gdN rfl rfl rfl rfl ?_
          refine TL.gdN rfl rfl rfl rfl ?_
          refine TL.gdN rfl rfl rfl rfl ?_
          refine TL.gdN rfl rfl rfl rfl ?_
          refine TL.run (pr_pure rfl) rfl ?_
          refine TL.nil ?_
          exact TX.sw rfl (by first | simp [g32] | (simp_all; done)) ⟨rfl, rfl, rfl, rfl, rfl, rfl, rfl, rfl, rfl, rfl, trivial⟩
      refine TC.cond rfl (fun c37 => ?_) (fun c37 => ?_)
      ·
        refine TC.drawn (by kernel_rfl) (by kernel_rfl) ?_
        refine TD.leaf [(0, 1), (1, 2), (2, 1), (3, 3), (4, 3), (5, 0), (6, 1), (7, 0)] (by kernel_rfl) (by kernel_rfl) ?_
        refine TF.pure (pr_field rfl) rfl ?_
        refine TF.still (pr_own1 rfl (.here _) rfl) rfl ?_
        refine TF.pure (pr_pure rfl) rfl ?_
        refine TF.callS (enters rfl rfl rfl rfl) (rInt_ok p.2 (by omega)) rfl ?_
        refine TF.bslice rfl rfl rfl rfl (fun b42 => ?_)
        refine TF.loud ?_
        refine TL.append (enc := I64.cells) rfl rfl rfl hO (Src.own [intR p.2] (.here _) rfl rfl) (by have := (put_T c37).2; simp; omega) rfl (.skip _ (.skip _ (.skip _ .all))) rfl (fun a43 c43 ob43 hO43 => ?_)
        refine TF.back ?_
        refine TF.pure (pr_field rfl) rfl ?_
        refine TF.loud ?_
        refine TL.store1 rfl rfl rfl (.there _ (.here _)) rfl rfl ?_
        refine TF.back ?_
        refine TF.nil ?_
        refine TX.seqN ?_
        refine TC.region ?_
        refine TL.run (pr_pure rfl) rfl ?_
        refine TL.nil ?_
        refine TX.blkN ?_
        refine TX.seqN ?_
        refine TC.region ?_
        refine TL.run (pr_pure rfl) rfl ?_
        refine TL.run ((by first | exact pr_add rfl rfl (by omega) (by omega) | exact pr_pure rfl)) rfl ?_
        refine TL.run (pr_pure rfl) rfl ?_
        refine TL.nil ?_
        exact TX.round4 (p.1 + 1, []) _ ob43 H ⟨by omega, _, hO43, rl_put k0 hc (sep_F c22) (put_T c37).1 (put_T c37).2 hrl, by have := (put_T c37).2; simp; omega, by simp; omega⟩ ⟨rfl, rfl, rfl, rfl, rfl, trivial⟩ (fun w hw => hw.drop) (by omega)
      ·
        refine TC.skip ?_
        refine TX.seqN ?_
        refine TC.region ?_
        refine TL.run (pr_pure rfl) rfl ?_
        refine TL.nil ?_
        refine TX.blkN ?_
        refine TX.seqN ?_
        refine TC.region ?_
        refine TL.run (pr_pure rfl) rfl ?_
        refine TL.run ((by first | exact pr_add rfl rfl (by omega) (by omega) | exact pr_pure rfl)) rfl ?_
        refine TL.run (pr_pure rfl) rfl ?_
        refine TL.nil ?_
        exact TX.round4 (p.1 + 1, []) _ ob H ⟨by omega, _, hO, rl_skip k0 hc (sep_F c22) (put_F c37) hrl, hol, by simp; omega⟩ ⟨rfl, rfl, rfl, rfl, rfl, trivial⟩ (fun w hw => hw) (by omega)
  ·
    refine TC.exit ?_
    refine TX.thenE ?_
    refine TX.thenE ?_
    refine TX.blkHit ?_
    refine TX.seqN ?_
    refine TC.seq ?_
    refine TC.region ?_
    refine TL.run (pr_ownA rfl (.here _) rfl) rfl ?_
    refine TL.storeA rfl rfl rfl rfl rfl (.there _ (.here _)) rfl rfl ?_
    refine TL.nil ?_
    refine TX.seqN ?_
    refine TC.ret ?_
    refine TX.pubO hO (.skip _ (.skip _ .all)) (by simp) (fun HE leE hE => ?_)
    exact TX.fin0 (.inr rfl) (results1 rfl (RVal.cellA rfl (.there _ (.here _)) rfl)) (GV.of (q := ⟨4, 0, [], o⟩) (by rw [rl_end k0 c10 hrl]) hE)
end Go.Sx
