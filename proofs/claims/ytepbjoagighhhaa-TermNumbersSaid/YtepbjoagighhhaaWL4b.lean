import Derived.Test.YtepbjoagighhhaaWL4
set_option linter.unusedVariables false
set_option linter.unusedSimpArgs false
namespace Go.Sx
open Go Go.Proofs
set_option maxRecDepth 100000 in
set_option maxHeartbeats 4000000 in
theorem TermNumbers_ok {H : Hp} (a b : Int) (ra : i64ok a) (rb : i64ok b) :
    FnS Try.prog 6 [.int .i64 a, .int .i64 b] H (.bool true) := by
  obtain ⟨ra1, ra2⟩ := ra
  obtain ⟨rb1, rb2⟩ := rb
  refine FnS.enter Try.func6 Try.ntmps6 rfl rfl (fun w0 => ?_)
  refine TC.seq ?_
  refine TC.region ?_
  refine TL.run (pr_pure rfl) rfl ?_
  refine TL.nil ?_
  refine TX.seqN ?_
  refine TC.seq ?_
  refine TC.seq ?_
  refine TC.region ?_
  refine TL.callS (enters rfl rfl rfl rfl) (first4_ok) rfl ?_
  refine TL.run (pr_pure rfl) rfl ?_
  refine TL.nil ?_
  refine TX.seqN ?_
  refine TC.cond rfl (fun c13 => ?_) (fun c13 => ?_)
  ·
    exact absurd c13 (by decide)
  ·
    refine TC.skip ?_
    refine TX.seqN ?_
    refine TC.seq ?_
    refine TC.region ?_
    refine TL.alloc rfl (fun b5 => ?_)
    refine TL.nil ?_
    refine TX.seqN ?_
    refine TC.seq ?_
    refine TC.region ?_
    refine TL.alloc rfl (fun b6 => ?_)
    refine TL.nil ?_
    refine TX.seqN ?_
    refine TC.seq ?_
    refine TC.region ?_
    refine TL.bslice rfl rfl rfl rfl (fun b14 => ?_)
    refine TL.run (pr_pure rfl) rfl ?_
    refine TL.nil ?_
    refine TX.seqN ?_
    refine TC.seq ?_
    refine TC.seq ?_
    refine TC.region ?_
    refine TL.run (pr_pure rfl) rfl ?_
    refine TL.nil ?_
    refine TX.seqN ?_
    refine TC.block ?_
    refine TC.rounds 7 ?_
    refine TR.succ ?_
    refine TC.seq ?_
    refine TC.seq ?_
    refine TC.region ?_
    refine TL.run (pr_pure rfl) rfl ?_
    refine TL.run (pr_pure rfl) rfl ?_
    refine TL.nil ?_
    refine TX.seqN ?_
    refine TC.condT rfl ?_
    refine TC.skip ?_
    refine TX.seqN ?_
    refine TC.seq ?_
    refine TC.block ?_
    refine TC.drawn (by kernel_rfl) (by kernel_rfl) ?_
    refine TD.leaf [(0, 1), (1, 1), (2, 1), (4, 1), (6, 1), (7, 1), (8, 1), (9, 2), (3, 3), (5, 3), (10, 3), (11, 3), (12, 3), (13, 1), (14, 1), (15, 1), (16, 1), (17, 0), (18, 1), (19, 0)] (by kernel_rfl) (by kernel_rfl) ?_
    refine TF.pure (pr_pure rfl) rfl ?_
    refine TF.pure (pr_pure rfl) rfl ?_
    refine TF.pure (pr_pure rfl) rfl ?_
    refine TF.pure (pr_pure rfl) rfl ?_
    refine TF.pure (pr_pure rfl) rfl ?_
    refine TF.pure (pr_pure rfl) rfl ?_
    refine TF.pure (pr_index rfl rfl (by omega) (by omega)) rfl ?_
    refine TF.still (pr_own1 rfl (.here _) rfl) rfl ?_
    refine TF.callS (enters rfl rfl rfl rfl) (num4_ok _) rfl ?_
    refine TF.callS (enters rfl rfl rfl rfl) (num4_ok _) rfl ?_
    refine TF.callS (enters rfl rfl rfl rfl) (two4_ok _ _ _) rfl ?_
    refine TF.bslice rfl rfl rfl rfl (fun b31 => ?_)
    refine TF.pub (by simp) (fun H_b31 le_b31 rd_b31 => ?_)
    have hT : RdSl H_b31 6 Term.cells _ ([numT a, numT b, twoT 6 0 1]) := RdSl.blk (cap := 3) rd_b31 (by intro x hx; rfl) (by kernel_rfl) (by show 3 ≤ 9223372036854775807; decide)
    clear rd_b31
    refine TF.call (enters rfl rfl rfl rfl) (Eval_ok 2 hT binds_nil EnvOk.nil lens_nil (by simp [numT, twoT])) rfl (fun v32_0 H32_0 hle32_0 hp32_0 => ?_)
    replace hp32_0 := hp32_0.eq (nums_eval 6 a b rfl)
    obtain ⟨lv32_0, rfl, hR32_0⟩ := hp32_0
    obtain ⟨la32_0, lc32_0, rfl⟩ := RdSl.len hR32_0
    refine TF.pure (pr_pure rfl) rfl ?_
    refine TF.pure (pr_pure rfl) rfl ?_
    refine TF.pure (pr_pure rfl) rfl ?_
    refine TF.pure (pr_indexArr rfl rfl (by omega) (by omega)) rfl ?_
    refine TF.loud ?_
    refine TL.storeG rfl rfl rfl rfl rfl (.there _ (.there _ (.here _))) (Nat.le_of_ble_eq_true (by kernel_rfl)) rfl ?_
    refine TF.back ?_
    refine TF.pure (pr_indexArr rfl rfl (by omega) (by omega)) rfl ?_
    refine TF.loud ?_
    refine TL.store1 rfl rfl rfl (.there _ (.here _)) rfl rfl ?_
    refine TF.back ?_
    refine TF.nil ?_
    refine TX.cls (C' := St [] w0 H H32_0 [(b14, [.int .i64 6, .int .i64 7, .int .i64 8, .int .i64 9, .int .i64 10, .int .i64 12]), (b6, [.int .i64 (numV 6 a b).2, .int .i64 0, .int .i64 0, .int .i64 0, .int .i64 0, .int .i64 0]), (b5, [.int .i64 (numV 6 a b).1.k, .int .i64 (numV 6 a b).1.n, gs (numV 6 a b).1.s, .slice la32_0 (numV 6 a b).1.l.length lc32_0, .int .i64 0, .int .i64 0, gs [], .slice none 0 0, .int .i64 0, .int .i64 0, gs [], .slice none 0 0, .int .i64 0, .int .i64 0, gs [], .slice none 0 0, .int .i64 0, .int .i64 0, gs [], .slice none 0 0, .int .i64 0, .int .i64 0, gs [], .slice none 0 0])]) (fun w hw => hw) ?_
    refine TX.blkN ?_
    refine TX.seqN ?_
    refine TC.region ?_
    refine TL.run (pr_pure rfl) rfl ?_
    refine TL.run (pr_add rfl rfl (by omega) (by omega)) rfl ?_
    refine TL.run (pr_pure rfl) rfl ?_
    refine TL.nil ?_
    refine TX.rnd ?_
    refine TR.succ ?_
    refine TC.seq ?_
    refine TC.seq ?_
    refine TC.region ?_
    refine TL.run (pr_pure rfl) rfl ?_
    refine TL.run (pr_pure rfl) rfl ?_
    refine TL.nil ?_
    refine TX.seqN ?_
    refine TC.condT rfl ?_
    refine TC.skip ?_
    refine TX.seqN ?_
    refine TC.seq ?_
    refine TC.block ?_
    refine TC.drawn (by kernel_rfl) (by kernel_rfl) ?_
    refine TD.leaf [(0, 1), (1, 1), (2, 1), (4, 1), (6, 1), (7, 1), (8, 1), (9, 2), (3, 3), (5, 3), (10, 3), (11, 3), (12, 3), (13, 1), (14, 1), (15, 1), (16, 1), (17, 0), (18, 1), (19, 0)] (by kernel_rfl) (by kernel_rfl) ?_
    refine TF.pure (pr_pure rfl) rfl ?_
    refine TF.pure (pr_pure rfl) rfl ?_
    refine TF.pure (pr_pure rfl) rfl ?_
    refine TF.pure (pr_pure rfl) rfl ?_
    refine TF.pure (pr_pure rfl) rfl ?_
    refine TF.pure (pr_pure rfl) rfl ?_
    refine TF.pure (pr_index rfl rfl (by omega) (by omega)) rfl ?_
    refine TF.still (pr_own1 rfl (.here _) rfl) rfl ?_
    refine TF.callS (enters rfl rfl rfl rfl) (num4_ok _) rfl ?_
    refine TF.callS (enters rfl rfl rfl rfl) (num4_ok _) rfl ?_
    refine TF.callS (enters rfl rfl rfl rfl) (two4_ok _ _ _) rfl ?_
    refine TF.bslice rfl rfl rfl rfl (fun b31 => ?_)
    refine TF.pub (by simp) (fun H_b31 le_b31 rd_b31 => ?_)
    have hT : RdSl H_b31 6 Term.cells _ ([numT a, numT b, twoT 7 0 1]) := RdSl.blk (cap := 3) rd_b31 (by intro x hx; rfl) (by kernel_rfl) (by show 3 ≤ 9223372036854775807; decide)
    clear rd_b31
    refine TF.call (enters rfl rfl rfl rfl) (Eval_ok 2 hT binds_nil EnvOk.nil lens_nil (by simp [numT, twoT])) rfl (fun v32_1 H32_1 hle32_1 hp32_1 => ?_)
    replace hp32_1 := hp32_1.eq (nums_eval 7 a b rfl)
    obtain ⟨lv32_1, rfl, hR32_1⟩ := hp32_1
    obtain ⟨la32_1, lc32_1, rfl⟩ := RdSl.len hR32_1
    refine TF.pure (pr_pure rfl) rfl ?_
    refine TF.pure (pr_pure rfl) rfl ?_
    refine TF.pure (pr_pure rfl) rfl ?_
    refine TF.pure (pr_indexArr rfl rfl (by omega) (by omega)) rfl ?_
    refine TF.loud ?_
    refine TL.storeG rfl rfl rfl rfl rfl (.there _ (.there _ (.here _))) (Nat.le_of_ble_eq_true (by kernel_rfl)) rfl ?_
    refine TF.back ?_
    refine TF.pure (pr_indexArr rfl rfl (by omega) (by omega)) rfl ?_
    refine TF.loud ?_
    refine TL.store1 rfl rfl rfl (.there _ (.here _)) rfl rfl ?_
    refine TF.back ?_
    refine TF.nil ?_
    refine TX.cls (C' := St [] w0 H H32_1 [(b14, [.int .i64 6, .int .i64 7, .int .i64 8, .int .i64 9, .int .i64 10, .int .i64 12]), (b6, [.int .i64 (numV 6 a b).2, .int .i64 (numV 7 a b).2, .int .i64 0, .int .i64 0, .int .i64 0, .int .i64 0]), (b5, [.int .i64 (numV 6 a b).1.k, .int .i64 (numV 6 a b).1.n, gs (numV 6 a b).1.s, .slice la32_0 (numV 6 a b).1.l.length lc32_0, .int .i64 (numV 7 a b).1.k, .int .i64 (numV 7 a b).1.n, gs (numV 7 a b).1.s, .slice la32_1 (numV 7 a b).1.l.length lc32_1, .int .i64 0, .int .i64 0, gs [], .slice none 0 0, .int .i64 0, .int .i64 0, gs [], .slice none 0 0, .int .i64 0, .int .i64 0, gs [], .slice none 0 0, .int .i64 0, .int .i64 0, gs [], .slice none 0 0])]) (fun w hw => hw) ?_
    refine TX.blkN ?_
    refine TX.seqN ?_
    refine TC.region ?_
    refine TL.run (pr_pure rfl) rfl ?_
    refine TL.run (pr_add rfl rfl (by omega) (by omega)) rfl ?_
    refine TL.run (pr_pure rfl) rfl ?_
    refine TL.nil ?_
    refine TX.rnd ?_
    refine TR.succ ?_
    refine TC.seq ?_
    refine TC.seq ?_
    refine TC.region ?_
    refine TL.run (pr_pure rfl) rfl ?_
    refine TL.run (pr_pure rfl) rfl ?_
    refine TL.nil ?_
    refine TX.seqN ?_
    refine TC.condT rfl ?_
    refine TC.skip ?_
    refine TX.seqN ?_
    refine TC.seq ?_
    refine TC.block ?_
    refine TC.drawn (by kernel_rfl) (by kernel_rfl) ?_
    refine TD.leaf [(0, 1), (1, 1), (2, 1), (4, 1), (6, 1), (7, 1), (8, 1), (9, 2), (3, 3), (5, 3), (10, 3), (11, 3), (12, 3), (13, 1), (14, 1), (15, 1), (16, 1), (17, 0), (18, 1), (19, 0)] (by kernel_rfl) (by kernel_rfl) ?_
    refine TF.pure (pr_pure rfl) rfl ?_
    refine TF.pure (pr_pure rfl) rfl ?_
    refine TF.pure (pr_pure rfl) rfl ?_
    refine TF.pure (pr_pure rfl) rfl ?_
    refine TF.pure (pr_pure rfl) rfl ?_
    refine TF.pure (pr_pure rfl) rfl ?_
    refine TF.pure (pr_index rfl rfl (by omega) (by omega)) rfl ?_
    refine TF.still (pr_own1 rfl (.here _) rfl) rfl ?_
    refine TF.callS (enters rfl rfl rfl rfl) (num4_ok _) rfl ?_
    refine TF.callS (enters rfl rfl rfl rfl) (num4_ok _) rfl ?_
    refine TF.callS (enters rfl rfl rfl rfl) (two4_ok _ _ _) rfl ?_
    refine TF.bslice rfl rfl rfl rfl (fun b31 => ?_)
    refine TF.pub (by simp) (fun H_b31 le_b31 rd_b31 => ?_)
    have hT : RdSl H_b31 6 Term.cells _ ([numT a, numT b, twoT 8 0 1]) := RdSl.blk (cap := 3) rd_b31 (by intro x hx; rfl) (by kernel_rfl) (by show 3 ≤ 9223372036854775807; decide)
    clear rd_b31
    refine TF.call (enters rfl rfl rfl rfl) (Eval_ok 2 hT binds_nil EnvOk.nil lens_nil (by simp [numT, twoT])) rfl (fun v32_2 H32_2 hle32_2 hp32_2 => ?_)
    replace hp32_2 := hp32_2.eq (nums_eval 8 a b rfl)
    obtain ⟨lv32_2, rfl, hR32_2⟩ := hp32_2
    obtain ⟨la32_2, lc32_2, rfl⟩ := RdSl.len hR32_2
    refine TF.pure (pr_pure rfl) rfl ?_
    refine TF.pure (pr_pure rfl) rfl ?_
    refine TF.pure (pr_pure rfl) rfl ?_
    refine TF.pure (pr_indexArr rfl rfl (by omega) (by omega)) rfl ?_
    refine TF.loud ?_
    refine TL.storeG rfl rfl rfl rfl rfl (.there _ (.there _ (.here _))) (Nat.le_of_ble_eq_true (by kernel_rfl)) rfl ?_
    refine TF.back ?_
    refine TF.pure (pr_indexArr rfl rfl (by omega) (by omega)) rfl ?_
    refine TF.loud ?_
    refine TL.store1 rfl rfl rfl (.there _ (.here _)) rfl rfl ?_
    refine TF.back ?_
    refine TF.nil ?_
    refine TX.cls (C' := St [] w0 H H32_2 [(b14, [.int .i64 6, .int .i64 7, .int .i64 8, .int .i64 9, .int .i64 10, .int .i64 12]), (b6, [.int .i64 (numV 6 a b).2, .int .i64 (numV 7 a b).2, .int .i64 (numV 8 a b).2, .int .i64 0, .int .i64 0, .int .i64 0]), (b5, [.int .i64 (numV 6 a b).1.k, .int .i64 (numV 6 a b).1.n, gs (numV 6 a b).1.s, .slice la32_0 (numV 6 a b).1.l.length lc32_0, .int .i64 (numV 7 a b).1.k, .int .i64 (numV 7 a b).1.n, gs (numV 7 a b).1.s, .slice la32_1 (numV 7 a b).1.l.length lc32_1, .int .i64 (numV 8 a b).1.k, .int .i64 (numV 8 a b).1.n, gs (numV 8 a b).1.s, .slice la32_2 (numV 8 a b).1.l.length lc32_2, .int .i64 0, .int .i64 0, gs [], .slice none 0 0, .int .i64 0, .int .i64 0, gs [], .slice none 0 0, .int .i64 0, .int .i64 0, gs [], .slice none 0 0])]) (fun w hw => hw) ?_
    refine TX.blkN ?_
    refine TX.seqN ?_
    refine TC.region ?_
    refine TL.run (pr_pure rfl) rfl ?_
    refine TL.run (pr_add rfl rfl (by omega) (by omega)) rfl ?_
    refine TL.run (pr_pure rfl) rfl ?_
    refine TL.nil ?_
    refine TX.rnd ?_
    refine TR.succ ?_
    refine TC.seq ?_
    refine TC.seq ?_
    refine TC.region ?_
    refine TL.run (pr_pure rfl) rfl ?_
    refine TL.run (pr_pure rfl) rfl ?_
    refine TL.nil ?_
    refine TX.seqN ?_
    refine TC.condT rfl ?_
    refine TC.skip ?_
    refine TX.seqN ?_
    refine TC.seq ?_
    refine TC.block ?_
    refine TC.drawn (by kernel_rfl) (by kernel_rfl) ?_
    refine TD.leaf [(0, 1), (1, 1), (2, 1), (4, 1), (6, 1), (7, 1), (8, 1), (9, 2), (3, 3), (5, 3), (10, 3), (11, 3), (12, 3), (13, 1), (14, 1), (15, 1), (16, 1), (17, 0), (18, 1), (19, 0)] (by kernel_rfl) (by kernel_rfl) ?_
    refine TF.pure (pr_pure rfl) rfl ?_
    refine TF.pure (pr_pure rfl) rfl ?_
    refine TF.pure (pr_pure rfl) rfl ?_
    refine TF.pure (pr_pure rfl) rfl ?_
    refine TF.pure (pr_pure rfl) rfl ?_
    refine TF.pure (pr_pure rfl) rfl ?_
    refine TF.pure (pr_index rfl rfl (by omega) (by omega)) rfl ?_
    refine TF.still (pr_own1 rfl (.here _) rfl) rfl ?_
    refine TF.callS (enters rfl rfl rfl rfl) (num4_ok _) rfl ?_
    refine TF.callS (enters rfl rfl rfl rfl) (num4_ok _) rfl ?_
    refine TF.callS (enters rfl rfl rfl rfl) (two4_ok _ _ _) rfl ?_
    refine TF.bslice rfl rfl rfl rfl (fun b31 => ?_)
    refine TF.pub (by simp) (fun H_b31 le_b31 rd_b31 => ?_)
    have hT : RdSl H_b31 6 Term.cells _ ([numT a, numT b, twoT 9 0 1]) := RdSl.blk (cap := 3) rd_b31 (by intro x hx; rfl) (by kernel_rfl) (by show 3 ≤ 9223372036854775807; decide)
    clear rd_b31
    refine TF.call (enters rfl rfl rfl rfl) (Eval_ok 2 hT binds_nil EnvOk.nil lens_nil (by simp [numT, twoT])) rfl (fun v32_3 H32_3 hle32_3 hp32_3 => ?_)
    replace hp32_3 := hp32_3.eq (nums_eval 9 a b rfl)
    obtain ⟨lv32_3, rfl, hR32_3⟩ := hp32_3
    obtain ⟨la32_3, lc32_3, rfl⟩ := RdSl.len hR32_3
    refine TF.pure (pr_pure rfl) rfl ?_
    refine TF.pure (pr_pure rfl) rfl ?_
    refine TF.pure (pr_pure rfl) rfl ?_
    refine TF.pure (pr_indexArr rfl rfl (by omega) (by omega)) rfl ?_
    refine TF.loud ?_
    refine TL.storeG rfl rfl rfl rfl rfl (.there _ (.there _ (.here _))) (Nat.le_of_ble_eq_true (by kernel_rfl)) rfl ?_
    refine TF.back ?_
    refine TF.pure (pr_indexArr rfl rfl (by omega) (by omega)) rfl ?_
    refine TF.loud ?_
    refine TL.store1 rfl rfl rfl (.there _ (.here _)) rfl rfl ?_
    refine TF.back ?_
    refine TF.nil ?_
    refine TX.cls (C' := St [] w0 H H32_3 [(b14, [.int .i64 6, .int .i64 7, .int .i64 8, .int .i64 9, .int .i64 10, .int .i64 12]), (b6, [.int .i64 (numV 6 a b).2, .int .i64 (numV 7 a b).2, .int .i64 (numV 8 a b).2, .int .i64 (numV 9 a b).2, .int .i64 0, .int .i64 0]), (b5, [.int .i64 (numV 6 a b).1.k, .int .i64 (numV 6 a b).1.n, gs (numV 6 a b).1.s, .slice la32_0 (numV 6 a b).1.l.length lc32_0, .int .i64 (numV 7 a b).1.k, .int .i64 (numV 7 a b).1.n, gs (numV 7 a b).1.s, .slice la32_1 (numV 7 a b).1.l.length lc32_1, .int .i64 (numV 8 a b).1.k, .int .i64 (numV 8 a b).1.n, gs (numV 8 a b).1.s, .slice la32_2 (numV 8 a b).1.l.length lc32_2, .int .i64 (numV 9 a b).1.k, .int .i64 (numV 9 a b).1.n, gs (numV 9 a b).1.s, .slice la32_3 (numV 9 a b).1.l.length lc32_3, .int .i64 0, .int .i64 0, gs [], .slice none 0 0, .int .i64 0, .int .i64 0, gs [], .slice none 0 0])]) (fun w hw => hw) ?_
    refine TX.blkN ?_
    refine TX.seqN ?_
    refine TC.region ?_
    refine TL.run (pr_pure rfl) rfl ?_
    refine TL.run (pr_add rfl rfl (by omega) (by omega)) rfl ?_
    refine TL.run (pr_pure rfl) rfl ?_
    refine TL.nil ?_
    refine TX.rnd ?_
    refine TR.succ ?_
    refine TC.seq ?_
    refine TC.seq ?_
    refine TC.region ?_
    refine TL.run (pr_pure rfl) rfl ?_
    refine TL.run (pr_pure rfl) rfl ?_
    refine TL.nil ?_
    refine TX.seqN ?_
    refine TC.condT rfl ?_
    refine TC.skip ?_
    refine TX.seqN ?_
    refine TC.seq ?_
    refine TC.block ?_
    refine TC.drawn (by kernel_rfl) (by kernel_rfl) ?_
    refine TD.leaf [(0, 1), (1, 1), (2, 1), (4, 1), (6, 1), (7, 1), (8, 1), (9, 2), (3, 3), (5, 3), (10, 3), (11, 3), (12, 3), (13, 1), (14, 1), (15, 1), (16, 1), (17, 0), (18, 1), (19, 0)] (by kernel_rfl) (by kernel_rfl) ?_
    refine TF.pure (pr_pure rfl) rfl ?_
    refine TF.pure (pr_pure rfl) rfl ?_
    refine TF.pure (pr_pure rfl) rfl ?_
    refine TF.pure (pr_pure rfl) rfl ?_
    refine TF.pure (pr_pure rfl) rfl ?_
    refine TF.pure (pr_pure rfl) rfl ?_
    refine TF.pure (pr_index rfl rfl (by omega) (by omega)) rfl ?_
    refine TF.still (pr_own1 rfl (.here _) rfl) rfl ?_
    refine TF.callS (enters rfl rfl rfl rfl) (num4_ok _) rfl ?_
    refine TF.callS (enters rfl rfl rfl rfl) (num4_ok _) rfl ?_
    refine TF.callS (enters rfl rfl rfl rfl) (two4_ok _ _ _) rfl ?_
    refine TF.bslice rfl rfl rfl rfl (fun b31 => ?_)
    refine TF.pub (by simp) (fun H_b31 le_b31 rd_b31 => ?_)
    have hT : RdSl H_b31 6 Term.cells _ ([numT a, numT b, twoT 10 0 1]) := RdSl.blk (cap := 3) rd_b31 (by intro x hx; rfl) (by kernel_rfl) (by show 3 ≤ 9223372036854775807; decide)
    clear rd_b31
    refine TF.call (enters rfl rfl rfl rfl) (Eval_ok 2 hT binds_nil EnvOk.nil lens_nil (by simp [numT, twoT])) rfl (fun v32_4 H32_4 hle32_4 hp32_4 => ?_)
    replace hp32_4 := hp32_4.eq (nums_eval 10 a b rfl)
    obtain ⟨lv32_4, rfl, hR32_4⟩ := hp32_4
    obtain ⟨la32_4, lc32_4, rfl⟩ := RdSl.len hR32_4
    refine TF.pure (pr_pure rfl) rfl ?_
    refine TF.pure (pr_pure rfl) rfl ?_
    refine TF.pure (pr_pure rfl) rfl ?_
    refine TF.pure (pr_indexArr rfl rfl (by omega) (by omega)) rfl ?_
    refine TF.loud ?_
    refine TL.storeG rfl rfl rfl rfl rfl (.there _ (.there _ (.here _))) (Nat.le_of_ble_eq_true (by kernel_rfl)) rfl ?_
    refine TF.back ?_
    refine TF.pure (pr_indexArr rfl rfl (by omega) (by omega)) rfl ?_
    refine TF.loud ?_
    refine TL.store1 rfl rfl rfl (.there _ (.here _)) rfl rfl ?_
    refine TF.back ?_
    refine TF.nil ?_
    refine TX.cls (C' := St [] w0 H H32_4 [(b14, [.int .i64 6, .int .i64 7, .int .i64 8, .int .i64 9, .int .i64 10, .int .i64 12]), (b6, [.int .i64 (numV 6 a b).2, .int .i64 (numV 7 a b).2, .int .i64 (numV 8 a b).2, .int .i64 (numV 9 a b).2, .int .i64 (numV 10 a b).2, .int .i64 0]), (b5, [.int .i64 (numV 6 a b).1.k, .int .i64 (numV 6 a b).1.n, gs (numV 6 a b).1.s, .slice la32_0 (numV 6 a b).1.l.length lc32_0, .int .i64 (numV 7 a b).1.k, .int .i64 (numV 7 a b).1.n, gs (numV 7 a b).1.s, .slice la32_1 (numV 7 a b).1.l.length lc32_1, .int .i64 (numV 8 a b).1.k, .int .i64 (numV 8 a b).1.n, gs (numV 8 a b).1.s, .slice la32_2 (numV 8 a b).1.l.length lc32_2, .int .i64 (numV 9 a b).1.k, .int .i64 (numV 9 a b).1.n, gs (numV 9 a b).1.s, .slice la32_3 (numV 9 a b).1.l.length lc32_3, .int .i64 (numV 10 a b).1.k, .int .i64 (numV 10 a b).1.n, gs (numV 10 a b).1.s, .slice la32_4 (numV 10 a b).1.l.length lc32_4, .int .i64 0, .int .i64 0, gs [], .slice none 0 0])]) (fun w hw => hw) ?_
    refine TX.blkN ?_
    refine TX.seqN ?_
    refine TC.region ?_
    refine TL.run (pr_pure rfl) rfl ?_
    refine TL.run (pr_add rfl rfl (by omega) (by omega)) rfl ?_
    refine TL.run (pr_pure rfl) rfl ?_
    refine TL.nil ?_
    refine TX.rnd ?_
    refine TR.succ ?_
    refine TC.seq ?_
    refine TC.seq ?_
    refine TC.region ?_
    refine TL.run (pr_pure rfl) rfl ?_
    refine TL.run (pr_pure rfl) rfl ?_
    refine TL.nil ?_
    refine TX.seqN ?_
    refine TC.condT rfl ?_
    refine TC.skip ?_
    refine TX.seqN ?_
    refine TC.seq ?_
    refine TC.block ?_
    refine TC.drawn (by kernel_rfl) (by kernel_rfl) ?_
    refine TD.leaf [(0, 1), (1, 1), (2, 1), (4, 1), (6, 1), (7, 1), (8, 1), (9, 2), (3, 3), (5, 3), (10, 3), (11, 3), (12, 3), (13, 1), (14, 1), (15, 1), (16, 1), (17, 0), (18, 1), (19, 0)] (by kernel_rfl) (by kernel_rfl) ?_
    refine TF.pure (pr_pure rfl) rfl ?_
    refine TF.pure (pr_pure rfl) rfl ?_
    refine TF.pure (pr_pure rfl) rfl ?_
    refine TF.pure (pr_pure rfl) rfl ?_
    refine TF.pure (pr_pure rfl) rfl ?_
    refine TF.pure (pr_pure rfl) rfl ?_
    refine TF.pure (pr_index rfl rfl (by omega) (by omega)) rfl ?_
    refine TF.still (pr_own1 rfl (.here _) rfl) rfl ?_
    refine TF.callS (enters rfl rfl rfl rfl) (num4_ok _) rfl ?_
    refine TF.callS (enters rfl rfl rfl rfl) (num4_ok _) rfl ?_
    refine TF.callS (enters rfl rfl rfl rfl) (two4_ok _ _ _) rfl ?_
    refine TF.bslice rfl rfl rfl rfl (fun b31 => ?_)
    refine TF.pub (by simp) (fun H_b31 le_b31 rd_b31 => ?_)
    have hT : RdSl H_b31 6 Term.cells _ ([numT a, numT b, twoT 12 0 1]) := RdSl.blk (cap := 3) rd_b31 (by intro x hx; rfl) (by kernel_rfl) (by show 3 ≤ 9223372036854775807; decide)
    clear rd_b31
    refine TF.call (enters rfl rfl rfl rfl) (Eval_ok 2 hT binds_nil EnvOk.nil lens_nil (by simp [numT, twoT])) rfl (fun v32_5 H32_5 hle32_5 hp32_5 => ?_)
    replace hp32_5 := hp32_5.eq (nums_eval 12 a b rfl)
    obtain ⟨lv32_5, rfl, hR32_5⟩ := hp32_5
    obtain ⟨la32_5, lc32_5, rfl⟩ := RdSl.len hR32_5
    refine TF.pure (pr_pure rfl) rfl ?_
    refine TF.pure (pr_pure rfl) rfl ?_
    refine TF.pure (pr_pure rfl) rfl ?_
    refine TF.pure (pr_indexArr rfl rfl (by omega) (by omega)) rfl ?_
    refine TF.loud ?_
    refine TL.storeG rfl rfl rfl rfl rfl (.there _ (.there _ (.here _))) (Nat.le_of_ble_eq_true (by kernel_rfl)) rfl ?_
    refine TF.back ?_
    refine TF.pure (pr_indexArr rfl rfl (by omega) (by omega)) rfl ?_
    refine TF.loud ?_
    refine TL.store1 rfl rfl rfl (.there _ (.here _)) rfl rfl ?_
    refine TF.back ?_
    refine TF.nil ?_
    refine TX.cls (C' := St [] w0 H H32_5 [(b14, [.int .i64 6, .int .i64 7, .int .i64 8, .int .i64 9, .int .i64 10, .int .i64 12]), (b6, [.int .i64 (numV 6 a b).2, .int .i64 (numV 7 a b).2, .int .i64 (numV 8 a b).2, .int .i64 (numV 9 a b).2, .int .i64 (numV 10 a b).2, .int .i64 (numV 12 a b).2]), (b5, [.int .i64 (numV 6 a b).1.k, .int .i64 (numV 6 a b).1.n, gs (numV 6 a b).1.s, .slice la32_0 (numV 6 a b).1.l.length lc32_0, .int .i64 (numV 7 a b).1.k, .int .i64 (numV 7 a b).1.n, gs (numV 7 a b).1.s, .slice la32_1 (numV 7 a b).1.l.length lc32_1, .int .i64 (numV 8 a b).1.k, .int .i64 (numV 8 a b).1.n, gs (numV 8 a b).1.s, .slice la32_2 (numV 8 a b).1.l.length lc32_2, .int .i64 (numV 9 a b).1.k, .int .i64 (numV 9 a b).1.n, gs (numV 9 a b).1.s, .slice la32_3 (numV 9 a b).1.l.length lc32_3, .int .i64 (numV 10 a b).1.k, .int .i64 (numV 10 a b).1.n, gs (numV 10 a b).1.s, .slice la32_4 (numV 10 a b).1.l.length lc32_4, .int .i64 (numV 12 a b).1.k, .int .i64 (numV 12 a b).1.n, gs (numV 12 a b).1.s, .slice la32_5 (numV 12 a b).1.l.length lc32_5])]) (fun w hw => hw) ?_
    refine TX.blkN ?_
    refine TX.seqN ?_
    refine TC.region ?_
    refine TL.run (pr_pure rfl) rfl ?_
    refine TL.run (pr_add rfl rfl (by omega) (by omega)) rfl ?_
    refine TL.run (pr_pure rfl) rfl ?_
    refine TL.nil ?_
    refine TX.rnd ?_
    refine TR.succ ?_
    refine TC.seq ?_
    refine TC.seq ?_
    refine TC.region ?_
    refine TL.run (pr_pure rfl) rfl ?_
    refine TL.run (pr_pure rfl) rfl ?_
    refine TL.nil ?_
    refine TX.seqN ?_
    refine TC.condF rfl ?_
    refine TC.exit ?_
    refine TX.thenE ?_
    refine TX.thenE ?_
    refine TX.blkHit ?_
    refine TX.seqN ?_
    refine TC.seq ?_
    refine TC.seq ?_
    refine TC.region ?_
    obtain ⟨n0, n1, n2, n5, z, nz⟩ := nums_facts a b
    refine TL.run (pr_indexArr rfl rfl (by omega) (by omega)) rfl ?_
    refine TL.run (pr_own1 rfl (.there _ (.here _)) rfl) rfl ?_
    refine TL.run (pr_pure rfl) rfl ?_
    refine TL.run (pr_pure rfl) rfl ?_
    refine TL.split (s := 40) rfl (fun g40 => ?_) (fun g40 => ?_)
    ·
      have q40 := of_ndec_true g40
      refine TL.gdN rfl rfl rfl rfl ?_
      refine TL.gdN rfl rfl rfl rfl ?_
      refine TL.gdN rfl rfl rfl rfl ?_
      refine TL.gdN rfl rfl rfl rfl ?_
      refine TL.gdN rfl rfl rfl rfl ?_
      refine TL.gdN rfl rfl rfl rfl ?_
      refine TL.gdN rfl rfl rfl rfl ?_
      refine TL.run (pr_pure rfl) rfl ?_
      refine TL.run (pr_pure rfl) rfl ?_
      refine TL.gdN rfl rfl rfl rfl ?_
      refine TL.gdN rfl rfl rfl rfl ?_
      refine TL.gdN rfl rfl rfl rfl ?_
      refine TL.run (pr_pure rfl) rfl ?_
      refine TL.run (pr_pure rfl) rfl ?_
      refine TL.gdN rfl rfl rfl rfl ?_
      refine TL.gdN rfl rfl rfl rfl ?_
      refine TL.gdN rfl rfl rfl rfl ?_
      refine TL.gdN rfl rfl rfl rfl ?_
      refine TL.gdN rfl rfl rfl rfl ?_
      refine TL.gdN rfl rfl rfl rfl ?_
      refine TL.gdN rfl rfl rfl rfl ?_
      refine TL.run (pr_pure rfl) rfl ?_
      refine TL.run (pr_pure rfl) rfl ?_
      refine TL.gdN rfl rfl rfl rfl ?_
      refine TL.gdN rfl rfl rfl rfl ?_
      refine TL.gdN rfl rfl rfl rfl ?_
      refine TL.run (pr_pure rfl) rfl ?_
      refine TL.run (pr_pure rfl) rfl ?_
      refine TL.gdN rfl rfl rfl rfl ?_
      refine TL.gdN rfl rfl rfl rfl ?_
      refine TL.gdN rfl rfl rfl rfl ?_
      refine TL.gdN rfl rfl rfl rfl ?_
      refine TL.gdN rfl rfl rfl rfl ?_
      refine TL.gdN rfl rfl rfl rfl ?_
      refine TL.gdN rfl rfl rfl rfl ?_
      refine TL.run (pr_pure rfl) rfl ?_
      refine TL.run (pr_pure rfl) rfl ?_
      refine TL.gdN rfl rfl rfl rfl ?_
      refine TL.gdN rfl rfl rfl rfl ?_
      refine TL.gdN rfl rfl rfl rfl ?_
      refine TL.run (pr_pure rfl) rfl ?_
      refine TL.run (pr_pure rfl) rfl ?_
      refine TL.gdN rfl rfl rfl rfl ?_
      refine TL.gdN rfl rfl rfl rfl ?_
      refine TL.gdN rfl rfl rfl rfl ?_
      refine TL.gdN rfl rfl rfl rfl ?_
      refine TL.run (pr_pure rfl) rfl ?_
      refine TL.run (pr_pure rfl) rfl ?_
      refine TL.gdN rfl rfl rfl rfl ?_
      refine TL.gdN rfl rfl rfl rfl ?_
      refine TL.gdN rfl rfl rfl rfl ?_
      refine TL.gdN rfl rfl rfl rfl ?_
      refine TL.gdN rfl rfl rfl rfl ?_
      refine TL.gdN rfl rfl rfl rfl ?_
      refine TL.gdN rfl rfl rfl rfl ?_
      refine TL.gdN rfl rfl rfl rfl ?_
      refine TL.run (pr_pure rfl) rfl ?_
      refine TL.nil ?_
      refine TX.seqN ?_
      refine TC.condT rfl ?_
      refine TC.seq ?_
      refine TC.region ?_
      refine TL.run (pr_pure rfl) rfl ?_
      refine TL.nil ?_
      refine TX.seqN ?_
      refine TC.ret ?_
      refine TX.thenR ?_
      exact TX.finS (.inr rfl) (results1 rfl (RVal.tmp rfl)) (congrArg Value.bool (by first | rfl | (simp only [z9, z10, s1] at *; simp_all; done) | (simp_all [truthV]; done) | (simp_all; omega)))
    ·
      have q40 := of_ndec_false g40
      refine TL.gdY rfl rfl (pr_indexArr rfl rfl (by omega) (by omega)) rfl ?_
      refine TL.gdY rfl rfl (pr_field rfl) rfl ?_
      refine TL.gdY rfl rfl (pr_own1 rfl (.there _ (.there _ (.here _))) rfl) rfl ?_
      refine TL.gdY rfl rfl (pr_pure rfl) rfl ?_
      refine TL.gdY rfl rfl (pr_pure rfl) rfl ?_
      refine TL.gdY rfl rfl ((by first | exact pr_add rfl rfl (by omega) (by omega) | exact pr_pure rfl)) rfl ?_
      refine TL.gdY rfl rfl (pr_pure rfl) rfl ?_
      refine TL.run (pr_pure rfl) rfl ?_
      refine TL.run (pr_pure rfl) rfl ?_
      refine TL.split (s := 49) rfl (fun g49 => ?_) (fun g49 => ?_)
      ·
        have q49 := of_ndec_true g49
        refine TL.gdN rfl rfl rfl rfl ?_
        refine TL.gdN rfl rfl rfl rfl ?_
        refine TL.gdN rfl rfl rfl rfl ?_
        refine TL.run (pr_pure rfl) rfl ?_
        refine TL.run (pr_pure rfl) rfl ?_
        refine TL.gdN rfl rfl rfl rfl ?_
        refine TL.gdN rfl rfl rfl rfl ?_
        refine TL.gdN rfl rfl rfl rfl ?_
        refine TL.gdN rfl rfl rfl rfl ?_
        refine TL.gdN rfl rfl rfl rfl ?_
        refine TL.gdN rfl rfl rfl rfl ?_
        refine TL.gdN rfl rfl rfl rfl ?_
        refine TL.run (pr_pure rfl) rfl ?_
        refine TL.run (pr_pure rfl) rfl ?_
        refine TL.gdN rfl rfl rfl rfl ?_
        refine TL.gdN rfl rfl rfl rfl ?_
        refine TL.gdN rfl rfl rfl rfl ?_
        refine TL.run (pr_pure rfl) rfl ?_
        refine TL.run (pr_pure rfl) rfl ?_
        refine TL.gdN rfl rfl rfl rfl ?_
        refine TL.gdN rfl rfl rfl rfl ?_
        refine TL.gdN rfl rfl rfl rfl ?_
        refine TL.gdN rfl rfl rfl rfl ?_
        refine TL.gdN rfl rfl rfl rfl ?_
        refine TL.gdN rfl rfl rfl rfl ?_
        refine TL.gdN rfl rfl rfl rfl ?_
        refine TL.run (pr_pure rfl) rfl ?_
        refine TL.run (pr_pure rfl) rfl ?_
        refine TL.gdN rfl rfl rfl rfl ?_
        refine TL.gdN rfl rfl rfl rfl ?_
        refine TL.gdN rfl rfl rfl rfl ?_
        refine TL.run (pr_pure rfl) rfl ?_
        refine TL.run (pr_pure rfl) rfl ?_
        refine TL.gdN rfl rfl rfl rfl ?_
        refine TL.gdN rfl rfl rfl rfl ?_
        refine TL.gdN rfl rfl rfl rfl ?_
        refine TL.gdN rfl rfl rfl rfl ?_
        refine TL.run (pr_pure rfl) rfl ?_
        refine TL.run (pr_pure rfl) rfl ?_
        refine TL.gdN rfl rfl rfl rfl ?_
        refine TL.gdN rfl rfl rfl rfl ?_
        refine TL.gdN rfl rfl rfl rfl ?_
        refine TL.gdN rfl rfl rfl rfl ?_
        refine TL.gdN rfl rfl rfl rfl ?_
        refine TL.gdN rfl rfl rfl rfl ?_
        refine TL.gdN rfl rfl rfl rfl ?_
        refine TL.gdN rfl rfl rfl rfl ?_
        refine TL.run (pr_pure rfl) rfl ?_
        refine TL.nil ?_
        refine TX.seqN ?_
        refine TC.condT rfl ?_
        refine TC.seq ?_
        refine TC.region ?_
        refine TL.run (pr_pure rfl) rfl ?_
        refine TL.nil ?_
        refine TX.seqN ?_
        refine TC.ret ?_
        refine TX.thenR ?_
        exact TX.finS (.inr rfl) (results1 rfl (RVal.tmp rfl)) (congrArg Value.bool (by first | rfl | (simp only [z9, z10, s1] at *; simp_all; done) | (simp_all [truthV]; done) | (simp_all; omega)))
      ·
        have q49 := of_ndec_false g49
        refine TL.gdY rfl rfl (pr_indexArr rfl rfl (by omega) (by omega)) rfl ?_
        refine TL.gdY rfl rfl (pr_own1 rfl (.there _ (.here _)) rfl) rfl ?_
        refine TL.gdY rfl rfl (pr_pure rfl) rfl ?_
        refine TL.run (pr_pure rfl) rfl ?_
        refine TL.run (pr_pure rfl) rfl ?_
        refine TL.split (s := 54) rfl (fun g54 => ?_) (fun g54 => ?_)
        ·
          have q54 := of_ndec_true g54
          refine TL.gdN rfl rfl rfl rfl ?_
          refine TL.gdN rfl rfl rfl rfl ?_
          refine TL.gdN rfl rfl rfl rfl ?_
          refine TL.gdN rfl rfl rfl rfl ?_
          refine TL.gdN rfl rfl rfl rfl ?_
          refine TL.gdN rfl rfl rfl rfl ?_
          refine TL.gdN rfl rfl rfl rfl ?_
          refine TL.run (pr_pure rfl) rfl ?_
          refine TL.run (pr_pure rfl) rfl ?_
          refine TL.gdN rfl rfl rfl rfl ?_
          refine TL.gdN rfl rfl rfl rfl ?_
          refine TL.gdN rfl rfl rfl rfl ?_
          refine TL.run (pr_pure rfl) rfl ?_
          refine TL.run (pr_pure rfl) rfl ?_
          refine TL.gdN rfl rfl rfl rfl ?_
          refine TL.gdN rfl rfl rfl rfl ?_
          refine TL.gdN rfl rfl rfl rfl ?_
          refine TL.gdN rfl rfl rfl rfl ?_
          refine TL.gdN rfl rfl rfl rfl ?_
          refine TL.gdN rfl rfl rfl rfl ?_
          refine TL.gdN rfl rfl rfl rfl ?_
          refine TL.run (pr_pure rfl) rfl ?_
          refine TL.run (pr_pure rfl) rfl ?_
          refine TL.gdN rfl rfl rfl rfl ?_
          refine TL.gdN rfl rfl rfl rfl ?_
          refine TL.gdN rfl rfl rfl rfl ?_
          refine TL.run (pr_pure rfl) rfl ?_
          refine TL.run (pr_pure rfl) rfl ?_
          refine TL.gdN rfl rfl rfl rfl ?_
          refine TL.gdN rfl rfl rfl rfl ?_
          refine TL.gdN rfl rfl rfl rfl ?_
          refine TL.gdN rfl rfl rfl rfl ?_
          refine TL.run (pr_pure rfl) rfl ?_
          refine TL.run (pr_pure rfl) rfl ?_
          refine TL.gdN rfl rfl rfl rfl ?_
          refine TL.gdN rfl rfl rfl rfl ?_
          refine TL.gdN rfl rfl rfl rfl ?_
          refine TL.gdN rfl rfl rfl rfl ?_
          refine TL.gdN rfl rfl rfl rfl ?_
          refine TL.gdN rfl rfl rfl rfl ?_
          refine TL.gdN rfl rfl rfl rfl ?_
          refine TL.gdN rfl rfl rfl rfl ?_
          refine TL.run (pr_pure rfl) rfl ?_
          refine TL.nil ?_
          refine TX.seqN ?_
          refine TC.condT rfl ?_
          refine TC.seq ?_
          refine TC.region ?_
          refine TL.run (pr_pure rfl) rfl ?_
          refine TL.nil ?_
          refine TX.seqN ?_
          refine TC.ret ?_
          refine TX.thenR ?_
          exact TX.finS (.inr rfl) (results1 rfl (RVal.tmp rfl)) (congrArg Value.bool (by first | rfl | (simp only [z9, z10, s1] at *; simp_all; done) | (simp_all [truthV]; done) | (simp_all; omega)))
        ·
          have q54 := of_ndec_false g54
          refine TL.gdY rfl rfl (pr_indexArr rfl rfl (by omega) (by omega)) rfl ?_
          refine TL.gdY rfl rfl (pr_field rfl) rfl ?_
          refine TL.gdY rfl rfl (pr_own1 rfl (.there _ (.there _ (.here _))) rfl) rfl ?_
          refine TL.gdY rfl rfl (pr_pure rfl) rfl ?_
          refine TL.gdY rfl rfl (pr_pure rfl) rfl ?_
          refine TL.gdY rfl rfl ((by first | exact pr_sub rfl rfl (by omega) (by omega) | exact pr_pure rfl)) rfl ?_
          refine TL.gdY rfl rfl (pr_pure rfl) rfl ?_
          refine TL.run (pr_pure rfl) rfl ?_
          refine TL.run (pr_pure rfl) rfl ?_
          refine TL.split (s := 63) rfl (fun g63 => ?_) (fun g63 => ?_)
          ·
            have q63 := of_ndec_true g63
            refine TL.gdN rfl rfl rfl rfl ?_
            refine TL.gdN rfl rfl rfl rfl ?_
            refine TL.gdN rfl rfl rfl rfl ?_
            refine TL.run (pr_pure rfl) rfl ?_
            refine TL.run (pr_pure rfl) rfl ?_
            refine TL.gdN rfl rfl rfl rfl ?_
            refine TL.gdN rfl rfl rfl rfl ?_
            refine TL.gdN rfl rfl rfl rfl ?_
            refine TL.gdN rfl rfl rfl rfl ?_
            refine TL.gdN rfl rfl rfl rfl ?_
            refine TL.gdN rfl rfl rfl rfl ?_
            refine TL.gdN rfl rfl rfl rfl ?_
            refine TL.run (pr_pure rfl) rfl ?_
            refine TL.run (pr_pure rfl) rfl ?_
            refine TL.gdN rfl rfl rfl rfl ?_
            refine TL.gdN rfl rfl rfl rfl ?_
            refine TL.gdN rfl rfl rfl rfl ?_
            refine TL.run (pr_pure rfl) rfl ?_
            refine TL.run (pr_pure rfl) rfl ?_
            refine TL.gdN rfl rfl rfl rfl ?_
            refine TL.gdN rfl rfl rfl rfl ?_
            refine TL.gdN rfl rfl rfl rfl ?_
            refine TL.gdN rfl rfl rfl rfl ?_
            refine TL.run (pr_pure rfl) rfl ?_
            refine TL.run (pr_pure rfl) rfl ?_
            refine TL.gdN rfl rfl rfl rfl ?_
            refine TL.gdN rfl rfl rfl rfl ?_
            refine TL.gdN rfl rfl rfl rfl ?_
            refine TL.gdN rfl rfl rfl rfl ?_
            refine TL.gdN rfl rfl rfl rfl ?_
            refine TL.gdN rfl rfl rfl rfl ?_
            refine TL.gdN rfl rfl rfl rfl ?_
            refine TL.gdN rfl rfl rfl rfl ?_
            refine TL.run (pr_pure rfl) rfl ?_
            refine TL.nil ?_
            refine TX.seqN ?_
            refine TC.condT rfl ?_
            refine TC.seq ?_
            refine TC.region ?_
            refine TL.run (pr_pure rfl) rfl ?_
            refine TL.nil ?_
            refine TX.seqN ?_
            refine TC.ret ?_
            refine TX.thenR ?_
            exact TX.finS (.inr rfl) (results1 rfl (RVal.tmp rfl)) (congrArg Value.bool (by first | rfl | (simp only [z9, z10, s1] at *; simp_all; done) | (simp_all [truthV]; done) | (simp_all; omega)))
          ·
            have q63 := of_ndec_false g63
            refine TL.gdY rfl rfl (pr_indexArr rfl rfl (by omega) (by omega)) rfl ?_
            refine TL.gdY rfl rfl (pr_own1 rfl (.there _ (.here _)) rfl) rfl ?_
            refine TL.gdY rfl rfl (pr_pure rfl) rfl ?_
            refine TL.run (pr_pure rfl) rfl ?_
            refine TL.run (pr_pure rfl) rfl ?_
            refine TL.split (s := 68) rfl (fun g68 => ?_) (fun g68 => ?_)
            ·
              have q68 := of_ndec_true g68
              refine TL.gdN rfl rfl rfl rfl ?_
              refine TL.gdN rfl rfl rfl rfl ?_
              refine TL.gdN rfl rfl rfl rfl ?_
              refine TL.gdN rfl rfl rfl rfl ?_
              refine TL.gdN rfl rfl rfl rfl ?_
              refine TL.gdN rfl rfl rfl rfl ?_
              refine TL.gdN rfl rfl rfl rfl ?_
              refine TL.run (pr_pure rfl) rfl ?_
              refine TL.run (pr_pure rfl) rfl ?_
              refine TL.gdN rfl rfl rfl rfl ?_
              refine TL.gdN rfl rfl rfl rfl ?_
              refine TL.gdN rfl rfl rfl rfl ?_
              refine TL.run (pr_pure rfl) rfl ?_
              refine TL.run (pr_pure rfl) rfl ?_
              refine TL.gdN rfl rfl rfl rfl ?_
              refine TL.gdN rfl rfl rfl rfl ?_
              refine TL.gdN rfl rfl rfl rfl ?_
              refine TL.gdN rfl rfl rfl rfl ?_
              refine TL.run (pr_pure rfl) rfl ?_
              refine TL.run (pr_pure rfl) rfl ?_
              refine TL.gdN rfl rfl rfl rfl ?_
              refine TL.gdN rfl rfl rfl rfl ?_
              refine TL.gdN rfl rfl rfl rfl ?_
              refine TL.gdN rfl rfl rfl rfl ?_
              refine TL.gdN rfl rfl rfl rfl ?_
              refine TL.gdN rfl rfl rfl rfl ?_
              refine TL.gdN rfl rfl rfl rfl ?_
              refine TL.gdN rfl rfl rfl rfl ?_
              refine TL.run (pr_pure rfl) rfl ?_
              refine TL.nil ?_
              refine TX.seqN ?_
              refine TC.condT rfl ?_
              refine TC.seq ?_
              refine TC.region ?_
              refine TL.run (pr_pure rfl) rfl ?_
              refine TL.nil ?_
              refine TX.seqN ?_
              refine TC.ret ?_
              refine TX.thenR ?_
              exact TX.finS (.inr rfl) (results1 rfl (RVal.tmp rfl)) (congrArg Value.bool (by first | rfl | (simp only [z9, z10, s1] at *; simp_all; done) | (simp_all [truthV]; done) | (simp_all; omega)))
            ·
              have q68 := of_ndec_false g68
              refine TL.gdY rfl rfl (pr_indexArr rfl rfl (by omega) (by omega)) rfl ?_
              refine TL.gdY rfl rfl (pr_field rfl) rfl ?_
              refine TL.gdY rfl rfl (pr_own1 rfl (.there _ (.there _ (.here _))) rfl) rfl ?_
              refine TL.gdY rfl rfl (pr_pure rfl) rfl ?_
              refine TL.gdY rfl rfl (pr_pure rfl) rfl ?_
              refine TL.gdY rfl rfl ((by first | exact pr_mul rfl rfl (by omega) (by omega) | exact pr_pure rfl)) rfl ?_
              refine TL.gdY rfl rfl (pr_pure rfl) rfl ?_
              refine TL.run (pr_pure rfl) rfl ?_
              refine TL.run (pr_pure rfl) rfl ?_
              refine TL.split (s := 77) rfl (fun g77 => ?_) (fun g77 => ?_)
              ·
                have q77 := of_ndec_true g77
                refine TL.gdN rfl rfl rfl rfl ?_
                refine TL.gdN rfl rfl rfl rfl ?_
                refine TL.gdN rfl rfl rfl rfl ?_
                refine TL.run (pr_pure rfl) rfl ?_
                refine TL.run (pr_pure rfl) rfl ?_
                refine TL.gdN rfl rfl rfl rfl ?_
                refine TL.gdN rfl rfl rfl rfl ?_
                refine TL.gdN rfl rfl rfl rfl ?_
                refine TL.gdN rfl rfl rfl rfl ?_
                refine TL.run (pr_pure rfl) rfl ?_
                refine TL.run (pr_pure rfl) rfl ?_
                refine TL.gdN rfl rfl rfl rfl ?_
                refine TL.gdN rfl rfl rfl rfl ?_
                refine TL.gdN rfl rfl rfl rfl ?_
                refine TL.gdN rfl rfl rfl rfl ?_
                refine TL.gdN rfl rfl rfl rfl ?_
                refine TL.gdN rfl rfl rfl rfl ?_
                refine TL.gdN rfl rfl rfl rfl ?_
                refine TL.gdN rfl rfl rfl rfl ?_
                refine TL.run (pr_pure rfl) rfl ?_
                refine TL.nil ?_
                refine TX.seqN ?_
                refine TC.condT rfl ?_
                refine TC.seq ?_
                refine TC.region ?_
                refine TL.run (pr_pure rfl) rfl ?_
                refine TL.nil ?_
                refine TX.seqN ?_
                refine TC.ret ?_
                refine TX.thenR ?_
                exact TX.finS (.inr rfl) (results1 rfl (RVal.tmp rfl)) (congrArg Value.bool (by first | rfl | (simp only [z9, z10, s1] at *; simp_all; done) | (simp_all [truthV]; done) | (simp_all; omega)))
              ·
                have q77 := of_ndec_false g77
                refine TL.gdY rfl rfl (pr_indexArr rfl rfl (by omega) (by omega)) rfl ?_
                refine TL.gdY rfl rfl (pr_own1 rfl (.there _ (.here _)) rfl) rfl ?_
                refine TL.gdY rfl rfl (pr_pure rfl) rfl ?_
                refine TL.run (pr_pure rfl) rfl ?_
                refine TL.run (pr_pure rfl) rfl ?_
                refine TL.split (s := 82) rfl (fun g82 => ?_) (fun g82 => ?_)
                ·
                  have q82 := of_ndec_true g82
                  refine TL.gdN rfl rfl rfl rfl ?_
                  refine TL.gdN rfl rfl rfl rfl ?_
                  refine TL.gdN rfl rfl rfl rfl ?_
                  refine TL.gdN rfl rfl rfl rfl ?_
                  refine TL.run (pr_pure rfl) rfl ?_
                  refine TL.run (pr_pure rfl) rfl ?_
                  refine TL.gdN rfl rfl rfl rfl ?_
                  refine TL.gdN rfl rfl rfl rfl ?_
                  refine TL.gdN rfl rfl rfl rfl ?_
                  refine TL.gdN rfl rfl rfl rfl ?_
                  refine TL.gdN rfl rfl rfl rfl ?_
                  refine TL.gdN rfl rfl rfl rfl ?_
                  refine TL.gdN rfl rfl rfl rfl ?_
                  refine TL.gdN rfl rfl rfl rfl ?_
                  refine TL.run (pr_pure rfl) rfl ?_
                  refine TL.nil ?_
                  refine TX.seqN ?_
                  refine TC.condT rfl ?_
                  refine TC.seq ?_
                  refine TC.region ?_
                  refine TL.run (pr_pure rfl) rfl ?_
                  refine TL.nil ?_
                  refine TX.seqN ?_
                  refine TC.ret ?_
                  refine TX.thenR ?_
                  exact TX.finS (.inr rfl) (results1 rfl (RVal.tmp rfl)) (congrArg Value.bool (by first | rfl | (simp only [z9, z10, s1] at *; simp_all; done) | (simp_all [truthV]; done) | (simp_all; omega)))
                ·
                  have q82 := of_ndec_false g82
                  refine TL.gdY rfl rfl (pr_indexArr rfl rfl (by omega) (by omega)) rfl ?_
                  refine TL.gdY rfl rfl (pr_field rfl) rfl ?_
                  refine TL.gdY rfl rfl (pr_own1 rfl (.there _ (.there _ (.here _))) rfl) rfl ?_
                  refine TL.gdY rfl rfl (pr_pure rfl) rfl ?_
                  refine TL.run (pr_pure rfl) rfl ?_
                  refine TL.run (pr_pure rfl) rfl ?_
                  refine TL.split (s := 88) rfl (fun g88 => ?_) (fun g88 => ?_)
                  ·
                    have q88 := of_ndec_true g88
                    refine TL.gdN rfl rfl rfl rfl ?_
                    refine TL.gdN rfl rfl rfl rfl ?_
                    refine TL.gdN rfl rfl rfl rfl ?_
                    refine TL.gdN rfl rfl rfl rfl ?_
                    refine TL.gdN rfl rfl rfl rfl ?_
                    refine TL.gdN rfl rfl rfl rfl ?_
                    refine TL.gdN rfl rfl rfl rfl ?_
                    refine TL.gdN rfl rfl rfl rfl ?_
                    refine TL.run (pr_pure rfl) rfl ?_
                    refine TL.nil ?_
                    refine TX.seqN ?_
                    refine TC.condT rfl ?_
                    refine TC.seq ?_
                    refine TC.region ?_
                    refine TL.run (pr_pure rfl) rfl ?_
                    refine TL.nil ?_
                    refine TX.seqN ?_
                    refine TC.ret ?_
                    refine TX.thenR ?_
                    exact TX.finS (.inr rfl) (results1 rfl (RVal.tmp rfl)) (congrArg Value.bool (by first | rfl | (simp only [z9, z10, s1] at *; simp_all; done) | (simp_all [truthV]; done) | (simp_all; omega)))
                  ·
                    have q88 := of_ndec_false g88
                    refine TL.gdY rfl rfl (pr_indexArr rfl rfl (by omega) (by omega)) rfl ?_
                    refine TL.gdY rfl rfl (pr_field rfl) rfl ?_
                    refine TL.gdY rfl rfl (pr_own1 rfl (.there _ (.there _ (.here _))) rfl) rfl ?_
                    refine TL.gdY rfl rfl (pr_pure rfl) rfl ?_
                    refine TL.gdY rfl rfl (pr_pure rfl) rfl ?_
                    refine TL.gdY rfl rfl (pr_pure rfl) rfl ?_
                    refine TL.gdY rfl rfl (pr_pure rfl) rfl ?_
                    refine TL.gdY rfl rfl (pr_bool rfl rfl rfl) rfl ?_
                    refine TL.run (pr_pure rfl) rfl ?_
                    refine TL.nil ?_
                    refine TX.seqN ?_
                    refine TC.condND rfl (fun c97 => ?_) (fun c97 => ?_)
                    ·
                      exact absurd c97 (by simp [n0, n1, n2, n5, truthV])
                    ·
                      refine TC.skip ?_
                      refine TX.seqN ?_
                      refine TC.seq ?_
                      refine TC.seq ?_
                      refine TC.region ?_
                      refine TL.run (pr_pure rfl) rfl ?_
                      refine TL.run (pr_pure rfl) rfl ?_
                      refine TL.nil ?_
                      refine TX.seqN ?_
                      refine TC.condD rfl (fun c99 => ?_) (fun c99 => ?_)
                      ·
                        refine TC.seq ?_
                        refine TC.region ?_
                        refine TL.run (pr_indexArr rfl rfl (by omega) (by omega)) rfl ?_
                        refine TL.run (pr_own1 rfl (.there _ (.here _)) rfl) rfl ?_
                        refine TL.run (pr_pure rfl) rfl ?_
                        refine TL.run (pr_pure rfl) rfl ?_
                        refine TL.split (s := 103) rfl (fun g103 => ?_) (fun g103 => ?_)
                        ·
                          have q103 := of_decide_eq_true g103
                          refine TL.gdY rfl rfl (pr_indexArr rfl rfl (by omega) (by omega)) rfl ?_
                          refine TL.gdY rfl rfl (pr_own1 rfl (.there _ (.here _)) rfl) rfl ?_
                          refine TL.gdY rfl rfl (pr_pure rfl) rfl ?_
                          refine TL.run (pr_pure rfl) rfl ?_
                          refine TL.run (pr_pure rfl) rfl ?_
                          refine TL.nil ?_
                          refine TX.seqN ?_
                          refine TC.ret ?_
                          refine TX.thenR ?_
                          exact TX.finS (.inr rfl) (results1 rfl (RVal.tmp rfl)) (congrArg Value.bool (by first | rfl | (simp only [z9, z10, s1] at *; simp_all; done) | (simp_all [truthV]; done) | (simp_all; omega)))
                        ·
                          have q103 := of_decide_eq_false g103
                          refine TL.gdN rfl rfl rfl rfl ?_
                          refine TL.gdN rfl rfl rfl rfl ?_
                          refine TL.gdN rfl rfl rfl rfl ?_
                          refine TL.run (pr_pure rfl) rfl ?_
                          refine TL.run (pr_pure rfl) rfl ?_
                          refine TL.nil ?_
                          refine TX.seqN ?_
                          refine TC.ret ?_
                          refine TX.thenR ?_
                          exact TX.finS (.inr rfl) (results1 rfl (RVal.tmp rfl)) (congrArg Value.bool (by first | rfl | (simp only [z9, z10, s1] at *; simp_all; done) | (simp_all [truthV]; done) | (simp_all; omega)))
                      ·
                        refine TC.skip ?_
                        refine TX.seqN ?_
                        refine TC.seq ?_
                        refine TC.quiet (by kernel_rfl) (by kernel_rfl) ?_
                        have hz := nz c99
                        obtain ⟨s1, s2, s3, s4, s5, s6⟩ := nums_small a b ⟨ra1, ra2⟩ ⟨rb1, rb2⟩ c99
                        obtain ⟨z9, z10⟩ := hz
                        replace z9 : numV 9 a b = (⟨1, IntKind.i64.wrap (a.tdiv b), [], []⟩, 0) := z9
                        refine TQ.run (pr_indexArr rfl rfl (by omega) (by omega)) rfl ?_
                        refine TQ.run (pr_field rfl) rfl ?_
                        refine TQ.run (pr_own1 rfl (.there _ (.there _ (.here _))) rfl) rfl ?_
                        refine TQ.run (pr_indexArr rfl rfl (by omega) (by omega)) rfl ?_
                        refine TQ.run (pr_field rfl) rfl ?_
                        refine TQ.run (pr_own1 rfl (.there _ (.there _ (.here _))) rfl) rfl ?_
                        refine TQ.run (pr_pure rfl) rfl ?_
                        refine TQ.run (pr_pure rfl) rfl ?_
                        refine TQ.nil ?_
                        refine TX.seqN ?_
                        refine TC.sw true 11 [(0, _), (1, _), (4, _), (6, _), (9, _), (10, _)] ⟨rfl, rfl, rfl, rfl, rfl, rfl, trivial⟩ ?_ ?_
                        ·
                          refine TC.region ?_
                          refine TL.run (pr_pure rfl) rfl ?_
                          refine TL.run (pr_pure rfl) rfl ?_
                          refine TL.run (pr_pure rfl) rfl ?_
                          refine TL.split (s := 116) rfl (fun g116 => ?_) (fun g116 => ?_)
                          ·
                            have q116 := of_decide_eq_true g116
                            refine TL.gdY rfl rfl (pr_pure rfl) rfl ?_
                            refine TL.gdY rfl rfl (pr_pure rfl) rfl ?_
                            refine TL.gdY rfl rfl (pr_pure rfl) rfl ?_
                            refine TL.split (s := 119) rfl (fun g119 => ?_) (fun g119 => ?_)
                            ·
                              have q119 := of_decide_eq_true g119
                              refine TL.gdY rfl rfl (pr_pure rfl) rfl ?_
                              refine TL.gdY rfl rfl (pr_pure rfl) rfl ?_
                              refine TL.gdY rfl rfl (pr_pure rfl) rfl ?_
                              refine TL.gdY rfl rfl (pr_pure rfl) rfl ?_
                              refine TL.gdY rfl rfl (pr_pure rfl) rfl ?_
                              refine TL.split (s := 124) rfl (fun g124 => ?_) (fun g124 => ?_)
                              ·
                                have q124 := of_decide_eq_true g124
                                refine TL.gdN rfl rfl rfl rfl ?_
                                refine TL.gdN rfl rfl rfl rfl ?_
                                refine TL.gdN rfl rfl rfl rfl ?_
                                refine TL.gdU rfl rfl rfl ?_
                                refine TL.gdU rfl rfl rfl ?_
                                refine TL.gdU rfl rfl rfl ?_
                                refine TL.gdU rfl rfl rfl ?_
                                refine TL.gdU rfl rfl rfl ?_
                                refine TL.gdN rfl rfl rfl rfl ?_
                                refine TL.gdY rfl rfl (pr_pure rfl) rfl ?_
                                refine TL.run (pr_pure rfl) rfl ?_
                                refine TL.run (pr_pure rfl) rfl ?_
                                refine TL.gdN rfl rfl rfl rfl ?_
                                refine TL.gdN rfl rfl rfl rfl ?_
                                refine TL.gdN rfl rfl rfl rfl ?_
                                refine TL.gdU rfl rfl rfl ?_
                                refine TL.gdU rfl rfl rfl ?_
                                refine TL.gdU rfl rfl rfl ?_
                                refine TL.gdU rfl rfl rfl ?_
                                refine TL.gdU rfl rfl rfl ?_
                                refine TL.gdU rfl rfl rfl ?_
                                refine TL.gdU rfl rfl rfl ?_
                                refine TL.gdU rfl rfl rfl ?_
                                refine TL.gdU rfl rfl rfl ?_
                                refine TL.gdU rfl rfl rfl ?_
                                refine TL.gdU rfl rfl rfl ?_
                                refine TL.gdU rfl rfl rfl ?_
                                refine TL.gdU rfl rfl rfl ?_
                                refine TL.gdU rfl rfl rfl ?_
                                refine TL.gdU rfl rfl rfl ?_
                                refine TL.gdU rfl rfl rfl ?_
                                refine TL.gdU rfl rfl rfl ?_
                                refine TL.gdN rfl rfl rfl rfl ?_
                                refine TL.run (pr_pure rfl) rfl ?_
                                refine TL.run (pr_pure rfl) rfl ?_
                                refine TL.nil ?_
                                exact TX.sw rfl (by first | rfl | (exfalso; simp only [z9, z10] at *; omega) | (simp only [z9, z10] at *; simp; done) | (simp only [z9, z10] at *; simp; omega) | (simp only [z9, z10] at *; simp_all; done) | (simp only [z9, z10] at *; simp_all; omega)) ⟨rfl, rfl, rfl, rfl, rfl, rfl, trivial⟩
                              ·
                                have q124 := of_decide_eq_false g124
                                refine TL.gdY rfl rfl (pr_pure rfl) rfl ?_
                                refine TL.gdY rfl rfl (pr_pure rfl) rfl ?_
                                refine TL.gdY rfl rfl (pr_pure rfl) rfl ?_
                                refine TL.split (s := 127) rfl (fun g127 => ?_) (fun g127 => ?_)
                                ·
                                  have q127 := of_decide_eq_true g127
                                  refine TL.gdY rfl rfl (pr_pure rfl) rfl ?_
                                  refine TL.gdY rfl rfl (pr_pure rfl) rfl ?_
                                  refine TL.gdY rfl rfl ((by first | exact pr_add rfl rfl (by omega) (by omega) | exact pr_pure rfl)) rfl ?_
                                  refine TL.gdY rfl rfl (pr_pure rfl) rfl ?_
                                  refine TL.gdY rfl rfl (pr_pure rfl) rfl ?_
                                  refine TL.gdY rfl rfl (pr_pure rfl) rfl ?_
                                  refine TL.gdY rfl rfl (pr_pure rfl) rfl ?_
                                  refine TL.run (pr_pure rfl) rfl ?_
                                  refine TL.run (pr_pure rfl) rfl ?_
                                  refine TL.split (s := 136) rfl (fun g136 => ?_) (fun g136 => ?_)
                                  ·
                                    have q136 := of_decide_eq_true g136
                                    refine TL.gdN rfl rfl rfl rfl ?_
                                    refine TL.gdN rfl rfl rfl rfl ?_
                                    refine TL.gdN rfl rfl rfl rfl ?_
                                    refine TL.gdU rfl rfl rfl ?_
                                    refine TL.gdU rfl rfl rfl ?_
                                    refine TL.gdU rfl rfl rfl ?_
                                    refine TL.gdU rfl rfl rfl ?_
                                    refine TL.gdU rfl rfl rfl ?_
                                    refine TL.gdU rfl rfl rfl ?_
                                    refine TL.gdU rfl rfl rfl ?_
                                    refine TL.gdU rfl rfl rfl ?_
                                    refine TL.gdU rfl rfl rfl ?_
                                    refine TL.gdU rfl rfl rfl ?_
                                    refine TL.gdU rfl rfl rfl ?_
                                    refine TL.gdU rfl rfl rfl ?_
                                    refine TL.gdU rfl rfl rfl ?_
                                    refine TL.gdU rfl rfl rfl ?_
                                    refine TL.gdU rfl rfl rfl ?_
                                    refine TL.gdU rfl rfl rfl ?_
                                    refine TL.gdU rfl rfl rfl ?_
                                    refine TL.gdN rfl rfl rfl rfl ?_
                                    refine TL.run (pr_pure rfl) rfl ?_
                                    refine TL.run (pr_pure rfl) rfl ?_
                                    refine TL.nil ?_
                                    exact TX.sw rfl (by first | rfl | (exfalso; simp only [z9, z10] at *; omega) | (simp only [z9, z10] at *; simp; done) | (simp only [z9, z10] at *; simp; omega) | (simp only [z9, z10] at *; simp_all; done) | (simp only [z9, z10] at *; simp_all; omega)) ⟨rfl, rfl, rfl, rfl, rfl, rfl, trivial⟩
                                  ·
                                    have q136 := of_decide_eq_false g136
                                    refine TL.gdY rfl rfl (pr_pure rfl) rfl ?_
                                    refine TL.gdY rfl rfl (pr_pure rfl) rfl ?_
                                    refine TL.gdY rfl rfl (pr_pure rfl) rfl ?_
                                    refine TL.split (s := 139) rfl (fun g139 => ?_) (fun g139 => ?_)
                                    ·
                                      have q139 := of_decide_eq_true g139
                                      refine TL.gdY rfl rfl (pr_pure rfl) rfl ?_
                                      refine TL.gdY rfl rfl (pr_pure rfl) rfl ?_
                                      refine TL.gdY rfl rfl (pr_pure rfl) rfl ?_
                                      refine TL.split (s := 142) rfl (fun g142 => ?_) (fun g142 => ?_)
                                      ·
                                        have q142 := of_decide_eq_true g142
                                        refine TL.gdY rfl rfl (pr_pure rfl) rfl ?_
                                        refine TL.gdY rfl rfl (pr_pure rfl) rfl ?_
                                        refine TL.gdY rfl rfl (pr_pure rfl) rfl ?_
                                        refine TL.gdY rfl rfl (pr_pure rfl) rfl ?_
                                        refine TL.gdY rfl rfl (pr_pure rfl) rfl ?_
                                        refine TL.gdY rfl rfl (pr_pure rfl) rfl ?_
                                        refine TL.split (s := 148) rfl (fun g148 => ?_) (fun g148 => ?_)
                                        ·
                                          have q148 := of_decide_eq_true g148
                                          refine TL.gdN rfl rfl rfl rfl ?_
                                          refine TL.gdN rfl rfl rfl rfl ?_
                                          refine TL.gdN rfl rfl rfl rfl ?_
                                          refine TL.gdU rfl rfl rfl ?_
                                          refine TL.gdU rfl rfl rfl ?_
                                          refine TL.gdU rfl rfl rfl ?_
                                          refine TL.gdN rfl rfl rfl rfl ?_
                                          refine TL.gdY rfl rfl (pr_pure rfl) rfl ?_
                                          refine TL.gdY rfl rfl (pr_pure rfl) rfl ?_
                                          refine TL.run (pr_pure rfl) rfl ?_
                                          refine TL.run (pr_pure rfl) rfl ?_
                                          refine TL.nil ?_
                                          exact TX.sw rfl (by first | rfl | (exfalso; simp only [z9, z10] at *; omega) | (simp only [z9, z10] at *; simp; done) | (simp only [z9, z10] at *; simp; omega) | (simp only [z9, z10] at *; simp_all; done) | (simp only [z9, z10] at *; simp_all; omega)) ⟨rfl, rfl, rfl, rfl, rfl, rfl, trivial⟩
                                        ·
                                          have q148 := of_decide_eq_false g148
                                          refine TL.gdY rfl rfl (pr_pure rfl) rfl ?_
                                          refine TL.gdY rfl rfl (pr_pure rfl) rfl ?_
                                          refine TL.gdY rfl rfl (pr_pure rfl) rfl ?_
                                          refine TL.split (s := 151) rfl (fun g151 => ?_) (fun g151 => ?_)
                                          ·
                                            have q151 := of_decide_eq_true g151
                                            refine TL.gdY rfl rfl (pr_pure rfl) rfl ?_
                                            refine TL.gdY rfl rfl (pr_pure rfl) rfl ?_
                                            refine TL.gdY rfl rfl (pr_pure rfl) rfl ?_
                                            refine TL.gdY rfl rfl (pr_pure rfl) rfl ?_
                                            refine TL.gdY rfl rfl (pr_pure rfl) rfl ?_
                                            refine TL.gdY rfl rfl (pr_pure rfl) rfl ?_
                                            refine TL.run (pr_pure rfl) rfl ?_
                                            refine TL.run (pr_pure rfl) rfl ?_
                                            refine TL.nil ?_
                                            exact TX.sw rfl (by first | rfl | (exfalso; simp only [z9, z10] at *; omega) | (simp only [z9, z10] at *; simp; done) | (simp only [z9, z10] at *; simp; omega) | (simp only [z9, z10] at *; simp_all; done) | (simp only [z9, z10] at *; simp_all; omega)) ⟨rfl, rfl, rfl, rfl, rfl, rfl, trivial⟩
                                          ·
                                            have q151 := of_decide_eq_false g151
                                            refine TL.gdN rfl rfl rfl rfl ?_
                                            refine TL.gdN rfl rfl rfl rfl ?_
                                            refine TL.gdN rfl rfl rfl rfl ?_
                                            refine TL.gdY rfl rfl (pr_pure rfl) rfl ?_
                                            refine TL.gdY rfl rfl (pr_pure rfl) rfl ?_
                                            refine TL.gdY rfl rfl (pr_pure rfl) rfl ?_
                                            refine TL.run (pr_pure rfl) rfl ?_
                                            refine TL.run (pr_pure rfl) rfl ?_
                                            refine TL.nil ?_
                                            exact TX.sw rfl (by first | rfl | (exfalso; simp only [z9, z10] at *; omega) | (simp only [z9, z10] at *; simp; done) | (simp only [z9, z10] at *; simp; omega) | (simp only [z9, z10] at *; simp_all; done) | (simp only [z9, z10] at *; simp_all; omega)) ⟨rfl, rfl, rfl, rfl, rfl, rfl, trivial⟩
                                      ·
                                        have q142 := of_decide_eq_false g142
                                        refine TL.gdN rfl rfl rfl rfl ?_
                                        refine TL.gdN rfl rfl rfl rfl ?_
                                        refine TL.gdN rfl rfl rfl rfl ?_
                                        refine TL.gdN rfl rfl rfl rfl ?_
                                        refine TL.gdY rfl rfl (pr_pure rfl) rfl ?_
                                        refine TL.gdY rfl rfl (pr_pure rfl) rfl ?_
                                        refine TL.gdY rfl rfl (pr_pure rfl) rfl ?_
                                        refine TL.gdY rfl rfl (pr_pure rfl) rfl ?_
                                        refine TL.gdY rfl rfl (pr_pure rfl) rfl ?_
                                        refine TL.split (s := 151) rfl (fun g151 => ?_) (fun g151 => ?_)
                                        ·
                                          have q151 := of_decide_eq_true g151
                                          refine TL.gdY rfl rfl (pr_pure rfl) rfl ?_
                                          refine TL.gdY rfl rfl (pr_pure rfl) rfl ?_
                                          refine TL.gdY rfl rfl (pr_pure rfl) rfl ?_
                                          refine TL.gdY rfl rfl (pr_pure rfl) rfl ?_
                                          refine TL.gdY rfl rfl (pr_pure rfl) rfl ?_
                                          refine TL.gdY rfl rfl (pr_pure rfl) rfl ?_
                                          refine TL.run (pr_pure rfl) rfl ?_
                                          refine TL.run (pr_pure rfl) rfl ?_
                                          refine TL.nil ?_
                                          exact TX.sw rfl (by first | rfl | (exfalso; simp only [z9, z10] at *; omega) | (simp only [z9, z10] at *; simp; done) | (simp only [z9, z10] at *; simp; omega) | (simp only [z9, z10] at *; simp_all; done) | (simp only [z9, z10] at *; simp_all; omega)) ⟨rfl, rfl, rfl, rfl, rfl, rfl, trivial⟩
                                        ·
                                          have q151 := of_decide_eq_false g151
                                          refine TL.gdN rfl rfl rfl rfl ?_
                                          refine TL.gdN rfl rfl rfl rfl ?_
                                          refine TL.gdN rfl rfl rfl rfl ?_
                                          refine TL.gdY rfl rfl (pr_pure rfl) rfl ?_
                                          refine TL.gdY rfl rfl (pr_pure rfl) rfl ?_
                                          refine TL.gdY rfl rfl (pr_pure rfl) rfl ?_
                                          refine TL.run (pr_pure rfl) rfl ?_
                                          refine TL.run (pr_pure rfl) rfl ?_
                                          refine TL.nil ?_
                                          exact TX.sw rfl (by first | rfl | (exfalso; simp only [z9, z10] at *; omega) | (simp only [z9, z10] at *; simp; done) | (simp only [z9, z10] at *; simp; omega) | (simp only [z9, z10] at *; simp_all; done) | (simp only [z9, z10] at *; simp_all; omega)) ⟨rfl, rfl, rfl, rfl, rfl, rfl, trivial⟩
                                    ·
                                      have q139 := of_decide_eq_false g139
                                      refine TL.gdN rfl rfl rfl rfl ?_
                                      refine TL.gdN rfl rfl rfl rfl ?_
                                      refine TL.gdN rfl rfl rfl rfl ?_
                                      refine TL.gdU rfl rfl rfl ?_
                                      refine TL.gdU rfl rfl rfl ?_
                                      refine TL.gdU rfl rfl rfl ?_
                                      refine TL.gdU rfl rfl rfl ?_
                                      refine TL.gdN rfl rfl rfl rfl ?_
                                      refine TL.gdN rfl rfl rfl rfl ?_
                                      refine TL.gdU rfl rfl rfl ?_
                                      refine TL.gdU rfl rfl rfl ?_
                                      refine TL.gdU rfl rfl rfl ?_
                                      refine TL.gdU rfl rfl rfl ?_
                                      refine TL.gdU rfl rfl rfl ?_
                                      refine TL.gdU rfl rfl rfl ?_
                                      refine TL.gdU rfl rfl rfl ?_
                                      refine TL.gdN rfl rfl rfl rfl ?_
                                      refine TL.gdY rfl rfl (pr_pure rfl) rfl ?_
                                      refine TL.run (pr_pure rfl) rfl ?_
                                      refine TL.run (pr_pure rfl) rfl ?_
                                      refine TL.nil ?_
                                      exact TX.sw rfl (by first | rfl | (exfalso; simp only [z9, z10] at *; omega) | (simp only [z9, z10] at *; simp; done) | (simp only [z9, z10] at *; simp; omega) | (simp only [z9, z10] at *; simp_all; done) | (simp only [z9, z10] at *; simp_all; omega)) ⟨rfl, rfl, rfl, rfl, rfl, rfl, trivial⟩
                                ·
                                  have q127 := of_decide_eq_false g127
                                  refine TL.gdN rfl rfl rfl rfl ?_
                                  refine TL.gdN rfl rfl rfl rfl ?_
                                  refine TL.gdN rfl rfl rfl rfl ?_
                                  refine TL.gdN rfl rfl rfl rfl ?_
                                  refine TL.gdN rfl rfl rfl rfl ?_
                                  refine TL.gdY rfl rfl (pr_pure rfl) rfl ?_
                                  refine TL.gdY rfl rfl (pr_pure rfl) rfl ?_
                                  refine TL.run (pr_pure rfl) rfl ?_
                                  refine TL.run (pr_pure rfl) rfl ?_
                                  refine TL.gdY rfl rfl (pr_pure rfl) rfl ?_
                                  refine TL.gdY rfl rfl (pr_pure rfl) rfl ?_
                                  refine TL.gdY rfl rfl (pr_pure rfl) rfl ?_
                                  refine TL.split (s := 139) rfl (fun g139 => ?_) (fun g139 => ?_)
                                  ·
                                    have q139 := of_decide_eq_true g139
                                    refine TL.gdY rfl rfl (pr_pure rfl) rfl ?_
                                    refine TL.gdY rfl rfl (pr_pure rfl) rfl ?_
                                    refine TL.gdY rfl rfl (pr_pure rfl) rfl ?_
                                    refine TL.split (s := 142) rfl (fun g142 => ?_) (fun g142 => ?_)
                                    ·
                                      have q142 := of_decide_eq_true g142
                                      refine TL.gdY rfl rfl (pr_pure rfl) rfl ?_
                                      refine TL.gdY rfl rfl (pr_pure rfl) rfl ?_
                                      refine TL.gdY rfl rfl (pr_pure rfl) rfl ?_
                                      refine TL.gdY rfl rfl (pr_pure rfl) rfl ?_
                                      refine TL.gdY rfl rfl (pr_pure rfl) rfl ?_
                                      refine TL.gdY rfl rfl (pr_pure rfl) rfl ?_
                                      refine TL.split (s := 148) rfl (fun g148 => ?_) (fun g148 => ?_)
                                      ·
                                        have q148 := of_decide_eq_true g148
                                        refine TL.gdN rfl rfl rfl rfl ?_
                                        refine TL.gdN rfl rfl rfl rfl ?_
                                        refine TL.gdN rfl rfl rfl rfl ?_
                                        refine TL.gdU rfl rfl rfl ?_
                                        refine TL.gdU rfl rfl rfl ?_
                                        refine TL.gdU rfl rfl rfl ?_
                                        refine TL.gdN rfl rfl rfl rfl ?_
                                        refine TL.gdY rfl rfl (pr_pure rfl) rfl ?_
                                        refine TL.gdY rfl rfl (pr_pure rfl) rfl ?_
                                        refine TL.run (pr_pure rfl) rfl ?_
                                        refine TL.run (pr_pure rfl) rfl ?_
                                        refine TL.nil ?_
                                        exact TX.sw rfl (by first | rfl | (exfalso; simp only [z9, z10] at *; omega) | (simp only [z9, z10] at *; simp; done) | (simp only [z9, z10] at *; simp; omega) | (simp only [z9, z10] at *; simp_all; done) | (simp only [z9, z10] at *; simp_all; omega)) ⟨rfl, rfl, rfl, rfl, rfl, rfl, trivial⟩
                                      ·
                                        have q148 := of_decide_eq_false g148
                                        refine TL.gdY rfl rfl (pr_pure rfl) rfl ?_
                                        refine TL.gdY rfl rfl (pr_pure rfl) rfl ?_
                                        refine TL.gdY rfl rfl (pr_pure rfl) rfl ?_
                                        refine TL.split (s := 151) rfl (fun g151 => ?_) (fun g151 => ?_)
                                        ·
                                          have q151 := of_decide_eq_true g151
                                          refine TL.gdY rfl rfl (pr_pure rfl) rfl ?_
                                          refine TL.gdY rfl rfl (pr_pure rfl) rfl ?_
                                          refine TL.gdY rfl rfl (pr_pure rfl) rfl ?_
                                          refine TL.gdY rfl rfl (pr_pure rfl) rfl ?_
                                          refine TL.gdY rfl rfl (pr_pure rfl) rfl ?_
                                          refine TL.gdY rfl rfl (pr_pure rfl) rfl ?_
                                          refine TL.run (pr_pure rfl) rfl ?_
                                          refine TL.run (pr_pure rfl) rfl ?_
                                          refine TL.nil ?_
                                          exact TX.sw rfl (by first | rfl | (exfalso; simp only [z9, z10] at *; omega) | (simp only [z9, z10] at *; simp; done) | (simp only [z9, z10] at *; simp; omega) | (simp only [z9, z10] at *; simp_all; done) | (simp only [z9, z10] at *; simp_all; omega)) ⟨rfl, rfl, rfl, rfl, rfl, rfl, trivial⟩
                                        ·
                                          have q151 := of_decide_eq_false g151
                                          refine TL.gdN rfl rfl rfl rfl ?_
                                          refine TL.gdN rfl rfl rfl rfl ?_
                                          refine TL.gdN rfl rfl rfl rfl ?_
                                          refine TL.gdY rfl rfl (pr_pure rfl) rfl ?_
                                          refine TL.gdY rfl rfl (pr_pure rfl) rfl ?_
                                          refine TL.gdY rfl rfl (pr_pure rfl) rfl ?_
                                          refine TL.run (pr_pure rfl) rfl ?_
                                          refine TL.run (pr_pure rfl) rfl ?_
                                          refine TL.nil ?_
                                          exact TX.sw rfl (by first | rfl | (exfalso; simp only [z9, z10] at *; omega) | (simp only [z9, z10] at *; simp; done) | (simp only [z9, z10] at *; simp; omega) | (simp only [z9, z10] at *; simp_all; done) | (simp only [z9, z10] at *; simp_all; omega)) ⟨rfl, rfl, rfl, rfl, rfl, rfl, trivial⟩
                                    ·
                                      have q142 := of_decide_eq_false g142
                                      refine TL.gdN rfl rfl rfl rfl ?_
                                      refine TL.gdN rfl rfl rfl rfl ?_
                                      refine TL.gdN rfl rfl rfl rfl ?_
                                      refine TL.gdN rfl rfl rfl rfl ?_
                                      refine TL.gdY rfl rfl (pr_pure rfl) rfl ?_
                                      refine TL.gdY rfl rfl (pr_pure rfl) rfl ?_
                                      refine TL.gdY rfl rfl (pr_pure rfl) rfl ?_
                                      refine TL.gdY rfl rfl (pr_pure rfl) rfl ?_
                                      refine TL.gdY rfl rfl (pr_pure rfl) rfl ?_
                                      refine TL.split (s := 151) rfl (fun g151 => ?_) (fun g151 => ?_)
                                      ·
                                        have q151 := of_decide_eq_true g151
                                        refine TL.gdY rfl rfl (pr_pure rfl) rfl ?_
                                        refine TL.gdY rfl rfl (pr_pure rfl) rfl ?_
                                        refine TL.gdY rfl rfl (pr_pure rfl) rfl ?_
                                        refine TL.gdY rfl rfl (pr_pure rfl) rfl ?_
                                        refine TL.gdY rfl rfl (pr_pure rfl) rfl ?_
                                        refine TL.gdY rfl rfl (pr_pure rfl) rfl ?_
                                        refine TL.run (pr_pure rfl) rfl ?_
                                        refine TL.run (pr_pure rfl) rfl ?_
                                        refine TL.nil ?_
                                        exact TX.sw rfl (by first | rfl | (exfalso; simp only [z9, z10] at *; omega) | (simp only [z9, z10] at *; simp; done) | (simp only [z9, z10] at *; simp; omega) | (simp only [z9, z10] at *; simp_all; done) | (simp only [z9, z10] at *; simp_all; omega)) ⟨rfl, rfl, rfl, rfl, rfl, rfl, trivial⟩
                                      ·
                                        have q151 := of_decide_eq_false g151
                                        refine TL.gdN rfl rfl rfl rfl ?_
                                        refine TL.gdN rfl rfl rfl rfl ?_
                                        refine TL.gdN rfl rfl rfl rfl ?_
                                        refine TL.gdY rfl rfl (pr_pure rfl) rfl ?_
                                        refine TL.gdY rfl rfl (pr_pure rfl) rfl ?_
                                        refine TL.gdY rfl rfl (pr_pure rfl) rfl ?_
                                        refine TL.run (pr_pure rfl) rfl ?_
                                        refine TL.run (pr_pure rfl) rfl ?_
                                        refine TL.nil ?_
                                        exact TX.sw rfl (by first | rfl | (exfalso; simp only [z9, z10] at *; omega) | (simp only [z9, z10] at *; simp; done) | (simp only [z9, z10] at *; simp; omega) | (simp only [z9, z10] at *; simp_all; done) | (simp only [z9, z10] at *; simp_all; omega)) ⟨rfl, rfl, rfl, rfl, rfl, rfl, trivial⟩
                                  ·
                                    have q139 := of_decide_eq_false g139
                                    refine TL.gdN rfl rfl rfl rfl ?_
                                    refine TL.gdN rfl rfl rfl rfl ?_
                                    refine TL.gdN rfl rfl rfl rfl ?_
                                    refine TL.gdU rfl rfl rfl ?_
                                    refine TL.gdU rfl rfl rfl ?_
                                    refine TL.gdU rfl rfl rfl ?_
                                    refine TL.gdU rfl rfl rfl ?_
                                    refine TL.gdN rfl rfl rfl rfl ?_
                                    refine TL.gdN rfl rfl rfl rfl ?_
                                    refine TL.gdU rfl rfl rfl ?_
                                    refine TL.gdU rfl rfl rfl ?_
                                    refine TL.gdU rfl rfl rfl ?_
                                    refine TL.gdU rfl rfl rfl ?_
                                    refine TL.gdU rfl rfl rfl ?_
                                    refine TL.gdU rfl rfl rfl ?_
                                    refine TL.gdU rfl rfl rfl ?_
                                    refine TL.gdN rfl rfl rfl rfl ?_
                                    refine TL.gdY rfl rfl (pr_pure rfl) rfl ?_
                                    refine TL.run (pr_pure rfl) rfl ?_
                                    refine TL.run (pr_pure rfl) rfl ?_
                                    refine TL.nil ?_
                                    exact TX.sw rfl (by first | rfl | (exfalso; simp only [z9, z10] at *; omega) | (simp only [z9, z10] at *; simp; done) | (simp only [z9, z10] at *; simp; omega) | (simp only [z9, z10] at *; simp_all; done) | (simp only [z9, z10] at *; simp_all; omega)) ⟨rfl, rfl, rfl, rfl, rfl, rfl, trivial⟩
                            ·
                              have q119 := of_decide_eq_false g119
                              refine TL.gdN rfl rfl rfl rfl ?_
                              refine TL.gdN rfl rfl rfl rfl ?_
                              refine TL.gdN rfl rfl rfl rfl ?_
                              refine TL.gdY rfl rfl (pr_pure rfl) rfl ?_
                              refine TL.gdY rfl rfl (pr_pure rfl) rfl ?_
                              refine TL.gdY rfl rfl (pr_pure rfl) rfl ?_
                              refine TL.gdY rfl rfl (pr_pure rfl) rfl ?_
                              refine TL.gdY rfl rfl (pr_pure rfl) rfl ?_
                              refine TL.split (s := 127) rfl (fun g127 => ?_) (fun g127 => ?_)
                              ·
                                have q127 := of_decide_eq_true g127
                                refine TL.gdY rfl rfl (pr_pure rfl) rfl ?_
                                refine TL.gdY rfl rfl (pr_pure rfl) rfl ?_
                                refine TL.gdY rfl rfl ((by first | exact pr_add rfl rfl (by omega) (by omega) | exact pr_pure rfl)) rfl ?_
                                refine TL.gdY rfl rfl (pr_pure rfl) rfl ?_
                                refine TL.gdY rfl rfl (pr_pure rfl) rfl ?_
                                refine TL.gdY rfl rfl (pr_pure rfl) rfl ?_
                                refine TL.gdY rfl rfl (pr_pure rfl) rfl ?_
                                refine TL.run (pr_pure rfl) rfl ?_
                                refine TL.run (pr_pure rfl) rfl ?_
                                refine TL.split (s := 136) rfl (fun g136 => ?_) (fun g136 => ?_)
                                ·
                                  have q136 := of_decide_eq_true g136
                                  refine TL.gdN rfl rfl rfl rfl ?_
                                  refine TL.gdN rfl rfl rfl rfl ?_
                                  refine TL.gdN rfl rfl rfl rfl ?_
                                  refine TL.gdU rfl rfl rfl ?_
                                  refine TL.gdU rfl rfl rfl ?_
                                  refine TL.gdU rfl rfl rfl ?_
                                  refine TL.gdU rfl rfl rfl ?_
                                  refine TL.gdU rfl rfl rfl ?_
                                  refine TL.gdU rfl rfl rfl ?_
                                  refine TL.gdU rfl rfl rfl ?_
                                  refine TL.gdU rfl rfl rfl ?_
                                  refine TL.gdU rfl rfl rfl ?_
                                  refine TL.gdU rfl rfl rfl ?_
                                  refine TL.gdU rfl rfl rfl ?_
                                  refine TL.gdU rfl rfl rfl ?_
                                  refine TL.gdU rfl rfl rfl ?_
                                  refine TL.gdU rfl rfl rfl ?_
                                  refine TL.gdU rfl rfl rfl ?_
                                  refine TL.gdU rfl rfl rfl ?_
                                  refine TL.gdU rfl rfl rfl ?_
                                  refine TL.gdN rfl rfl rfl rfl ?_
                                  refine TL.run (pr_pure rfl) rfl ?_
                                  refine TL.run (pr_pure rfl) rfl ?_
                                  refine TL.nil ?_
                                  exact TX.sw rfl (by first | rfl | (exfalso; simp only [z9, z10] at *; omega) | (simp only [z9, z10] at *; simp; done) | (simp only [z9, z10] at *; simp; omega) | (simp only [z9, z10] at *; simp_all; done) | (simp only [z9, z10] at *; simp_all; omega)) ⟨rfl, rfl, rfl, rfl, rfl, rfl, trivial⟩
                                ·
                                  have q136 := of_decide_eq_false g136
                                  refine TL.gdY rfl rfl (pr_pure rfl) rfl ?_
                                  refine TL.gdY rfl rfl (pr_pure rfl) rfl ?_
                                  refine TL.gdY rfl rfl (pr_pure rfl) rfl ?_
                                  refine TL.split (s := 139) rfl (fun g139 => ?_) (fun g139 => ?_)
                                  ·
                                    have q139 := of_decide_eq_true g139
                                    refine TL.gdY rfl rfl (pr_pure rfl) rfl ?_
                                    refine TL.gdY rfl rfl (pr_pure rfl) rfl ?_
                                    refine TL.gdY rfl rfl (pr_pure rfl) rfl ?_
                                    refine TL.split (s := 142) rfl (fun g142 => ?_) (fun g142 => ?_)
                                    ·
                                      have q142 := of_decide_eq_true g142
                                      refine TL.gdY rfl rfl (pr_pure rfl) rfl ?_
                                      refine TL.gdY rfl rfl (pr_pure rfl) rfl ?_
                                      refine TL.gdY rfl rfl (pr_pure rfl) rfl ?_
                                      refine TL.gdY rfl rfl (pr_pure rfl) rfl ?_
                                      refine TL.gdY rfl rfl (pr_pure rfl) rfl ?_
                                      refine TL.gdY rfl rfl (pr_pure rfl) rfl ?_
                                      refine TL.split (s := 148) rfl (fun g148 => ?_) (fun g148 => ?_)
                                      ·
                                        have q148 := of_decide_eq_true g148
                                        refine TL.gdN rfl rfl rfl rfl ?_
                                        refine TL.gdN rfl rfl rfl rfl ?_
                                        refine TL.gdN rfl rfl rfl rfl ?_
                                        refine TL.gdU rfl rfl rfl ?_
                                        refine TL.gdU rfl rfl rfl ?_
                                        refine TL.gdU rfl rfl rfl ?_
                                        refine TL.gdN rfl rfl rfl rfl ?_
                                        refine TL.gdY rfl rfl (pr_pure rfl) rfl ?_
                                        refine TL.gdY rfl rfl (pr_pure rfl) rfl ?_
                                        refine TL.run (pr_pure rfl) rfl ?_
                                        refine TL.run (pr_pure rfl) rfl ?_
                                        refine TL.nil ?_
                                        exact TX.sw rfl (by first | rfl | (exfalso; simp only [z9, z10] at *; omega) | (simp only [z9, z10] at *; simp; done) | (simp only [z9, z10] at *; simp; omega) | (simp only [z9, z10] at *; simp_all; done) | (simp only [z9, z10] at *; simp_all; omega)) ⟨rfl, rfl, rfl, rfl, rfl, rfl, trivial⟩
                                      ·
                                        have q148 := of_decide_eq_false g148
                                        refine TL.gdY rfl rfl (pr_pure rfl) rfl ?_
                                        refine TL.gdY rfl rfl (pr_pure rfl) rfl ?_
                                        refine TL.gdY rfl rfl (pr_pure rfl) rfl ?_
                                        refine TL.split (s := 151) rfl (fun g151 => ?_) (fun g151 => ?_)
                                        ·
                                          have q151 := of_decide_eq_true g151
                                          refine TL.gdY rfl rfl (pr_pure rfl) rfl ?_
                                          refine TL.gdY rfl rfl (pr_pure rfl) rfl ?_
                                          refine TL.gdY rfl rfl (pr_pure rfl) rfl ?_
                                          refine TL.gdY rfl rfl (pr_pure rfl) rfl ?_
                                          refine TL.gdY rfl rfl (pr_pure rfl) rfl ?_
                                          refine TL.gdY rfl rfl (pr_pure rfl) rfl ?_
                                          refine TL.run (pr_pure rfl) rfl ?_
                                          refine TL.run (pr_pure rfl) rfl ?_
                                          refine TL.nil ?_
                                          exact TX.sw rfl (by first | rfl | (exfalso; simp only [z9, z10] at *; omega) | (simp only [z9, z10] at *; simp; done) | (simp only [z9, z10] at *; simp; omega) | (simp only [z9, z10] at *; simp_all; done) | (simp only [z9, z10] at *; simp_all; omega)) ⟨rfl, rfl, rfl, rfl, rfl, rfl, trivial⟩
                                        ·
                                          have q151 := of_decide_eq_false g151
                                          refine TL.gdN rfl rfl rfl rfl ?_
                                          refine TL.gdN rfl rfl rfl rfl ?_
                                          refine TL.gdN rfl rfl rfl rfl ?_
                                          refine TL.gdY rfl rfl (pr_pure rfl) rfl ?_
                                          refine TL.gdY rfl rfl (pr_pure rfl) rfl ?_
                                          refine TL.gdY rfl rfl (pr_pure rfl) rfl ?_
                                          refine TL.run (pr_pure rfl) rfl ?_
                                          refine TL.run (pr_pure rfl) rfl ?_
                                          refine TL.nil ?_
                                          exact TX.sw rfl (by first | rfl | (exfalso; simp only [z9, z10] at *; omega) | (simp only [z9, z10] at *; simp; done) | (simp only [z9, z10] at *; simp; omega) | (simp only [z9, z10] at *; simp_all; done) | (simp only [z9, z10] at *; simp_all; omega)) ⟨rfl, rfl, rfl, rfl, rfl, rfl, trivial⟩
                                    ·
                                      have q142 := of_decide_eq_false g142
                                      refine TL.gdN rfl rfl rfl rfl ?_
                                      refine TL.gdN rfl rfl rfl rfl ?_
                                      refine TL.gdN rfl rfl rfl rfl ?_
                                      refine TL.gdN rfl rfl rfl rfl ?_
                                      refine TL.gdY rfl rfl (pr_pure rfl) rfl ?_
                                      refine TL.gdY rfl rfl (pr_pure rfl) rfl ?_
                                      refine TL.gdY rfl rfl (pr_pure rfl) rfl ?_
                                      refine TL.gdY rfl rfl (pr_pure rfl) rfl ?_
                                      refine TL.gdY rfl rfl (pr_pure rfl) rfl ?_
                                      refine TL.split (s := 151) rfl (fun g151 => ?_) (fun g151 => ?_)
                                      ·
                                        have q151 := of_decide_eq_true g151
                                        refine TL.gdY rfl rfl (pr_pure rfl) rfl ?_
                                        refine TL.gdY rfl rfl (pr_pure rfl) rfl ?_
                                        refine TL.gdY rfl rfl (pr_pure rfl) rfl ?_
                                        refine TL.gdY rfl rfl (pr_pure rfl) rfl ?_
                                        refine TL.gdY rfl rfl (pr_pure rfl) rfl ?_
                                        refine TL.gdY rfl rfl (pr_pure rfl) rfl ?_
                                        refine TL.run (pr_pure rfl) rfl ?_
                                        refine TL.run (pr_pure rfl) rfl ?_
                                        refine TL.nil ?_
                                        exact TX.sw rfl (by first | rfl | (exfalso; simp only [z9, z10] at *; omega) | (simp only [z9, z10] at *; simp; done) | (simp only [z9, z10] at *; simp; omega) | (simp only [z9, z10] at *; simp_all; done) | (simp only [z9, z10] at *; simp_all; omega)) ⟨rfl, rfl, rfl, rfl, rfl, rfl, trivial⟩
                                      ·
                                        have q151 := of_decide_eq_false g151
                                        refine TL.gdN rfl rfl rfl rfl ?_
                                        refine TL.gdN rfl rfl rfl rfl ?_
                                        refine TL.gdN rfl rfl rfl rfl ?_
                                        refine TL.gdY rfl rfl (pr_pure rfl) rfl ?_
                                        refine TL.gdY rfl rfl (pr_pure rfl) rfl ?_
                                        refine TL.gdY rfl rfl (pr_pure rfl) rfl ?_
                                        refine TL.run (pr_pure rfl) rfl ?_
                                        refine TL.run (pr_pure rfl) rfl ?_
                                        refine TL.nil ?_
                                        exact TX.sw rfl (by first | rfl | (exfalso; simp only [z9, z10] at *; omega) | (simp only [z9, z10] at *; simp; done) | (simp only [z9, z10] at *; simp; omega) | (simp only [z9, z10] at *; simp_all; done) | (simp only [z9, z10] at *; simp_all; omega)) ⟨rfl, rfl, rfl, rfl, rfl, rfl, trivial⟩
                                  ·
                                    have q139 := of_decide_eq_false g139
                                    refine TL.gdN rfl rfl rfl rfl ?_
                                    refine TL.gdN rfl rfl rfl rfl ?_
                                    refine TL.gdN rfl rfl rfl rfl ?_
                                    refine TL.gdU rfl rfl rfl ?_
                                    refine TL.gdU rfl rfl rfl ?_
                                    refine TL.gdU rfl rfl rfl ?_
                                    refine TL.gdU rfl rfl rfl ?_
                                    refine TL.gdN rfl rfl rfl rfl ?_
                                    refine TL.gdN rfl rfl rfl rfl ?_
                                    refine TL.gdU rfl rfl rfl ?_
                                    refine TL.gdU rfl rfl rfl ?_
                                    refine TL.gdU rfl rfl rfl ?_
                                    refine TL.gdU rfl rfl rfl ?_
                                    refine TL.gdU rfl rfl rfl ?_
                                    refine TL.gdU rfl rfl rfl ?_
                                    refine TL.gdU rfl rfl rfl ?_
                                    refine TL.gdN rfl rfl rfl rfl ?_
                                    refine TL.gdY rfl rfl (pr_pure rfl) rfl ?_
                                    refine TL.run (pr_pure rfl) rfl ?_
                                    refine TL.run (pr_pure rfl) rfl ?_
                                    refine TL.nil ?_
                                    exact TX.sw rfl (by first | rfl | (exfalso; simp only [z9, z10] at *; omega) | (simp only [z9, z10] at *; simp; done) | (simp only [z9, z10] at *; simp; omega) | (simp only [z9, z10] at *; simp_all; done) | (simp only [z9, z10] at *; simp_all; omega)) ⟨rfl, rfl, rfl, rfl, rfl, rfl, trivial⟩
                              ·
                                have q127 := of_decide_eq_false g127
                                refine TL.gdN rfl rfl rfl rfl ?_
                                refine TL.gdN rfl rfl rfl rfl ?_
                                refine TL.gdN rfl rfl rfl rfl ?_
                                refine TL.gdN rfl rfl rfl rfl ?_
                                refine TL.gdN rfl rfl rfl rfl ?_
                                refine TL.gdY rfl rfl (pr_pure rfl) rfl ?_
                                refine TL.gdY rfl rfl (pr_pure rfl) rfl ?_
                                refine TL.run (pr_pure rfl) rfl ?_
                                refine TL.run (pr_pure rfl) rfl ?_
                                refine TL.gdY rfl rfl (pr_pure rfl) rfl ?_
                                refine TL.gdY rfl rfl (pr_pure rfl) rfl ?_
                                refine TL.gdY rfl rfl (pr_pure rfl) rfl ?_
                                refine TL.split (s := 139) rfl (fun g139 => ?_) (fun g139 => ?_)
                                ·
                                  have q139 := of_decide_eq_true g139
                                  refine TL.gdY rfl rfl (pr_pure rfl) rfl ?_
                                  refine TL.gdY rfl rfl (pr_pure rfl) rfl ?_
                                  refine TL.gdY rfl rfl (pr_pure rfl) rfl ?_
                                  refine TL.split (s := 142) rfl (fun g142 => ?_) (fun g142 => ?_)
                                  ·
                                    have q142 := of_decide_eq_true g142
                                    refine TL.gdY rfl rfl (pr_pure rfl) rfl ?_
                                    refine TL.gdY rfl rfl (pr_pure rfl) rfl ?_
                                    refine TL.gdY rfl rfl (pr_pure rfl) rfl ?_
                                    refine TL.gdY rfl rfl (pr_pure rfl) rfl ?_
                                    refine TL.gdY rfl rfl (pr_pure rfl) rfl ?_
                                    refine TL.gdY rfl rfl (pr_pure rfl) rfl ?_
                                    refine TL.split (s := 148) rfl (fun g148 => ?_) (fun g148 => ?_)
                                    ·
                                      have q148 := of_decide_eq_true g148
                                      refine TL.gdN rfl rfl rfl rfl ?_
                                      refine TL.gdN rfl rfl rfl rfl ?_
                                      refine TL.gdN rfl rfl rfl rfl ?_
                                      refine TL.gdU rfl rfl rfl ?_
                                      refine TL.gdU rfl rfl rfl ?_
                                      refine TL.gdU rfl rfl rfl ?_
                                      refine TL.gdN rfl rfl rfl rfl ?_
                                      refine TL.gdY rfl rfl (pr_pure rfl) rfl ?_
                                      refine TL.gdY rfl rfl (pr_pure rfl) rfl ?_
                                      refine TL.run (pr_pure rfl) rfl ?_
                                      refine TL.run (pr_pure rfl) rfl ?_
                                      refine TL.nil ?_
                                      exact TX.sw rfl (by first | rfl | (exfalso; simp only [z9, z10] at *; omega) | (simp only [z9, z10] at *; simp; done) | (simp only [z9, z10] at *; simp; omega) | (simp only [z9, z10] at *; simp_all; done) | (simp only [z9, z10] at *; simp_all; omega)) ⟨rfl, rfl, rfl, rfl, rfl, rfl, trivial⟩
                                    ·
                                      have q148 := of_decide_eq_false g148
                                      refine TL.gdY rfl rfl (pr_pure rfl) rfl ?_
                                      refine TL.gdY rfl rfl (pr_pure rfl) rfl ?_
                                      refine TL.gdY rfl rfl (pr_pure rfl) rfl ?_
                                      refine TL.split (s := 151) rfl (fun g151 => ?_) (fun g151 => ?_)
                                      ·
                                        have q151 := of_decide_eq_true g151
                                        refine TL.gdY rfl rfl (pr_pure rfl) rfl ?_
                                        refine TL.gdY rfl rfl (pr_pure rfl) rfl ?_
                                        refine TL.gdY rfl rfl (pr_pure rfl) rfl ?_
                                        refine TL.gdY rfl rfl (pr_pure rfl) rfl ?_
                                        refine TL.gdY rfl rfl (pr_pure rfl) rfl ?_
                                        refine TL.gdY rfl rfl (pr_pure rfl) rfl ?_
                                        refine TL.run (pr_pure rfl) rfl ?_
                                        refine TL.run (pr_pure rfl) rfl ?_
                                        refine TL.nil ?_
                                        exact TX.sw rfl (by first | rfl | (exfalso; simp only [z9, z10] at *; omega) | (simp only [z9, z10] at *; simp; done) | (simp only [z9, z10] at *; simp; omega) | (simp only [z9, z10] at *; simp_all; done) | (simp only [z9, z10] at *; simp_all; omega)) ⟨rfl, rfl, rfl, rfl, rfl, rfl, trivial⟩
                                      ·
                                        have q151 := of_decide_eq_false g151
                                        refine TL.gdN rfl rfl rfl rfl ?_
                                        refine TL.gdN rfl rfl rfl rfl ?_
                                        refine TL.gdN rfl rfl rfl rfl ?_
                                        refine TL.gdY rfl rfl (pr_pure rfl) rfl ?_
                                        refine TL.gdY rfl rfl (pr_pure rfl) rfl ?_
                                        refine TL.gdY rfl rfl (pr_pure rfl) rfl ?_
                                        refine TL.run (pr_pure rfl) rfl ?_
                                        refine TL.run (pr_pure rfl) rfl ?_
                                        refine TL.nil ?_
                                        exact TX.sw rfl (by first | rfl | (exfalso; simp only [z9, z10] at *; omega) | (simp only [z9, z10] at *; simp; done) | (simp only [z9, z10] at *; simp; omega) | (simp only [z9, z10] at *; simp_all; done) | (simp only [z9, z10] at *; simp_all; omega)) ⟨rfl, rfl, rfl, rfl, rfl, rfl, trivial⟩
                                  ·
                                    have q142 := of_decide_eq_false g142
                                    refine TL.gdN rfl rfl rfl rfl ?_
                                    refine TL.gdN rfl rfl rfl rfl ?_
                                    refine TL.gdN rfl rfl rfl rfl ?_
                                    refine TL.gdN rfl rfl rfl rfl ?_
                                    refine TL.gdY rfl rfl (pr_pure rfl) rfl ?_
                                    refine TL.gdY rfl rfl (pr_pure rfl) rfl ?_
                                    refine TL.gdY rfl rfl (pr_pure rfl) rfl ?_
                                    refine TL.gdY rfl rfl (pr_pure rfl) rfl ?_
                                    refine TL.gdY rfl rfl (pr_pure rfl) rfl ?_
                                    refine TL.split (s := 151) rfl (fun g151 => ?_) (fun g151 => ?_)
                                    ·
                                      have q151 := of_decide_eq_true g151
                                      refine TL.gdY rfl rfl (pr_pure rfl) rfl ?_
                                      refine TL.gdY rfl rfl (pr_pure rfl) rfl ?_
                                      refine TL.gdY rfl rfl (pr_pure rfl) rfl ?_
                                      refine TL.gdY rfl rfl (pr_pure rfl) rfl ?_
                                      refine TL.gdY rfl rfl (pr_pure rfl) rfl ?_
                                      refine TL.gdY rfl rfl (pr_pure rfl) rfl ?_
                                      refine TL.run (pr_pure rfl) rfl ?_
                                      refine TL.run (pr_pure rfl) rfl ?_
                                      refine TL.nil ?_
                                      exact TX.sw rfl (by first | rfl | (exfalso; simp only [z9, z10] at *; omega) | (simp only [z9, z10] at *; simp; done) | (simp only [z9, z10] at *; simp; omega) | (simp only [z9, z10] at *; simp_all; done) | (simp only [z9, z10] at *; simp_all; omega)) ⟨rfl, rfl, rfl, rfl, rfl, rfl, trivial⟩
                                    ·
                                      have q151 := of_decide_eq_false g151
                                      refine TL.gdN rfl rfl rfl rfl ?_
                                      refine TL.gdN rfl rfl rfl rfl ?_
                                      refine TL.gdN rfl rfl rfl rfl ?_
                                      refine TL.gdY rfl rfl (pr_pure rfl) rfl ?_
                                      refine TL.gdY rfl rfl (pr_pure rfl) rfl ?_
                                      refine TL.gdY rfl rfl (pr_pure rfl) rfl ?_
                                      refine TL.run (pr_pure rfl) rfl ?_
                                      refine TL.run (pr_pure rfl) rfl ?_
                                      refine TL.nil ?_
                                      exact TX.sw rfl (by first | rfl | (exfalso; simp only [z9, z10] at *; omega) | (simp only [z9, z10] at *; simp; done) | (simp only [z9, z10] at *; simp; omega) | (simp only [z9, z10] at *; simp_all; done) | (simp only [z9, z10] at *; simp_all; omega)) ⟨rfl, rfl, rfl, rfl, rfl, rfl, trivial⟩
                                ·
                                  have q139 := of_decide_eq_false g139
                                  refine TL.gdN rfl rfl rfl rfl ?_
                                  refine TL.gdN rfl rfl rfl rfl ?_
                                  refine TL.gdN rfl rfl rfl rfl ?_
                                  refine TL.gdU rfl rfl rfl ?_
                                  refine TL.gdU rfl rfl rfl ?_
                                  refine TL.gdU rfl rfl rfl ?_
                                  refine TL.gdU rfl rfl rfl ?_
                                  refine TL.gdN rfl rfl rfl rfl ?_
                                  refine TL.gdN rfl rfl rfl rfl ?_
                                  refine TL.gdU rfl rfl rfl ?_
                                  refine TL.gdU rfl rfl rfl ?_
                                  refine TL.gdU rfl rfl rfl ?_
                                  refine TL.gdU rfl rfl rfl ?_
                                  refine TL.gdU rfl rfl rfl ?_
                                  refine TL.gdU rfl rfl rfl ?_
                                  refine TL.gdU rfl rfl rfl ?_
                                  refine TL.gdN rfl rfl rfl rfl ?_
                                  refine TL.gdY rfl rfl (pr_pure rfl) rfl ?_
                                  refine TL.run (pr_pure rfl) rfl ?_
                                  refine TL.run (pr_pure rfl) rfl ?_
                                  refine TL.nil ?_
                                  exact TX.sw rfl (by first | rfl | (exfalso; simp only [z9, z10] at *; omega) | (simp only [z9, z10] at *; simp; done) | (simp only [z9, z10] at *; simp; omega) | (simp only [z9, z10] at *; simp_all; done) | (simp only [z9, z10] at *; simp_all; omega)) ⟨rfl, rfl, rfl, rfl, rfl, rfl, trivial⟩
                          ·
                            have q116 := of_decide_eq_false g116
                            refine TL.gdN rfl rfl rfl rfl ?_
                            refine TL.gdN rfl rfl rfl rfl ?_
                            refine TL.gdN rfl rfl rfl rfl ?_
                            refine TL.gdU rfl rfl rfl ?_
                            refine TL.gdU rfl rfl rfl ?_
                            refine TL.gdU rfl rfl rfl ?_
                            refine TL.gdN rfl rfl rfl rfl ?_
                            refine TL.gdN rfl rfl rfl rfl ?_
                            refine TL.gdU rfl rfl rfl ?_
                            refine TL.gdU rfl rfl rfl ?_
                            refine TL.gdU rfl rfl rfl ?_
                            refine TL.gdU rfl rfl rfl ?_
                            refine TL.gdU rfl rfl rfl ?_
                            refine TL.gdU rfl rfl rfl ?_
                            refine TL.gdU rfl rfl rfl ?_
                            refine TL.gdU rfl rfl rfl ?_
                            refine TL.gdU rfl rfl rfl ?_
                            refine TL.gdN rfl rfl rfl rfl ?_
                            refine TL.run (pr_pure rfl) rfl ?_
                            refine TL.run (pr_pure rfl) rfl ?_
                            refine TL.gdY rfl rfl (pr_pure rfl) rfl ?_
                            refine TL.gdY rfl rfl (pr_pure rfl) rfl ?_
                            refine TL.gdY rfl rfl (pr_pure rfl) rfl ?_
                            refine TL.split (s := 139) rfl (fun g139 => ?_) (fun g139 => ?_)
                            ·
                              have q139 := of_decide_eq_true g139
                              refine TL.gdY rfl rfl (pr_pure rfl) rfl ?_
                              refine TL.gdY rfl rfl (pr_pure rfl) rfl ?_
                              refine TL.gdY rfl rfl (pr_pure rfl) rfl ?_
                              refine TL.split (s := 142) rfl (fun g142 => ?_) (fun g142 => ?_)
                              ·
                                have q142 := of_decide_eq_true g142
                                refine TL.gdY rfl rfl (pr_pure rfl) rfl ?_
                                refine TL.gdY rfl rfl (pr_pure rfl) rfl ?_
                                refine TL.gdY rfl rfl (pr_pure rfl) rfl ?_
                                refine TL.gdY rfl rfl (pr_pure rfl) rfl ?_
                                refine TL.gdY rfl rfl (pr_pure rfl) rfl ?_
                                refine TL.gdY rfl rfl (pr_pure rfl) rfl ?_
                                refine TL.split (s := 148) rfl (fun g148 => ?_) (fun g148 => ?_)
                                ·
                                  have q148 := of_decide_eq_true g148
                                  refine TL.gdN rfl rfl rfl rfl ?_
                                  refine TL.gdN rfl rfl rfl rfl ?_
                                  refine TL.gdN rfl rfl rfl rfl ?_
                                  refine TL.gdU rfl rfl rfl ?_
                                  refine TL.gdU rfl rfl rfl ?_
                                  refine TL.gdU rfl rfl rfl ?_
                                  refine TL.gdN rfl rfl rfl rfl ?_
                                  refine TL.gdY rfl rfl (pr_pure rfl) rfl ?_
                                  refine TL.gdY rfl rfl (pr_pure rfl) rfl ?_
                                  refine TL.run (pr_pure rfl) rfl ?_
                                  refine TL.run (pr_pure rfl) rfl ?_
                                  refine TL.nil ?_
                                  exact TX.sw rfl (by first | rfl | (exfalso; simp only [z9, z10] at *; omega) | (simp only [z9, z10] at *; simp; done) | (simp only [z9, z10] at *; simp; omega) | (simp only [z9, z10] at *; simp_all; done) | (simp only [z9, z10] at *; simp_all; omega)) ⟨rfl, rfl, rfl, rfl, rfl, rfl, trivial⟩
                                ·
                                  have q148 := of_decide_eq_false g148
                                  refine TL.gdY rfl rfl (pr_pure rfl) rfl ?_
                                  refine TL.gdY rfl rfl (pr_pure rfl) rfl ?_
                                  refine TL.gdY rfl rfl (pr_pure rfl) rfl ?_
                                  refine TL.split (s := 151) rfl (fun g151 => ?_) (fun g151 => ?_)
                                  ·
                                    have q151 := of_decide_eq_true g151
                                    refine TL.gdY rfl rfl (pr_pure rfl) rfl ?_
                                    refine TL.gdY rfl rfl (pr_pure rfl) rfl ?_
                                    refine TL.gdY rfl rfl (pr_pure rfl) rfl ?_
                                    refine TL.gdY rfl rfl (pr_pure rfl) rfl ?_
                                    refine TL.gdY rfl rfl (pr_pure rfl) rfl ?_
                                    refine TL.gdY rfl rfl (pr_pure rfl) rfl ?_
                                    refine TL.run (pr_pure rfl) rfl ?_
                                    refine TL.run (pr_pure rfl) rfl ?_
                                    refine TL.nil ?_
                                    exact TX.sw rfl (by first | rfl | (exfalso; simp only [z9, z10] at *; omega) | (simp only [z9, z10] at *; simp; done) | (simp only [z9, z10] at *; simp; omega) | (simp only [z9, z10] at *; simp_all; done) | (simp only [z9, z10] at *; simp_all; omega)) ⟨rfl, rfl, rfl, rfl, rfl, rfl, trivial⟩
                                  ·
                                    have q151 := of_decide_eq_false g151
                                    refine TL.gdN rfl rfl rfl rfl ?_
                                    refine TL.gdN rfl rfl rfl rfl ?_
                                    refine TL.gdN rfl rfl rfl rfl ?_
                                    refine TL.gdY rfl rfl (pr_pure rfl) rfl ?_
                                    refine TL.gdY rfl rfl (pr_pure rfl) rfl ?_
                                    refine TL.gdY rfl rfl (pr_pure rfl) rfl ?_
                                    refine TL.run (pr_pure rfl) rfl ?_
                                    refine TL.run (pr_pure rfl) rfl ?_
                                    refine TL.nil ?_
                                    exact TX.sw rfl (by first | rfl | (exfalso; simp only [z9, z10] at *; omega) | (simp only [z9, z10] at *; simp; done) | (simp only [z9, z10] at *; simp; omega) | (simp only [z9, z10] at *; simp_all; done) | (simp only [z9, z10] at *; simp_all; omega)) ⟨rfl, rfl, rfl, rfl, rfl, rfl, trivial⟩
                              ·
                                have q142 := of_decide_eq_false g142
                                refine TL.gdN rfl rfl rfl rfl ?_
                                refine TL.gdN rfl rfl rfl rfl ?_
                                refine TL.gdN rfl rfl rfl rfl ?_
                                refine TL.gdN rfl rfl rfl rfl ?_
                                refine TL.gdY rfl rfl (pr_pure rfl) rfl ?_
                                refine TL.gdY rfl rfl (pr_pure rfl) rfl ?_
                                refine TL.gdY rfl rfl (pr_pure rfl) rfl ?_
                                refine TL.gdY rfl rfl (pr_pure rfl) rfl ?_
                                refine TL.gdY rfl rfl (pr_pure rfl) rfl ?_
                                refine TL.split (s := 151) rfl (fun g151 => ?_) (fun g151 => ?_)
                                ·
                                  have q151 := of_decide_eq_true g151
                                  refine TL.gdY rfl rfl (pr_pure rfl) rfl ?_
                                  refine TL.gdY rfl rfl (pr_pure rfl) rfl ?_
                                  refine TL.gdY rfl rfl (pr_pure rfl) rfl ?_
                                  refine TL.gdY rfl rfl (pr_pure rfl) rfl ?_
                                  refine TL.gdY rfl rfl (pr_pure rfl) rfl ?_
                                  refine TL.gdY rfl rfl (pr_pure rfl) rfl ?_
                                  refine TL.run (pr_pure rfl) rfl ?_
                                  refine TL.run (pr_pure rfl) rfl ?_
                                  refine TL.nil ?_
                                  exact TX.sw rfl (by first | rfl | (exfalso; simp only [z9, z10] at *; omega) | (simp only [z9, z10] at *; simp; done) | (simp only [z9, z10] at *; simp; omega) | (simp only [z9, z10] at *; simp_all; done) | (simp only [z9, z10] at *; simp_all; omega)) ⟨rfl, rfl, rfl, rfl, rfl, rfl, trivial⟩
                                ·
                                  have q151 := of_decide_eq_false g151
                                  refine TL.gdN rfl rfl rfl rfl ?_
                                  refine TL.gdN rfl rfl rfl rfl ?_
                                  refine TL.gdN rfl rfl rfl rfl ?_
                                  refine TL.gdY rfl rfl (pr_pure rfl) rfl ?_
                                  refine TL.gdY rfl rfl (pr_pure rfl) rfl ?_
                                  refine TL.gdY rfl rfl (pr_pure rfl) rfl ?_
                                  refine TL.run (pr_pure rfl) rfl ?_
                                  refine TL.run (pr_pure rfl) rfl ?_
                                  refine TL.nil ?_
                                  exact TX.sw rfl (by first | rfl | (exfalso; simp only [z9, z10] at *; omega) | (simp only [z9, z10] at *; simp; done) | (simp only [z9, z10] at *; simp; omega) | (simp only [z9, z10] at *; simp_all; done) | (simp only [z9, z10] at *; simp_all; omega)) ⟨rfl, rfl, rfl, rfl, rfl, rfl, trivial⟩
                            ·
                              have q139 := of_decide_eq_false g139
                              refine TL.gdN rfl rfl rfl rfl ?_
                              refine TL.gdN rfl rfl rfl rfl ?_
                              refine TL.gdN rfl rfl rfl rfl ?_
                              refine TL.gdU rfl rfl rfl ?_
                              refine TL.gdU rfl rfl rfl ?_
                              refine TL.gdU rfl rfl rfl ?_
                              refine TL.gdU rfl rfl rfl ?_
                              refine TL.gdN rfl rfl rfl rfl ?_
                              refine TL.gdN rfl rfl rfl rfl ?_
                              refine TL.gdU rfl rfl rfl ?_
                              refine TL.gdU rfl rfl rfl ?_
                              refine TL.gdU rfl rfl rfl ?_
                              refine TL.gdU rfl rfl rfl ?_
                              refine TL.gdU rfl rfl rfl ?_
                              refine TL.gdU rfl rfl rfl ?_
                              refine TL.gdU rfl rfl rfl ?_
                              refine TL.gdN rfl rfl rfl rfl ?_
                              refine TL.gdY rfl rfl (pr_pure rfl) rfl ?_
                              refine TL.run (pr_pure rfl) rfl ?_
                              refine TL.run (pr_pure rfl) rfl ?_
                              refine TL.nil ?_
                              exact TX.sw rfl (by first | rfl | (exfalso; simp only [z9, z10] at *; omega) | (simp only [z9, z10] at *; simp; done) | (simp only [z9, z10] at *; simp; omega) | (simp only [z9, z10] at *; simp_all; done) | (simp only [z9, z10] at *; simp_all; omega)) ⟨rfl, rfl, rfl, rfl, rfl, rfl, trivial⟩
                        refine TC.seq ?_
                        refine TC.region ?_
                        refine TL.run (pr_indexArr rfl rfl (by omega) (by omega)) rfl ?_
                        refine TL.run (pr_own1 rfl (.there _ (.here _)) rfl) rfl ?_
                        refine TL.run (pr_pure rfl) rfl ?_
                        refine TL.run (pr_pure rfl) rfl ?_
                        refine TL.split (s := 162) rfl (fun g162 => ?_) (fun g162 => ?_)
                        ·
                          have q162 := of_decide_eq_true g162
                          refine TL.gdY rfl rfl (pr_indexArr rfl rfl (by omega) (by omega)) rfl ?_
                          refine TL.gdY rfl rfl (pr_own1 rfl (.there _ (.here _)) rfl) rfl ?_
                          refine TL.gdY rfl rfl (pr_pure rfl) rfl ?_
                          refine TL.run (pr_pure rfl) rfl ?_
                          refine TL.run (pr_pure rfl) rfl ?_
                          refine TL.split (s := 167) rfl (fun g167 => ?_) (fun g167 => ?_)
                          ·
                            have q167 := of_decide_eq_true g167
                            refine TL.gdY rfl rfl (pr_pure rfl) rfl ?_
                            refine TL.gdY rfl rfl (pr_pure rfl) rfl ?_
                            refine TL.gdY rfl rfl ((by first | exact pr_mul rfl rfl (by omega) (by omega) | exact pr_pure rfl)) rfl ?_
                            refine TL.gdY rfl rfl (pr_pure rfl) rfl ?_
                            refine TL.gdY rfl rfl ((by first | exact pr_add rfl rfl (by omega) (by omega) | exact pr_pure rfl)) rfl ?_
                            refine TL.gdY rfl rfl (pr_pure rfl) rfl ?_
                            refine TL.gdY rfl rfl (pr_pure rfl) rfl ?_
                            refine TL.run (pr_pure rfl) rfl ?_
                            refine TL.run (pr_pure rfl) rfl ?_
                            refine TL.split (s := 176) rfl (fun g176 => ?_) (fun g176 => ?_)
                            ·
                              have q176 := of_decide_eq_true g176
                              refine TL.gdY rfl rfl (pr_pure rfl) rfl ?_
                              refine TL.gdY rfl rfl (pr_pure rfl) rfl ?_
                              refine TL.gdY rfl rfl (pr_pure rfl) rfl ?_
                              refine TL.split (s := 179) rfl (fun g179 => ?_) (fun g179 => ?_)
                              ·
                                have q179 := of_decide_eq_true g179
                                refine TL.gdN rfl rfl rfl rfl ?_
                                refine TL.gdN rfl rfl rfl rfl ?_
                                refine TL.gdN rfl rfl rfl rfl ?_
                                refine TL.gdN rfl rfl rfl rfl ?_
                                refine TL.gdN rfl rfl rfl rfl ?_
                                refine TL.gdY rfl rfl (pr_pure rfl) rfl ?_
                                refine TL.run (pr_pure rfl) rfl ?_
                                refine TL.run (pr_pure rfl) rfl ?_
                                refine TL.gdY rfl rfl (pr_pure rfl) rfl ?_
                                refine TL.run (pr_pure rfl) rfl ?_
                                refine TL.run (pr_pure rfl) rfl ?_
                                refine TL.nil ?_
                                refine TX.seqN ?_
                                refine TC.ret ?_
                                exact TX.finS (.inr rfl) (results1 rfl (RVal.tmp rfl)) (congrArg Value.bool (by first | rfl | (simp only [z9, z10, s1] at *; simp_all; done) | (simp_all [truthV]; done) | (simp_all; omega)))
                              ·
                                have q179 := of_decide_eq_false g179
                                refine TL.gdY rfl rfl (pr_pure rfl) rfl ?_
                                refine TL.gdY rfl rfl (pr_pure rfl) rfl ?_
                                refine TL.gdY rfl rfl (pr_pure rfl) rfl ?_
                                refine TL.gdY rfl rfl (pr_pure rfl) rfl ?_
                                refine TL.gdY rfl rfl (pr_bool rfl rfl rfl) rfl ?_
                                refine TL.gdY rfl rfl (pr_pure rfl) rfl ?_
                                refine TL.run (pr_pure rfl) rfl ?_
                                refine TL.run (pr_pure rfl) rfl ?_
                                refine TL.split (s := 187) rfl (fun g187 => ?_) (fun g187 => ?_)
                                ·
                                  have q187 := of_decide_eq_true g187
                                  refine TL.gdY rfl rfl (pr_pure rfl) rfl ?_
                                  refine TL.run (pr_pure rfl) rfl ?_
                                  refine TL.run (pr_pure rfl) rfl ?_
                                  refine TL.nil ?_
                                  refine TX.seqN ?_
                                  refine TC.ret ?_
                                  exact TX.finS (.inr rfl) (results1 rfl (RVal.tmp rfl)) (congrArg Value.bool (by first | rfl | (simp only [z9, z10, s1] at *; simp_all; done) | (simp_all [truthV]; done) | (simp_all; omega)))
                                ·
                                  have q187 := of_decide_eq_false g187
                                  refine TL.gdN rfl rfl rfl rfl ?_
                                  refine TL.run (pr_pure rfl) rfl ?_
                                  refine TL.run (pr_pure rfl) rfl ?_
                                  refine TL.nil ?_
                                  refine TX.seqN ?_
                                  refine TC.ret ?_
                                  exact TX.finS (.inr rfl) (results1 rfl (RVal.tmp rfl)) (congrArg Value.bool (by first | rfl | (simp only [z9, z10, s1] at *; simp_all; done) | (simp_all [truthV]; done) | (simp_all; omega)))
                            ·
                              have q176 := of_decide_eq_false g176
                              refine TL.gdN rfl rfl rfl rfl ?_
                              refine TL.gdN rfl rfl rfl rfl ?_
                              refine TL.gdN rfl rfl rfl rfl ?_
                              refine TL.gdU rfl rfl rfl ?_
                              refine TL.gdU rfl rfl rfl ?_
                              refine TL.gdU rfl rfl rfl ?_
                              refine TL.gdU rfl rfl rfl ?_
                              refine TL.gdU rfl rfl rfl ?_
                              refine TL.gdN rfl rfl rfl rfl ?_
                              refine TL.run (pr_pure rfl) rfl ?_
                              refine TL.run (pr_pure rfl) rfl ?_
                              refine TL.gdN rfl rfl rfl rfl ?_
                              refine TL.run (pr_pure rfl) rfl ?_
                              refine TL.run (pr_pure rfl) rfl ?_
                              refine TL.nil ?_
                              refine TX.seqN ?_
                              refine TC.ret ?_
                              exact TX.finS (.inr rfl) (results1 rfl (RVal.tmp rfl)) (congrArg Value.bool (by first | rfl | (simp only [z9, z10, s1] at *; simp_all; done) | (simp_all [truthV]; done) | (simp_all; omega)))
                          ·
                            have q167 := of_decide_eq_false g167
                            refine TL.gdN rfl rfl rfl rfl ?_
                            refine TL.gdN rfl rfl rfl rfl ?_
                            refine TL.gdN rfl rfl rfl rfl ?_
                            refine TL.gdN rfl rfl rfl rfl ?_
                            refine TL.gdN rfl rfl rfl rfl ?_
                            refine TL.gdN rfl rfl rfl rfl ?_
                            refine TL.gdN rfl rfl rfl rfl ?_
                            refine TL.run (pr_pure rfl) rfl ?_
                            refine TL.run (pr_pure rfl) rfl ?_
                            refine TL.gdN rfl rfl rfl rfl ?_
                            refine TL.gdN rfl rfl rfl rfl ?_
                            refine TL.gdN rfl rfl rfl rfl ?_
                            refine TL.gdU rfl rfl rfl ?_
                            refine TL.gdU rfl rfl rfl ?_
                            refine TL.gdU rfl rfl rfl ?_
                            refine TL.gdU rfl rfl rfl ?_
                            refine TL.gdU rfl rfl rfl ?_
                            refine TL.gdN rfl rfl rfl rfl ?_
                            refine TL.run (pr_pure rfl) rfl ?_
                            refine TL.run (pr_pure rfl) rfl ?_
                            refine TL.gdN rfl rfl rfl rfl ?_
                            refine TL.run (pr_pure rfl) rfl ?_
                            refine TL.run (pr_pure rfl) rfl ?_
                            refine TL.nil ?_
                            refine TX.seqN ?_
                            refine TC.ret ?_
                            exact TX.finS (.inr rfl) (results1 rfl (RVal.tmp rfl)) (congrArg Value.bool (by first | rfl | (simp only [z9, z10, s1] at *; simp_all; done) | (simp_all [truthV]; done) | (simp_all; omega)))
                        ·
                          have q162 := of_decide_eq_false g162
                          refine TL.gdN rfl rfl rfl rfl ?_
                          refine TL.gdN rfl rfl rfl rfl ?_
                          refine TL.gdN rfl rfl rfl rfl ?_
                          refine TL.run (pr_pure rfl) rfl ?_
                          refine TL.run (pr_pure rfl) rfl ?_
                          refine TL.gdN rfl rfl rfl rfl ?_
                          refine TL.gdN rfl rfl rfl rfl ?_
                          refine TL.gdN rfl rfl rfl rfl ?_
                          refine TL.gdN rfl rfl rfl rfl ?_
                          refine TL.gdN rfl rfl rfl rfl ?_
                          refine TL.gdN rfl rfl rfl rfl ?_
                          refine TL.gdN rfl rfl rfl rfl ?_
                          refine TL.run (pr_pure rfl) rfl ?_
                          refine TL.run (pr_pure rfl) rfl ?_
                          refine TL.gdN rfl rfl rfl rfl ?_
                          refine TL.gdN rfl rfl rfl rfl ?_
                          refine TL.gdN rfl rfl rfl rfl ?_
                          refine TL.gdU rfl rfl rfl ?_
                          refine TL.gdU rfl rfl rfl ?_
                          refine TL.gdU rfl rfl rfl ?_
                          refine TL.gdU rfl rfl rfl ?_
                          refine TL.gdU rfl rfl rfl ?_
                          refine TL.gdN rfl rfl rfl rfl ?_
                          refine TL.run (pr_pure rfl) rfl ?_
                          refine TL.run (pr_pure rfl) rfl ?_
                          refine TL.gdN rfl rfl rfl rfl ?_
                          refine TL.run (pr_pure rfl) rfl ?_
                          refine TL.run (pr_pure rfl) rfl ?_
                          refine TL.nil ?_
                          refine TX.seqN ?_
                          refine TC.ret ?_
                          exact TX.finS (.inr rfl) (results1 rfl (RVal.tmp rfl)) (congrArg Value.bool (by first | rfl | (simp only [z9, z10, s1] at *; simp_all; done) | (simp_all [truthV]; done) | (simp_all; omega)))
end Go.Sx
