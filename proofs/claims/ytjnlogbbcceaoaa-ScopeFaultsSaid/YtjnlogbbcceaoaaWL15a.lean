import Derived.Test.YtjnlogbbcceaoaaWL15
set_option linter.unusedVariables false
set_option linter.unusedSimpArgs false
namespace Go.Sx
open Go Go.Proofs
set_option maxRecDepth 100000 in
set_option maxHeartbeats 16000000 in
theorem ScopeFaults_ok {H : Hp} (what : Int) (name : Str) (hsl : name.length ≤ 9223372036854775807) (hM : MaxG H) :
  Fn Try.prog 3 [.int .i64 what, gs name] H (fun v H2 => v = .bool true) := by
 refine Fn.enter Try.func3 Try.ntmps3 rfl rfl (fun w0 => ?_)
 refine TC.seq (TC.region (TL.run (pr_pure rfl) rfl (TL.nil (TX.seqN (TC.seq (TC.seq (TC.region ?_)))))))
 refine TL.call (enters rfl rfl rfl rfl) (first15_ok hM) rfl (fun v13 H13 hle13 hp13 => ?_)
 replace hM := hM.le hle13
 subst hp13
 refine TL.run (pr_pure rfl) rfl (TL.nil (TX.seqN ?_))
 refine TC.cond rfl (fun c14 => ?_) (fun c14 => ?_)
 ·
  exact absurd c14 (by decide)
 ·
  refine TC.skip (TX.seqN (TC.seq (TC.seq (TC.region (TL.run (pr_pure rfl) rfl ?_)))))
  refine TL.callS (enters rfl rfl rfl rfl) (n_MayU_ok name) rfl ?_
  refine TL.run (pr_pure rfl) rfl (TL.run (pr_pure rfl) rfl ?_)
  refine TL.split (s := 18) rfl (fun g18 => ?_) (fun g18 => ?_)
  ·
   refine TL.gdN rfl rfl rfl rfl (TL.gdN rfl rfl rfl rfl (TL.run (pr_pure rfl) rfl (TL.run (pr_pure rfl) rfl (TL.gdN rfl rfl rfl rfl (TL.gdN rfl rfl rfl rfl (TL.run (pr_pure rfl) rfl (TL.nil ?_)))))))
   refine TX.seqN (TC.condT rfl (TC.seq (TC.region (TL.run (pr_pure rfl) rfl (TL.nil (TX.seqN (TC.ret ?_)))))))
   refine TX.thenR (TX.fin0 (.inr rfl) (results1 rfl (RVal.tmp rfl)) rfl)
  ·
   refine TL.gdY rfl rfl (pr_pure rfl) rfl (TL.gdY rfl rfl (pr_str rfl rfl rfl) rfl (TL.run (pr_pure rfl) rfl (TL.run (pr_pure rfl) rfl ?_)))
   refine TL.split (s := 22) rfl (fun g22 => ?_) (fun g22 => ?_)
   ·
    have q22 := of_decide_eq_true g22
    refine TL.gdN rfl rfl rfl rfl (TL.gdN rfl rfl rfl rfl (TL.run (pr_pure rfl) rfl (TL.nil (TX.seqN (TC.condT rfl (TC.seq (TC.region ?_)))))))
    refine TL.run (pr_pure rfl) rfl (TL.nil (TX.seqN (TC.ret (TX.thenR (TX.fin0 (.inr rfl) (results1 rfl (RVal.tmp rfl)) rfl)))))
   ·
    have q22 := of_decide_eq_false g22
    refine TL.gdY rfl rfl (pr_pure rfl) rfl (TL.gdY rfl rfl (pr_str rfl rfl rfl) rfl (TL.run (pr_pure rfl) rfl (TL.nil (TX.seqN ?_))))
    refine TC.condD rfl (fun c25 => ?_) (fun c25 => ?_)
    ·
     refine TC.seq (TC.region (TL.run (pr_pure rfl) rfl (TL.nil (TX.seqN (TC.ret (TX.thenR (TX.fin0 (.inr rfl) (results1 rfl (RVal.tmp rfl)) rfl)))))))
    ·
     have hn : nameMay name = true := by simp_all
     have h1 : name ≠ sMain := by simp_all [sMain]
     have h2 : name ≠ [102] := by simp_all
     have hnl : name.length ≤ 9223372036854775807 := hsl
     refine TC.skip (TX.seqN (TC.seq (TC.region (TL.run (pr_pure rfl) rfl (TL.run (pr_build rfl rfl) rfl ?_)))))
     refine TL.alloc rfl (fun b5 => ?_)
     refine TL.storeA rfl rfl rfl rfl rfl (.here _) rfl rfl ?_
     refine TL.nil (TX.seqN (TC.seq (TC.region (TL.run (pr_build rfl rfl) rfl ?_))))
     refine TL.alloc rfl (fun b6 => ?_)
     refine TL.storeA rfl rfl rfl rfl rfl (.here _) rfl rfl ?_
     refine TL.nil (TX.seqN (TC.seq (TC.region (TL.run (pr_build rfl rfl) rfl ?_))))
     refine TL.alloc rfl (fun b7 => ?_)
     refine TL.storeA rfl rfl rfl rfl rfl (.here _) rfl rfl ?_
     refine TL.nil (TX.seqN (TC.seq (TC.region (TL.run (pr_pure rfl) rfl (TL.run (pr_build rfl rfl) rfl ?_)))))
     refine TL.alloc rfl (fun b8 => ?_)
     refine TL.storeA rfl rfl rfl rfl rfl (.here _) rfl rfl ?_
     refine TL.nil (TX.seqN (TC.seq (TC.region (TL.run (pr_build rfl rfl) rfl ?_))))
     refine TL.alloc rfl (fun b9 => ?_)
     refine TL.storeA rfl rfl rfl rfl rfl (.here _) rfl rfl ?_
     refine TL.nil (TX.seqN (TC.seq (TC.region (TL.run (pr_ownA rfl (.there _ (.there _ (.here _))) rfl) rfl ?_))))
     refine TL.bslice rfl rfl rfl rfl (fun b34 => ?_)
     refine TL.run (pr_build rfl rfl) rfl ?_
     refine TL.alloc rfl (fun b10 => ?_)
     refine TL.storeA rfl rfl rfl rfl rfl (.here _) rfl rfl ?_
     refine TL.nil (TX.seqN (TC.seq (TC.region (TL.run (pr_ownA rfl (.there _ (.there _ (.there _ (.there _ (.there _ (.here _)))))) rfl) rfl (TL.run (pr_ownA rfl (.there _ (.there _ (.there _ (.there _ (.there _ (.here _)))))) rfl) rfl (TL.run (pr_ownA rfl (.there _ (.there _ (.there _ (.there _ (.there _ (.there _ (.here _))))))) rfl) rfl ?_))))))
     refine TL.bslice rfl rfl rfl rfl (fun b39 => ?_)
     refine TL.run (pr_ownA rfl (.there _ (.there _ (.there _ (.there _ (.here _))))) rfl) rfl (TL.run (pr_ownA rfl (.there _ (.there _ (.there _ (.here _)))) rfl) rfl ?_)
     refine TL.bslice rfl rfl rfl rfl (fun b42 => ?_)
     refine TL.run (pr_build rfl rfl) rfl ?_
     refine TL.alloc rfl (fun b11 => ?_)
     refine TL.storeA rfl rfl rfl rfl rfl (.here _) rfl rfl ?_
     refine TL.nil (TX.seqN (TC.seq (TC.region (TL.run (pr_build rfl rfl) rfl ?_))))
     refine TL.alloc rfl (fun b12 => ?_)
     refine TL.storeA rfl rfl rfl rfl rfl (.here _) rfl rfl ?_
     refine TL.nil (TX.seqN (TC.seq (TC.seq (TC.region (TL.run (pr_pure rfl) rfl (TL.run (pr_conv rfl) rfl (TL.run (pr_rem rfl rfl (by omega)) rfl ?_)))))))
     refine TL.nil (TX.seqN (TC.block (TC.seq (TC.region (TL.run (pr_pure rfl) rfl (TL.run (pr_pure rfl) rfl (TL.nil ?_)))))))
     refine TX.seqN ?_
     refine TC.condD rfl (fun c50 => ?_) (fun c50 => ?_)
     ·
      refine TC.seq (TC.region (TL.run (pr_pure rfl) rfl (TL.run (pr_field rfl) rfl ?_)))
      refine TL.store1 rfl rfl rfl (.there _ (.here _)) (by kernel_rfl) rfl ?_
      refine TL.nil (TX.seqN (TC.region (TL.run (pr_build rfl rfl) rfl ?_)))
      refine TL.storeA rfl rfl rfl rfl rfl (.here _) rfl rfl ?_
      refine TL.nil (TX.blkN (TX.seqN (TC.seq ?_)))
      refine TC.drawn (by kernel_rfl) (by kernel_rfl) ?_
      refine TD.part 5 4 rfl rfl rfl ?_ ?_
      ·
       refine TD.leaf [(0, 2), (1, 2), (5, 2), (2, 3), (3, 1), (4, 0), (6, 1), (7, 1)] (by kernel_rfl) (by kernel_rfl) ?_
       refine TF.front (.there _ (.there _ (.there _ (.there _ (.there _ (.here _)))))) ?_
       refine TF.pub (by simp) (fun H_b34 le_b34 rd_b34 => ?_)
       replace hM := hM.le le_b34
       have hSf : RdSl H_b34 10 SStep.cells _ ([endS]) := RdSl.blk (cap := 1) rd_b34 (by intro x hx; rfl) (by kernel_rfl) (by show 1 ≤ 9223372036854775807; decide)
       refine TF.front (.there _ (.there _ (.there _ (.here _)))) ?_
       refine TF.pub (by simp) (fun H_b39 le_b39 rd_b39 => ?_)
       replace hM := hM.le le_b39
       replace hSf := hSf.le le_b39
       have hT : RdSl H_b39 6 Term.cells _ (fs3 name) := RdSl.blk (cap := 3) rd_b39 (by intro x hx; rfl) (by kernel_rfl) (by show 3 ≤ 9223372036854775807; decide)
       refine TF.front (.there _ (.there _ (.here _))) ?_
       refine TF.pub (by simp) (fun H_b42 le_b42 rd_b42 => ?_)
       replace hM := hM.le le_b42
       replace hSf := hSf.le le_b42
       replace hT := hT.le le_b42
       have hS : RdSl H_b42 10 SStep.cells _ ([(letS name 0 1), (callS [102] [] nS)]) := RdSl.blk (cap := 2) rd_b42 (by intro x hx; rfl) (by kernel_rfl) (by show 2 ≤ 9223372036854775807; decide)
       refine TF.still (pr_ownA rfl (.there _ (.there _ (.here _))) rfl) rfl (TF.still (pr_ownA rfl (.there _ (.here _)) rfl) rfl (TF.still (pr_ownA rfl (.here _) rfl) rfl ?_))
       refine TF.bslice rfl rfl rfl rfl (fun b123 => ?_)
       refine TF.pure (pr_build rfl rfl) rfl ?_
       refine TF.pub (by simp) (fun H_b123 le_b123 rd_b123 => ?_)
       replace hM := hM.le le_b123
       replace hSf := hSf.le le_b123
       replace hT := hT.le le_b123
       replace hS := hS.le le_b123
       have hQ : RdSl H_b123 4 SProc.cells _ ([(fProc [102] (some ⟨b34, 0, none⟩, 1)), (mProc name name (some ⟨b39, 0, none⟩, 3) [(letS name 0 1), (callS [102] [] nS)] (some ⟨b42, 0, none⟩, 2))]) := RdSl.blk (cap := 2) rd_b123 (by intro x hx; rfl) (by kernel_rfl) (by show 2 ≤ 9223372036854775807; decide)
       have hOk : ∀ s ∈ [(letS name 0 1), (callS [102] [] nS)], StepOk H_b123 s := by
        intro s hs; simp only [List.mem_cons, List.not_mem_nil, or_false] at hs
        rcases hs with rfl | rfl <;> first | exact plain_ok _ rfl rfl rfl
       have hPG : ProgOk H_b123 (fPg (fProc [102] (some ⟨b34, 0, none⟩, 1)) (mProc name name (some ⟨b39, 0, none⟩, 3) [(letS name 0 1), (callS [102] [] nS)] (some ⟨b42, 0, none⟩, 2)) (some ⟨b123, 0, none⟩, 2)) := fault_prog hSf hT hS hQ hOk hnl
       refine TF.loud ?_
       have hCk := check_ok hPG hM
       rw [fa0 _ _ _ _ _ hn h1 h2] at hCk
       replace hCk : Fn Try.prog 6 [.agg #[.slice none 0 0, .slice none 0 0, .slice (some ⟨b123, 0, none⟩) 2 2]] H_b123 _ := hCk
       refine TL.call (enters rfl rfl rfl rfl) (hCk) rfl (fun v125 H125 hle125 hp125 => ?_)
       replace hM := hM.le hle125
       replace hSf := hSf.le hle125
       replace hT := hT.le hle125
       replace hS := hS.le hle125
       replace hQ := hQ.le hle125
       subst hp125
       refine TF.back (TF.pure (pr_eqA (r := true) rfl rfl (by kernel_rfl) (by kernel_rfl) (by kernel_rfl)) rfl (TF.pure (pr_pure rfl) rfl (TF.nil (TX.seqN (TC.ret (TX.fin0 (.inr rfl) (results1 rfl (RVal.tmp rfl)) rfl))))))
      ·
       refine TD.leaf [(0, 2), (1, 2), (2, 3), (3, 1), (4, 0), (5, 2), (6, 1), (7, 1)] (by kernel_rfl) (by kernel_rfl) ?_
       refine TF.front (.there _ (.there _ (.there _ (.there _ (.there _ (.here _)))))) ?_
       refine TF.pub (by simp) (fun H_b34 le_b34 rd_b34 => ?_)
       replace hM := hM.le le_b34
       have hSf : RdSl H_b34 10 SStep.cells _ ([endS]) := RdSl.blk (cap := 1) rd_b34 (by intro x hx; rfl) (by kernel_rfl) (by show 1 ≤ 9223372036854775807; decide)
       refine TF.front (.there _ (.there _ (.there _ (.here _)))) ?_
       refine TF.pub (by simp) (fun H_b39 le_b39 rd_b39 => ?_)
       replace hM := hM.le le_b39
       replace hSf := hSf.le le_b39
       have hT : RdSl H_b39 6 Term.cells _ (fs3 name) := RdSl.blk (cap := 3) rd_b39 (by intro x hx; rfl) (by kernel_rfl) (by show 3 ≤ 9223372036854775807; decide)
       refine TF.front (.there _ (.there _ (.here _))) ?_
       refine TF.pub (by simp) (fun H_b42 le_b42 rd_b42 => ?_)
       replace hM := hM.le le_b42
       replace hSf := hSf.le le_b42
       replace hT := hT.le le_b42
       have hS : RdSl H_b42 10 SStep.cells _ ([(letS name 0 1), (callS [102] [] nS)]) := RdSl.blk (cap := 2) rd_b42 (by intro x hx; rfl) (by kernel_rfl) (by show 2 ≤ 9223372036854775807; decide)
       refine TF.still (pr_ownA rfl (.there _ (.there _ (.here _))) rfl) rfl (TF.still (pr_ownA rfl (.there _ (.here _)) rfl) rfl ?_)
       refine TF.bslice rfl rfl rfl rfl (fun b123 => ?_)
       refine TF.pure (pr_build rfl rfl) rfl ?_
       refine TF.pub (by simp) (fun H_b123 le_b123 rd_b123 => ?_)
       replace hM := hM.le le_b123
       replace hSf := hSf.le le_b123
       replace hT := hT.le le_b123
       replace hS := hS.le le_b123
       have hQ : RdSl H_b123 4 SProc.cells _ ([(fProc [102] (some ⟨b34, 0, none⟩, 1)), (mProc name name (some ⟨b39, 0, none⟩, 3) [(letS name 0 1), (callS [102] [] nS)] (some ⟨b42, 0, none⟩, 2))]) := RdSl.blk (cap := 2) rd_b123 (by intro x hx; rfl) (by kernel_rfl) (by show 2 ≤ 9223372036854775807; decide)
       have hOk : ∀ s ∈ [(letS name 0 1), (callS [102] [] nS)], StepOk H_b123 s := by
        intro s hs; simp only [List.mem_cons, List.not_mem_nil, or_false] at hs
        rcases hs with rfl | rfl <;> first | exact plain_ok _ rfl rfl rfl
       have hPG : ProgOk H_b123 (fPg (fProc [102] (some ⟨b34, 0, none⟩, 1)) (mProc name name (some ⟨b39, 0, none⟩, 3) [(letS name 0 1), (callS [102] [] nS)] (some ⟨b42, 0, none⟩, 2)) (some ⟨b123, 0, none⟩, 2)) := fault_prog hSf hT hS hQ hOk hnl
       refine TF.loud ?_
       have hCk := check_ok hPG hM
       rw [fa0 _ _ _ _ _ hn h1 h2] at hCk
       replace hCk : Fn Try.prog 6 [.agg #[.slice none 0 0, .slice none 0 0, .slice (some ⟨b123, 0, none⟩) 2 2]] H_b123 _ := hCk
       refine TL.call (enters rfl rfl rfl rfl) (hCk) rfl (fun v125 H125 hle125 hp125 => ?_)
       replace hM := hM.le hle125
       replace hSf := hSf.le hle125
       replace hT := hT.le hle125
       replace hS := hS.le hle125
       replace hQ := hQ.le hle125
       subst hp125
       refine TF.back (TF.still (pr_ownA rfl (.here _) rfl) rfl (TF.pure (pr_eqA (r := true) rfl rfl (by kernel_rfl) (by kernel_rfl) (by kernel_rfl)) rfl (TF.pure (pr_pure rfl) rfl (TF.nil (TX.seqN (TC.ret (TX.fin0 (.inr rfl) (results1 rfl (RVal.tmp rfl)) rfl)))))))
     ·
      refine TC.seq (TC.region (TL.run (pr_pure rfl) rfl (TL.run (pr_pure rfl) rfl (TL.nil (TX.seqN ?_)))))
      refine TC.condD rfl (fun c55 => ?_) (fun c55 => ?_)
      ·
       refine TC.seq (TC.region (TL.run (pr_field rfl) rfl (TL.run (pr_own1 rfl (.there _ (.here _)) rfl) rfl (TL.run (pr_index rfl rfl (by omega) (by omega)) rfl (TL.run (pr_field rfl) rfl ?_)))))
       refine TL.store1 rfl rfl rfl (.there _ (.there _ (.here _))) (by kernel_rfl) rfl ?_
       refine TL.nil (TX.seqN (TC.region (TL.run (pr_build rfl rfl) rfl ?_)))
       refine TL.storeA rfl rfl rfl rfl rfl (.here _) rfl rfl ?_
       refine TL.nil (TX.blkN (TX.seqN (TC.seq ?_)))
       refine TC.drawn (by kernel_rfl) (by kernel_rfl) ?_
       refine TD.part 5 4 rfl rfl rfl ?_ ?_
       ·
        refine TD.leaf [(0, 2), (1, 2), (5, 2), (2, 3), (3, 1), (4, 0), (6, 1), (7, 1)] (by kernel_rfl) (by kernel_rfl) ?_
        refine TF.front (.there _ (.there _ (.there _ (.there _ (.there _ (.here _)))))) ?_
        refine TF.pub (by simp) (fun H_b34 le_b34 rd_b34 => ?_)
        replace hM := hM.le le_b34
        have hSf : RdSl H_b34 10 SStep.cells _ ([endS]) := RdSl.blk (cap := 1) rd_b34 (by intro x hx; rfl) (by kernel_rfl) (by show 1 ≤ 9223372036854775807; decide)
        refine TF.front (.there _ (.there _ (.there _ (.here _)))) ?_
        refine TF.pub (by simp) (fun H_b39 le_b39 rd_b39 => ?_)
        replace hM := hM.le le_b39
        replace hSf := hSf.le le_b39
        have hT : RdSl H_b39 6 Term.cells _ (fs3 name) := RdSl.blk (cap := 3) rd_b39 (by intro x hx; rfl) (by kernel_rfl) (by show 3 ≤ 9223372036854775807; decide)
        refine TF.front (.there _ (.there _ (.here _))) ?_
        refine TF.pub (by simp) (fun H_b42 le_b42 rd_b42 => ?_)
        replace hM := hM.le le_b42
        replace hSf := hSf.le le_b42
        replace hT := hT.le le_b42
        have hS : RdSl H_b42 10 SStep.cells _ ([(letS name 2 1), (callS [102] [] nS)]) := RdSl.blk (cap := 2) rd_b42 (by intro x hx; rfl) (by kernel_rfl) (by show 2 ≤ 9223372036854775807; decide)
        refine TF.still (pr_ownA rfl (.there _ (.there _ (.here _))) rfl) rfl (TF.still (pr_ownA rfl (.there _ (.here _)) rfl) rfl (TF.still (pr_ownA rfl (.here _) rfl) rfl ?_))
        refine TF.bslice rfl rfl rfl rfl (fun b123 => ?_)
        refine TF.pure (pr_build rfl rfl) rfl ?_
        refine TF.pub (by simp) (fun H_b123 le_b123 rd_b123 => ?_)
        replace hM := hM.le le_b123
        replace hSf := hSf.le le_b123
        replace hT := hT.le le_b123
        replace hS := hS.le le_b123
        have hQ : RdSl H_b123 4 SProc.cells _ ([(fProc [102] (some ⟨b34, 0, none⟩, 1)), (mProc name sMain (some ⟨b39, 0, none⟩, 3) [(letS name 2 1), (callS [102] [] nS)] (some ⟨b42, 0, none⟩, 2))]) := RdSl.blk (cap := 2) rd_b123 (by intro x hx; rfl) (by kernel_rfl) (by show 2 ≤ 9223372036854775807; decide)
        have hOk : ∀ s ∈ [(letS name 2 1), (callS [102] [] nS)], StepOk H_b123 s := by
         intro s hs; simp only [List.mem_cons, List.not_mem_nil, or_false] at hs
         rcases hs with rfl | rfl <;> first | exact plain_ok _ rfl rfl rfl
        have hPG : ProgOk H_b123 (fPg (fProc [102] (some ⟨b34, 0, none⟩, 1)) (mProc name sMain (some ⟨b39, 0, none⟩, 3) [(letS name 2 1), (callS [102] [] nS)] (some ⟨b42, 0, none⟩, 2)) (some ⟨b123, 0, none⟩, 2)) := fault_prog hSf hT hS hQ hOk hnl
        refine TF.loud ?_
        have hCk := check_ok hPG hM
        rw [fa1 _ _ _ _ _ hn] at hCk
        replace hCk : Fn Try.prog 6 [.agg #[.slice none 0 0, .slice none 0 0, .slice (some ⟨b123, 0, none⟩) 2 2]] H_b123 _ := hCk
        refine TL.call (enters rfl rfl rfl rfl) (hCk) rfl (fun v125 H125 hle125 hp125 => ?_)
        replace hM := hM.le hle125
        replace hSf := hSf.le hle125
        replace hT := hT.le hle125
        replace hS := hS.le hle125
        replace hQ := hQ.le hle125
        subst hp125
        refine TF.back (TF.pure (pr_eqA (r := true) rfl rfl (by kernel_rfl) (by kernel_rfl) (by kernel_rfl)) rfl (TF.pure (pr_pure rfl) rfl (TF.nil (TX.seqN (TC.ret (TX.fin0 (.inr rfl) (results1 rfl (RVal.tmp rfl)) rfl))))))
       ·
        refine TD.leaf [(0, 2), (1, 2), (2, 3), (3, 1), (4, 0), (5, 2), (6, 1), (7, 1)] (by kernel_rfl) (by kernel_rfl) ?_
        refine TF.front (.there _ (.there _ (.there _ (.there _ (.there _ (.here _)))))) ?_
        refine TF.pub (by simp) (fun H_b34 le_b34 rd_b34 => ?_)
        replace hM := hM.le le_b34
        have hSf : RdSl H_b34 10 SStep.cells _ ([endS]) := RdSl.blk (cap := 1) rd_b34 (by intro x hx; rfl) (by kernel_rfl) (by show 1 ≤ 9223372036854775807; decide)
        refine TF.front (.there _ (.there _ (.there _ (.here _)))) ?_
        refine TF.pub (by simp) (fun H_b39 le_b39 rd_b39 => ?_)
        replace hM := hM.le le_b39
        replace hSf := hSf.le le_b39
        have hT : RdSl H_b39 6 Term.cells _ (fs3 name) := RdSl.blk (cap := 3) rd_b39 (by intro x hx; rfl) (by kernel_rfl) (by show 3 ≤ 9223372036854775807; decide)
        refine TF.front (.there _ (.there _ (.here _))) ?_
        refine TF.pub (by simp) (fun H_b42 le_b42 rd_b42 => ?_)
        replace hM := hM.le le_b42
        replace hSf := hSf.le le_b42
        replace hT := hT.le le_b42
        have hS : RdSl H_b42 10 SStep.cells _ ([(letS name 2 1), (callS [102] [] nS)]) := RdSl.blk (cap := 2) rd_b42 (by intro x hx; rfl) (by kernel_rfl) (by show 2 ≤ 9223372036854775807; decide)
        refine TF.still (pr_ownA rfl (.there _ (.there _ (.here _))) rfl) rfl (TF.still (pr_ownA rfl (.there _ (.here _)) rfl) rfl ?_)
        refine TF.bslice rfl rfl rfl rfl (fun b123 => ?_)
        refine TF.pure (pr_build rfl rfl) rfl ?_
        refine TF.pub (by simp) (fun H_b123 le_b123 rd_b123 => ?_)
        replace hM := hM.le le_b123
        replace hSf := hSf.le le_b123
        replace hT := hT.le le_b123
        replace hS := hS.le le_b123
        have hQ : RdSl H_b123 4 SProc.cells _ ([(fProc [102] (some ⟨b34, 0, none⟩, 1)), (mProc name sMain (some ⟨b39, 0, none⟩, 3) [(letS name 2 1), (callS [102] [] nS)] (some ⟨b42, 0, none⟩, 2))]) := RdSl.blk (cap := 2) rd_b123 (by intro x hx; rfl) (by kernel_rfl) (by show 2 ≤ 9223372036854775807; decide)
        have hOk : ∀ s ∈ [(letS name 2 1), (callS [102] [] nS)], StepOk H_b123 s := by
         intro s hs; simp only [List.mem_cons, List.not_mem_nil, or_false] at hs
         rcases hs with rfl | rfl <;> first | exact plain_ok _ rfl rfl rfl
        have hPG : ProgOk H_b123 (fPg (fProc [102] (some ⟨b34, 0, none⟩, 1)) (mProc name sMain (some ⟨b39, 0, none⟩, 3) [(letS name 2 1), (callS [102] [] nS)] (some ⟨b42, 0, none⟩, 2)) (some ⟨b123, 0, none⟩, 2)) := fault_prog hSf hT hS hQ hOk hnl
        refine TF.loud ?_
        have hCk := check_ok hPG hM
        rw [fa1 _ _ _ _ _ hn] at hCk
        replace hCk : Fn Try.prog 6 [.agg #[.slice none 0 0, .slice none 0 0, .slice (some ⟨b123, 0, none⟩) 2 2]] H_b123 _ := hCk
        refine TL.call (enters rfl rfl rfl rfl) (hCk) rfl (fun v125 H125 hle125 hp125 => ?_)
        replace hM := hM.le hle125
        replace hSf := hSf.le hle125
        replace hT := hT.le hle125
        replace hS := hS.le hle125
        replace hQ := hQ.le hle125
        subst hp125
        refine TF.back (TF.still (pr_ownA rfl (.here _) rfl) rfl (TF.pure (pr_eqA (r := true) rfl rfl (by kernel_rfl) (by kernel_rfl) (by kernel_rfl)) rfl (TF.pure (pr_pure rfl) rfl (TF.nil (TX.seqN (TC.ret (TX.fin0 (.inr rfl) (results1 rfl (RVal.tmp rfl)) rfl)))))))
      ·
       refine TC.seq (TC.region (TL.run (pr_pure rfl) rfl (TL.run (pr_pure rfl) rfl (TL.nil (TX.seqN ?_)))))
       refine TC.condD rfl (fun c62 => ?_) (fun c62 => ?_)
       ·
        refine TC.seq (TC.region (TL.run (pr_ownA rfl (.there _ (.there _ (.there _ (.there _ (.there _ (.there _ (.there _ (.here _)))))))) rfl) rfl (TL.run (pr_pure rfl) rfl (TL.run (pr_build rfl rfl) rfl ?_))))
        refine TL.run (pr_ownA rfl (.there _ (.there _ (.there _ (.there _ (.there _ (.there _ (.here _))))))) rfl) rfl ?_
        refine TL.bslice rfl rfl rfl rfl (fun b68 => ?_)
        refine TL.run (pr_field rfl) rfl ?_
        refine TL.store1 rfl rfl rfl (.there _ (.there _ (.here _))) (by kernel_rfl) rfl ?_
        refine TL.nil (TX.seqN (TC.region (TL.run (pr_build rfl rfl) rfl ?_)))
        refine TL.storeA rfl rfl rfl rfl rfl (.there _ (.here _)) rfl rfl ?_
        refine TL.nil (TX.blkN (TX.seqN (TC.seq ?_)))
        refine TC.drawn (by kernel_rfl) (by kernel_rfl) ?_
        refine TD.part 5 4 rfl rfl rfl ?_ ?_
        ·
         refine TD.leaf [(0, 2), (1, 2), (5, 2), (2, 3), (3, 1), (4, 0), (6, 1), (7, 1)] (by kernel_rfl) (by kernel_rfl) ?_
         refine TF.front (.there _ (.there _ (.there _ (.there _ (.there _ (.there _ (.here _))))))) ?_
         refine TF.pub (by simp) (fun H_b34 le_b34 rd_b34 => ?_)
         replace hM := hM.le le_b34
         have hSf : RdSl H_b34 10 SStep.cells _ ([endS]) := RdSl.blk (cap := 1) rd_b34 (by intro x hx; rfl) (by kernel_rfl) (by show 1 ≤ 9223372036854775807; decide)
         refine TF.front (.there _ (.there _ (.there _ (.there _ (.here _))))) ?_
         refine TF.pub (by simp) (fun H_b39 le_b39 rd_b39 => ?_)
         replace hM := hM.le le_b39
         replace hSf := hSf.le le_b39
         have hT : RdSl H_b39 6 Term.cells _ (fs3 name) := RdSl.blk (cap := 3) rd_b39 (by intro x hx; rfl) (by kernel_rfl) (by show 3 ≤ 9223372036854775807; decide)
         refine TF.pub (by simp) (fun H_b68 le_b68 rd_b68 => ?_)
         replace hM := hM.le le_b68
         replace hSf := hSf.le le_b68
         replace hT := hT.le le_b68
         have hS : RdSl H_b68 10 SStep.cells _ ([(letS name 0 1), (letS name 1 2), (callS [102] [] nS)]) := RdSl.blk (cap := 3) rd_b68 (by intro x hx; rfl) (by kernel_rfl) (by show 3 ≤ 9223372036854775807; decide)
         refine TF.still (pr_ownA rfl (.there _ (.there _ (.there _ (.here _)))) rfl) rfl (TF.still (pr_ownA rfl (.there _ (.here _)) rfl) rfl (TF.still (pr_ownA rfl (.here _) rfl) rfl ?_))
         refine TF.bslice rfl rfl rfl rfl (fun b123 => ?_)
         refine TF.pure (pr_build rfl rfl) rfl ?_
         refine TF.pub (by simp) (fun H_b123 le_b123 rd_b123 => ?_)
         replace hM := hM.le le_b123
         replace hSf := hSf.le le_b123
         replace hT := hT.le le_b123
         replace hS := hS.le le_b123
         have hQ : RdSl H_b123 4 SProc.cells _ ([(fProc [102] (some ⟨b34, 0, none⟩, 1)), (mProc name sMain (some ⟨b39, 0, none⟩, 3) [(letS name 0 1), (letS name 1 2), (callS [102] [] nS)] (some ⟨b68, 0, none⟩, 3))]) := RdSl.blk (cap := 2) rd_b123 (by intro x hx; rfl) (by kernel_rfl) (by show 2 ≤ 9223372036854775807; decide)
         have hOk : ∀ s ∈ [(letS name 0 1), (letS name 1 2), (callS [102] [] nS)], StepOk H_b123 s := by
          intro s hs; simp only [List.mem_cons, List.not_mem_nil, or_false] at hs
          rcases hs with rfl | rfl | rfl <;> first | exact plain_ok _ rfl rfl rfl
         have hPG : ProgOk H_b123 (fPg (fProc [102] (some ⟨b34, 0, none⟩, 1)) (mProc name sMain (some ⟨b39, 0, none⟩, 3) [(letS name 0 1), (letS name 1 2), (callS [102] [] nS)] (some ⟨b68, 0, none⟩, 3)) (some ⟨b123, 0, none⟩, 2)) := fault_prog hSf hT hS hQ hOk hnl
         refine TF.loud ?_
         have hCk := check_ok hPG hM
         rw [fa2 _ _ _ _ _ hn] at hCk
         replace hCk : Fn Try.prog 6 [.agg #[.slice none 0 0, .slice none 0 0, .slice (some ⟨b123, 0, none⟩) 2 2]] H_b123 _ := hCk
         refine TL.call (enters rfl rfl rfl rfl) (hCk) rfl (fun v125 H125 hle125 hp125 => ?_)
         replace hM := hM.le hle125
         replace hSf := hSf.le hle125
         replace hT := hT.le hle125
         replace hS := hS.le hle125
         replace hQ := hQ.le hle125
         subst hp125
         refine TF.back (TF.pure (pr_eqA (r := true) rfl rfl (by kernel_rfl) (by kernel_rfl) (by kernel_rfl)) rfl (TF.pure (pr_pure rfl) rfl (TF.nil (TX.seqN (TC.ret (TX.fin0 (.inr rfl) (results1 rfl (RVal.tmp rfl)) rfl))))))
        ·
         refine TD.leaf [(0, 2), (1, 2), (2, 3), (3, 1), (4, 0), (5, 2), (6, 1), (7, 1)] (by kernel_rfl) (by kernel_rfl) ?_
         refine TF.front (.there _ (.there _ (.there _ (.there _ (.there _ (.there _ (.here _))))))) ?_
         refine TF.pub (by simp) (fun H_b34 le_b34 rd_b34 => ?_)
         replace hM := hM.le le_b34
         have hSf : RdSl H_b34 10 SStep.cells _ ([endS]) := RdSl.blk (cap := 1) rd_b34 (by intro x hx; rfl) (by kernel_rfl) (by show 1 ≤ 9223372036854775807; decide)
         refine TF.front (.there _ (.there _ (.there _ (.there _ (.here _))))) ?_
         refine TF.pub (by simp) (fun H_b39 le_b39 rd_b39 => ?_)
         replace hM := hM.le le_b39
         replace hSf := hSf.le le_b39
         have hT : RdSl H_b39 6 Term.cells _ (fs3 name) := RdSl.blk (cap := 3) rd_b39 (by intro x hx; rfl) (by kernel_rfl) (by show 3 ≤ 9223372036854775807; decide)
         refine TF.pub (by simp) (fun H_b68 le_b68 rd_b68 => ?_)
         replace hM := hM.le le_b68
         replace hSf := hSf.le le_b68
         replace hT := hT.le le_b68
         have hS : RdSl H_b68 10 SStep.cells _ ([(letS name 0 1), (letS name 1 2), (callS [102] [] nS)]) := RdSl.blk (cap := 3) rd_b68 (by intro x hx; rfl) (by kernel_rfl) (by show 3 ≤ 9223372036854775807; decide)
         refine TF.still (pr_ownA rfl (.there _ (.there _ (.there _ (.here _)))) rfl) rfl (TF.still (pr_ownA rfl (.there _ (.here _)) rfl) rfl ?_)
         refine TF.bslice rfl rfl rfl rfl (fun b123 => ?_)
         refine TF.pure (pr_build rfl rfl) rfl ?_
         refine TF.pub (by simp) (fun H_b123 le_b123 rd_b123 => ?_)
         replace hM := hM.le le_b123
         replace hSf := hSf.le le_b123
         replace hT := hT.le le_b123
         replace hS := hS.le le_b123
         have hQ : RdSl H_b123 4 SProc.cells _ ([(fProc [102] (some ⟨b34, 0, none⟩, 1)), (mProc name sMain (some ⟨b39, 0, none⟩, 3) [(letS name 0 1), (letS name 1 2), (callS [102] [] nS)] (some ⟨b68, 0, none⟩, 3))]) := RdSl.blk (cap := 2) rd_b123 (by intro x hx; rfl) (by kernel_rfl) (by show 2 ≤ 9223372036854775807; decide)
         have hOk : ∀ s ∈ [(letS name 0 1), (letS name 1 2), (callS [102] [] nS)], StepOk H_b123 s := by
          intro s hs; simp only [List.mem_cons, List.not_mem_nil, or_false] at hs
          rcases hs with rfl | rfl | rfl <;> first | exact plain_ok _ rfl rfl rfl
         have hPG : ProgOk H_b123 (fPg (fProc [102] (some ⟨b34, 0, none⟩, 1)) (mProc name sMain (some ⟨b39, 0, none⟩, 3) [(letS name 0 1), (letS name 1 2), (callS [102] [] nS)] (some ⟨b68, 0, none⟩, 3)) (some ⟨b123, 0, none⟩, 2)) := fault_prog hSf hT hS hQ hOk hnl
         refine TF.loud ?_
         have hCk := check_ok hPG hM
         rw [fa2 _ _ _ _ _ hn] at hCk
         replace hCk : Fn Try.prog 6 [.agg #[.slice none 0 0, .slice none 0 0, .slice (some ⟨b123, 0, none⟩) 2 2]] H_b123 _ := hCk
         refine TL.call (enters rfl rfl rfl rfl) (hCk) rfl (fun v125 H125 hle125 hp125 => ?_)
         replace hM := hM.le hle125
         replace hSf := hSf.le hle125
         replace hT := hT.le hle125
         replace hS := hS.le hle125
         replace hQ := hQ.le hle125
         subst hp125
         refine TF.back (TF.still (pr_ownA rfl (.here _) rfl) rfl (TF.pure (pr_eqA (r := true) rfl rfl (by kernel_rfl) (by kernel_rfl) (by kernel_rfl)) rfl (TF.pure (pr_pure rfl) rfl (TF.nil (TX.seqN (TC.ret (TX.fin0 (.inr rfl) (results1 rfl (RVal.tmp rfl)) rfl)))))))
       ·
        refine TC.seq (TC.region (TL.run (pr_pure rfl) rfl (TL.run (pr_pure rfl) rfl (TL.nil (TX.seqN ?_)))))
        refine TC.condD rfl (fun c71 => ?_) (fun c71 => ?_)
        ·
         refine TC.seq (TC.region (TL.run (pr_field rfl) rfl (TL.run (pr_own1 rfl (.there _ (.here _)) rfl) rfl (TL.run (pr_pure rfl) rfl (TL.run (pr_index rfl rfl (by omega) (by omega)) rfl (TL.run (pr_field rfl) rfl ?_))))))
         refine TL.store1 rfl rfl rfl (.there _ (.there _ (.here _))) (by kernel_rfl) rfl ?_
         refine TL.nil (TX.seqN (TC.region (TL.run (pr_build rfl rfl) rfl ?_)))
         refine TL.storeA rfl rfl rfl rfl rfl (.here _) rfl rfl ?_
         refine TL.nil (TX.blkN (TX.seqN (TC.seq ?_)))
         refine TC.drawn (by kernel_rfl) (by kernel_rfl) ?_
         refine TD.part 5 4 rfl rfl rfl ?_ ?_
         ·
          refine TD.leaf [(0, 2), (1, 2), (5, 2), (2, 3), (3, 1), (4, 0), (6, 1), (7, 1)] (by kernel_rfl) (by kernel_rfl) ?_
          refine TF.front (.there _ (.there _ (.there _ (.there _ (.there _ (.here _)))))) ?_
          refine TF.pub (by simp) (fun H_b34 le_b34 rd_b34 => ?_)
          replace hM := hM.le le_b34
          have hSf : RdSl H_b34 10 SStep.cells _ ([endS]) := RdSl.blk (cap := 1) rd_b34 (by intro x hx; rfl) (by kernel_rfl) (by show 1 ≤ 9223372036854775807; decide)
          refine TF.front (.there _ (.there _ (.there _ (.here _)))) ?_
          refine TF.pub (by simp) (fun H_b39 le_b39 rd_b39 => ?_)
          replace hM := hM.le le_b39
          replace hSf := hSf.le le_b39
          have hT : RdSl H_b39 6 Term.cells _ (fs3 name) := RdSl.blk (cap := 3) rd_b39 (by intro x hx; rfl) (by kernel_rfl) (by show 3 ≤ 9223372036854775807; decide)
          refine TF.front (.there _ (.there _ (.here _))) ?_
          refine TF.pub (by simp) (fun H_b42 le_b42 rd_b42 => ?_)
          replace hM := hM.le le_b42
          replace hSf := hSf.le le_b42
          replace hT := hT.le le_b42
          have hS : RdSl H_b42 10 SStep.cells _ ([(letS name 0 1), (callS name [] nS)]) := RdSl.blk (cap := 2) rd_b42 (by intro x hx; rfl) (by kernel_rfl) (by show 2 ≤ 9223372036854775807; decide)
          refine TF.still (pr_ownA rfl (.there _ (.there _ (.here _))) rfl) rfl (TF.still (pr_ownA rfl (.there _ (.here _)) rfl) rfl (TF.still (pr_ownA rfl (.here _) rfl) rfl ?_))
          refine TF.bslice rfl rfl rfl rfl (fun b123 => ?_)
          refine TF.pure (pr_build rfl rfl) rfl ?_
          refine TF.pub (by simp) (fun H_b123 le_b123 rd_b123 => ?_)
          replace hM := hM.le le_b123
          replace hSf := hSf.le le_b123
          replace hT := hT.le le_b123
          replace hS := hS.le le_b123
          have hQ : RdSl H_b123 4 SProc.cells _ ([(fProc [102] (some ⟨b34, 0, none⟩, 1)), (mProc name sMain (some ⟨b39, 0, none⟩, 3) [(letS name 0 1), (callS name [] nS)] (some ⟨b42, 0, none⟩, 2))]) := RdSl.blk (cap := 2) rd_b123 (by intro x hx; rfl) (by kernel_rfl) (by show 2 ≤ 9223372036854775807; decide)
          have hOk : ∀ s ∈ [(letS name 0 1), (callS name [] nS)], StepOk H_b123 s := by
           intro s hs; simp only [List.mem_cons, List.not_mem_nil, or_false] at hs
           rcases hs with rfl | rfl <;> first | exact plain_ok _ rfl rfl rfl
          have hPG : ProgOk H_b123 (fPg (fProc [102] (some ⟨b34, 0, none⟩, 1)) (mProc name sMain (some ⟨b39, 0, none⟩, 3) [(letS name 0 1), (callS name [] nS)] (some ⟨b42, 0, none⟩, 2)) (some ⟨b123, 0, none⟩, 2)) := fault_prog hSf hT hS hQ hOk hnl
          refine TF.loud ?_
          have hCk := check_ok hPG hM
          rw [fa3 _ _ _ _ _ hn h1 h2] at hCk
          replace hCk : Fn Try.prog 6 [.agg #[.slice none 0 0, .slice none 0 0, .slice (some ⟨b123, 0, none⟩) 2 2]] H_b123 _ := hCk
          refine TL.call (enters rfl rfl rfl rfl) (hCk) rfl (fun v125 H125 hle125 hp125 => ?_)
          replace hM := hM.le hle125
          replace hSf := hSf.le hle125
          replace hT := hT.le hle125
          replace hS := hS.le hle125
          replace hQ := hQ.le hle125
          subst hp125
          refine TF.back (TF.pure (pr_eqA (r := true) rfl rfl (by kernel_rfl) (by kernel_rfl) (by kernel_rfl)) rfl (TF.pure (pr_pure rfl) rfl (TF.nil (TX.seqN (TC.ret (TX.fin0 (.inr rfl) (results1 rfl (RVal.tmp rfl)) rfl))))))
         ·
          refine TD.leaf [(0, 2), (1, 2), (2, 3), (3, 1), (4, 0), (5, 2), (6, 1), (7, 1)] (by kernel_rfl) (by kernel_rfl) ?_
          refine TF.front (.there _ (.there _ (.there _ (.there _ (.there _ (.here _)))))) ?_
          refine TF.pub (by simp) (fun H_b34 le_b34 rd_b34 => ?_)
          replace hM := hM.le le_b34
          have hSf : RdSl H_b34 10 SStep.cells _ ([endS]) := RdSl.blk (cap := 1) rd_b34 (by intro x hx; rfl) (by kernel_rfl) (by show 1 ≤ 9223372036854775807; decide)
          refine TF.front (.there _ (.there _ (.there _ (.here _)))) ?_
          refine TF.pub (by simp) (fun H_b39 le_b39 rd_b39 => ?_)
          replace hM := hM.le le_b39
          replace hSf := hSf.le le_b39
          have hT : RdSl H_b39 6 Term.cells _ (fs3 name) := RdSl.blk (cap := 3) rd_b39 (by intro x hx; rfl) (by kernel_rfl) (by show 3 ≤ 9223372036854775807; decide)
          refine TF.front (.there _ (.there _ (.here _))) ?_
          refine TF.pub (by simp) (fun H_b42 le_b42 rd_b42 => ?_)
          replace hM := hM.le le_b42
          replace hSf := hSf.le le_b42
          replace hT := hT.le le_b42
          have hS : RdSl H_b42 10 SStep.cells _ ([(letS name 0 1), (callS name [] nS)]) := RdSl.blk (cap := 2) rd_b42 (by intro x hx; rfl) (by kernel_rfl) (by show 2 ≤ 9223372036854775807; decide)
          refine TF.still (pr_ownA rfl (.there _ (.there _ (.here _))) rfl) rfl (TF.still (pr_ownA rfl (.there _ (.here _)) rfl) rfl ?_)
          refine TF.bslice rfl rfl rfl rfl (fun b123 => ?_)
          refine TF.pure (pr_build rfl rfl) rfl ?_
          refine TF.pub (by simp) (fun H_b123 le_b123 rd_b123 => ?_)
          replace hM := hM.le le_b123
          replace hSf := hSf.le le_b123
          replace hT := hT.le le_b123
          replace hS := hS.le le_b123
          have hQ : RdSl H_b123 4 SProc.cells _ ([(fProc [102] (some ⟨b34, 0, none⟩, 1)), (mProc name sMain (some ⟨b39, 0, none⟩, 3) [(letS name 0 1), (callS name [] nS)] (some ⟨b42, 0, none⟩, 2))]) := RdSl.blk (cap := 2) rd_b123 (by intro x hx; rfl) (by kernel_rfl) (by show 2 ≤ 9223372036854775807; decide)
          have hOk : ∀ s ∈ [(letS name 0 1), (callS name [] nS)], StepOk H_b123 s := by
           intro s hs; simp only [List.mem_cons, List.not_mem_nil, or_false] at hs
           rcases hs with rfl | rfl <;> first | exact plain_ok _ rfl rfl rfl
          have hPG : ProgOk H_b123 (fPg (fProc [102] (some ⟨b34, 0, none⟩, 1)) (mProc name sMain (some ⟨b39, 0, none⟩, 3) [(letS name 0 1), (callS name [] nS)] (some ⟨b42, 0, none⟩, 2)) (some ⟨b123, 0, none⟩, 2)) := fault_prog hSf hT hS hQ hOk hnl
          refine TF.loud ?_
          have hCk := check_ok hPG hM
          rw [fa3 _ _ _ _ _ hn h1 h2] at hCk
          replace hCk : Fn Try.prog 6 [.agg #[.slice none 0 0, .slice none 0 0, .slice (some ⟨b123, 0, none⟩) 2 2]] H_b123 _ := hCk
          refine TL.call (enters rfl rfl rfl rfl) (hCk) rfl (fun v125 H125 hle125 hp125 => ?_)
          replace hM := hM.le hle125
          replace hSf := hSf.le hle125
          replace hT := hT.le hle125
          replace hS := hS.le hle125
          replace hQ := hQ.le hle125
          subst hp125
          refine TF.back (TF.still (pr_ownA rfl (.here _) rfl) rfl (TF.pure (pr_eqA (r := true) rfl rfl (by kernel_rfl) (by kernel_rfl) (by kernel_rfl)) rfl (TF.pure (pr_pure rfl) rfl (TF.nil (TX.seqN (TC.ret (TX.fin0 (.inr rfl) (results1 rfl (RVal.tmp rfl)) rfl)))))))
        ·
         refine TC.seq (TC.region (TL.run (pr_pure rfl) rfl (TL.run (pr_pure rfl) rfl (TL.nil (TX.seqN ?_)))))
         refine TC.condD rfl (fun c79 => ?_) (fun c79 => ?_)
         ·
          refine TC.seq (TC.region (TL.run (pr_field rfl) rfl (TL.run (pr_own1 rfl (.there _ (.here _)) rfl) rfl ?_)))
          refine TL.bslice rfl rfl rfl rfl (fun b83 => ?_)
          refine TL.run (pr_index rfl rfl (by omega) (by omega)) rfl (TL.run (pr_field rfl) rfl ?_)
          refine TL.store1 rfl rfl rfl (.there _ (.there _ (.there _ (.here _)))) (by kernel_rfl) rfl ?_
          refine TL.nil (TX.seqN (TC.region (TL.run (pr_build rfl rfl) rfl ?_)))
          refine TL.storeA rfl rfl rfl rfl rfl (.there _ (.here _)) rfl rfl ?_
          refine TL.nil (TX.blkN (TX.seqN (TC.seq ?_)))
          refine TC.drawn (by kernel_rfl) (by kernel_rfl) ?_
          refine TD.part 5 4 rfl rfl rfl ?_ ?_
          ·
           refine TD.leaf [(0, 2), (1, 2), (5, 2), (2, 3), (3, 1), (4, 0), (6, 1), (7, 1)] (by kernel_rfl) (by kernel_rfl) ?_
           refine TF.front (.there _ (.there _ (.there _ (.there _ (.there _ (.there _ (.here _))))))) ?_
           refine TF.pub (by simp) (fun H_b34 le_b34 rd_b34 => ?_)
           replace hM := hM.le le_b34
           have hSf : RdSl H_b34 10 SStep.cells _ ([endS]) := RdSl.blk (cap := 1) rd_b34 (by intro x hx; rfl) (by kernel_rfl) (by show 1 ≤ 9223372036854775807; decide)
           refine TF.front (.there _ (.there _ (.there _ (.there _ (.here _))))) ?_
           refine TF.pub (by simp) (fun H_b39 le_b39 rd_b39 => ?_)
           replace hM := hM.le le_b39
           replace hSf := hSf.le le_b39
           have hT : RdSl H_b39 6 Term.cells _ (fs3 name) := RdSl.blk (cap := 3) rd_b39 (by intro x hx; rfl) (by kernel_rfl) (by show 3 ≤ 9223372036854775807; decide)
           refine TF.pub (by simp) (fun H_b83 le_b83 rd_b83 => ?_)
           replace hM := hM.le le_b83
           replace hSf := hSf.le le_b83
           replace hT := hT.le le_b83
           have hA : RdSl H_b83 1 I64.cells _ ([1]) := RdSl.blk (cap := 1) rd_b83 (by intro x hx; rfl) (by kernel_rfl) (by show 1 ≤ 9223372036854775807; decide)
           refine TF.front (.there _ (.there _ (.here _))) ?_
           refine TF.pub (by simp) (fun H_b42 le_b42 rd_b42 => ?_)
           replace hM := hM.le le_b42
           replace hSf := hSf.le le_b42
           replace hT := hT.le le_b42
           replace hA := hA.le le_b42
           have hS : RdSl H_b42 10 SStep.cells _ ([(letS name 0 1), (callS [102] [1] (some ⟨b83, 0, none⟩, 1))]) := RdSl.blk (cap := 2) rd_b42 (by intro x hx; rfl) (by kernel_rfl) (by show 2 ≤ 9223372036854775807; decide)
           refine TF.still (pr_ownA rfl (.there _ (.there _ (.here _))) rfl) rfl (TF.still (pr_ownA rfl (.there _ (.here _)) rfl) rfl (TF.still (pr_ownA rfl (.here _) rfl) rfl ?_))
           refine TF.bslice rfl rfl rfl rfl (fun b123 => ?_)
           refine TF.pure (pr_build rfl rfl) rfl ?_
           refine TF.pub (by simp) (fun H_b123 le_b123 rd_b123 => ?_)
           replace hM := hM.le le_b123
           replace hSf := hSf.le le_b123
           replace hT := hT.le le_b123
           replace hA := hA.le le_b123
           replace hS := hS.le le_b123
           have hQ : RdSl H_b123 4 SProc.cells _ ([(fProc [102] (some ⟨b34, 0, none⟩, 1)), (mProc name sMain (some ⟨b39, 0, none⟩, 3) [(letS name 0 1), (callS [102] [1] (some ⟨b83, 0, none⟩, 1))] (some ⟨b42, 0, none⟩, 2))]) := RdSl.blk (cap := 2) rd_b123 (by intro x hx; rfl) (by kernel_rfl) (by show 2 ≤ 9223372036854775807; decide)
           have hOk : ∀ s ∈ [(letS name 0 1), (callS [102] [1] (some ⟨b83, 0, none⟩, 1))], StepOk H_b123 s := by
            intro s hs; simp only [List.mem_cons, List.not_mem_nil, or_false] at hs
            rcases hs with rfl | rfl <;> first | exact plain_ok _ rfl rfl rfl | exact call_ok _ hA
           have hPG : ProgOk H_b123 (fPg (fProc [102] (some ⟨b34, 0, none⟩, 1)) (mProc name sMain (some ⟨b39, 0, none⟩, 3) [(letS name 0 1), (callS [102] [1] (some ⟨b83, 0, none⟩, 1))] (some ⟨b42, 0, none⟩, 2)) (some ⟨b123, 0, none⟩, 2)) := fault_prog hSf hT hS hQ hOk hnl
           refine TF.loud ?_
           have hCk := check_ok hPG hM
           rw [fa4 _ _ _ _ _ hn] at hCk
           replace hCk : Fn Try.prog 6 [.agg #[.slice none 0 0, .slice none 0 0, .slice (some ⟨b123, 0, none⟩) 2 2]] H_b123 _ := hCk
           refine TL.call (enters rfl rfl rfl rfl) (hCk) rfl (fun v125 H125 hle125 hp125 => ?_)
           replace hM := hM.le hle125
           replace hSf := hSf.le hle125
           replace hT := hT.le hle125
           replace hA := hA.le hle125
           replace hS := hS.le hle125
           replace hQ := hQ.le hle125
           subst hp125
           refine TF.back (TF.pure (pr_eqA (r := true) rfl rfl (by kernel_rfl) (by kernel_rfl) (by kernel_rfl)) rfl (TF.pure (pr_pure rfl) rfl (TF.nil (TX.seqN (TC.ret (TX.fin0 (.inr rfl) (results1 rfl (RVal.tmp rfl)) rfl))))))
          ·
           refine TD.leaf [(0, 2), (1, 2), (2, 3), (3, 1), (4, 0), (5, 2), (6, 1), (7, 1)] (by kernel_rfl) (by kernel_rfl) ?_
           refine TF.front (.there _ (.there _ (.there _ (.there _ (.there _ (.there _ (.here _))))))) ?_
           refine TF.pub (by simp) (fun H_b34 le_b34 rd_b34 => ?_)
           replace hM := hM.le le_b34
           have hSf : RdSl H_b34 10 SStep.cells _ ([endS]) := RdSl.blk (cap := 1) rd_b34 (by intro x hx; rfl) (by kernel_rfl) (by show 1 ≤ 9223372036854775807; decide)
           refine TF.front (.there _ (.there _ (.there _ (.there _ (.here _))))) ?_
           refine TF.pub (by simp) (fun H_b39 le_b39 rd_b39 => ?_)
           replace hM := hM.le le_b39
           replace hSf := hSf.le le_b39
           have hT : RdSl H_b39 6 Term.cells _ (fs3 name) := RdSl.blk (cap := 3) rd_b39 (by intro x hx; rfl) (by kernel_rfl) (by show 3 ≤ 9223372036854775807; decide)
           refine TF.pub (by simp) (fun H_b83 le_b83 rd_b83 => ?_)
           replace hM := hM.le le_b83
           replace hSf := hSf.le le_b83
           replace hT := hT.le le_b83
           have hA : RdSl H_b83 1 I64.cells _ ([1]) := RdSl.blk (cap := 1) rd_b83 (by intro x hx; rfl) (by kernel_rfl) (by show 1 ≤ 9223372036854775807; decide)
           refine TF.front (.there _ (.there _ (.here _))) ?_
           refine TF.pub (by simp) (fun H_b42 le_b42 rd_b42 => ?_)
           replace hM := hM.le le_b42
           replace hSf := hSf.le le_b42
           replace hT := hT.le le_b42
           replace hA := hA.le le_b42
           have hS : RdSl H_b42 10 SStep.cells _ ([(letS name 0 1), (callS [102] [1] (some ⟨b83, 0, none⟩, 1))]) := RdSl.blk (cap := 2) rd_b42 (by intro x hx; rfl) (by kernel_rfl) (by show 2 ≤ 9223372036854775807; decide)
           refine TF.still (pr_ownA rfl (.there _ (.there _ (.here _))) rfl) rfl (TF.still (pr_ownA rfl (.there _ (.here _)) rfl) rfl ?_)
           refine TF.bslice rfl rfl rfl rfl (fun b123 => ?_)
           refine TF.pure (pr_build rfl rfl) rfl ?_
           refine TF.pub (by simp) (fun H_b123 le_b123 rd_b123 => ?_)
           replace hM := hM.le le_b123
           replace hSf := hSf.le le_b123
           replace hT := hT.le le_b123
           replace hA := hA.le le_b123
           replace hS := hS.le le_b123
           have hQ : RdSl H_b123 4 SProc.cells _ ([(fProc [102] (some ⟨b34, 0, none⟩, 1)), (mProc name sMain (some ⟨b39, 0, none⟩, 3) [(letS name 0 1), (callS [102] [1] (some ⟨b83, 0, none⟩, 1))] (some ⟨b42, 0, none⟩, 2))]) := RdSl.blk (cap := 2) rd_b123 (by intro x hx; rfl) (by kernel_rfl) (by show 2 ≤ 9223372036854775807; decide)
           have hOk : ∀ s ∈ [(letS name 0 1), (callS [102] [1] (some ⟨b83, 0, none⟩, 1))], StepOk H_b123 s := by
            intro s hs; simp only [List.mem_cons, List.not_mem_nil, or_false] at hs
            rcases hs with rfl | rfl <;> first | exact plain_ok _ rfl rfl rfl | exact call_ok _ hA
           have hPG : ProgOk H_b123 (fPg (fProc [102] (some ⟨b34, 0, none⟩, 1)) (mProc name sMain (some ⟨b39, 0, none⟩, 3) [(letS name 0 1), (callS [102] [1] (some ⟨b83, 0, none⟩, 1))] (some ⟨b42, 0, none⟩, 2)) (some ⟨b123, 0, none⟩, 2)) := fault_prog hSf hT hS hQ hOk hnl
           refine TF.loud ?_
           have hCk := check_ok hPG hM
           rw [fa4 _ _ _ _ _ hn] at hCk
           replace hCk : Fn Try.prog 6 [.agg #[.slice none 0 0, .slice none 0 0, .slice (some ⟨b123, 0, none⟩) 2 2]] H_b123 _ := hCk
           refine TL.call (enters rfl rfl rfl rfl) (hCk) rfl (fun v125 H125 hle125 hp125 => ?_)
           replace hM := hM.le hle125
           replace hSf := hSf.le hle125
           replace hT := hT.le hle125
           replace hA := hA.le hle125
           replace hS := hS.le hle125
           replace hQ := hQ.le hle125
           subst hp125
           refine TF.back (TF.still (pr_ownA rfl (.here _) rfl) rfl (TF.pure (pr_eqA (r := true) rfl rfl (by kernel_rfl) (by kernel_rfl) (by kernel_rfl)) rfl (TF.pure (pr_pure rfl) rfl (TF.nil (TX.seqN (TC.ret (TX.fin0 (.inr rfl) (results1 rfl (RVal.tmp rfl)) rfl)))))))
         ·
          refine TC.seq (TC.region (TL.run (pr_pure rfl) rfl (TL.run (pr_pure rfl) rfl (TL.nil (TX.seqN ?_)))))
          refine TC.condD rfl (fun c87 => ?_) (fun c87 => ?_)
          ·
           refine TC.seq (TC.region (TL.run (pr_field rfl) rfl (TL.run (pr_own1 rfl (.there _ (.here _)) rfl) rfl (TL.run (pr_index rfl rfl (by omega) (by omega)) rfl (TL.run (pr_field rfl) rfl ?_)))))
           refine TL.store1 rfl rfl rfl (.there _ (.there _ (.here _))) (by kernel_rfl) rfl ?_
           refine TL.nil (TX.seqN (TC.region (TL.run (pr_build rfl rfl) rfl ?_)))
           refine TL.storeA rfl rfl rfl rfl rfl (.here _) rfl rfl ?_
           refine TL.nil (TX.blkN (TX.seqN (TC.seq ?_)))
           refine TC.drawn (by kernel_rfl) (by kernel_rfl) ?_
           refine TD.part 5 4 rfl rfl rfl ?_ ?_
           ·
            refine TD.leaf [(0, 2), (1, 2), (5, 2), (2, 3), (3, 1), (4, 0), (6, 1), (7, 1)] (by kernel_rfl) (by kernel_rfl) ?_
            refine TF.front (.there _ (.there _ (.there _ (.there _ (.there _ (.here _)))))) ?_
            refine TF.pub (by simp) (fun H_b34 le_b34 rd_b34 => ?_)
            replace hM := hM.le le_b34
            have hSf : RdSl H_b34 10 SStep.cells _ ([endS]) := RdSl.blk (cap := 1) rd_b34 (by intro x hx; rfl) (by kernel_rfl) (by show 1 ≤ 9223372036854775807; decide)
            refine TF.front (.there _ (.there _ (.there _ (.here _)))) ?_
            refine TF.pub (by simp) (fun H_b39 le_b39 rd_b39 => ?_)
            replace hM := hM.le le_b39
            replace hSf := hSf.le le_b39
            have hT : RdSl H_b39 6 Term.cells _ (fs3 name) := RdSl.blk (cap := 3) rd_b39 (by intro x hx; rfl) (by kernel_rfl) (by show 3 ≤ 9223372036854775807; decide)
            refine TF.front (.there _ (.there _ (.here _))) ?_
            refine TF.pub (by simp) (fun H_b42 le_b42 rd_b42 => ?_)
            replace hM := hM.le le_b42
            replace hSf := hSf.le le_b42
            replace hT := hT.le le_b42
            have hS : RdSl H_b42 10 SStep.cells _ ([(letS name 0 0), (callS [102] [] nS)]) := RdSl.blk (cap := 2) rd_b42 (by intro x hx; rfl) (by kernel_rfl) (by show 2 ≤ 9223372036854775807; decide)
            refine TF.still (pr_ownA rfl (.there _ (.there _ (.here _))) rfl) rfl (TF.still (pr_ownA rfl (.there _ (.here _)) rfl) rfl (TF.still (pr_ownA rfl (.here _) rfl) rfl ?_))
            refine TF.bslice rfl rfl rfl rfl (fun b123 => ?_)
            refine TF.pure (pr_build rfl rfl) rfl ?_
            refine TF.pub (by simp) (fun H_b123 le_b123 rd_b123 => ?_)
            replace hM := hM.le le_b123
            replace hSf := hSf.le le_b123
            replace hT := hT.le le_b123
            replace hS := hS.le le_b123
            have hQ : RdSl H_b123 4 SProc.cells _ ([(fProc [102] (some ⟨b34, 0, none⟩, 1)), (mProc name sMain (some ⟨b39, 0, none⟩, 3) [(letS name 0 0), (callS [102] [] nS)] (some ⟨b42, 0, none⟩, 2))]) := RdSl.blk (cap := 2) rd_b123 (by intro x hx; rfl) (by kernel_rfl) (by show 2 ≤ 9223372036854775807; decide)
            have hOk : ∀ s ∈ [(letS name 0 0), (callS [102] [] nS)], StepOk H_b123 s := by
             intro s hs; simp only [List.mem_cons, List.not_mem_nil, or_false] at hs
             rcases hs with rfl | rfl <;> first | exact plain_ok _ rfl rfl rfl
            have hPG : ProgOk H_b123 (fPg (fProc [102] (some ⟨b34, 0, none⟩, 1)) (mProc name sMain (some ⟨b39, 0, none⟩, 3) [(letS name 0 0), (callS [102] [] nS)] (some ⟨b42, 0, none⟩, 2)) (some ⟨b123, 0, none⟩, 2)) := fault_prog hSf hT hS hQ hOk hnl
            refine TF.loud ?_
            have hCk := check_ok hPG hM
            rw [fa5 _ _ _ _ _ hn] at hCk
            replace hCk : Fn Try.prog 6 [.agg #[.slice none 0 0, .slice none 0 0, .slice (some ⟨b123, 0, none⟩) 2 2]] H_b123 _ := hCk
            refine TL.call (enters rfl rfl rfl rfl) (hCk) rfl (fun v125 H125 hle125 hp125 => ?_)
            replace hM := hM.le hle125
            replace hSf := hSf.le hle125
            replace hT := hT.le hle125
            replace hS := hS.le hle125
            replace hQ := hQ.le hle125
            subst hp125
            refine TF.back (TF.pure (pr_eqA (r := true) rfl rfl (by kernel_rfl) (by kernel_rfl) (by kernel_rfl)) rfl (TF.pure (pr_pure rfl) rfl (TF.nil (TX.seqN (TC.ret (TX.fin0 (.inr rfl) (results1 rfl (RVal.tmp rfl)) rfl))))))
           ·
            refine TD.leaf [(0, 2), (1, 2), (2, 3), (3, 1), (4, 0), (5, 2), (6, 1), (7, 1)] (by kernel_rfl) (by kernel_rfl) ?_
            refine TF.front (.there _ (.there _ (.there _ (.there _ (.there _ (.here _)))))) ?_
            refine TF.pub (by simp) (fun H_b34 le_b34 rd_b34 => ?_)
            replace hM := hM.le le_b34
            have hSf : RdSl H_b34 10 SStep.cells _ ([endS]) := RdSl.blk (cap := 1) rd_b34 (by intro x hx; rfl) (by kernel_rfl) (by show 1 ≤ 9223372036854775807; decide)
            refine TF.front (.there _ (.there _ (.there _ (.here _)))) ?_
            refine TF.pub (by simp) (fun H_b39 le_b39 rd_b39 => ?_)
            replace hM := hM.le le_b39
            replace hSf := hSf.le le_b39
            have hT : RdSl H_b39 6 Term.cells _ (fs3 name) := RdSl.blk (cap := 3) rd_b39 (by intro x hx; rfl) (by kernel_rfl) (by show 3 ≤ 9223372036854775807; decide)
            refine TF.front (.there _ (.there _ (.here _))) ?_
            refine TF.pub (by simp) (fun H_b42 le_b42 rd_b42 => ?_)
            replace hM := hM.le le_b42
            replace hSf := hSf.le le_b42
            replace hT := hT.le le_b42
            have hS : RdSl H_b42 10 SStep.cells _ ([(letS name 0 0), (callS [102] [] nS)]) := RdSl.blk (cap := 2) rd_b42 (by intro x hx; rfl) (by kernel_rfl) (by show 2 ≤ 9223372036854775807; decide)
            refine TF.still (pr_ownA rfl (.there _ (.there _ (.here _))) rfl) rfl (TF.still (pr_ownA rfl (.there _ (.here _)) rfl) rfl ?_)
            refine TF.bslice rfl rfl rfl rfl (fun b123 => ?_)
            refine TF.pure (pr_build rfl rfl) rfl ?_
            refine TF.pub (by simp) (fun H_b123 le_b123 rd_b123 => ?_)
            replace hM := hM.le le_b123
            replace hSf := hSf.le le_b123
            replace hT := hT.le le_b123
            replace hS := hS.le le_b123
            have hQ : RdSl H_b123 4 SProc.cells _ ([(fProc [102] (some ⟨b34, 0, none⟩, 1)), (mProc name sMain (some ⟨b39, 0, none⟩, 3) [(letS name 0 0), (callS [102] [] nS)] (some ⟨b42, 0, none⟩, 2))]) := RdSl.blk (cap := 2) rd_b123 (by intro x hx; rfl) (by kernel_rfl) (by show 2 ≤ 9223372036854775807; decide)
            have hOk : ∀ s ∈ [(letS name 0 0), (callS [102] [] nS)], StepOk H_b123 s := by
             intro s hs; simp only [List.mem_cons, List.not_mem_nil, or_false] at hs
             rcases hs with rfl | rfl <;> first | exact plain_ok _ rfl rfl rfl
            have hPG : ProgOk H_b123 (fPg (fProc [102] (some ⟨b34, 0, none⟩, 1)) (mProc name sMain (some ⟨b39, 0, none⟩, 3) [(letS name 0 0), (callS [102] [] nS)] (some ⟨b42, 0, none⟩, 2)) (some ⟨b123, 0, none⟩, 2)) := fault_prog hSf hT hS hQ hOk hnl
            refine TF.loud ?_
            have hCk := check_ok hPG hM
            rw [fa5 _ _ _ _ _ hn] at hCk
            replace hCk : Fn Try.prog 6 [.agg #[.slice none 0 0, .slice none 0 0, .slice (some ⟨b123, 0, none⟩) 2 2]] H_b123 _ := hCk
            refine TL.call (enters rfl rfl rfl rfl) (hCk) rfl (fun v125 H125 hle125 hp125 => ?_)
            replace hM := hM.le hle125
            replace hSf := hSf.le hle125
            replace hT := hT.le hle125
            replace hS := hS.le hle125
            replace hQ := hQ.le hle125
            subst hp125
            refine TF.back (TF.still (pr_ownA rfl (.here _) rfl) rfl (TF.pure (pr_eqA (r := true) rfl rfl (by kernel_rfl) (by kernel_rfl) (by kernel_rfl)) rfl (TF.pure (pr_pure rfl) rfl (TF.nil (TX.seqN (TC.ret (TX.fin0 (.inr rfl) (results1 rfl (RVal.tmp rfl)) rfl)))))))
          ·
           refine TC.seq (TC.region (TL.run (pr_pure rfl) rfl (TL.run (pr_pure rfl) rfl (TL.nil (TX.seqN ?_)))))
           refine TC.condD rfl (fun c94 => ?_) (fun c94 => ?_)
           ·
            refine TC.seq (TC.region (TL.run (pr_field rfl) rfl (TL.run (pr_own1 rfl (.there _ (.here _)) rfl) rfl (TL.run (pr_ownA rfl (.there _ (.there _ (.there _ (.there _ (.there _ (.there _ (.there _ (.there _ (.here _))))))))) rfl) rfl ?_))))
            refine TL.bslice rfl rfl rfl rfl (fun b99 => ?_)
            refine TL.append (enc := SStep.cells) rfl rfl rfl (OwnSl.blk (enc := SStep.cells) [(letS name 0 1), (callS [102] [] nS)] rfl rfl (by decide)) (Src.own [endS] (.here _) rfl rfl) (by simp only [List.length_cons, List.length_nil]; omega) rfl (.take (.there _ (.there _ (.there _ (.here _)))) rfl) rfl (fun a100 c100 ob100 hO100 => ?_)
            refine TL.run (pr_field rfl) rfl ?_
            refine TL.store1 rfl rfl rfl (.there _ (.there _ (.here _))) (by kernel_rfl) rfl ?_
            refine TL.nil (TX.seqN (TC.region (TL.run (pr_build rfl rfl) rfl ?_)))
            refine TL.storeA rfl rfl rfl rfl rfl (.there _ (.here _)) rfl rfl ?_
            refine TL.nil (TX.blkN (TX.seqN (TC.seq ?_)))
            refine TC.drawn (by kernel_rfl) (by kernel_rfl) ?_
            refine TD.part 5 4 rfl rfl rfl ?_ ?_
            ·
             refine TD.leaf [(0, 2), (1, 2), (5, 2), (2, 3), (3, 1), (4, 0), (6, 1), (7, 1)] (by kernel_rfl) (by kernel_rfl) ?_
             refine TF.front (.there _ (.there _ (.there _ (.there _ (.there _ (.here _)))))) ?_
             refine TF.pub (by simp) (fun H_b34 le_b34 rd_b34 => ?_)
             replace hM := hM.le le_b34
             have hSf : RdSl H_b34 10 SStep.cells _ ([endS]) := RdSl.blk (cap := 1) rd_b34 (by intro x hx; rfl) (by kernel_rfl) (by show 1 ≤ 9223372036854775807; decide)
             refine TF.front (.there _ (.there _ (.there _ (.here _)))) ?_
             refine TF.pub (by simp) (fun H_b39 le_b39 rd_b39 => ?_)
             replace hM := hM.le le_b39
             replace hSf := hSf.le le_b39
             have hT : RdSl H_b39 6 Term.cells _ (fs3 name) := RdSl.blk (cap := 3) rd_b39 (by intro x hx; rfl) (by kernel_rfl) (by show 3 ≤ 9223372036854775807; decide)
             refine TF.pubO hO100 (.skip _ (.skip _ (.skip _ (.skip _ (.skip _ (.skip _ (.skip _ (.skip _ (.skip _ .all))))))))) (by simp) (fun HPob100 lePob100 hS => ?_)
             replace hM := hM.le lePob100
             replace hSf := hSf.le lePob100
             replace hT := hT.le lePob100
             refine TF.still (pr_ownA rfl (.there _ (.there _ (.there _ (.here _)))) rfl) rfl (TF.still (pr_ownA rfl (.there _ (.there _ (.here _))) rfl) rfl (TF.still (pr_ownA rfl (.there _ (.here _)) rfl) rfl ?_))
             refine TF.bslice rfl rfl rfl rfl (fun b123 => ?_)
             refine TF.pure (pr_build rfl rfl) rfl ?_
             refine TF.pub (by simp) (fun H_b123 le_b123 rd_b123 => ?_)
             replace hM := hM.le le_b123
             replace hSf := hSf.le le_b123
             replace hT := hT.le le_b123
             replace hS := hS.le le_b123
             have hQ : RdSl H_b123 4 SProc.cells _ ([(fProc [102] (some ⟨b34, 0, none⟩, 1)), (mProc name sMain (some ⟨b39, 0, none⟩, 3) [(letS name 0 1), (callS [102] [] nS), endS] (a100, c100))]) := RdSl.blk (cap := 2) rd_b123 (by intro x hx; rfl) (by kernel_rfl) (by show 2 ≤ 9223372036854775807; decide)
             have hOk : ∀ s ∈ [(letS name 0 1), (callS [102] [] nS), endS], StepOk H_b123 s := by
              intro s hs; simp only [List.mem_cons, List.not_mem_nil, or_false] at hs
              rcases hs with rfl | rfl | rfl <;> first | exact plain_ok _ rfl rfl rfl
             have hPG : ProgOk H_b123 (fPg (fProc [102] (some ⟨b34, 0, none⟩, 1)) (mProc name sMain (some ⟨b39, 0, none⟩, 3) [(letS name 0 1), (callS [102] [] nS), endS] (a100, c100)) (some ⟨b123, 0, none⟩, 2)) := fault_prog hSf hT hS hQ hOk hnl
             refine TF.loud ?_
             have hCk := check_ok hPG hM
             rw [fa6 _ _ _ _ _ hn] at hCk
             replace hCk : Fn Try.prog 6 [.agg #[.slice none 0 0, .slice none 0 0, .slice (some ⟨b123, 0, none⟩) 2 2]] H_b123 _ := hCk
             refine TL.call (enters rfl rfl rfl rfl) (hCk) rfl (fun v125 H125 hle125 hp125 => ?_)
             replace hM := hM.le hle125
             replace hSf := hSf.le hle125
             replace hT := hT.le hle125
             replace hS := hS.le hle125
             replace hQ := hQ.le hle125
             subst hp125
             refine TF.back (TF.pure (pr_eqA (r := true) rfl rfl (by kernel_rfl) (by kernel_rfl) (by kernel_rfl)) rfl (TF.pure (pr_pure rfl) rfl (TF.nil (TX.seqN (TC.ret (TX.fin0 (.inr rfl) (results1 rfl (RVal.tmp rfl)) rfl))))))
            ·
             refine TD.leaf [(0, 2), (1, 2), (2, 3), (3, 1), (4, 0), (5, 2), (6, 1), (7, 1)] (by kernel_rfl) (by kernel_rfl) ?_
             refine TF.front (.there _ (.there _ (.there _ (.there _ (.there _ (.here _)))))) ?_
             refine TF.pub (by simp) (fun H_b34 le_b34 rd_b34 => ?_)
             replace hM := hM.le le_b34
             have hSf : RdSl H_b34 10 SStep.cells _ ([endS]) := RdSl.blk (cap := 1) rd_b34 (by intro x hx; rfl) (by kernel_rfl) (by show 1 ≤ 9223372036854775807; decide)
             refine TF.front (.there _ (.there _ (.there _ (.here _)))) ?_
             refine TF.pub (by simp) (fun H_b39 le_b39 rd_b39 => ?_)
             replace hM := hM.le le_b39
             replace hSf := hSf.le le_b39
             have hT : RdSl H_b39 6 Term.cells _ (fs3 name) := RdSl.blk (cap := 3) rd_b39 (by intro x hx; rfl) (by kernel_rfl) (by show 3 ≤ 9223372036854775807; decide)
             refine TF.pubO hO100 (.skip _ (.skip _ (.skip _ (.skip _ (.skip _ (.skip _ (.skip _ (.skip _ (.skip _ .all))))))))) (by simp) (fun HPob100 lePob100 hS => ?_)
             replace hM := hM.le lePob100
             replace hSf := hSf.le lePob100
             replace hT := hT.le lePob100
             refine TF.still (pr_ownA rfl (.there _ (.there _ (.there _ (.here _)))) rfl) rfl (TF.still (pr_ownA rfl (.there _ (.there _ (.here _))) rfl) rfl ?_)
             refine TF.bslice rfl rfl rfl rfl (fun b123 => ?_)
             refine TF.pure (pr_build rfl rfl) rfl ?_
             refine TF.pub (by simp) (fun H_b123 le_b123 rd_b123 => ?_)
             replace hM := hM.le le_b123
             replace hSf := hSf.le le_b123
             replace hT := hT.le le_b123
             replace hS := hS.le le_b123
             have hQ : RdSl H_b123 4 SProc.cells _ ([(fProc [102] (some ⟨b34, 0, none⟩, 1)), (mProc name sMain (some ⟨b39, 0, none⟩, 3) [(letS name 0 1), (callS [102] [] nS), endS] (a100, c100))]) := RdSl.blk (cap := 2) rd_b123 (by intro x hx; rfl) (by kernel_rfl) (by show 2 ≤ 9223372036854775807; decide)
             have hOk : ∀ s ∈ [(letS name 0 1), (callS [102] [] nS), endS], StepOk H_b123 s := by
              intro s hs; simp only [List.mem_cons, List.not_mem_nil, or_false] at hs
              rcases hs with rfl | rfl | rfl <;> first | exact plain_ok _ rfl rfl rfl
             have hPG : ProgOk H_b123 (fPg (fProc [102] (some ⟨b34, 0, none⟩, 1)) (mProc name sMain (some ⟨b39, 0, none⟩, 3) [(letS name 0 1), (callS [102] [] nS), endS] (a100, c100)) (some ⟨b123, 0, none⟩, 2)) := fault_prog hSf hT hS hQ hOk hnl
             refine TF.loud ?_
             have hCk := check_ok hPG hM
             rw [fa6 _ _ _ _ _ hn] at hCk
             replace hCk : Fn Try.prog 6 [.agg #[.slice none 0 0, .slice none 0 0, .slice (some ⟨b123, 0, none⟩) 2 2]] H_b123 _ := hCk
             refine TL.call (enters rfl rfl rfl rfl) (hCk) rfl (fun v125 H125 hle125 hp125 => ?_)
             replace hM := hM.le hle125
             replace hSf := hSf.le hle125
             replace hT := hT.le hle125
             replace hS := hS.le hle125
             replace hQ := hQ.le hle125
             subst hp125
             refine TF.back (TF.still (pr_ownA rfl (.there _ (.here _)) rfl) rfl (TF.pure (pr_eqA (r := true) rfl rfl (by kernel_rfl) (by kernel_rfl) (by kernel_rfl)) rfl (TF.pure (pr_pure rfl) rfl (TF.nil (TX.seqN (TC.ret (TX.fin0 (.inr rfl) (results1 rfl (RVal.tmp rfl)) rfl)))))))
           ·
            refine TC.seq (TC.region (TL.run (pr_pure rfl) rfl (TL.run (pr_pure rfl) rfl (TL.nil (TX.seqN ?_)))))
            refine TC.condD rfl (fun c103 => ?_) (fun c103 => ?_)
            ·
             refine TC.seq (TC.region (TL.run (pr_ownA rfl (.there _ (.there _ (.there _ (.there _ (.there _ (.there _ (.there _ (.here _)))))))) rfl) rfl (TL.run (pr_build rfl rfl) rfl ?_)))
             refine TL.run (pr_ownA rfl (.there _ (.there _ (.there _ (.there _ (.there _ (.there _ (.here _))))))) rfl) rfl ?_
             refine TL.bslice rfl rfl rfl rfl (fun b108 => ?_)
             refine TL.run (pr_field rfl) rfl ?_
             refine TL.store1 rfl rfl rfl (.there _ (.there _ (.here _))) (by kernel_rfl) rfl ?_
             refine TL.nil (TX.seqN (TC.region (TL.run (pr_build rfl rfl) rfl ?_)))
             refine TL.storeA rfl rfl rfl rfl rfl (.there _ (.here _)) rfl rfl ?_
             refine TL.nil (TX.blkN (TX.seqN (TC.seq ?_)))
             refine TC.drawn (by kernel_rfl) (by kernel_rfl) ?_
             refine TD.part 5 4 rfl rfl rfl ?_ ?_
             ·
              refine TD.leaf [(0, 2), (1, 2), (5, 2), (2, 3), (3, 1), (4, 0), (6, 1), (7, 1)] (by kernel_rfl) (by kernel_rfl) ?_
              refine TF.front (.there _ (.there _ (.there _ (.there _ (.there _ (.there _ (.here _))))))) ?_
              refine TF.pub (by simp) (fun H_b34 le_b34 rd_b34 => ?_)
              replace hM := hM.le le_b34
              have hSf : RdSl H_b34 10 SStep.cells _ ([endS]) := RdSl.blk (cap := 1) rd_b34 (by intro x hx; rfl) (by kernel_rfl) (by show 1 ≤ 9223372036854775807; decide)
              refine TF.front (.there _ (.there _ (.there _ (.there _ (.here _))))) ?_
              refine TF.pub (by simp) (fun H_b39 le_b39 rd_b39 => ?_)
              replace hM := hM.le le_b39
              replace hSf := hSf.le le_b39
              have hT : RdSl H_b39 6 Term.cells _ (fs3 name) := RdSl.blk (cap := 3) rd_b39 (by intro x hx; rfl) (by kernel_rfl) (by show 3 ≤ 9223372036854775807; decide)
              refine TF.pub (by simp) (fun H_b108 le_b108 rd_b108 => ?_)
              replace hM := hM.le le_b108
              replace hSf := hSf.le le_b108
              replace hT := hT.le le_b108
              have hS : RdSl H_b108 10 SStep.cells _ ([(letS name 0 1), (prS 0 2), (callS [102] [] nS)]) := RdSl.blk (cap := 3) rd_b108 (by intro x hx; rfl) (by kernel_rfl) (by show 3 ≤ 9223372036854775807; decide)
              refine TF.still (pr_ownA rfl (.there _ (.there _ (.there _ (.here _)))) rfl) rfl (TF.still (pr_ownA rfl (.there _ (.here _)) rfl) rfl (TF.still (pr_ownA rfl (.here _) rfl) rfl ?_))
              refine TF.bslice rfl rfl rfl rfl (fun b123 => ?_)
              refine TF.pure (pr_build rfl rfl) rfl ?_
              refine TF.pub (by simp) (fun H_b123 le_b123 rd_b123 => ?_)
              replace hM := hM.le le_b123
              replace hSf := hSf.le le_b123
              replace hT := hT.le le_b123
              replace hS := hS.le le_b123
              have hQ : RdSl H_b123 4 SProc.cells _ ([(fProc [102] (some ⟨b34, 0, none⟩, 1)), (mProc name sMain (some ⟨b39, 0, none⟩, 3) [(letS name 0 1), (prS 0 2), (callS [102] [] nS)] (some ⟨b108, 0, none⟩, 3))]) := RdSl.blk (cap := 2) rd_b123 (by intro x hx; rfl) (by kernel_rfl) (by show 2 ≤ 9223372036854775807; decide)
              have hOk : ∀ s ∈ [(letS name 0 1), (prS 0 2), (callS [102] [] nS)], StepOk H_b123 s := by
               intro s hs; simp only [List.mem_cons, List.not_mem_nil, or_false] at hs
               rcases hs with rfl | rfl | rfl <;> first | exact plain_ok _ rfl rfl rfl
              have hPG : ProgOk H_b123 (fPg (fProc [102] (some ⟨b34, 0, none⟩, 1)) (mProc name sMain (some ⟨b39, 0, none⟩, 3) [(letS name 0 1), (prS 0 2), (callS [102] [] nS)] (some ⟨b108, 0, none⟩, 3)) (some ⟨b123, 0, none⟩, 2)) := fault_prog hSf hT hS hQ hOk hnl
              refine TF.loud ?_
              have hCk := check_ok hPG hM
              rw [fa7 _ _ _ _ _ hn] at hCk
              replace hCk : Fn Try.prog 6 [.agg #[.slice none 0 0, .slice none 0 0, .slice (some ⟨b123, 0, none⟩) 2 2]] H_b123 _ := hCk
              refine TL.call (enters rfl rfl rfl rfl) (hCk) rfl (fun v125 H125 hle125 hp125 => ?_)
              replace hM := hM.le hle125
              replace hSf := hSf.le hle125
              replace hT := hT.le hle125
              replace hS := hS.le hle125
              replace hQ := hQ.le hle125
              subst hp125
              refine TF.back (TF.pure (pr_eqA (r := true) rfl rfl (by kernel_rfl) (by kernel_rfl) (by kernel_rfl)) rfl (TF.pure (pr_pure rfl) rfl (TF.nil (TX.seqN (TC.ret (TX.fin0 (.inr rfl) (results1 rfl (RVal.tmp rfl)) rfl))))))
             ·
              refine TD.leaf [(0, 2), (1, 2), (2, 3), (3, 1), (4, 0), (5, 2), (6, 1), (7, 1)] (by kernel_rfl) (by kernel_rfl) ?_
              refine TF.front (.there _ (.there _ (.there _ (.there _ (.there _ (.there _ (.here _))))))) ?_
              refine TF.pub (by simp) (fun H_b34 le_b34 rd_b34 => ?_)
              replace hM := hM.le le_b34
              have hSf : RdSl H_b34 10 SStep.cells _ ([endS]) := RdSl.blk (cap := 1) rd_b34 (by intro x hx; rfl) (by kernel_rfl) (by show 1 ≤ 9223372036854775807; decide)
              refine TF.front (.there _ (.there _ (.there _ (.there _ (.here _))))) ?_
              refine TF.pub (by simp) (fun H_b39 le_b39 rd_b39 => ?_)
              replace hM := hM.le le_b39
              replace hSf := hSf.le le_b39
              have hT : RdSl H_b39 6 Term.cells _ (fs3 name) := RdSl.blk (cap := 3) rd_b39 (by intro x hx; rfl) (by kernel_rfl) (by show 3 ≤ 9223372036854775807; decide)
              refine TF.pub (by simp) (fun H_b108 le_b108 rd_b108 => ?_)
              replace hM := hM.le le_b108
              replace hSf := hSf.le le_b108
              replace hT := hT.le le_b108
              have hS : RdSl H_b108 10 SStep.cells _ ([(letS name 0 1), (prS 0 2), (callS [102] [] nS)]) := RdSl.blk (cap := 3) rd_b108 (by intro x hx; rfl) (by kernel_rfl) (by show 3 ≤ 9223372036854775807; decide)
              refine TF.still (pr_ownA rfl (.there _ (.there _ (.there _ (.here _)))) rfl) rfl (TF.still (pr_ownA rfl (.there _ (.here _)) rfl) rfl ?_)
              refine TF.bslice rfl rfl rfl rfl (fun b123 => ?_)
              refine TF.pure (pr_build rfl rfl) rfl ?_
              refine TF.pub (by simp) (fun H_b123 le_b123 rd_b123 => ?_)
              replace hM := hM.le le_b123
              replace hSf := hSf.le le_b123
              replace hT := hT.le le_b123
              replace hS := hS.le le_b123
              have hQ : RdSl H_b123 4 SProc.cells _ ([(fProc [102] (some ⟨b34, 0, none⟩, 1)), (mProc name sMain (some ⟨b39, 0, none⟩, 3) [(letS name 0 1), (prS 0 2), (callS [102] [] nS)] (some ⟨b108, 0, none⟩, 3))]) := RdSl.blk (cap := 2) rd_b123 (by intro x hx; rfl) (by kernel_rfl) (by show 2 ≤ 9223372036854775807; decide)
              have hOk : ∀ s ∈ [(letS name 0 1), (prS 0 2), (callS [102] [] nS)], StepOk H_b123 s := by
               intro s hs; simp only [List.mem_cons, List.not_mem_nil, or_false] at hs
               rcases hs with rfl | rfl | rfl <;> first | exact plain_ok _ rfl rfl rfl
              have hPG : ProgOk H_b123 (fPg (fProc [102] (some ⟨b34, 0, none⟩, 1)) (mProc name sMain (some ⟨b39, 0, none⟩, 3) [(letS name 0 1), (prS 0 2), (callS [102] [] nS)] (some ⟨b108, 0, none⟩, 3)) (some ⟨b123, 0, none⟩, 2)) := fault_prog hSf hT hS hQ hOk hnl
              refine TF.loud ?_
              have hCk := check_ok hPG hM
              rw [fa7 _ _ _ _ _ hn] at hCk
              replace hCk : Fn Try.prog 6 [.agg #[.slice none 0 0, .slice none 0 0, .slice (some ⟨b123, 0, none⟩) 2 2]] H_b123 _ := hCk
              refine TL.call (enters rfl rfl rfl rfl) (hCk) rfl (fun v125 H125 hle125 hp125 => ?_)
              replace hM := hM.le hle125
              replace hSf := hSf.le hle125
              replace hT := hT.le hle125
              replace hS := hS.le hle125
              replace hQ := hQ.le hle125
              subst hp125
              refine TF.back (TF.still (pr_ownA rfl (.here _) rfl) rfl (TF.pure (pr_eqA (r := true) rfl rfl (by kernel_rfl) (by kernel_rfl) (by kernel_rfl)) rfl (TF.pure (pr_pure rfl) rfl (TF.nil (TX.seqN (TC.ret (TX.fin0 (.inr rfl) (results1 rfl (RVal.tmp rfl)) rfl)))))))
            ·
             refine TC.seq (TC.region (TL.run (pr_pure rfl) rfl (TL.run (pr_pure rfl) rfl (TL.nil (TX.seqN ?_)))))
             refine TC.condD rfl (fun c111 => ?_) (fun c111 => ?_)
             ·
              refine TC.seq (TC.region (TL.run (pr_pure rfl) rfl (TL.run (pr_build rfl rfl) rfl ?_)))
              refine TL.bslice rfl rfl rfl rfl (fun b115 => ?_)
              refine TL.run (pr_build rfl rfl) rfl ?_
              refine TL.run (pr_ownA rfl (.there _ (.there _ (.there _ (.there _ (.there _ (.there _ (.there _ (.here _)))))))) rfl) rfl ?_
              refine TL.bslice rfl rfl rfl rfl (fun b118 => ?_)
              refine TL.run (pr_field rfl) rfl ?_
              refine TL.store1 rfl rfl rfl (.there _ (.there _ (.there _ (.here _)))) rfl rfl ?_
              refine TL.nil (TX.seqN (TC.region (TL.run (pr_build rfl rfl) rfl ?_)))
              refine TL.storeA rfl rfl rfl rfl rfl (.there _ (.there _ (.here _))) rfl rfl ?_
              refine TL.nil (TX.blkN (TX.seqN (TC.seq ?_)))
              refine TC.drawn (by kernel_rfl) (by kernel_rfl) ?_
              refine TD.part 5 4 rfl rfl rfl ?_ ?_
              ·
               refine TD.leaf [(0, 2), (1, 2), (5, 2), (2, 3), (3, 1), (4, 0), (6, 1), (7, 1)] (by kernel_rfl) (by kernel_rfl) ?_
               refine TF.front (.there _ (.there _ (.there _ (.there _ (.there _ (.there _ (.there _ (.here _)))))))) ?_
               refine TF.pub (by simp) (fun H_b34 le_b34 rd_b34 => ?_)
               replace hM := hM.le le_b34
               have hSf : RdSl H_b34 10 SStep.cells _ ([endS]) := RdSl.blk (cap := 1) rd_b34 (by intro x hx; rfl) (by kernel_rfl) (by show 1 ≤ 9223372036854775807; decide)
               refine TF.front (.there _ (.there _ (.there _ (.there _ (.there _ (.here _)))))) ?_
               refine TF.pub (by simp) (fun H_b39 le_b39 rd_b39 => ?_)
               replace hM := hM.le le_b39
               replace hSf := hSf.le le_b39
               have hT : RdSl H_b39 6 Term.cells _ (fs3 name) := RdSl.blk (cap := 3) rd_b39 (by intro x hx; rfl) (by kernel_rfl) (by show 3 ≤ 9223372036854775807; decide)
               refine TF.front (.there _ (.here _)) ?_
               refine TF.pub (by simp) (fun H_b115 le_b115 rd_b115 => ?_)
               replace hM := hM.le le_b115
               replace hSf := hSf.le le_b115
               replace hT := hT.le le_b115
               have hC : RdSl H_b115 3 SCast.cells _ ([⟨[98], [102], [], nS⟩]) := RdSl.blk (cap := 1) rd_b115 (by intro x hx; rfl) (by kernel_rfl) (by show 1 ≤ 9223372036854775807; decide)
               refine TF.pub (by simp) (fun H_b118 le_b118 rd_b118 => ?_)
               replace hM := hM.le le_b118
               replace hSf := hSf.le le_b118
               replace hT := hT.le le_b118
               replace hC := hC.le le_b118
               have hS : RdSl H_b118 10 SStep.cells _ ([(openS name (some ⟨b115, 0, none⟩, 1)), (callS [102] [] nS)]) := RdSl.blk (cap := 2) rd_b118 (by intro x hx; rfl) (by kernel_rfl) (by show 2 ≤ 9223372036854775807; decide)
               refine TF.still (pr_ownA rfl (.there _ (.there _ (.there _ (.here _)))) rfl) rfl (TF.still (pr_ownA rfl (.there _ (.here _)) rfl) rfl (TF.still (pr_ownA rfl (.here _) rfl) rfl ?_))
               refine TF.bslice rfl rfl rfl rfl (fun b123 => ?_)
               refine TF.pure (pr_build rfl rfl) rfl ?_
               refine TF.pub (by simp) (fun H_b123 le_b123 rd_b123 => ?_)
               replace hM := hM.le le_b123
               replace hSf := hSf.le le_b123
               replace hT := hT.le le_b123
               replace hC := hC.le le_b123
               replace hS := hS.le le_b123
               have hQ : RdSl H_b123 4 SProc.cells _ ([(fProc [102] (some ⟨b34, 0, none⟩, 1)), (mProc name sMain (some ⟨b39, 0, none⟩, 3) [(openS name (some ⟨b115, 0, none⟩, 1)), (callS [102] [] nS)] (some ⟨b118, 0, none⟩, 2))]) := RdSl.blk (cap := 2) rd_b123 (by intro x hx; rfl) (by kernel_rfl) (by show 2 ≤ 9223372036854775807; decide)
               have hOk : ∀ s ∈ [(openS name (some ⟨b115, 0, none⟩, 1)), (callS [102] [] nS)], StepOk H_b123 s := by
                intro s hs; simp only [List.mem_cons, List.not_mem_nil, or_false] at hs
                rcases hs with rfl | rfl <;> first | exact plain_ok _ rfl rfl rfl | exact open_ok hC
               have hPG : ProgOk H_b123 (fPg (fProc [102] (some ⟨b34, 0, none⟩, 1)) (mProc name sMain (some ⟨b39, 0, none⟩, 3) [(openS name (some ⟨b115, 0, none⟩, 1)), (callS [102] [] nS)] (some ⟨b118, 0, none⟩, 2)) (some ⟨b123, 0, none⟩, 2)) := fault_prog hSf hT hS hQ hOk hnl
               refine TF.loud ?_
               have hCk := check_ok hPG hM
               rw [fa8 _ _ _ _ _ _ hn] at hCk
               replace hCk : Fn Try.prog 6 [.agg #[.slice none 0 0, .slice none 0 0, .slice (some ⟨b123, 0, none⟩) 2 2]] H_b123 _ := hCk
               refine TL.call (enters rfl rfl rfl rfl) (hCk) rfl (fun v125 H125 hle125 hp125 => ?_)
               replace hM := hM.le hle125
               replace hSf := hSf.le hle125
               replace hT := hT.le hle125
               replace hC := hC.le hle125
               replace hS := hS.le hle125
               replace hQ := hQ.le hle125
               subst hp125
               refine TF.back (TF.pure (pr_eqA (r := true) rfl rfl (by kernel_rfl) (by kernel_rfl) (by kernel_rfl)) rfl (TF.pure (pr_pure rfl) rfl (TF.nil (TX.seqN (TC.ret (TX.fin0 (.inr rfl) (results1 rfl (RVal.tmp rfl)) rfl))))))
              ·
               refine TD.leaf [(0, 2), (1, 2), (2, 3), (3, 1), (4, 0), (5, 2), (6, 1), (7, 1)] (by kernel_rfl) (by kernel_rfl) ?_
               refine TF.front (.there _ (.there _ (.there _ (.there _ (.there _ (.there _ (.there _ (.here _)))))))) ?_
               refine TF.pub (by simp) (fun H_b34 le_b34 rd_b34 => ?_)
               replace hM := hM.le le_b34
               have hSf : RdSl H_b34 10 SStep.cells _ ([endS]) := RdSl.blk (cap := 1) rd_b34 (by intro x hx; rfl) (by kernel_rfl) (by show 1 ≤ 9223372036854775807; decide)
               refine TF.front (.there _ (.there _ (.there _ (.there _ (.there _ (.here _)))))) ?_
               refine TF.pub (by simp) (fun H_b39 le_b39 rd_b39 => ?_)
               replace hM := hM.le le_b39
               replace hSf := hSf.le le_b39
               have hT : RdSl H_b39 6 Term.cells _ (fs3 name) := RdSl.blk (cap := 3) rd_b39 (by intro x hx; rfl) (by kernel_rfl) (by show 3 ≤ 9223372036854775807; decide)
               refine TF.front (.there _ (.here _)) ?_
               refine TF.pub (by simp) (fun H_b115 le_b115 rd_b115 => ?_)
               replace hM := hM.le le_b115
               replace hSf := hSf.le le_b115
               replace hT := hT.le le_b115
               have hC : RdSl H_b115 3 SCast.cells _ ([⟨[98], [102], [], nS⟩]) := RdSl.blk (cap := 1) rd_b115 (by intro x hx; rfl) (by kernel_rfl) (by show 1 ≤ 9223372036854775807; decide)
               refine TF.pub (by simp) (fun H_b118 le_b118 rd_b118 => ?_)
               replace hM := hM.le le_b118
               replace hSf := hSf.le le_b118
               replace hT := hT.le le_b118
               replace hC := hC.le le_b118
               have hS : RdSl H_b118 10 SStep.cells _ ([(openS name (some ⟨b115, 0, none⟩, 1)), (callS [102] [] nS)]) := RdSl.blk (cap := 2) rd_b118 (by intro x hx; rfl) (by kernel_rfl) (by show 2 ≤ 9223372036854775807; decide)
               refine TF.still (pr_ownA rfl (.there _ (.there _ (.there _ (.here _)))) rfl) rfl (TF.still (pr_ownA rfl (.there _ (.here _)) rfl) rfl ?_)
               refine TF.bslice rfl rfl rfl rfl (fun b123 => ?_)
               refine TF.pure (pr_build rfl rfl) rfl ?_
               refine TF.pub (by simp) (fun H_b123 le_b123 rd_b123 => ?_)
               replace hM := hM.le le_b123
               replace hSf := hSf.le le_b123
               replace hT := hT.le le_b123
               replace hC := hC.le le_b123
               replace hS := hS.le le_b123
               have hQ : RdSl H_b123 4 SProc.cells _ ([(fProc [102] (some ⟨b34, 0, none⟩, 1)), (mProc name sMain (some ⟨b39, 0, none⟩, 3) [(openS name (some ⟨b115, 0, none⟩, 1)), (callS [102] [] nS)] (some ⟨b118, 0, none⟩, 2))]) := RdSl.blk (cap := 2) rd_b123 (by intro x hx; rfl) (by kernel_rfl) (by show 2 ≤ 9223372036854775807; decide)
               have hOk : ∀ s ∈ [(openS name (some ⟨b115, 0, none⟩, 1)), (callS [102] [] nS)], StepOk H_b123 s := by
                intro s hs; simp only [List.mem_cons, List.not_mem_nil, or_false] at hs
                rcases hs with rfl | rfl <;> first | exact plain_ok _ rfl rfl rfl | exact open_ok hC
               have hPG : ProgOk H_b123 (fPg (fProc [102] (some ⟨b34, 0, none⟩, 1)) (mProc name sMain (some ⟨b39, 0, none⟩, 3) [(openS name (some ⟨b115, 0, none⟩, 1)), (callS [102] [] nS)] (some ⟨b118, 0, none⟩, 2)) (some ⟨b123, 0, none⟩, 2)) := fault_prog hSf hT hS hQ hOk hnl
               refine TF.loud ?_
               have hCk := check_ok hPG hM
               rw [fa8 _ _ _ _ _ _ hn] at hCk
               replace hCk : Fn Try.prog 6 [.agg #[.slice none 0 0, .slice none 0 0, .slice (some ⟨b123, 0, none⟩) 2 2]] H_b123 _ := hCk
               refine TL.call (enters rfl rfl rfl rfl) (hCk) rfl (fun v125 H125 hle125 hp125 => ?_)
               replace hM := hM.le hle125
               replace hSf := hSf.le hle125
               replace hT := hT.le hle125
               replace hC := hC.le hle125
               replace hS := hS.le hle125
               replace hQ := hQ.le hle125
               subst hp125
               refine TF.back (TF.still (pr_ownA rfl (.here _) rfl) rfl (TF.pure (pr_eqA (r := true) rfl rfl (by kernel_rfl) (by kernel_rfl) (by kernel_rfl)) rfl (TF.pure (pr_pure rfl) rfl (TF.nil (TX.seqN (TC.ret (TX.fin0 (.inr rfl) (results1 rfl (RVal.tmp rfl)) rfl)))))))
             ·
              refine TC.seq (TC.region (TL.run (pr_field rfl) rfl ?_))
              refine TL.store1 rfl rfl rfl (.there _ (.there _ (.there _ (.there _ (.here _))))) (by kernel_rfl) rfl ?_
              refine TL.nil (TX.seqN (TC.region (TL.run (pr_build rfl rfl) rfl ?_)))
              refine TL.storeA rfl rfl rfl rfl rfl (.here _) rfl rfl ?_
              refine TL.nil (TX.blkN (TX.seqN (TC.seq ?_)))
              refine TC.drawn (by kernel_rfl) (by kernel_rfl) ?_
              refine TD.part 5 4 rfl rfl rfl ?_ ?_
              ·
               refine TD.leaf [(0, 2), (1, 2), (5, 2), (2, 3), (3, 1), (4, 0), (6, 1), (7, 1)] (by kernel_rfl) (by kernel_rfl) ?_
               refine TF.front (.there _ (.there _ (.there _ (.there _ (.there _ (.here _)))))) ?_
               refine TF.pub (by simp) (fun H_b34 le_b34 rd_b34 => ?_)
               replace hM := hM.le le_b34
               have hSf : RdSl H_b34 10 SStep.cells _ ([endS]) := RdSl.blk (cap := 1) rd_b34 (by intro x hx; rfl) (by kernel_rfl) (by show 1 ≤ 9223372036854775807; decide)
               refine TF.front (.there _ (.there _ (.there _ (.here _)))) ?_
               refine TF.pub (by simp) (fun H_b39 le_b39 rd_b39 => ?_)
               replace hM := hM.le le_b39
               replace hSf := hSf.le le_b39
               have hT : RdSl H_b39 6 Term.cells _ (fs3 name) := RdSl.blk (cap := 3) rd_b39 (by intro x hx; rfl) (by kernel_rfl) (by show 3 ≤ 9223372036854775807; decide)
               refine TF.front (.there _ (.there _ (.here _))) ?_
               refine TF.pub (by simp) (fun H_b42 le_b42 rd_b42 => ?_)
               replace hM := hM.le le_b42
               replace hSf := hSf.le le_b42
               replace hT := hT.le le_b42
               have hS : RdSl H_b42 10 SStep.cells _ ([(letS name 0 1), (callS [102] [] nS)]) := RdSl.blk (cap := 2) rd_b42 (by intro x hx; rfl) (by kernel_rfl) (by show 2 ≤ 9223372036854775807; decide)
               refine TF.still (pr_ownA rfl (.there _ (.there _ (.here _))) rfl) rfl (TF.still (pr_ownA rfl (.there _ (.here _)) rfl) rfl (TF.still (pr_ownA rfl (.here _) rfl) rfl ?_))
               refine TF.bslice rfl rfl rfl rfl (fun b123 => ?_)
               refine TF.pure (pr_build rfl rfl) rfl ?_
               refine TF.pub (by simp) (fun H_b123 le_b123 rd_b123 => ?_)
               replace hM := hM.le le_b123
               replace hSf := hSf.le le_b123
               replace hT := hT.le le_b123
               replace hS := hS.le le_b123
               have hQ : RdSl H_b123 4 SProc.cells _ ([(fProc sMain (some ⟨b34, 0, none⟩, 1)), (mProc name sMain (some ⟨b39, 0, none⟩, 3) [(letS name 0 1), (callS [102] [] nS)] (some ⟨b42, 0, none⟩, 2))]) := RdSl.blk (cap := 2) rd_b123 (by intro x hx; rfl) (by kernel_rfl) (by show 2 ≤ 9223372036854775807; decide)
               have hOk : ∀ s ∈ [(letS name 0 1), (callS [102] [] nS)], StepOk H_b123 s := by
                intro s hs; simp only [List.mem_cons, List.not_mem_nil, or_false] at hs
                rcases hs with rfl | rfl <;> first | exact plain_ok _ rfl rfl rfl
               have hPG : ProgOk H_b123 (fPg (fProc sMain (some ⟨b34, 0, none⟩, 1)) (mProc name sMain (some ⟨b39, 0, none⟩, 3) [(letS name 0 1), (callS [102] [] nS)] (some ⟨b42, 0, none⟩, 2)) (some ⟨b123, 0, none⟩, 2)) := fault_prog hSf hT hS hQ hOk hnl
               refine TF.loud ?_
               have hCk := check_ok hPG hM
               rw [fa9 _ _ _ _ _ hn] at hCk
               replace hCk : Fn Try.prog 6 [.agg #[.slice none 0 0, .slice none 0 0, .slice (some ⟨b123, 0, none⟩) 2 2]] H_b123 _ := hCk
               refine TL.call (enters rfl rfl rfl rfl) (hCk) rfl (fun v125 H125 hle125 hp125 => ?_)
               replace hM := hM.le hle125
               replace hSf := hSf.le hle125
               replace hT := hT.le hle125
               replace hS := hS.le hle125
               replace hQ := hQ.le hle125
               subst hp125
               refine TF.back (TF.pure (pr_eqA (r := true) rfl rfl (by kernel_rfl) (by kernel_rfl) (by kernel_rfl)) rfl (TF.pure (pr_pure rfl) rfl (TF.nil (TX.seqN (TC.ret (TX.fin0 (.inr rfl) (results1 rfl (RVal.tmp rfl)) rfl))))))
              ·
               refine TD.leaf [(0, 2), (1, 2), (2, 3), (3, 1), (4, 0), (5, 2), (6, 1), (7, 1)] (by kernel_rfl) (by kernel_rfl) ?_
               refine TF.front (.there _ (.there _ (.there _ (.there _ (.there _ (.here _)))))) ?_
               refine TF.pub (by simp) (fun H_b34 le_b34 rd_b34 => ?_)
               replace hM := hM.le le_b34
               have hSf : RdSl H_b34 10 SStep.cells _ ([endS]) := RdSl.blk (cap := 1) rd_b34 (by intro x hx; rfl) (by kernel_rfl) (by show 1 ≤ 9223372036854775807; decide)
               refine TF.front (.there _ (.there _ (.there _ (.here _)))) ?_
               refine TF.pub (by simp) (fun H_b39 le_b39 rd_b39 => ?_)
               replace hM := hM.le le_b39
               replace hSf := hSf.le le_b39
               have hT : RdSl H_b39 6 Term.cells _ (fs3 name) := RdSl.blk (cap := 3) rd_b39 (by intro x hx; rfl) (by kernel_rfl) (by show 3 ≤ 9223372036854775807; decide)
               refine TF.front (.there _ (.there _ (.here _))) ?_
               refine TF.pub (by simp) (fun H_b42 le_b42 rd_b42 => ?_)
               replace hM := hM.le le_b42
               replace hSf := hSf.le le_b42
               replace hT := hT.le le_b42
               have hS : RdSl H_b42 10 SStep.cells _ ([(letS name 0 1), (callS [102] [] nS)]) := RdSl.blk (cap := 2) rd_b42 (by intro x hx; rfl) (by kernel_rfl) (by show 2 ≤ 9223372036854775807; decide)
               refine TF.still (pr_ownA rfl (.there _ (.there _ (.here _))) rfl) rfl (TF.still (pr_ownA rfl (.there _ (.here _)) rfl) rfl ?_)
               refine TF.bslice rfl rfl rfl rfl (fun b123 => ?_)
               refine TF.pure (pr_build rfl rfl) rfl ?_
               refine TF.pub (by simp) (fun H_b123 le_b123 rd_b123 => ?_)
               replace hM := hM.le le_b123
               replace hSf := hSf.le le_b123
               replace hT := hT.le le_b123
               replace hS := hS.le le_b123
               have hQ : RdSl H_b123 4 SProc.cells _ ([(fProc sMain (some ⟨b34, 0, none⟩, 1)), (mProc name sMain (some ⟨b39, 0, none⟩, 3) [(letS name 0 1), (callS [102] [] nS)] (some ⟨b42, 0, none⟩, 2))]) := RdSl.blk (cap := 2) rd_b123 (by intro x hx; rfl) (by kernel_rfl) (by show 2 ≤ 9223372036854775807; decide)
               have hOk : ∀ s ∈ [(letS name 0 1), (callS [102] [] nS)], StepOk H_b123 s := by
                intro s hs; simp only [List.mem_cons, List.not_mem_nil, or_false] at hs
                rcases hs with rfl | rfl <;> first | exact plain_ok _ rfl rfl rfl
               have hPG : ProgOk H_b123 (fPg (fProc sMain (some ⟨b34, 0, none⟩, 1)) (mProc name sMain (some ⟨b39, 0, none⟩, 3) [(letS name 0 1), (callS [102] [] nS)] (some ⟨b42, 0, none⟩, 2)) (some ⟨b123, 0, none⟩, 2)) := fault_prog hSf hT hS hQ hOk hnl
               refine TF.loud ?_
               have hCk := check_ok hPG hM
               rw [fa9 _ _ _ _ _ hn] at hCk
               replace hCk : Fn Try.prog 6 [.agg #[.slice none 0 0, .slice none 0 0, .slice (some ⟨b123, 0, none⟩) 2 2]] H_b123 _ := hCk
               refine TL.call (enters rfl rfl rfl rfl) (hCk) rfl (fun v125 H125 hle125 hp125 => ?_)
               replace hM := hM.le hle125
               replace hSf := hSf.le hle125
               replace hT := hT.le hle125
               replace hS := hS.le hle125
               replace hQ := hQ.le hle125
               subst hp125
               refine TF.back (TF.still (pr_ownA rfl (.here _) rfl) rfl (TF.pure (pr_eqA (r := true) rfl rfl (by kernel_rfl) (by kernel_rfl) (by kernel_rfl)) rfl (TF.pure (pr_pure rfl) rfl (TF.nil (TX.seqN (TC.ret (TX.fin0 (.inr rfl) (results1 rfl (RVal.tmp rfl)) rfl)))))))
end Go.Sx
