import Derived.Test.YtjnlogbbcceaoaaWgA
import Derived.Test.YtjnlogbbcceaoaaPuS
set_option linter.unusedVariables false
set_option linter.unusedSimpArgs false
namespace Go.Sx
open Go Go.Proofs
set_option maxRecDepth 100000 in
set_option maxHeartbeats 1000000 in
theorem n_MayU_ok {H : Hp} (s : Str) :
  FnS Try.prog 5 [gs s] H (.bool (nameMay s)) := by
 refine FnS.enter Try.func5 Try.ntmps5 rfl rfl (fun w0 => ?_)
 refine TC.seq (TC.region (TL.run (pr_pure rfl) rfl (TL.nil (TX.seqN (TC.seq (TC.seq (TC.region ?_)))))))
 refine TL.run (pr_pure rfl) rfl (TL.run (pr_lenStr rfl rfl) rfl (TL.run (pr_pure rfl) rfl (TL.run (pr_pure rfl) rfl ?_)))
 refine TL.split (s := 7) rfl (fun g7 => ?_) (fun g7 => ?_)
 ·
  have q7 := of_decide_eq_true g7
  refine TL.gdN rfl rfl rfl rfl (TL.gdN rfl rfl rfl rfl (TL.gdN rfl rfl rfl rfl (TL.run (pr_pure rfl) rfl (TL.run (pr_pure rfl) rfl (TL.gdN rfl rfl rfl rfl (TL.gdN rfl rfl rfl rfl (TL.gdN rfl rfl rfl rfl ?_)))))))
  refine TL.gdN rfl rfl rfl rfl (TL.run (pr_pure rfl) rfl (TL.run (pr_pure rfl) rfl (TL.gdN rfl rfl rfl rfl (TL.gdN rfl rfl rfl rfl (TL.run (pr_pure rfl) rfl (TL.nil (TX.seqN ?_)))))))
  refine TC.condT rfl (TC.seq (TC.region (TL.run (pr_pure rfl) rfl (TL.nil (TX.seqN (TC.ret (TX.thenR ?_)))))))
  exact TX.fin0 (.inr rfl) (results1 rfl (RVal.tmp rfl)) ⟨congrArg Value.bool (by first | exact (nameMay_F (by first | exact .inl g7 | exact .inr (.inl g12) | exact .inr (.inr (.inl ⟨c0, hc0, g18⟩)) | exact .inr (.inr (.inr c21)))).symm | exact (nameMay_end hn hI.2.2 c25).symm | exact (nameMay_bad hn hI.2.2 (by omega) hc g33 c39).symm), rfl⟩
 ·
  have q7 := of_decide_eq_false g7
  refine TL.gdY rfl rfl (pr_pure rfl) rfl (TL.gdY rfl rfl (pr_lenStr rfl rfl) rfl (TL.gdY rfl rfl (pr_pure rfl) rfl (TL.run (pr_pure rfl) rfl (TL.run (pr_pure rfl) rfl ?_))))
  refine TL.split (s := 12) rfl (fun g12 => ?_) (fun g12 => ?_)
  ·
   have q12 := of_decide_eq_true g12
   refine TL.gdN rfl rfl rfl rfl (TL.gdN rfl rfl rfl rfl (TL.gdN rfl rfl rfl rfl (TL.gdN rfl rfl rfl rfl (TL.run (pr_pure rfl) rfl (TL.run (pr_pure rfl) rfl (TL.gdN rfl rfl rfl rfl (TL.gdN rfl rfl rfl rfl ?_)))))))
   refine TL.run (pr_pure rfl) rfl (TL.nil (TX.seqN (TC.condT rfl (TC.seq (TC.region (TL.run (pr_pure rfl) rfl (TL.nil ?_)))))))
   refine TX.seqN (TC.ret (TX.thenR (TX.fin0 (.inr rfl) (results1 rfl (RVal.tmp rfl)) ⟨congrArg Value.bool (by first | exact (nameMay_F (by first | exact .inl g7 | exact .inr (.inl g12) | exact .inr (.inr (.inl ⟨c0, hc0, g18⟩)) | exact .inr (.inr (.inr c21)))).symm | exact (nameMay_end hn hI.2.2 c25).symm | exact (nameMay_bad hn hI.2.2 (by omega) hc g33 c39).symm), rfl⟩)))
  ·
   have q12 := of_decide_eq_false g12
   refine TL.gdY rfl rfl (pr_pure rfl) rfl ?_
   have hlen : (0 : Int) < s.length := by have := of_decide_eq_false g7; omega
   obtain ⟨c0, hc0⟩ := getSome (l := s) (i := 0) (by omega) hlen
   refine TL.gdY rfl rfl (pr_strIx rfl rfl (by omega) hc0) rfl ?_
   refine TL.callSY rfl rfl (enters rfl rfl rfl rfl) (n_letter_ok c0) rfl ?_
   refine TL.gdY rfl rfl (pr_pure rfl) rfl (TL.run (pr_pure rfl) rfl (TL.run (pr_pure rfl) rfl ?_))
   refine TL.split (s := 18) rfl (fun g18 => ?_) (fun g18 => ?_)
   ·
    refine TL.gdN rfl rfl rfl rfl (TL.gdN rfl rfl rfl rfl (TL.run (pr_pure rfl) rfl (TL.nil (TX.seqN (TC.condT rfl (TC.seq (TC.region ?_)))))))
    refine TL.run (pr_pure rfl) rfl (TL.nil (TX.seqN (TC.ret (TX.thenR (TX.fin0 (.inr rfl) (results1 rfl (RVal.tmp rfl)) ⟨congrArg Value.bool (by first | exact (nameMay_F (by first | exact .inl g7 | exact .inr (.inl g12) | exact .inr (.inr (.inl ⟨c0, hc0, g18⟩)) | exact .inr (.inr (.inr c21)))).symm | exact (nameMay_end hn hI.2.2 c25).symm | exact (nameMay_bad hn hI.2.2 (by omega) hc g33 c39).symm), rfl⟩)))))
   ·
    refine TL.gdY rfl rfl (pr_pure rfl) rfl ?_
    refine TL.callSY rfl rfl (enters rfl rfl rfl rfl) (n_Keyword_ok s) rfl ?_
    refine TL.run (pr_pure rfl) rfl (TL.nil (TX.seqN ?_))
    refine TC.cond rfl (fun c21 => ?_) (fun c21 => ?_)
    ·
     refine TC.seq (TC.region (TL.run (pr_pure rfl) rfl (TL.nil (TX.seqN (TC.ret (TX.thenR (TX.fin0 (.inr rfl) (results1 rfl (RVal.tmp rfl)) ⟨congrArg Value.bool (by first | exact (nameMay_F (by first | exact .inl g7 | exact .inr (.inl g12) | exact .inr (.inr (.inl ⟨c0, hc0, g18⟩)) | exact .inr (.inr (.inr c21)))).symm | exact (nameMay_end hn hI.2.2 c25).symm | exact (nameMay_bad hn hI.2.2 (by omega) hc g33 c39).symm), rfl⟩)))))))
    ·
     have hn := nameMay_T g7 g12 hc0 g18 c21
     have hl12 : (s.length : Int) ≤ 12 := by have := of_decide_eq_false g12; omega
     refine TC.skip (TX.seqN (TC.seq (TC.seq (TC.region (TL.run (pr_pure rfl) rfl (TL.nil (TX.seqN ?_)))))))
     refine TC.block ?_
     refine TC.loop (V := fun k => [(3, .int .i64 k)]) (K := [(0, _), (2, _)]) (L := fun k => _) (I := fun k => 1 ≤ k ∧ k ≤ s.length ∧ (s.drop 1).all nameC = (s.drop k.toNat).all nameC) (μ := fun k => (s.length - k).toNat) (i := (1 : Int)) ⟨rfl, rfl, rfl, trivial⟩ ⟨by omega, by omega, rfl⟩ (fun w hw => hw) (fun k hI => ?_)
     refine TC.seq (TC.seq (TC.region (TL.run (pr_pure rfl) rfl (TL.run (pr_pure rfl) rfl (TL.run (pr_lenStr rfl rfl) rfl (TL.run (pr_pure rfl) rfl (TL.nil ?_)))))))
     refine TX.seqN ?_
     refine TC.condD rfl (fun c25 => ?_) (fun c25 => ?_)
     ·
      refine TC.skip (TX.seqN (TC.seq (TC.block (TC.seq (TC.region ?_)))))
      obtain ⟨c, hc⟩ := getSome (l := s) (i := k) (by omega) c25
      refine TL.run (pr_pure rfl) rfl (TL.run (pr_pure rfl) rfl (TL.run (pr_strIx rfl rfl (by omega) hc) rfl ?_))
      refine TL.callS (enters rfl rfl rfl rfl) (n_letter_ok c) rfl ?_
      refine TL.run (pr_pure rfl) rfl (TL.run (pr_pure rfl) rfl ?_)
      refine TL.split (s := 33) rfl (fun g33 => ?_) (fun g33 => ?_)
      ·
       refine TL.gdY rfl rfl (pr_pure rfl) rfl (TL.gdY rfl rfl (pr_pure rfl) rfl (TL.gdY rfl rfl (pr_strIx rfl rfl (by omega) hc) rfl ?_))
       refine TL.callSY rfl rfl (enters rfl rfl rfl rfl) (n_digit_ok c) rfl ?_
       refine TL.gdY rfl rfl (pr_pure rfl) rfl (TL.run (pr_pure rfl) rfl (TL.nil (TX.seqN ?_)))
       refine TC.cond rfl (fun c39 => ?_) (fun c39 => ?_)
       ·
        refine TC.seq (TC.region (TL.run (pr_pure rfl) rfl (TL.nil (TX.seqN (TC.ret (TX.blkR (TX.thenR ?_)))))))
        refine TX.thenR (TX.blkR (TX.thenR (TX.fin0 (.inr rfl) (results1 rfl (RVal.tmp rfl)) ⟨congrArg Value.bool (by first | exact (nameMay_F (by first | exact .inl g7 | exact .inr (.inl g12) | exact .inr (.inr (.inl ⟨c0, hc0, g18⟩)) | exact .inr (.inr (.inr c21)))).symm | exact (nameMay_end hn hI.2.2 c25).symm | exact (nameMay_bad hn hI.2.2 (by omega) hc g33 c39).symm), rfl⟩)))
       ·
        refine TC.skip (TX.blkN (TX.seqN (TC.region (TL.run (pr_pure rfl) rfl (TL.run ((by first | exact pr_add rfl rfl (by omega) (by omega) | exact pr_pure rfl)) rfl (TL.run (pr_pure rfl) rfl (TL.nil ?_)))))))
        exact TX.round (k + 1) ⟨by omega, by omega, nameMay_step hI.2.2 (by omega) hc (by first | exact .inl g33 | exact .inr c39)⟩ ⟨rfl, rfl, rfl, trivial⟩ (fun w hw => hw) (by omega)
      ·
       refine TL.gdN rfl rfl rfl rfl (TL.gdN rfl rfl rfl rfl (TL.gdN rfl rfl rfl rfl (TL.gdN rfl rfl rfl rfl (TL.gdN rfl rfl rfl rfl (TL.run (pr_pure rfl) rfl (TL.nil (TX.seqN ?_)))))))
       refine TC.condF rfl (TC.skip (TX.blkN (TX.seqN (TC.region (TL.run (pr_pure rfl) rfl (TL.run ((by first | exact pr_add rfl rfl (by omega) (by omega) | exact pr_pure rfl)) rfl (TL.run (pr_pure rfl) rfl ?_)))))))
       refine TL.nil (TX.round (k + 1) ⟨by omega, by omega, nameMay_step hI.2.2 (by omega) hc (by first | exact .inl g33 | exact .inr c39)⟩ ⟨rfl, rfl, rfl, trivial⟩ (fun w hw => hw) (by omega))
     ·
      refine TC.exit (TX.thenE (TX.thenE (TX.blkHit (TX.seqN (TC.seq (TC.region (TL.run (pr_pure rfl) rfl ?_)))))))
      refine TL.nil (TX.seqN (TC.ret (TX.fin0 (.inr rfl) (results1 rfl (RVal.tmp rfl)) ⟨congrArg Value.bool (by first | exact (nameMay_F (by first | exact .inl g7 | exact .inr (.inl g12) | exact .inr (.inr (.inl ⟨c0, hc0, g18⟩)) | exact .inr (.inr (.inr c21)))).symm | exact (nameMay_end hn hI.2.2 c25).symm | exact (nameMay_bad hn hI.2.2 (by omega) hc g33 c39).symm), rfl⟩)))

set_option maxRecDepth 100000 in
set_option maxHeartbeats 1000000 in
theorem goes_ok {H : Hp} (k : Int) :
  FnS Try.prog 38 [.int .i64 k] H (.bool (goesB k)) := by
 refine FnS.enter Try.func38 Try.ntmps38 rfl rfl (fun w0 => ?_)
 refine TC.seq (TC.region (TL.run (pr_pure rfl) rfl (TL.nil (TX.seqN (TC.seq (TC.seq (TC.region ?_)))))))
 refine TL.run (pr_pure rfl) rfl (TL.nil (TX.seqN (TC.block ?_)))
 refine TC.sw (decide (k = 1) || (decide (k = 2) || (decide (k = 4) || (decide (k = 7) || (decide (k = 8) || decide (k = 9)))))) 4 [(2, _)] ⟨rfl, trivial⟩ ?_ ?_
 ·
  refine TC.swG (pr_pure rfl) rfl rfl ⟨rfl, trivial⟩ ?_
  refine TC.swG (pr_pure rfl) rfl rfl ⟨rfl, trivial⟩ ?_
  refine TC.swG (pr_pure rfl) rfl rfl ⟨rfl, trivial⟩ ?_
  refine TC.swG (pr_pure rfl) rfl rfl ⟨rfl, trivial⟩ ?_
  refine TC.swG (pr_pure rfl) rfl rfl ⟨rfl, trivial⟩ ?_
  exact TC.swE (pr_pure rfl) rfl rfl ⟨rfl, trivial⟩
 refine TC.cond rfl (fun c4 => ?_) (fun c4 => ?_)
 ·
  refine TC.seq (TC.region (TL.run (pr_pure rfl) rfl (TL.nil (TX.seqN (TC.ret (TX.blkR (TX.thenR ?_)))))))
  exact TX.finS (.inr rfl) (results1 rfl (RVal.tmp rfl)) (congrArg Value.bool (by unfold goesB; first | exact c4.symm | (rw [c4]) | simp_all))
 ·
  refine TC.skip (TX.blkN (TX.seqN (TC.seq (TC.region (TL.run (pr_pure rfl) rfl (TL.nil (TX.seqN ?_)))))))
  refine TC.ret (TX.finS (.inr rfl) (results1 rfl (RVal.tmp rfl)) (congrArg Value.bool (by unfold goesB; first | exact c4.symm | (rw [c4]) | simp_all)))

set_option maxRecDepth 100000 in
set_option maxHeartbeats 1000000 in
theorem fault_ok {H : Hp} (e p a : Int) :
  FnS Try.prog 20 [.int .i64 e, .int .i64 p, .int .i64 a] H (.agg (SFault.cells ⟨e, p, a⟩).toArray) := by
 refine FnS.enter Try.func20 Try.ntmps20 rfl rfl (fun w0 => ?_)
 refine TC.seq (TC.region ?_)
 refine TL.alloc rfl (fun b6 => ?_)
 refine TL.nil (TX.seqN (TC.seq (TC.region (TL.run (pr_pure rfl) rfl (TL.run (pr_pure rfl) rfl (TL.run (pr_pure rfl) rfl (TL.run (pr_build rfl rfl) rfl ?_)))))))
 refine TL.storeA rfl rfl rfl rfl rfl (.here _) rfl rfl ?_
 refine TL.nil (TX.seqN (TC.ret (TX.finS (.inr rfl) (results1 rfl (RVal.cellA rfl (.here _) rfl)) rfl)))

set_option maxRecDepth 100000 in
set_option maxHeartbeats 1000000 in
theorem sFind_ok {H : Hp} {pg : SProg} (s : Str) (hP : ProgOk H pg) :
  FnS Try.prog 8 [.agg pg.cells.toArray, gs s] H (.int .i64 (findS pg.procs s)) := by
 have hq := hP.q
 have hmax := hq.max
 refine FnS.enter Try.func8 Try.ntmps8 rfl rfl (fun w0 => ?_)
 refine TC.seq (TC.region ?_)
 refine TL.box rfl rfl (fun b2 => ?_)
 refine TL.run (pr_pure rfl) rfl (TL.nil (TX.seqN (TC.seq (TC.seq (TC.region (TL.run (pr_field rfl) rfl (TL.run (pr_own1 rfl (.here _) rfl) rfl ?_)))))))
 refine TL.run (pr_lenSl rfl rfl hq) rfl (TL.run (pr_pure rfl) rfl (TL.nil (TX.seqN (TC.block ?_))))
 refine TC.loop (V := fun k => [(9, .int .i64 k)]) (K := [(1, _), (2, _), (4, _), (8, _)]) (L := fun k => _) (I := fun k => 0 ≤ k ∧ k ≤ pg.procs.length ∧ ∀ j : Nat, j < k.toNat → (pg.procs.map (·.name))[j]? ≠ some s) (μ := fun k => (pg.procs.length - k).toNat) (i := (0 : Int)) ⟨rfl, rfl, rfl, rfl, rfl, trivial⟩ ⟨by omega, by omega, fun j hj => absurd hj (by simp)⟩ (fun w hw => hw) (fun k hI => ?_)
 refine TC.seq (TC.region (TL.run (pr_pure rfl) rfl (TL.nil (TX.seqN (TC.seq ?_)))))
 refine TC.condD rfl (fun c10 => ?_) (fun c10 => ?_)
 ·
  obtain ⟨x, hx⟩ := getSome (l := pg.procs) hI.1 c10
  refine TC.skip (TX.seqN (TC.seq (TC.block (TC.seq (TC.region (TL.run (pr_pure rfl) rfl (TL.run (pr_pure rfl) rfl ?_)))))))
  refine TL.nil (TX.seqN (TC.seq (TC.region (TL.run (pr_field rfl) rfl (TL.run (pr_own1 rfl (.here _) rfl) rfl (TL.run (pr_pure rfl) rfl (TL.run (pr_indexSl rfl hq rfl (by omega) (by omega)) rfl ?_)))))))
  refine TL.run (pr_field rfl) rfl (TL.run (pr_el1 hq hx rfl rfl) rfl (TL.run (pr_pure rfl) rfl (TL.run (pr_str rfl rfl rfl) rfl (TL.nil (TX.seqN ?_)))))
  refine TC.condD rfl (fun c19 => ?_) (fun c19 => ?_)
  ·
   refine TC.seq (TC.region (TL.run (pr_pure rfl) rfl (TL.run (pr_pure rfl) rfl (TL.nil (TX.seqN (TC.ret (TX.blkR ?_)))))))
   refine TX.thenR (TX.thenR (TX.blkR (TX.thenR (TX.finS (.inr rfl) (results1 rfl (RVal.tmp rfl)) (congrArg (Value.int .i64) (by unfold findS; first | exact (placeS_hit hI.1 (by rw [map_at hx, c19]) hI.2.2).symm | exact (place_end hI.2.2 (by rw [List.length_map]; exact c10)).symm))))))
  ·
   refine TC.skip (TX.blkN (TX.seqN (TC.region (TL.run ((by first | exact pr_add rfl rfl (by omega) (by omega) | exact pr_pure rfl)) rfl (TL.run (pr_pure rfl) rfl (TL.nil (TX.round (k + 1) ⟨by omega, by omega, place_next hI.1 hI.2.2 (map_at hx) c19⟩ ⟨rfl, rfl, rfl, rfl, rfl, trivial⟩ (fun w hw => hw) (by omega))))))))
 ·
  refine TC.exit (TX.thenE (TX.thenE (TX.blkHit (TX.seqN (TC.seq (TC.region (TL.run (pr_pure rfl) rfl ?_)))))))
  refine TL.nil (TX.seqN (TC.ret (TX.finS (.inr rfl) (results1 rfl (RVal.tmp rfl)) (congrArg (Value.int .i64) (by unfold findS; first | exact (placeS_hit hI.1 (by rw [map_at hx, c19]) hI.2.2).symm | exact (place_end hI.2.2 (by rw [List.length_map]; exact c10)).symm)))))

set_option maxRecDepth 100000 in
set_option maxHeartbeats 2000000 in
theorem bare_ok {H : Hp} (s : SStep) :
  FnS Try.prog 43 [.agg s.cells.toArray] H (.agg (bareS s).cells.toArray) := by
 refine FnS.enter Try.func43 Try.ntmps43 rfl rfl (fun w0 => ?_)
 refine TC.seq (TC.region ?_)
 refine TL.box rfl rfl (fun b1 => ?_)
 refine TL.alloc rfl (fun b2 => ?_)
 refine TL.nil (TX.seqN (TC.seq (TC.seq (TC.region (TL.run (pr_field rfl) rfl (TL.run (pr_own1 rfl (.there _ (.here _)) rfl) rfl (TL.nil ?_)))))))
 refine TX.seqN (TC.block (TC.seq (TC.region (TL.run (pr_pure rfl) rfl (TL.run (pr_pure rfl) rfl (TL.nil (TX.seqN ?_)))))))
 refine TC.condD rfl (fun c5 => ?_) (fun c5 => ?_)
 ·
  refine TC.region (TL.run (pr_field rfl) rfl ?_)
  refine TL.store1 rfl rfl rfl (.there _ (.here _)) rfl rfl ?_
  refine TL.run (pr_field rfl) rfl ?_
  refine TL.store1 rfl rfl rfl (.there _ (.here _)) rfl rfl ?_
  refine TL.nil (TX.blkN (TX.seqN (TC.seq (TC.seq (TC.region (TL.run (pr_field rfl) rfl (TL.run (pr_own1 rfl (.there _ (.here _)) rfl) rfl ?_)))))))
  refine TL.callS (enters rfl rfl rfl rfl) (goes_ok s.kind) rfl ?_
  refine TL.nil (TX.seqN ?_)
  refine TC.cond rfl (fun c43 => ?_) (fun c43 => ?_)
  ·
   refine TC.region (TL.run (pr_field rfl) rfl ?_)
   refine TL.store1 rfl rfl rfl (.there _ (.here _)) rfl rfl ?_
   refine TL.nil (TX.seqN (TC.seq (TC.region (TL.run (pr_ownA rfl (.there _ (.here _)) rfl) rfl ?_))))
   refine TL.storeA rfl rfl rfl rfl rfl (.here _) rfl rfl ?_
   refine TL.nil (TX.seqN (TC.ret (TX.finS (.inr rfl) (results1 rfl (RVal.cellA rfl (.here _) rfl)) (congrArg Value.agg (congrArg List.toArray (by unfold bareS SStep.cells; first | (simp_all; rfl) | (simp_all; done)))))))
  ·
   refine TC.skip (TX.seqN (TC.seq (TC.region (TL.run (pr_ownA rfl (.there _ (.here _)) rfl) rfl ?_))))
   refine TL.storeA rfl rfl rfl rfl rfl (.here _) rfl rfl ?_
   refine TL.nil (TX.seqN (TC.ret (TX.finS (.inr rfl) (results1 rfl (RVal.cellA rfl (.here _) rfl)) (congrArg Value.agg (congrArg List.toArray (by unfold bareS SStep.cells; first | (simp_all; rfl) | (simp_all; done)))))))
 ·
  refine TC.seq (TC.region (TL.run (pr_pure rfl) rfl (TL.run (pr_pure rfl) rfl (TL.nil (TX.seqN ?_)))))
  refine TC.condD rfl (fun c9 => ?_) (fun c9 => ?_)
  ·
   refine TC.region (TL.run (pr_field rfl) rfl ?_)
   refine TL.store1 rfl rfl rfl (.there _ (.here _)) rfl rfl ?_
   refine TL.nil (TX.blkN (TX.seqN (TC.seq (TC.seq (TC.region (TL.run (pr_field rfl) rfl (TL.run (pr_own1 rfl (.there _ (.here _)) rfl) rfl ?_)))))))
   refine TL.callS (enters rfl rfl rfl rfl) (goes_ok s.kind) rfl ?_
   refine TL.nil (TX.seqN ?_)
   refine TC.cond rfl (fun c43 => ?_) (fun c43 => ?_)
   ·
    refine TC.region (TL.run (pr_field rfl) rfl ?_)
    refine TL.store1 rfl rfl rfl (.there _ (.here _)) rfl rfl ?_
    refine TL.nil (TX.seqN (TC.seq (TC.region (TL.run (pr_ownA rfl (.there _ (.here _)) rfl) rfl ?_))))
    refine TL.storeA rfl rfl rfl rfl rfl (.here _) rfl rfl ?_
    refine TL.nil (TX.seqN (TC.ret (TX.finS (.inr rfl) (results1 rfl (RVal.cellA rfl (.here _) rfl)) (congrArg Value.agg (congrArg List.toArray (by unfold bareS SStep.cells; first | (simp_all; rfl) | (simp_all; done)))))))
   ·
    refine TC.skip (TX.seqN (TC.seq (TC.region (TL.run (pr_ownA rfl (.there _ (.here _)) rfl) rfl ?_))))
    refine TL.storeA rfl rfl rfl rfl rfl (.here _) rfl rfl ?_
    refine TL.nil (TX.seqN (TC.ret (TX.finS (.inr rfl) (results1 rfl (RVal.cellA rfl (.here _) rfl)) (congrArg Value.agg (congrArg List.toArray (by unfold bareS SStep.cells; first | (simp_all; rfl) | (simp_all; done)))))))
  ·
   refine TC.seq (TC.region (TL.run (pr_pure rfl) rfl (TL.run (pr_pure rfl) rfl (TL.nil (TX.seqN ?_)))))
   refine TC.condD rfl (fun c12 => ?_) (fun c12 => ?_)
   ·
    refine TC.region (TL.run (pr_field rfl) rfl ?_)
    refine TL.store1 rfl rfl rfl (.there _ (.here _)) rfl rfl ?_
    refine TL.run (pr_field rfl) rfl ?_
    refine TL.store1 rfl rfl rfl (.there _ (.here _)) rfl rfl ?_
    refine TL.nil (TX.blkN (TX.seqN (TC.seq (TC.seq (TC.region (TL.run (pr_field rfl) rfl (TL.run (pr_own1 rfl (.there _ (.here _)) rfl) rfl ?_)))))))
    refine TL.callS (enters rfl rfl rfl rfl) (goes_ok s.kind) rfl ?_
    refine TL.nil (TX.seqN ?_)
    refine TC.cond rfl (fun c43 => ?_) (fun c43 => ?_)
    ·
     refine TC.region (TL.run (pr_field rfl) rfl ?_)
     refine TL.store1 rfl rfl rfl (.there _ (.here _)) rfl rfl ?_
     refine TL.nil (TX.seqN (TC.seq (TC.region (TL.run (pr_ownA rfl (.there _ (.here _)) rfl) rfl ?_))))
     refine TL.storeA rfl rfl rfl rfl rfl (.here _) rfl rfl ?_
     refine TL.nil (TX.seqN (TC.ret (TX.finS (.inr rfl) (results1 rfl (RVal.cellA rfl (.here _) rfl)) (congrArg Value.agg (congrArg List.toArray (by unfold bareS SStep.cells; first | (simp_all; rfl) | (simp_all; done)))))))
    ·
     refine TC.skip (TX.seqN (TC.seq (TC.region (TL.run (pr_ownA rfl (.there _ (.here _)) rfl) rfl ?_))))
     refine TL.storeA rfl rfl rfl rfl rfl (.here _) rfl rfl ?_
     refine TL.nil (TX.seqN (TC.ret (TX.finS (.inr rfl) (results1 rfl (RVal.cellA rfl (.here _) rfl)) (congrArg Value.agg (congrArg List.toArray (by unfold bareS SStep.cells; first | (simp_all; rfl) | (simp_all; done)))))))
   ·
    refine TC.seq (TC.region (TL.run (pr_pure rfl) rfl (TL.run (pr_pure rfl) rfl (TL.nil (TX.seqN ?_)))))
    refine TC.condD rfl (fun c16 => ?_) (fun c16 => ?_)
    ·
     refine TC.region (TL.run (pr_field rfl) rfl ?_)
     refine TL.store1 rfl rfl rfl (.there _ (.here _)) rfl rfl ?_
     refine TL.run (pr_field rfl) rfl ?_
     refine TL.store1 rfl rfl rfl (.there _ (.here _)) rfl rfl ?_
     refine TL.run (pr_field rfl) rfl ?_
     refine TL.store1 rfl rfl rfl (.there _ (.here _)) rfl rfl ?_
     refine TL.run (pr_field rfl) rfl ?_
     refine TL.store1 rfl rfl rfl (.there _ (.here _)) rfl rfl ?_
     refine TL.nil (TX.blkN (TX.seqN (TC.seq (TC.seq (TC.region (TL.run (pr_field rfl) rfl (TL.run (pr_own1 rfl (.there _ (.here _)) rfl) rfl ?_)))))))
     refine TL.callS (enters rfl rfl rfl rfl) (goes_ok s.kind) rfl ?_
     refine TL.nil (TX.seqN ?_)
     refine TC.cond rfl (fun c43 => ?_) (fun c43 => ?_)
     ·
      refine TC.region (TL.run (pr_field rfl) rfl ?_)
      refine TL.store1 rfl rfl rfl (.there _ (.here _)) rfl rfl ?_
      refine TL.nil (TX.seqN (TC.seq (TC.region (TL.run (pr_ownA rfl (.there _ (.here _)) rfl) rfl ?_))))
      refine TL.storeA rfl rfl rfl rfl rfl (.here _) rfl rfl ?_
      refine TL.nil (TX.seqN (TC.ret (TX.finS (.inr rfl) (results1 rfl (RVal.cellA rfl (.here _) rfl)) (congrArg Value.agg (congrArg List.toArray (by unfold bareS SStep.cells; first | (simp_all; rfl) | (simp_all; done)))))))
     ·
      refine TC.skip (TX.seqN (TC.seq (TC.region (TL.run (pr_ownA rfl (.there _ (.here _)) rfl) rfl ?_))))
      refine TL.storeA rfl rfl rfl rfl rfl (.here _) rfl rfl ?_
      refine TL.nil (TX.seqN (TC.ret (TX.finS (.inr rfl) (results1 rfl (RVal.cellA rfl (.here _) rfl)) (congrArg Value.agg (congrArg List.toArray (by unfold bareS SStep.cells; first | (simp_all; rfl) | (simp_all; done)))))))
    ·
     refine TC.seq (TC.region (TL.run (pr_pure rfl) rfl (TL.run (pr_pure rfl) rfl (TL.nil (TX.seqN ?_)))))
     refine TC.condD rfl (fun c22 => ?_) (fun c22 => ?_)
     ·
      refine TC.region (TL.run (pr_field rfl) rfl ?_)
      refine TL.store1 rfl rfl rfl (.there _ (.here _)) rfl rfl ?_
      refine TL.run (pr_field rfl) rfl ?_
      refine TL.store1 rfl rfl rfl (.there _ (.here _)) rfl rfl ?_
      refine TL.run (pr_field rfl) rfl ?_
      refine TL.store1 rfl rfl rfl (.there _ (.here _)) rfl rfl ?_
      refine TL.nil (TX.blkN (TX.seqN (TC.seq (TC.seq (TC.region (TL.run (pr_field rfl) rfl (TL.run (pr_own1 rfl (.there _ (.here _)) rfl) rfl ?_)))))))
      refine TL.callS (enters rfl rfl rfl rfl) (goes_ok s.kind) rfl ?_
      refine TL.nil (TX.seqN ?_)
      refine TC.cond rfl (fun c43 => ?_) (fun c43 => ?_)
      ·
       refine TC.region (TL.run (pr_field rfl) rfl ?_)
       refine TL.store1 rfl rfl rfl (.there _ (.here _)) rfl rfl ?_
       refine TL.nil (TX.seqN (TC.seq (TC.region (TL.run (pr_ownA rfl (.there _ (.here _)) rfl) rfl ?_))))
       refine TL.storeA rfl rfl rfl rfl rfl (.here _) rfl rfl ?_
       refine TL.nil (TX.seqN (TC.ret (TX.finS (.inr rfl) (results1 rfl (RVal.cellA rfl (.here _) rfl)) (congrArg Value.agg (congrArg List.toArray (by unfold bareS SStep.cells; first | (simp_all; rfl) | (simp_all; done)))))))
      ·
       refine TC.skip (TX.seqN (TC.seq (TC.region (TL.run (pr_ownA rfl (.there _ (.here _)) rfl) rfl ?_))))
       refine TL.storeA rfl rfl rfl rfl rfl (.here _) rfl rfl ?_
       refine TL.nil (TX.seqN (TC.ret (TX.finS (.inr rfl) (results1 rfl (RVal.cellA rfl (.here _) rfl)) (congrArg Value.agg (congrArg List.toArray (by unfold bareS SStep.cells; first | (simp_all; rfl) | (simp_all; done)))))))
     ·
      refine TC.sw (decide (s.kind = 6) || decide (s.kind = 7)) 27 [(1, _), (2, _), (4, _)] ⟨rfl, rfl, rfl, trivial⟩ ?_ ?_
      ·
       refine TC.swG (pr_pure rfl) rfl rfl ⟨rfl, rfl, rfl, trivial⟩ ?_
       exact TC.swE (pr_pure rfl) rfl rfl ⟨rfl, rfl, rfl, trivial⟩
      refine TC.cond rfl (fun c27 => ?_) (fun c27 => ?_)
      ·
       have h67 : s.kind = 6 ∨ s.kind = 7 := by simpa using c27
       have h8 : ¬ s.kind = 8 := by omega
       have h9 : ¬ s.kind = 9 := by omega
       refine TC.region (TL.run (pr_field rfl) rfl ?_)
       refine TL.store1 rfl rfl rfl (.there _ (.here _)) rfl rfl ?_
       refine TL.run (pr_field rfl) rfl ?_
       refine TL.store1 rfl rfl rfl (.there _ (.here _)) rfl rfl ?_
       refine TL.nil (TX.blkN (TX.seqN (TC.seq (TC.seq (TC.region (TL.run (pr_field rfl) rfl (TL.run (pr_own1 rfl (.there _ (.here _)) rfl) rfl ?_)))))))
       refine TL.callS (enters rfl rfl rfl rfl) (goes_ok s.kind) rfl ?_
       refine TL.nil (TX.seqN ?_)
       refine TC.cond rfl (fun c43 => ?_) (fun c43 => ?_)
       ·
        refine TC.region (TL.run (pr_field rfl) rfl ?_)
        refine TL.store1 rfl rfl rfl (.there _ (.here _)) rfl rfl ?_
        refine TL.nil (TX.seqN (TC.seq (TC.region (TL.run (pr_ownA rfl (.there _ (.here _)) rfl) rfl ?_))))
        refine TL.storeA rfl rfl rfl rfl rfl (.here _) rfl rfl ?_
        refine TL.nil (TX.seqN (TC.ret (TX.finS (.inr rfl) (results1 rfl (RVal.cellA rfl (.here _) rfl)) (congrArg Value.agg (congrArg List.toArray (by unfold bareS SStep.cells; first | (simp_all; rfl) | (simp_all; done)))))))
       ·
        refine TC.skip (TX.seqN (TC.seq (TC.region (TL.run (pr_ownA rfl (.there _ (.here _)) rfl) rfl ?_))))
        refine TL.storeA rfl rfl rfl rfl rfl (.here _) rfl rfl ?_
        refine TL.nil (TX.seqN (TC.ret (TX.finS (.inr rfl) (results1 rfl (RVal.cellA rfl (.here _) rfl)) (congrArg Value.agg (congrArg List.toArray (by unfold bareS SStep.cells; first | (simp_all; rfl) | (simp_all; done)))))))
      ·
       refine TC.seq (TC.region (TL.run (pr_pure rfl) rfl (TL.run (pr_pure rfl) rfl (TL.nil (TX.seqN ?_)))))
       refine TC.condD rfl (fun c32 => ?_) (fun c32 => ?_)
       ·
        refine TC.region (TL.run (pr_field rfl) rfl ?_)
        refine TL.store1 rfl rfl rfl (.there _ (.here _)) rfl rfl ?_
        refine TL.run (pr_field rfl) rfl ?_
        refine TL.store1 rfl rfl rfl (.there _ (.here _)) rfl rfl ?_
        refine TL.run (pr_field rfl) rfl ?_
        refine TL.store1 rfl rfl rfl (.there _ (.here _)) rfl rfl ?_
        refine TL.run (pr_field rfl) rfl ?_
        refine TL.store1 rfl rfl rfl (.there _ (.here _)) rfl rfl ?_
        refine TL.nil (TX.blkN (TX.seqN (TC.seq (TC.seq (TC.region (TL.run (pr_field rfl) rfl (TL.run (pr_own1 rfl (.there _ (.here _)) rfl) rfl ?_)))))))
        refine TL.callS (enters rfl rfl rfl rfl) (goes_ok s.kind) rfl ?_
        refine TL.nil (TX.seqN ?_)
        refine TC.cond rfl (fun c43 => ?_) (fun c43 => ?_)
        ·
         refine TC.region (TL.run (pr_field rfl) rfl ?_)
         refine TL.store1 rfl rfl rfl (.there _ (.here _)) rfl rfl ?_
         refine TL.nil (TX.seqN (TC.seq (TC.region (TL.run (pr_ownA rfl (.there _ (.here _)) rfl) rfl ?_))))
         refine TL.storeA rfl rfl rfl rfl rfl (.here _) rfl rfl ?_
         refine TL.nil (TX.seqN (TC.ret (TX.finS (.inr rfl) (results1 rfl (RVal.cellA rfl (.here _) rfl)) (congrArg Value.agg (congrArg List.toArray (by unfold bareS SStep.cells; first | (simp_all; rfl) | (simp_all; done)))))))
        ·
         refine TC.skip (TX.seqN (TC.seq (TC.region (TL.run (pr_ownA rfl (.there _ (.here _)) rfl) rfl ?_))))
         refine TL.storeA rfl rfl rfl rfl rfl (.here _) rfl rfl ?_
         refine TL.nil (TX.seqN (TC.ret (TX.finS (.inr rfl) (results1 rfl (RVal.cellA rfl (.here _) rfl)) (congrArg Value.agg (congrArg List.toArray (by unfold bareS SStep.cells; first | (simp_all; rfl) | (simp_all; done)))))))
       ·
        refine TC.seq (TC.region (TL.run (pr_pure rfl) rfl (TL.run (pr_pure rfl) rfl (TL.nil (TX.seqN ?_)))))
        refine TC.condD rfl (fun c38 => ?_) (fun c38 => ?_)
        ·
         refine TC.region (TL.run (pr_field rfl) rfl ?_)
         refine TL.store1 rfl rfl rfl (.there _ (.here _)) rfl rfl ?_
         refine TL.nil (TX.blkN (TX.seqN (TC.seq (TC.seq (TC.region (TL.run (pr_field rfl) rfl (TL.run (pr_own1 rfl (.there _ (.here _)) rfl) rfl ?_)))))))
         refine TL.callS (enters rfl rfl rfl rfl) (goes_ok s.kind) rfl ?_
         refine TL.nil (TX.seqN ?_)
         refine TC.cond rfl (fun c43 => ?_) (fun c43 => ?_)
         ·
          refine TC.region (TL.run (pr_field rfl) rfl ?_)
          refine TL.store1 rfl rfl rfl (.there _ (.here _)) rfl rfl ?_
          refine TL.nil (TX.seqN (TC.seq (TC.region (TL.run (pr_ownA rfl (.there _ (.here _)) rfl) rfl ?_))))
          refine TL.storeA rfl rfl rfl rfl rfl (.here _) rfl rfl ?_
          refine TL.nil (TX.seqN (TC.ret (TX.finS (.inr rfl) (results1 rfl (RVal.cellA rfl (.here _) rfl)) (congrArg Value.agg (congrArg List.toArray (by unfold bareS SStep.cells; first | (simp_all; rfl) | (simp_all; done)))))))
         ·
          refine TC.skip (TX.seqN (TC.seq (TC.region (TL.run (pr_ownA rfl (.there _ (.here _)) rfl) rfl ?_))))
          refine TL.storeA rfl rfl rfl rfl rfl (.here _) rfl rfl ?_
          refine TL.nil (TX.seqN (TC.ret (TX.finS (.inr rfl) (results1 rfl (RVal.cellA rfl (.here _) rfl)) (congrArg Value.agg (congrArg List.toArray (by unfold bareS SStep.cells; first | (simp_all; rfl) | (simp_all; done)))))))
        ·
         refine TC.skip (TX.blkN (TX.seqN (TC.seq (TC.seq (TC.region (TL.run (pr_field rfl) rfl (TL.run (pr_own1 rfl (.there _ (.here _)) rfl) rfl ?_)))))))
         refine TL.callS (enters rfl rfl rfl rfl) (goes_ok s.kind) rfl ?_
         refine TL.nil (TX.seqN ?_)
         refine TC.cond rfl (fun c43 => ?_) (fun c43 => ?_)
         ·
          refine TC.region (TL.run (pr_field rfl) rfl ?_)
          refine TL.store1 rfl rfl rfl (.there _ (.here _)) rfl rfl ?_
          refine TL.nil (TX.seqN (TC.seq (TC.region (TL.run (pr_ownA rfl (.there _ (.here _)) rfl) rfl ?_))))
          refine TL.storeA rfl rfl rfl rfl rfl (.here _) rfl rfl ?_
          refine TL.nil (TX.seqN (TC.ret (TX.finS (.inr rfl) (results1 rfl (RVal.cellA rfl (.here _) rfl)) (congrArg Value.agg (congrArg List.toArray (by unfold bareS SStep.cells; first | (simp_all; rfl) | (simp_all; done)))))))
         ·
          refine TC.skip (TX.seqN (TC.seq (TC.region (TL.run (pr_ownA rfl (.there _ (.here _)) rfl) rfl ?_))))
          refine TL.storeA rfl rfl rfl rfl rfl (.here _) rfl rfl ?_
          refine TL.nil (TX.seqN (TC.ret (TX.finS (.inr rfl) (results1 rfl (RVal.cellA rfl (.here _) rfl)) (congrArg Value.agg (congrArg List.toArray (by unfold bareS SStep.cells; first | (simp_all; rfl) | (simp_all; done)))))))

set_option maxRecDepth 100000 in
set_option maxHeartbeats 1000000 in
theorem n_Once_ok {H : Hp} {l : List Str} {v : Value} (hL : RdSl H 1 Str.cells v l) :
  FnS Try.prog 27 [v] H (.bool (onceS l)) := by
 have hmax := hL.max
 obtain ⟨la, lc, rfl⟩ := hL.len
 refine FnS.enter Try.func27 Try.ntmps27 rfl rfl (fun w0 => ?_)
 refine TC.seq (TC.region (TL.run (pr_pure rfl) rfl (TL.nil (TX.seqN (TC.seq (TC.seq (TC.region ?_)))))))
 refine TL.run (pr_pure rfl) rfl (TL.run (pr_lenSl rfl rfl hL) rfl (TL.run (pr_pure rfl) rfl (TL.nil (TX.seqN (TC.block ?_)))))
 refine TC.loop (V := fun k => [(6, .int .i64 k)]) (K := [(0, _), (2, _), (5, _)]) (L := fun k => _) (I := fun k => 0 ≤ k ∧ k ≤ l.length ∧ (l.take k.toNat).Nodup) (μ := fun k => (l.length - k).toNat) (i := (0 : Int)) ⟨rfl, rfl, rfl, rfl, trivial⟩ ⟨by omega, by omega, List.nodup_nil⟩ (fun w hw => hw) (fun k hI => ?_)
 refine TC.seq (TC.region (TL.run (pr_pure rfl) rfl (TL.nil (TX.seqN (TC.seq ?_)))))
 refine TC.condD rfl (fun c7 => ?_) (fun c7 => ?_)
 ·
  obtain ⟨x, hx⟩ := getSome (l := l) hI.1 c7
  refine TC.skip (TX.seqN (TC.seq (TC.block (TC.seq (TC.region (TL.run (pr_pure rfl) rfl (TL.run (pr_pure rfl) rfl ?_)))))))
  refine TL.nil (TX.seqN (TC.seq (TC.region (TL.run (pr_pure rfl) rfl (TL.run (pr_pure rfl) rfl (TL.run (pr_pure rfl) rfl (TL.run (pr_indexSl rfl hL rfl (by omega) (by omega)) rfl ?_)))))))
  refine TL.run (pr_el0 hL hx rfl rfl) rfl ?_
  refine TL.callS (enters rfl rfl rfl rfl) (n_Place_ok x hL) rfl ?_
  refine TL.run (pr_pure rfl) rfl (TL.run (pr_pure rfl) rfl (TL.nil (TX.seqN ?_)))
  refine TC.condND rfl (fun c16 => ?_) (fun c16 => ?_)
  ·
   refine TC.seq (TC.region (TL.run (pr_pure rfl) rfl (TL.nil (TX.seqN (TC.ret (TX.blkR (TX.thenR ?_)))))))
   refine TX.thenR (TX.blkR (TX.thenR (TX.finS (.inr rfl) (results1 rfl (RVal.tmp rfl)) (congrArg Value.bool (by first | exact (once_end c7 hI.1 hI.2.2).symm | exact (once_place hI.1 hx (by simpa using c16)).symm)))))
  ·
   refine TC.skip (TX.blkN (TX.seqN (TC.region (TL.run ((by first | exact pr_add rfl rfl (by omega) (by omega) | exact pr_pure rfl)) rfl (TL.run (pr_pure rfl) rfl (TL.nil (TX.round (k + 1) ⟨by omega, by omega, take_nodup hI.1 hx hI.2.2 (place_first hI.1 hx (by simpa using c16))⟩ ⟨rfl, rfl, rfl, rfl, trivial⟩ (fun w hw => hw) (by omega))))))))
 ·
  refine TC.exit (TX.thenE (TX.thenE (TX.blkHit (TX.seqN (TC.seq (TC.region (TL.run (pr_pure rfl) rfl ?_)))))))
  refine TL.nil (TX.seqN (TC.ret (TX.finS (.inr rfl) (results1 rfl (RVal.tmp rfl)) (congrArg Value.bool (by first | exact (once_end c7 hI.1 hI.2.2).symm | exact (once_place hI.1 hx (by simpa using c16)).symm)))))
end Go.Sx

set_option linter.unusedVariables false
set_option linter.unusedSimpArgs false
namespace Go.Sx
open Go Go.Proofs
set_option maxRecDepth 100000 in
set_option maxHeartbeats 2000000 in
theorem ways_ok {H : Hp} (s : SStep) (hs : StepOk H s) :
  FnS Try.prog 44 [.agg s.cells.toArray] H (.bool (waysS s)) := by
 have hw := hs.w
 have hmw := hw.max
 refine FnS.enter Try.func44 Try.ntmps44 rfl rfl (fun w0 => ?_)
 refine TC.seq (TC.region ?_)
 refine TL.box rfl rfl (fun b1 => ?_)
 refine TL.run (pr_pure rfl) rfl (TL.nil (TX.seqN (TC.seq (TC.seq (TC.region (TL.run (pr_field rfl) rfl (TL.run (pr_own1 rfl (.here _) rfl) rfl ?_)))))))
 refine TL.run (pr_pure rfl) rfl (TL.nil (TX.seqN ?_))
 refine TC.condD rfl (fun c8 => ?_) (fun c8 => ?_)
 ·
  refine TC.seq (TC.region (TL.run (pr_field rfl) rfl (TL.run (pr_own1 rfl (.here _) rfl) rfl (TL.run (pr_lenSl rfl rfl hw) rfl (TL.run (pr_pure rfl) rfl (TL.run (pr_pure rfl) rfl ?_))))))
  refine TL.split (s := 13) rfl (fun g13 => ?_) (fun g13 => ?_)
  ·
   have q13 := of_decide_eq_true g13
   obtain ⟨w0, h0⟩ := getSome (l := s.ways) (i := 0) (by decide) (by omega)
   obtain ⟨w1, h1⟩ := getSome (l := s.ways) (i := 1) (by decide) (by omega)
   refine TL.gdY rfl rfl (pr_field rfl) rfl (TL.gdY rfl rfl (pr_own1 rfl (.here _) rfl) rfl (TL.gdY rfl rfl (pr_indexSl rfl hw rfl (by omega) (by omega)) rfl (TL.gdY rfl rfl (pr_field rfl) rfl (TL.gdY rfl rfl (pr_el1 hw h0 rfl rfl) rfl (TL.gdY rfl rfl (pr_str rfl rfl rfl) rfl (TL.run (pr_pure rfl) rfl (TL.run (pr_pure rfl) rfl ?_)))))))
   refine TL.split (s := 21) rfl (fun g21 => ?_) (fun g21 => ?_)
   ·
    have q21 := of_decide_eq_true g21
    refine TL.gdY rfl rfl (pr_field rfl) rfl (TL.gdY rfl rfl (pr_own1 rfl (.here _) rfl) rfl (TL.gdY rfl rfl (pr_indexSl rfl hw rfl (by omega) (by omega)) rfl (TL.gdY rfl rfl (pr_field rfl) rfl (TL.gdY rfl rfl (pr_el1 hw h0 rfl rfl) rfl (TL.gdY rfl rfl (pr_str rfl rfl rfl) rfl (TL.run (pr_pure rfl) rfl (TL.run (pr_pure rfl) rfl ?_)))))))
    refine TL.split (s := 29) rfl (fun g29 => ?_) (fun g29 => ?_)
    ·
     have q29 := of_decide_eq_true g29
     refine TL.gdY rfl rfl (pr_field rfl) rfl (TL.gdY rfl rfl (pr_own1 rfl (.here _) rfl) rfl (TL.gdY rfl rfl (pr_indexSl rfl hw rfl (by omega) (by omega)) rfl (TL.gdY rfl rfl (pr_field rfl) rfl (TL.gdY rfl rfl (pr_el1 hw h1 rfl rfl) rfl (TL.gdY rfl rfl (pr_str rfl rfl rfl) rfl (TL.run (pr_pure rfl) rfl (TL.run (pr_pure rfl) rfl ?_)))))))
     refine TL.split (s := 37) rfl (fun g37 => ?_) (fun g37 => ?_)
     ·
      have q37 := of_decide_eq_true g37
      refine TL.gdY rfl rfl (pr_field rfl) rfl (TL.gdY rfl rfl (pr_own1 rfl (.here _) rfl) rfl (TL.gdY rfl rfl (pr_indexSl rfl hw rfl (by omega) (by omega)) rfl (TL.gdY rfl rfl (pr_field rfl) rfl (TL.gdY rfl rfl (pr_el1 hw h1 rfl rfl) rfl (TL.gdY rfl rfl (pr_str rfl rfl rfl) rfl (TL.run (pr_pure rfl) rfl (TL.run (pr_pure rfl) rfl ?_)))))))
      refine TL.nil (TX.seqN (TC.ret (TX.thenR (TX.finS (.inr rfl) (results1 rfl (RVal.tmp rfl)) (congrArg Value.bool (by first | exact ways_3 c8 h0 h1 (by simp_all [bare2]) | exact ways_3n c8 g13 | exact (ways_n c8 (by omega)).symm | exact (ways_bad c8 k0 hx c91 hal).symm | exact (ways_end c8 hn7 k0 c59 hal).symm))))))
     ·
      have q37 := of_decide_eq_false g37
      refine TL.gdN rfl rfl rfl rfl (TL.gdN rfl rfl rfl rfl (TL.gdN rfl rfl rfl rfl (TL.gdN rfl rfl rfl rfl (TL.gdN rfl rfl rfl rfl (TL.gdN rfl rfl rfl rfl (TL.run (pr_pure rfl) rfl (TL.run (pr_pure rfl) rfl ?_)))))))
      refine TL.nil (TX.seqN (TC.ret (TX.thenR (TX.finS (.inr rfl) (results1 rfl (RVal.tmp rfl)) (congrArg Value.bool (by first | exact ways_3 c8 h0 h1 (by simp_all [bare2]) | exact ways_3n c8 g13 | exact (ways_n c8 (by omega)).symm | exact (ways_bad c8 k0 hx c91 hal).symm | exact (ways_end c8 hn7 k0 c59 hal).symm))))))
    ·
     have q29 := of_decide_eq_false g29
     refine TL.gdN rfl rfl rfl rfl (TL.gdN rfl rfl rfl rfl (TL.gdN rfl rfl rfl rfl (TL.gdN rfl rfl rfl rfl (TL.gdN rfl rfl rfl rfl (TL.gdN rfl rfl rfl rfl (TL.run (pr_pure rfl) rfl (TL.run (pr_pure rfl) rfl ?_)))))))
     refine TL.gdN rfl rfl rfl rfl (TL.gdN rfl rfl rfl rfl (TL.gdN rfl rfl rfl rfl (TL.gdN rfl rfl rfl rfl (TL.gdN rfl rfl rfl rfl (TL.gdN rfl rfl rfl rfl (TL.run (pr_pure rfl) rfl (TL.run (pr_pure rfl) rfl ?_)))))))
     refine TL.nil (TX.seqN (TC.ret (TX.thenR (TX.finS (.inr rfl) (results1 rfl (RVal.tmp rfl)) (congrArg Value.bool (by first | exact ways_3 c8 h0 h1 (by simp_all [bare2]) | exact ways_3n c8 g13 | exact (ways_n c8 (by omega)).symm | exact (ways_bad c8 k0 hx c91 hal).symm | exact (ways_end c8 hn7 k0 c59 hal).symm))))))
   ·
    have q21 := of_decide_eq_false g21
    refine TL.gdN rfl rfl rfl rfl (TL.gdN rfl rfl rfl rfl (TL.gdN rfl rfl rfl rfl (TL.gdN rfl rfl rfl rfl (TL.gdN rfl rfl rfl rfl (TL.gdN rfl rfl rfl rfl (TL.run (pr_pure rfl) rfl (TL.run (pr_pure rfl) rfl ?_)))))))
    refine TL.gdN rfl rfl rfl rfl (TL.gdN rfl rfl rfl rfl (TL.gdN rfl rfl rfl rfl (TL.gdN rfl rfl rfl rfl (TL.gdN rfl rfl rfl rfl (TL.gdN rfl rfl rfl rfl (TL.run (pr_pure rfl) rfl (TL.run (pr_pure rfl) rfl ?_)))))))
    refine TL.gdN rfl rfl rfl rfl (TL.gdN rfl rfl rfl rfl (TL.gdN rfl rfl rfl rfl (TL.gdN rfl rfl rfl rfl (TL.gdN rfl rfl rfl rfl (TL.gdN rfl rfl rfl rfl (TL.run (pr_pure rfl) rfl (TL.run (pr_pure rfl) rfl ?_)))))))
    refine TL.nil (TX.seqN (TC.ret (TX.thenR (TX.finS (.inr rfl) (results1 rfl (RVal.tmp rfl)) (congrArg Value.bool (by first | exact ways_3 c8 h0 h1 (by simp_all [bare2]) | exact ways_3n c8 g13 | exact (ways_n c8 (by omega)).symm | exact (ways_bad c8 k0 hx c91 hal).symm | exact (ways_end c8 hn7 k0 c59 hal).symm))))))
  ·
   have q13 := of_decide_eq_false g13
   refine TL.gdN rfl rfl rfl rfl (TL.gdN rfl rfl rfl rfl (TL.gdN rfl rfl rfl rfl (TL.gdN rfl rfl rfl rfl (TL.gdN rfl rfl rfl rfl (TL.gdN rfl rfl rfl rfl (TL.run (pr_pure rfl) rfl (TL.run (pr_pure rfl) rfl ?_)))))))
   refine TL.gdN rfl rfl rfl rfl (TL.gdN rfl rfl rfl rfl (TL.gdN rfl rfl rfl rfl (TL.gdN rfl rfl rfl rfl (TL.gdN rfl rfl rfl rfl (TL.gdN rfl rfl rfl rfl (TL.run (pr_pure rfl) rfl (TL.run (pr_pure rfl) rfl ?_)))))))
   refine TL.gdN rfl rfl rfl rfl (TL.gdN rfl rfl rfl rfl (TL.gdN rfl rfl rfl rfl (TL.gdN rfl rfl rfl rfl (TL.gdN rfl rfl rfl rfl (TL.gdN rfl rfl rfl rfl (TL.run (pr_pure rfl) rfl (TL.run (pr_pure rfl) rfl ?_)))))))
   refine TL.gdN rfl rfl rfl rfl (TL.gdN rfl rfl rfl rfl (TL.gdN rfl rfl rfl rfl (TL.gdN rfl rfl rfl rfl (TL.gdN rfl rfl rfl rfl (TL.gdN rfl rfl rfl rfl (TL.run (pr_pure rfl) rfl (TL.run (pr_pure rfl) rfl ?_)))))))
   refine TL.nil (TX.seqN (TC.ret (TX.thenR (TX.finS (.inr rfl) (results1 rfl (RVal.tmp rfl)) (congrArg Value.bool (by first | exact ways_3 c8 h0 h1 (by simp_all [bare2]) | exact ways_3n c8 g13 | exact (ways_n c8 (by omega)).symm | exact (ways_bad c8 k0 hx c91 hal).symm | exact (ways_end c8 hn7 k0 c59 hal).symm))))))
 ·
  refine TC.skip (TX.seqN (TC.seq (TC.seq (TC.region (TL.run (pr_field rfl) rfl (TL.run (pr_own1 rfl (.here _) rfl) rfl (TL.run (pr_lenSl rfl rfl hw) rfl ?_)))))))
  refine TL.run (pr_pure rfl) rfl (TL.run (pr_pure rfl) rfl ?_)
  refine TL.split (s := 49) rfl (fun g49 => ?_) (fun g49 => ?_)
  ·
   have q49 := of_decide_eq_true g49
   refine TL.gdN rfl rfl rfl rfl (TL.gdN rfl rfl rfl rfl (TL.gdN rfl rfl rfl rfl (TL.gdN rfl rfl rfl rfl (TL.run (pr_pure rfl) rfl (TL.nil (TX.seqN (TC.condT rfl ?_)))))))
   refine TC.seq (TC.region (TL.run (pr_pure rfl) rfl (TL.nil (TX.seqN (TC.ret (TX.thenR (TX.finS (.inr rfl) (results1 rfl (RVal.tmp rfl)) (congrArg Value.bool (by first | exact ways_3 c8 h0 h1 (by simp_all [bare2]) | exact ways_3n c8 g13 | exact (ways_n c8 (by omega)).symm | exact (ways_bad c8 k0 hx c91 hal).symm | exact (ways_end c8 hn7 k0 c59 hal).symm)))))))))
  ·
   have q49 := of_decide_eq_false g49
   refine TL.gdY rfl rfl (pr_field rfl) rfl (TL.gdY rfl rfl (pr_own1 rfl (.here _) rfl) rfl (TL.gdY rfl rfl (pr_lenSl rfl rfl hw) rfl (TL.gdY rfl rfl (pr_pure rfl) rfl (TL.run (pr_pure rfl) rfl (TL.nil (TX.seqN ?_))))))
   refine TC.condD rfl (fun c54 => ?_) (fun c54 => ?_)
   ·
    refine TC.seq (TC.region (TL.run (pr_pure rfl) rfl (TL.nil (TX.seqN (TC.ret (TX.thenR (TX.finS (.inr rfl) (results1 rfl (RVal.tmp rfl)) (congrArg Value.bool (by first | exact ways_3 c8 h0 h1 (by simp_all [bare2]) | exact ways_3n c8 g13 | exact (ways_n c8 (by omega)).symm | exact (ways_bad c8 k0 hx c91 hal).symm | exact (ways_end c8 hn7 k0 c59 hal).symm)))))))))
   ·
    have hn7 : (1 : Int) ≤ s.ways.length ∧ (s.ways.length : Int) ≤ 7 := ⟨by omega, by omega⟩
    refine TC.skip (TX.seqN (TC.seq (TC.region (TL.run (pr_pure rfl) rfl (TL.nil (TX.seqN (TC.seq ?_)))))))
    refine TC.seq (TC.region (TL.run (pr_field rfl) rfl (TL.run (pr_own1 rfl (.here _) rfl) rfl (TL.run (pr_lenSl rfl rfl hw) rfl (TL.run (pr_pure rfl) rfl (TL.nil (TX.seqN ?_)))))))
    refine TC.block ?_
    refine TC.loop4 (V := fun k v ob H1 => [(3, v), (58, .int .i64 k)]) (K := [(2, _), (56, _), (57, _)]) (L := fun k v ob H1 => St [] w0 H H ((b1, _) :: ob)) (I := fun k v ob H1 => (0 ≤ k ∧ k ≤ s.ways.length) ∧ OwnSl 1 Str.cells v ((s.ways.take k.toNat).map (·.label)) ob ∧ s.ways.all (fun w => !wayBad w) = (s.ways.drop k.toNat).all (fun w => !wayBad w)) (μ := fun k => (s.ways.length - k).toNat) 0 (.slice none 0 0) [] H ⟨rfl, rfl, rfl, rfl, rfl, trivial⟩ ⟨⟨by omega, by omega⟩, OwnSl.nil, rfl⟩ (fun w hw => hw) (fun k v ob H1 hI => ?_)
    obtain ⟨⟨k0, k1⟩, hO, hal⟩ := hI
    obtain ⟨va, vc, rfl⟩ := hO.form
    refine TC.seq (TC.region (TL.run (pr_pure rfl) rfl (TL.nil (TX.seqN (TC.seq ?_)))))
    refine TC.condD rfl (fun c59 => ?_) (fun c59 => ?_)
    ·
     obtain ⟨x, hx⟩ := getSome (l := s.ways) k0 c59
     refine TC.skip (TX.seqN (TC.seq (TC.block (TC.seq (TC.region (TL.run (pr_indexSl rfl hw rfl (by omega) (by omega)) rfl (TL.run (pr_elA hw hx rfl rfl) rfl ?_)))))))
     refine TL.alloc rfl (fun b5 => ?_)
     refine TL.storeA rfl rfl rfl rfl rfl (.here _) rfl rfl ?_
     refine TL.nil (TX.seqN (TC.seq ?_))
     refine TC.sw (wayBad x) 91 [(2, _), (3, _), (5, _), (56, _), (57, _), (58, _), (59, _), (60, _), (61, _)] ⟨rfl, rfl, rfl, rfl, rfl, rfl, rfl, rfl, rfl, trivial⟩ ?_ ?_
     ·
      refine TC.region (TL.run (pr_field rfl) rfl (TL.run (pr_own1 rfl (.here _) rfl) rfl (TL.run (pr_str rfl rfl rfl) rfl (TL.run (pr_pure rfl) rfl ?_))))
      refine TL.split (s := 65) rfl (fun g65 => ?_) (fun g65 => ?_)
      ·
       have q65 := of_decide_eq_true g65
       refine TL.gdY rfl rfl (pr_field rfl) rfl (TL.gdY rfl rfl (pr_own1 rfl (.here _) rfl) rfl (TL.gdY rfl rfl (pr_str rfl rfl rfl) rfl (TL.run (pr_pure rfl) rfl (TL.run (pr_pure rfl) rfl ?_))))
       refine TL.split (s := 70) rfl (fun g70 => ?_) (fun g70 => ?_)
       ·
        have q70 := of_ndec_true g70
        refine TL.gdN rfl rfl rfl rfl (TL.gdN rfl rfl rfl rfl (TL.gdN rfl rfl rfl rfl (TL.gdN rfl rfl rfl rfl (TL.gdU rfl rfl rfl (TL.gdU rfl rfl rfl (TL.gdU rfl rfl rfl (TL.gdU rfl rfl rfl ?_)))))))
        refine TL.gdN rfl rfl rfl rfl (TL.run (pr_pure rfl) rfl (TL.run (pr_pure rfl) rfl (TL.gdN rfl rfl rfl rfl (TL.gdN rfl rfl rfl rfl (TL.gdN rfl rfl rfl rfl (TL.gdN rfl rfl rfl rfl (TL.gdU rfl rfl rfl ?_)))))))
        refine TL.gdU rfl rfl rfl (TL.gdU rfl rfl rfl (TL.gdU rfl rfl rfl (TL.gdN rfl rfl rfl rfl (TL.run (pr_pure rfl) rfl (TL.nil (TX.sw rfl (by unfold wayBad; simp_all) ⟨rfl, rfl, rfl, rfl, rfl, rfl, rfl, rfl, rfl, trivial⟩))))))
       ·
        have q70 := of_ndec_false g70
        refine TL.gdY rfl rfl (pr_field rfl) rfl (TL.gdY rfl rfl (pr_own1 rfl (.here _) rfl) rfl (TL.gdY rfl rfl (pr_str rfl rfl rfl) rfl (TL.gdY rfl rfl (pr_pure rfl) rfl ?_)))
        refine TL.split (s := 74) rfl (fun g74 => ?_) (fun g74 => ?_)
        ·
         have q74 := of_ndec_true g74
         refine TL.gdY rfl rfl (pr_field rfl) rfl (TL.gdY rfl rfl (pr_own1 rfl (.here _) rfl) rfl ?_)
         refine TL.callSY rfl rfl (enters rfl rfl rfl rfl) (n_MayU_ok x.label) rfl ?_
         refine TL.gdY rfl rfl (pr_pure rfl) rfl (TL.gdY rfl rfl (pr_pure rfl) rfl (TL.run (pr_pure rfl) rfl (TL.run (pr_pure rfl) rfl ?_)))
         refine TL.split (s := 81) rfl (fun g81 => ?_) (fun g81 => ?_)
         ·
          refine TL.gdN rfl rfl rfl rfl (TL.gdN rfl rfl rfl rfl (TL.gdN rfl rfl rfl rfl (TL.gdN rfl rfl rfl rfl (TL.gdU rfl rfl rfl (TL.gdU rfl rfl rfl (TL.gdU rfl rfl rfl (TL.gdU rfl rfl rfl ?_)))))))
          refine TL.gdN rfl rfl rfl rfl (TL.run (pr_pure rfl) rfl (TL.nil (TX.sw rfl (by unfold wayBad; simp_all) ⟨rfl, rfl, rfl, rfl, rfl, rfl, rfl, rfl, rfl, trivial⟩)))
         ·
          refine TL.gdY rfl rfl (pr_field rfl) rfl (TL.gdY rfl rfl (pr_own1 rfl (.here _) rfl) rfl (TL.gdY rfl rfl (pr_str rfl rfl rfl) rfl (TL.gdY rfl rfl (pr_pure rfl) rfl ?_)))
          refine TL.split (s := 85) rfl (fun g85 => ?_) (fun g85 => ?_)
          ·
           have q85 := of_ndec_true g85
           refine TL.gdY rfl rfl (pr_field rfl) rfl (TL.gdY rfl rfl (pr_own1 rfl (.here _) rfl) rfl ?_)
           refine TL.callSY rfl rfl (enters rfl rfl rfl rfl) (n_MayU_ok x.name) rfl ?_
           refine TL.gdY rfl rfl (pr_pure rfl) rfl (TL.gdY rfl rfl (pr_pure rfl) rfl (TL.run (pr_pure rfl) rfl (TL.nil (TX.sw rfl (by unfold wayBad; simp_all) ⟨rfl, rfl, rfl, rfl, rfl, rfl, rfl, rfl, rfl, trivial⟩))))
          ·
           have q85 := of_ndec_false g85
           refine TL.gdN rfl rfl rfl rfl (TL.gdN rfl rfl rfl rfl (TL.gdN rfl rfl rfl rfl (TL.gdN rfl rfl rfl rfl (TL.gdY rfl rfl (pr_pure rfl) rfl (TL.run (pr_pure rfl) rfl (TL.nil (TX.sw rfl (by unfold wayBad; simp_all) ⟨rfl, rfl, rfl, rfl, rfl, rfl, rfl, rfl, rfl, trivial⟩)))))))
        ·
         have q74 := of_ndec_false g74
         refine TL.gdN rfl rfl rfl rfl (TL.gdN rfl rfl rfl rfl (TL.gdN rfl rfl rfl rfl (TL.gdN rfl rfl rfl rfl (TL.gdY rfl rfl (pr_pure rfl) rfl (TL.run (pr_pure rfl) rfl (TL.run (pr_pure rfl) rfl (TL.gdY rfl rfl (pr_field rfl) rfl ?_)))))))
         refine TL.gdY rfl rfl (pr_own1 rfl (.here _) rfl) rfl (TL.gdY rfl rfl (pr_str rfl rfl rfl) rfl (TL.gdY rfl rfl (pr_pure rfl) rfl ?_))
         refine TL.split (s := 85) rfl (fun g85 => ?_) (fun g85 => ?_)
         ·
          have q85 := of_ndec_true g85
          refine TL.gdY rfl rfl (pr_field rfl) rfl (TL.gdY rfl rfl (pr_own1 rfl (.here _) rfl) rfl ?_)
          refine TL.callSY rfl rfl (enters rfl rfl rfl rfl) (n_MayU_ok x.name) rfl ?_
          refine TL.gdY rfl rfl (pr_pure rfl) rfl (TL.gdY rfl rfl (pr_pure rfl) rfl (TL.run (pr_pure rfl) rfl (TL.nil (TX.sw rfl (by unfold wayBad; simp_all) ⟨rfl, rfl, rfl, rfl, rfl, rfl, rfl, rfl, rfl, trivial⟩))))
         ·
          have q85 := of_ndec_false g85
          refine TL.gdN rfl rfl rfl rfl (TL.gdN rfl rfl rfl rfl (TL.gdN rfl rfl rfl rfl (TL.gdN rfl rfl rfl rfl (TL.gdY rfl rfl (pr_pure rfl) rfl (TL.run (pr_pure rfl) rfl (TL.nil (TX.sw rfl (by unfold wayBad; simp_all) ⟨rfl, rfl, rfl, rfl, rfl, rfl, rfl, rfl, rfl, trivial⟩)))))))
      ·
       have q65 := of_decide_eq_false g65
       refine TL.gdN rfl rfl rfl rfl (TL.gdN rfl rfl rfl rfl (TL.gdN rfl rfl rfl rfl (TL.run (pr_pure rfl) rfl (TL.run (pr_pure rfl) rfl (TL.gdY rfl rfl (pr_field rfl) rfl (TL.gdY rfl rfl (pr_own1 rfl (.here _) rfl) rfl (TL.gdY rfl rfl (pr_str rfl rfl rfl) rfl ?_)))))))
       refine TL.gdY rfl rfl (pr_pure rfl) rfl ?_
       refine TL.split (s := 74) rfl (fun g74 => ?_) (fun g74 => ?_)
       ·
        have q74 := of_ndec_true g74
        refine TL.gdY rfl rfl (pr_field rfl) rfl (TL.gdY rfl rfl (pr_own1 rfl (.here _) rfl) rfl ?_)
        refine TL.callSY rfl rfl (enters rfl rfl rfl rfl) (n_MayU_ok x.label) rfl ?_
        refine TL.gdY rfl rfl (pr_pure rfl) rfl (TL.gdY rfl rfl (pr_pure rfl) rfl (TL.run (pr_pure rfl) rfl (TL.run (pr_pure rfl) rfl ?_)))
        refine TL.split (s := 81) rfl (fun g81 => ?_) (fun g81 => ?_)
        ·
         refine TL.gdN rfl rfl rfl rfl (TL.gdN rfl rfl rfl rfl (TL.gdN rfl rfl rfl rfl (TL.gdN rfl rfl rfl rfl (TL.gdU rfl rfl rfl (TL.gdU rfl rfl rfl (TL.gdU rfl rfl rfl (TL.gdU rfl rfl rfl ?_)))))))
         refine TL.gdN rfl rfl rfl rfl (TL.run (pr_pure rfl) rfl (TL.nil (TX.sw rfl (by unfold wayBad; simp_all) ⟨rfl, rfl, rfl, rfl, rfl, rfl, rfl, rfl, rfl, trivial⟩)))
        ·
         refine TL.gdY rfl rfl (pr_field rfl) rfl (TL.gdY rfl rfl (pr_own1 rfl (.here _) rfl) rfl (TL.gdY rfl rfl (pr_str rfl rfl rfl) rfl (TL.gdY rfl rfl (pr_pure rfl) rfl ?_)))
         refine TL.split (s := 85) rfl (fun g85 => ?_) (fun g85 => ?_)
         ·
          have q85 := of_ndec_true g85
          refine TL.gdY rfl rfl (pr_field rfl) rfl (TL.gdY rfl rfl (pr_own1 rfl (.here _) rfl) rfl ?_)
          refine TL.callSY rfl rfl (enters rfl rfl rfl rfl) (n_MayU_ok x.name) rfl ?_
          refine TL.gdY rfl rfl (pr_pure rfl) rfl (TL.gdY rfl rfl (pr_pure rfl) rfl (TL.run (pr_pure rfl) rfl (TL.nil (TX.sw rfl (by unfold wayBad; simp_all) ⟨rfl, rfl, rfl, rfl, rfl, rfl, rfl, rfl, rfl, trivial⟩))))
         ·
          have q85 := of_ndec_false g85
          refine TL.gdN rfl rfl rfl rfl (TL.gdN rfl rfl rfl rfl (TL.gdN rfl rfl rfl rfl (TL.gdN rfl rfl rfl rfl (TL.gdY rfl rfl (pr_pure rfl) rfl (TL.run (pr_pure rfl) rfl (TL.nil (TX.sw rfl (by unfold wayBad; simp_all) ⟨rfl, rfl, rfl, rfl, rfl, rfl, rfl, rfl, rfl, trivial⟩)))))))
       ·
        have q74 := of_ndec_false g74
        refine TL.gdN rfl rfl rfl rfl (TL.gdN rfl rfl rfl rfl (TL.gdN rfl rfl rfl rfl (TL.gdN rfl rfl rfl rfl (TL.gdY rfl rfl (pr_pure rfl) rfl (TL.run (pr_pure rfl) rfl (TL.run (pr_pure rfl) rfl (TL.gdY rfl rfl (pr_field rfl) rfl ?_)))))))
        refine TL.gdY rfl rfl (pr_own1 rfl (.here _) rfl) rfl (TL.gdY rfl rfl (pr_str rfl rfl rfl) rfl (TL.gdY rfl rfl (pr_pure rfl) rfl ?_))
        refine TL.split (s := 85) rfl (fun g85 => ?_) (fun g85 => ?_)
        ·
         have q85 := of_ndec_true g85
         refine TL.gdY rfl rfl (pr_field rfl) rfl (TL.gdY rfl rfl (pr_own1 rfl (.here _) rfl) rfl ?_)
         refine TL.callSY rfl rfl (enters rfl rfl rfl rfl) (n_MayU_ok x.name) rfl ?_
         refine TL.gdY rfl rfl (pr_pure rfl) rfl (TL.gdY rfl rfl (pr_pure rfl) rfl (TL.run (pr_pure rfl) rfl (TL.nil (TX.sw rfl (by unfold wayBad; simp_all) ⟨rfl, rfl, rfl, rfl, rfl, rfl, rfl, rfl, rfl, trivial⟩))))
        ·
         have q85 := of_ndec_false g85
         refine TL.gdN rfl rfl rfl rfl (TL.gdN rfl rfl rfl rfl (TL.gdN rfl rfl rfl rfl (TL.gdN rfl rfl rfl rfl (TL.gdY rfl rfl (pr_pure rfl) rfl (TL.run (pr_pure rfl) rfl (TL.nil (TX.sw rfl (by unfold wayBad; simp_all) ⟨rfl, rfl, rfl, rfl, rfl, rfl, rfl, rfl, rfl, trivial⟩)))))))
     refine TC.cond rfl (fun c91 => ?_) (fun c91 => ?_)
     ·
      refine TC.seq (TC.region (TL.run (pr_pure rfl) rfl (TL.nil (TX.seqN (TC.ret (TX.thenR (TX.blkR ?_)))))))
      refine TX.thenR (TX.thenR (TX.blkR (TX.thenR (TX.finS (.inr rfl) (results1 rfl (RVal.tmp rfl)) (congrArg Value.bool (by first | exact ways_3 c8 h0 h1 (by simp_all [bare2]) | exact ways_3n c8 g13 | exact (ways_n c8 (by omega)).symm | exact (ways_bad c8 k0 hx c91 hal).symm | exact (ways_end c8 hn7 k0 c59 hal).symm))))))
     ·
      refine TC.skip (TX.seqN (TC.region (TL.run (pr_pure rfl) rfl (TL.run (pr_field rfl) rfl (TL.run (pr_own1 rfl (.here _) rfl) rfl ?_)))))
      refine TL.bslice rfl rfl rfl rfl (fun b95 => ?_)
      refine TL.append (enc := Str.cells) rfl rfl rfl hO (Src.own [x.label] (.here _) rfl rfl) (by simp; omega) rfl (.skip _ (.skip _ (.skip _ .all))) rfl (fun a96 c96 ob96 hO96 => ?_)
      refine TL.run (pr_pure rfl) rfl (TL.nil (TX.blkN (TX.seqN (TC.region (TL.run ((by first | exact pr_add rfl rfl (by omega) (by omega) | exact pr_pure rfl)) rfl (TL.run (pr_pure rfl) rfl (TL.nil ?_)))))))
      exact TX.round4 (k + 1) _ ob96 H ⟨⟨by omega, by omega⟩, by rw [map_take_snoc k0 hx]; exact hO96, all_next k0 hx (by simpa using c91) hal⟩ ⟨rfl, rfl, rfl, rfl, rfl, trivial⟩ (fun w hw => hw.drop.drop) (by omega)
    ·
     refine TC.exit (TX.thenE (TX.thenE (TX.blkHit (TX.seqN (TC.seq (TC.region (TL.run (pr_pure rfl) rfl ?_)))))))
     refine TL.pubO hO (.skip _ .all) (by simp) (fun HJ leJ hJ => ?_)
     have hO2 := hJ.cast (show _ = s.ways.map (·.label) by rw [take_all c59 k0])
     refine TL.callS (enters rfl rfl rfl rfl) (n_Once_ok hO2) rfl ?_
     refine TL.run (pr_pure rfl) rfl (TL.nil (TX.seqN (TC.ret (TX.finS (.inr rfl) (results1 rfl (RVal.tmp rfl)) (congrArg Value.bool (by first | exact ways_3 c8 h0 h1 (by simp_all [bare2]) | exact ways_3n c8 g13 | exact (ways_n c8 (by omega)).symm | exact (ways_bad c8 k0 hx c91 hal).symm | exact (ways_end c8 hn7 k0 c59 hal).symm))))))

set_option maxRecDepth 100000 in
set_option maxHeartbeats 4000000 in
theorem may_ok {H : Hp} (s : SStep) (hs : StepOk H s) :
  FnS Try.prog 28 [.agg s.cells.toArray] H (.bool (mayS s)) := by
 have hc := hs.c
 have hmc := hc.max
 have hB := bare_rd hs
 refine FnS.enter Try.func28 Try.ntmps28 rfl rfl (fun w0 => ?_)
 refine TC.seq (TC.region ?_)
 refine TL.box rfl rfl (fun b1 => ?_)
 refine TL.run (pr_pure rfl) rfl (TL.nil (TX.seqN (TC.seq (TC.seq (TC.region (TL.run (pr_field rfl) rfl (TL.run (pr_own1 rfl (.here _) rfl) rfl ?_)))))))
 refine TL.run (pr_pure rfl) rfl (TL.run (pr_pure rfl) rfl ?_)
 refine TL.split (s := 9) rfl (fun g9 => ?_) (fun g9 => ?_)
 ·
  have q9 := of_decide_eq_true g9
  refine TL.gdN rfl rfl rfl rfl (TL.gdN rfl rfl rfl rfl (TL.gdN rfl rfl rfl rfl (TL.run (pr_pure rfl) rfl (TL.nil (TX.seqN (TC.condT rfl (TC.seq ?_)))))))
  refine TC.region (TL.run (pr_pure rfl) rfl (TL.nil (TX.seqN (TC.ret (TX.thenR (TX.finS (.inr rfl) (results1 rfl (RVal.tmp rfl)) (congrArg Value.bool (by unfold mayS; first | (rw [hall]; clear hall; simp_all; done) | (simp_all <;> omega)))))))))
 ·
  have q9 := of_decide_eq_false g9
  refine TL.gdY rfl rfl (pr_field rfl) rfl (TL.gdY rfl rfl (pr_own1 rfl (.here _) rfl) rfl (TL.gdY rfl rfl (pr_pure rfl) rfl (TL.run (pr_pure rfl) rfl (TL.nil (TX.seqN ?_)))))
  refine TC.condD rfl (fun c13 => ?_) (fun c13 => ?_)
  ·
   refine TC.seq (TC.region (TL.run (pr_pure rfl) rfl (TL.nil (TX.seqN (TC.ret (TX.thenR (TX.finS (.inr rfl) (results1 rfl (RVal.tmp rfl)) (congrArg Value.bool (by unfold mayS; first | (rw [hall]; clear hall; simp_all; done) | (simp_all <;> omega))))))))))
  ·
   refine TC.skip (TX.seqN (TC.seq (TC.region (TL.run (pr_ownA rfl (.here _) rfl) rfl ?_))))
   refine TL.callS (enters rfl rfl rfl rfl) (bare_ok s) rfl ?_
   refine TL.alloc rfl (fun b3 => ?_)
   refine TL.storeA rfl rfl rfl rfl rfl (.here _) rfl rfl ?_
   refine TL.nil (TX.seqN (TC.seq ?_))
   refine TC.sw (badX (bareS s)) 61 [(1, _), (2, _)] ⟨rfl, rfl, trivial⟩ ?_ ?_
   ·
    refine TC.region (TL.run (pr_field rfl) rfl (TL.run (pr_own1 rfl (.here _) rfl) rfl (TL.run (pr_str rfl rfl rfl) rfl (TL.run (pr_pure rfl) rfl ?_))))
    refine TL.split (s := 19) rfl (fun g19 => ?_) (fun g19 => ?_)
    ·
     have q19 := of_ndec_true g19
     refine TL.gdN rfl rfl rfl rfl (TL.gdN rfl rfl rfl rfl (TL.gdN rfl rfl rfl rfl (TL.run (pr_pure rfl) rfl (TL.run (pr_pure rfl) rfl (TL.gdN rfl rfl rfl rfl (TL.gdN rfl rfl rfl rfl (TL.gdN rfl rfl rfl rfl ?_)))))))
     refine TL.run (pr_pure rfl) rfl (TL.run (pr_pure rfl) rfl (TL.gdN rfl rfl rfl rfl (TL.gdN rfl rfl rfl rfl (TL.gdN rfl rfl rfl rfl (TL.run (pr_pure rfl) rfl (TL.run (pr_pure rfl) rfl (TL.gdN rfl rfl rfl rfl ?_)))))))
     refine TL.gdN rfl rfl rfl rfl (TL.gdN rfl rfl rfl rfl (TL.run (pr_pure rfl) rfl (TL.run (pr_pure rfl) rfl (TL.gdN rfl rfl rfl rfl (TL.gdN rfl rfl rfl rfl (TL.gdN rfl rfl rfl rfl (TL.gdN rfl rfl rfl rfl ?_)))))))
     refine TL.run (pr_pure rfl) rfl (TL.run (pr_pure rfl) rfl (TL.gdN rfl rfl rfl rfl (TL.gdN rfl rfl rfl rfl (TL.gdN rfl rfl rfl rfl (TL.gdN rfl rfl rfl rfl (TL.run (pr_pure rfl) rfl (TL.run (pr_pure rfl) rfl ?_)))))))
     refine TL.gdN rfl rfl rfl rfl (TL.gdN rfl rfl rfl rfl (TL.gdN rfl rfl rfl rfl (TL.gdN rfl rfl rfl rfl (TL.run (pr_pure rfl) rfl (TL.run (pr_pure rfl) rfl (TL.gdN rfl rfl rfl rfl (TL.gdN rfl rfl rfl rfl ?_)))))))
     refine TL.gdN rfl rfl rfl rfl (TL.run (pr_pure rfl) rfl (TL.nil (TX.sw rfl (by unfold badX; simp_all) ⟨rfl, rfl, trivial⟩)))
    ·
     have q19 := of_ndec_false g19
     refine TL.gdY rfl rfl (pr_field rfl) rfl (TL.gdY rfl rfl (pr_own1 rfl (.here _) rfl) rfl (TL.gdY rfl rfl (pr_str rfl rfl rfl) rfl (TL.run (pr_pure rfl) rfl (TL.run (pr_pure rfl) rfl ?_))))
     refine TL.split (s := 24) rfl (fun g24 => ?_) (fun g24 => ?_)
     ·
      have q24 := of_ndec_true g24
      refine TL.gdN rfl rfl rfl rfl (TL.gdN rfl rfl rfl rfl (TL.gdN rfl rfl rfl rfl (TL.run (pr_pure rfl) rfl (TL.run (pr_pure rfl) rfl (TL.gdN rfl rfl rfl rfl (TL.gdN rfl rfl rfl rfl (TL.gdN rfl rfl rfl rfl ?_)))))))
      refine TL.run (pr_pure rfl) rfl (TL.run (pr_pure rfl) rfl (TL.gdN rfl rfl rfl rfl (TL.gdN rfl rfl rfl rfl (TL.gdN rfl rfl rfl rfl (TL.run (pr_pure rfl) rfl (TL.run (pr_pure rfl) rfl (TL.gdN rfl rfl rfl rfl ?_)))))))
      refine TL.gdN rfl rfl rfl rfl (TL.gdN rfl rfl rfl rfl (TL.gdN rfl rfl rfl rfl (TL.run (pr_pure rfl) rfl (TL.run (pr_pure rfl) rfl (TL.gdN rfl rfl rfl rfl (TL.gdN rfl rfl rfl rfl (TL.gdN rfl rfl rfl rfl ?_)))))))
      refine TL.gdN rfl rfl rfl rfl (TL.run (pr_pure rfl) rfl (TL.run (pr_pure rfl) rfl (TL.gdN rfl rfl rfl rfl (TL.gdN rfl rfl rfl rfl (TL.gdN rfl rfl rfl rfl (TL.gdN rfl rfl rfl rfl (TL.run (pr_pure rfl) rfl ?_)))))))
      refine TL.run (pr_pure rfl) rfl (TL.gdN rfl rfl rfl rfl (TL.gdN rfl rfl rfl rfl (TL.gdN rfl rfl rfl rfl (TL.run (pr_pure rfl) rfl (TL.nil (TX.sw rfl (by unfold badX; simp_all) ⟨rfl, rfl, trivial⟩))))))
     ·
      have q24 := of_ndec_false g24
      refine TL.gdY rfl rfl (pr_field rfl) rfl (TL.gdY rfl rfl (pr_own1 rfl (.here _) rfl) rfl (TL.gdY rfl rfl (pr_str rfl rfl rfl) rfl (TL.run (pr_pure rfl) rfl (TL.run (pr_pure rfl) rfl ?_))))
      refine TL.split (s := 29) rfl (fun g29 => ?_) (fun g29 => ?_)
      ·
       have q29 := of_ndec_true g29
       refine TL.gdN rfl rfl rfl rfl (TL.gdN rfl rfl rfl rfl (TL.gdN rfl rfl rfl rfl (TL.run (pr_pure rfl) rfl (TL.run (pr_pure rfl) rfl (TL.gdN rfl rfl rfl rfl (TL.gdN rfl rfl rfl rfl (TL.gdN rfl rfl rfl rfl ?_)))))))
       refine TL.run (pr_pure rfl) rfl (TL.run (pr_pure rfl) rfl (TL.gdN rfl rfl rfl rfl (TL.gdN rfl rfl rfl rfl (TL.gdN rfl rfl rfl rfl (TL.gdN rfl rfl rfl rfl (TL.run (pr_pure rfl) rfl (TL.run (pr_pure rfl) rfl ?_)))))))
       refine TL.gdN rfl rfl rfl rfl (TL.gdN rfl rfl rfl rfl (TL.gdN rfl rfl rfl rfl (TL.gdN rfl rfl rfl rfl (TL.run (pr_pure rfl) rfl (TL.run (pr_pure rfl) rfl (TL.gdN rfl rfl rfl rfl (TL.gdN rfl rfl rfl rfl ?_)))))))
       refine TL.gdN rfl rfl rfl rfl (TL.gdN rfl rfl rfl rfl (TL.run (pr_pure rfl) rfl (TL.run (pr_pure rfl) rfl (TL.gdN rfl rfl rfl rfl (TL.gdN rfl rfl rfl rfl (TL.gdN rfl rfl rfl rfl (TL.run (pr_pure rfl) rfl ?_)))))))
       refine TL.nil (TX.sw rfl (by unfold badX; simp_all) ⟨rfl, rfl, trivial⟩)
      ·
       have q29 := of_ndec_false g29
       refine TL.gdY rfl rfl (pr_field rfl) rfl (TL.gdY rfl rfl (pr_own1 rfl (.here _) rfl) rfl (TL.gdY rfl rfl (pr_str rfl rfl rfl) rfl (TL.run (pr_pure rfl) rfl (TL.run (pr_pure rfl) rfl ?_))))
       refine TL.split (s := 34) rfl (fun g34 => ?_) (fun g34 => ?_)
       ·
        have q34 := of_ndec_true g34
        refine TL.gdN rfl rfl rfl rfl (TL.gdN rfl rfl rfl rfl (TL.gdN rfl rfl rfl rfl (TL.run (pr_pure rfl) rfl (TL.run (pr_pure rfl) rfl (TL.gdN rfl rfl rfl rfl (TL.gdN rfl rfl rfl rfl (TL.gdN rfl rfl rfl rfl ?_)))))))
        refine TL.gdN rfl rfl rfl rfl (TL.run (pr_pure rfl) rfl (TL.run (pr_pure rfl) rfl (TL.gdN rfl rfl rfl rfl (TL.gdN rfl rfl rfl rfl (TL.gdN rfl rfl rfl rfl (TL.gdN rfl rfl rfl rfl (TL.run (pr_pure rfl) rfl ?_)))))))
        refine TL.run (pr_pure rfl) rfl (TL.gdN rfl rfl rfl rfl (TL.gdN rfl rfl rfl rfl (TL.gdN rfl rfl rfl rfl (TL.gdN rfl rfl rfl rfl (TL.run (pr_pure rfl) rfl (TL.run (pr_pure rfl) rfl (TL.gdN rfl rfl rfl rfl ?_)))))))
        refine TL.gdN rfl rfl rfl rfl (TL.gdN rfl rfl rfl rfl (TL.run (pr_pure rfl) rfl (TL.nil (TX.sw rfl (by unfold badX; simp_all) ⟨rfl, rfl, trivial⟩))))
       ·
        have q34 := of_ndec_false g34
        refine TL.gdY rfl rfl (pr_field rfl) rfl (TL.gdY rfl rfl (pr_own1 rfl (.here _) rfl) rfl (TL.gdY rfl rfl (pr_pure rfl) rfl (TL.run (pr_pure rfl) rfl (TL.run (pr_pure rfl) rfl ?_))))
        refine TL.split (s := 39) rfl (fun g39 => ?_) (fun g39 => ?_)
        ·
         have q39 := of_ndec_true g39
         refine TL.gdN rfl rfl rfl rfl (TL.gdN rfl rfl rfl rfl (TL.gdN rfl rfl rfl rfl (TL.gdN rfl rfl rfl rfl (TL.run (pr_pure rfl) rfl (TL.run (pr_pure rfl) rfl (TL.gdN rfl rfl rfl rfl (TL.gdN rfl rfl rfl rfl ?_)))))))
         refine TL.gdN rfl rfl rfl rfl (TL.gdN rfl rfl rfl rfl (TL.run (pr_pure rfl) rfl (TL.run (pr_pure rfl) rfl (TL.gdN rfl rfl rfl rfl (TL.gdN rfl rfl rfl rfl (TL.gdN rfl rfl rfl rfl (TL.gdN rfl rfl rfl rfl ?_)))))))
         refine TL.run (pr_pure rfl) rfl (TL.run (pr_pure rfl) rfl (TL.gdN rfl rfl rfl rfl (TL.gdN rfl rfl rfl rfl (TL.gdN rfl rfl rfl rfl (TL.run (pr_pure rfl) rfl (TL.nil (TX.sw rfl (by unfold badX; simp_all) ⟨rfl, rfl, trivial⟩)))))))
        ·
         have q39 := of_ndec_false g39
         refine TL.gdY rfl rfl (pr_field rfl) rfl (TL.gdY rfl rfl (pr_own1 rfl (.here _) rfl) rfl (TL.gdY rfl rfl (pr_lenSl rfl rfl hB.a) rfl (TL.gdY rfl rfl (pr_pure rfl) rfl (TL.run (pr_pure rfl) rfl (TL.run (pr_pure rfl) rfl ?_)))))
         refine TL.split (s := 45) rfl (fun g45 => ?_) (fun g45 => ?_)
         ·
          have q45 := of_decide_eq_true g45
          refine TL.gdN rfl rfl rfl rfl (TL.gdN rfl rfl rfl rfl (TL.gdN rfl rfl rfl rfl (TL.gdN rfl rfl rfl rfl (TL.run (pr_pure rfl) rfl (TL.run (pr_pure rfl) rfl (TL.gdN rfl rfl rfl rfl (TL.gdN rfl rfl rfl rfl ?_)))))))
          refine TL.gdN rfl rfl rfl rfl (TL.gdN rfl rfl rfl rfl (TL.run (pr_pure rfl) rfl (TL.run (pr_pure rfl) rfl (TL.gdN rfl rfl rfl rfl (TL.gdN rfl rfl rfl rfl (TL.gdN rfl rfl rfl rfl (TL.run (pr_pure rfl) rfl ?_)))))))
          refine TL.nil (TX.sw rfl (by unfold badX; simp_all) ⟨rfl, rfl, trivial⟩)
         ·
          have q45 := of_decide_eq_false g45
          refine TL.gdY rfl rfl (pr_field rfl) rfl (TL.gdY rfl rfl (pr_own1 rfl (.here _) rfl) rfl (TL.gdY rfl rfl (pr_lenSl rfl rfl hB.c) rfl (TL.gdY rfl rfl (pr_pure rfl) rfl (TL.run (pr_pure rfl) rfl (TL.run (pr_pure rfl) rfl ?_)))))
          refine TL.split (s := 51) rfl (fun g51 => ?_) (fun g51 => ?_)
          ·
           have q51 := of_decide_eq_true g51
           refine TL.gdN rfl rfl rfl rfl (TL.gdN rfl rfl rfl rfl (TL.gdN rfl rfl rfl rfl (TL.gdN rfl rfl rfl rfl (TL.run (pr_pure rfl) rfl (TL.run (pr_pure rfl) rfl (TL.gdN rfl rfl rfl rfl (TL.gdN rfl rfl rfl rfl ?_)))))))
           refine TL.gdN rfl rfl rfl rfl (TL.run (pr_pure rfl) rfl (TL.nil (TX.sw rfl (by unfold badX; simp_all) ⟨rfl, rfl, trivial⟩)))
          ·
           have q51 := of_decide_eq_false g51
           refine TL.gdY rfl rfl (pr_field rfl) rfl (TL.gdY rfl rfl (pr_own1 rfl (.here _) rfl) rfl (TL.gdY rfl rfl (pr_lenSl rfl rfl hB.w) rfl (TL.gdY rfl rfl (pr_pure rfl) rfl (TL.run (pr_pure rfl) rfl (TL.run (pr_pure rfl) rfl ?_)))))
           refine TL.split (s := 57) rfl (fun g57 => ?_) (fun g57 => ?_)
           ·
            have q57 := of_decide_eq_true g57
            refine TL.gdN rfl rfl rfl rfl (TL.gdN rfl rfl rfl rfl (TL.gdN rfl rfl rfl rfl (TL.run (pr_pure rfl) rfl (TL.nil (TX.sw rfl (by unfold badX; simp_all) ⟨rfl, rfl, trivial⟩)))))
           ·
            have q57 := of_decide_eq_false g57
            refine TL.gdY rfl rfl (pr_field rfl) rfl (TL.gdY rfl rfl (pr_own1 rfl (.here _) rfl) rfl (TL.gdY rfl rfl (pr_pure rfl) rfl (TL.run (pr_pure rfl) rfl (TL.nil (TX.sw rfl (by unfold badX; simp_all) ⟨rfl, rfl, trivial⟩)))))
   refine TC.cond rfl (fun c61 => ?_) (fun c61 => ?_)
   ·
    refine TC.seq (TC.region (TL.run (pr_pure rfl) rfl (TL.nil (TX.seqN (TC.ret (TX.thenR (TX.finS (.inr rfl) (results1 rfl (RVal.tmp rfl)) (congrArg Value.bool (by unfold mayS; first | (rw [hall]; clear hall; simp_all; done) | (simp_all <;> omega))))))))))
   ·
    refine TC.skip (TX.seqN (TC.seq (TC.seq (TC.region (TL.run (pr_field rfl) rfl (TL.run (pr_own1 rfl (.there _ (.here _)) rfl) rfl (TL.nil ?_)))))))
    refine TX.seqN (TC.block ?_)
    refine TC.sw (decide (s.kind = 1) || decide (s.kind = 9)) 64 [(1, _), (2, _), (63, _)] ⟨rfl, rfl, rfl, trivial⟩ ?_ ?_
    ·
     refine TC.swG (pr_pure rfl) rfl rfl ⟨rfl, rfl, rfl, trivial⟩ ?_
     exact TC.swE (pr_pure rfl) rfl rfl ⟨rfl, rfl, rfl, trivial⟩
    refine TC.cond rfl (fun c64 => ?_) (fun c64 => ?_)
    ·
     refine TC.seq (TC.region (TL.run (pr_field rfl) rfl (TL.run (pr_own1 rfl (.there _ (.here _)) rfl) rfl ?_)))
     refine TL.callS (enters rfl rfl rfl rfl) (n_MayU_ok s.name) rfl ?_
     refine TL.run (pr_pure rfl) rfl (TL.nil (TX.seqN (TC.ret (TX.blkR (TX.thenR (TX.finS (.inr rfl) (results1 rfl (RVal.tmp rfl)) (congrArg Value.bool (by unfold mayS; first | (rw [hall]; clear hall; simp_all; done) | (simp_all <;> omega)))))))))
    ·
     refine TC.seq (TC.region (TL.run (pr_pure rfl) rfl (TL.run (pr_pure rfl) rfl (TL.nil (TX.seqN ?_)))))
     refine TC.condD rfl (fun c70 => ?_) (fun c70 => ?_)
     ·
      refine TC.seq (TC.region (TL.run (pr_ownA rfl (.there _ (.here _)) rfl) rfl ?_))
      refine TL.callS (enters rfl rfl rfl rfl) (ways_ok s hs) rfl ?_
      refine TL.run (pr_pure rfl) rfl (TL.nil (TX.seqN (TC.ret (TX.blkR (TX.thenR (TX.finS (.inr rfl) (results1 rfl (RVal.tmp rfl)) (congrArg Value.bool (by unfold mayS; first | (rw [hall]; clear hall; simp_all; done) | (simp_all <;> omega)))))))))
     ·
      refine TC.seq (TC.region (TL.run (pr_pure rfl) rfl (TL.run (pr_pure rfl) rfl (TL.nil (TX.seqN ?_)))))
      refine TC.condD rfl (fun c74 => ?_) (fun c74 => ?_)
      ·
       refine TC.seq (TC.region (TL.run (pr_field rfl) rfl (TL.run (pr_own1 rfl (.there _ (.here _)) rfl) rfl ?_)))
       refine TL.callS (enters rfl rfl rfl rfl) (n_MayU_ok s.name) rfl ?_
       refine TL.run (pr_pure rfl) rfl ?_
       refine TL.split (s := 79) rfl (fun g79 => ?_) (fun g79 => ?_)
       ·
        refine TL.gdY rfl rfl (pr_field rfl) rfl (TL.gdY rfl rfl (pr_own1 rfl (.there _ (.here _)) rfl) rfl ?_)
        refine TL.callSY rfl rfl (enters rfl rfl rfl rfl) (n_MayU_ok s.peer) rfl ?_
        refine TL.run (pr_pure rfl) rfl (TL.run (pr_pure rfl) rfl ?_)
        refine TL.split (s := 84) rfl (fun g84 => ?_) (fun g84 => ?_)
        ·
         refine TL.gdY rfl rfl (pr_field rfl) rfl (TL.gdY rfl rfl (pr_own1 rfl (.there _ (.here _)) rfl) rfl ?_)
         refine TL.callSY rfl rfl (enters rfl rfl rfl rfl) (n_MayU_ok s.label) rfl ?_
         refine TL.run (pr_pure rfl) rfl (TL.run (pr_pure rfl) rfl (TL.nil (TX.seqN (TC.ret (TX.blkR (TX.thenR (TX.finS (.inr rfl) (results1 rfl (RVal.tmp rfl)) (congrArg Value.bool (by unfold mayS; first | (rw [hall]; clear hall; simp_all; done) | (simp_all <;> omega))))))))))
        ·
         refine TL.gdN rfl rfl rfl rfl (TL.gdN rfl rfl rfl rfl (TL.gdN rfl rfl rfl rfl (TL.run (pr_pure rfl) rfl (TL.run (pr_pure rfl) rfl (TL.nil (TX.seqN (TC.ret ?_)))))))
         refine TX.blkR (TX.thenR (TX.finS (.inr rfl) (results1 rfl (RVal.tmp rfl)) (congrArg Value.bool (by unfold mayS; first | (rw [hall]; clear hall; simp_all; done) | (simp_all <;> omega)))))
       ·
        refine TL.gdN rfl rfl rfl rfl (TL.gdN rfl rfl rfl rfl (TL.gdN rfl rfl rfl rfl (TL.run (pr_pure rfl) rfl (TL.run (pr_pure rfl) rfl (TL.gdN rfl rfl rfl rfl (TL.gdN rfl rfl rfl rfl (TL.gdN rfl rfl rfl rfl ?_)))))))
        refine TL.run (pr_pure rfl) rfl (TL.run (pr_pure rfl) rfl (TL.nil (TX.seqN (TC.ret (TX.blkR (TX.thenR (TX.finS (.inr rfl) (results1 rfl (RVal.tmp rfl)) (congrArg Value.bool (by unfold mayS; first | (rw [hall]; clear hall; simp_all; done) | (simp_all <;> omega))))))))))
      ·
       refine TC.seq (TC.region (TL.run (pr_pure rfl) rfl (TL.run (pr_pure rfl) rfl (TL.nil (TX.seqN ?_)))))
       refine TC.condD rfl (fun c89 => ?_) (fun c89 => ?_)
       ·
        refine TC.seq (TC.region (TL.run (pr_field rfl) rfl (TL.run (pr_own1 rfl (.there _ (.here _)) rfl) rfl ?_)))
        refine TL.callS (enters rfl rfl rfl rfl) (n_MayU_ok s.name) rfl ?_
        refine TL.run (pr_pure rfl) rfl ?_
        refine TL.split (s := 94) rfl (fun g94 => ?_) (fun g94 => ?_)
        ·
         refine TL.gdY rfl rfl (pr_field rfl) rfl (TL.gdY rfl rfl (pr_own1 rfl (.there _ (.here _)) rfl) rfl ?_)
         refine TL.callSY rfl rfl (enters rfl rfl rfl rfl) (n_MayU_ok s.peer) rfl ?_
         refine TL.run (pr_pure rfl) rfl (TL.run (pr_pure rfl) rfl ?_)
         refine TL.split (s := 99) rfl (fun g99 => ?_) (fun g99 => ?_)
         ·
          refine TL.gdY rfl rfl (pr_ownA rfl (.there _ (.here _)) rfl) rfl ?_
          refine TL.callSY rfl rfl (enters rfl rfl rfl rfl) (ways_ok s hs) rfl ?_
          refine TL.run (pr_pure rfl) rfl (TL.run (pr_pure rfl) rfl (TL.nil (TX.seqN (TC.ret (TX.blkR (TX.thenR (TX.finS (.inr rfl) (results1 rfl (RVal.tmp rfl)) (congrArg Value.bool (by unfold mayS; first | (rw [hall]; clear hall; simp_all; done) | (simp_all <;> omega))))))))))
         ·
          refine TL.gdN rfl rfl rfl rfl (TL.gdN rfl rfl rfl rfl (TL.run (pr_pure rfl) rfl (TL.run (pr_pure rfl) rfl (TL.nil (TX.seqN (TC.ret (TX.blkR ?_)))))))
          refine TX.thenR (TX.finS (.inr rfl) (results1 rfl (RVal.tmp rfl)) (congrArg Value.bool (by unfold mayS; first | (rw [hall]; clear hall; simp_all; done) | (simp_all <;> omega))))
        ·
         refine TL.gdN rfl rfl rfl rfl (TL.gdN rfl rfl rfl rfl (TL.gdN rfl rfl rfl rfl (TL.run (pr_pure rfl) rfl (TL.run (pr_pure rfl) rfl (TL.gdN rfl rfl rfl rfl (TL.gdN rfl rfl rfl rfl (TL.run (pr_pure rfl) rfl ?_)))))))
         refine TL.run (pr_pure rfl) rfl (TL.nil (TX.seqN (TC.ret (TX.blkR (TX.thenR (TX.finS (.inr rfl) (results1 rfl (RVal.tmp rfl)) (congrArg Value.bool (by unfold mayS; first | (rw [hall]; clear hall; simp_all; done) | (simp_all <;> omega)))))))))
       ·
        refine TC.sw (decide (s.kind = 6) || decide (s.kind = 7)) 103 [(1, _), (2, _), (63, _)] ⟨rfl, rfl, rfl, trivial⟩ ?_ ?_
        ·
         refine TC.swG (pr_pure rfl) rfl rfl ⟨rfl, rfl, rfl, trivial⟩ ?_
         exact TC.swE (pr_pure rfl) rfl rfl ⟨rfl, rfl, rfl, trivial⟩
        refine TC.cond rfl (fun c103 => ?_) (fun c103 => ?_)
        ·
         refine TC.seq (TC.region (TL.run (pr_field rfl) rfl (TL.run (pr_own1 rfl (.there _ (.here _)) rfl) rfl ?_)))
         refine TL.callS (enters rfl rfl rfl rfl) (n_MayU_ok s.proc) rfl ?_
         refine TL.run (pr_pure rfl) rfl ?_
         refine TL.split (s := 109) rfl (fun g109 => ?_) (fun g109 => ?_)
         ·
          refine TL.gdY rfl rfl (pr_field rfl) rfl (TL.gdY rfl rfl (pr_own1 rfl (.there _ (.here _)) rfl) rfl (TL.gdY rfl rfl (pr_lenSl rfl rfl hs.a) rfl (TL.gdY rfl rfl (pr_pure rfl) rfl (TL.run (pr_pure rfl) rfl (TL.run (pr_pure rfl) rfl (TL.nil (TX.seqN ?_)))))))
          refine TC.ret (TX.blkR (TX.thenR (TX.finS (.inr rfl) (results1 rfl (RVal.tmp rfl)) (congrArg Value.bool (by unfold mayS; first | (rw [hall]; clear hall; simp_all; done) | (simp_all <;> omega))))))
         ·
          refine TL.gdN rfl rfl rfl rfl (TL.gdN rfl rfl rfl rfl (TL.gdN rfl rfl rfl rfl (TL.gdN rfl rfl rfl rfl (TL.run (pr_pure rfl) rfl (TL.run (pr_pure rfl) rfl (TL.nil (TX.seqN ?_)))))))
          refine TC.ret (TX.blkR (TX.thenR (TX.finS (.inr rfl) (results1 rfl (RVal.tmp rfl)) (congrArg Value.bool (by unfold mayS; first | (rw [hall]; clear hall; simp_all; done) | (simp_all <;> omega))))))
        ·
         refine TC.seq (TC.region (TL.run (pr_pure rfl) rfl (TL.run (pr_pure rfl) rfl (TL.nil (TX.seqN ?_)))))
         refine TC.condD rfl (fun c115 => ?_) (fun c115 => ?_)
         ·
          refine TC.seq (TC.seq (TC.region (TL.run (pr_field rfl) rfl (TL.run (pr_own1 rfl (.there _ (.here _)) rfl) rfl ?_))))
          refine TL.callS (enters rfl rfl rfl rfl) (n_MayU_ok s.name) rfl ?_
          refine TL.run (pr_pure rfl) rfl (TL.run (pr_pure rfl) rfl ?_)
          refine TL.split (s := 121) rfl (fun g121 => ?_) (fun g121 => ?_)
          ·
           refine TL.gdN rfl rfl rfl rfl (TL.gdN rfl rfl rfl rfl (TL.gdN rfl rfl rfl rfl (TL.gdN rfl rfl rfl rfl (TL.run (pr_pure rfl) rfl (TL.run (pr_pure rfl) rfl (TL.gdN rfl rfl rfl rfl (TL.gdN rfl rfl rfl rfl ?_)))))))
           refine TL.gdN rfl rfl rfl rfl (TL.gdN rfl rfl rfl rfl (TL.run (pr_pure rfl) rfl (TL.run (pr_pure rfl) rfl (TL.gdN rfl rfl rfl rfl (TL.gdN rfl rfl rfl rfl (TL.gdN rfl rfl rfl rfl (TL.gdN rfl rfl rfl rfl ?_)))))))
           refine TL.run (pr_pure rfl) rfl (TL.run (pr_pure rfl) rfl (TL.gdN rfl rfl rfl rfl (TL.gdN rfl rfl rfl rfl (TL.gdN rfl rfl rfl rfl (TL.gdN rfl rfl rfl rfl (TL.run (pr_pure rfl) rfl (TL.nil ?_)))))))
           refine TX.seqN (TC.condT rfl (TC.seq (TC.region (TL.run (pr_pure rfl) rfl (TL.nil (TX.seqN (TC.ret ?_)))))))
           refine TX.thenR (TX.blkR (TX.thenR (TX.finS (.inr rfl) (results1 rfl (RVal.tmp rfl)) (congrArg Value.bool (by unfold mayS; first | (rw [hall]; clear hall; simp_all; done) | (simp_all <;> omega))))))
          ·
           refine TL.gdY rfl rfl (pr_field rfl) rfl (TL.gdY rfl rfl (pr_own1 rfl (.there _ (.here _)) rfl) rfl ?_)
           refine TL.callSY rfl rfl (enters rfl rfl rfl rfl) (n_MayU_ok s.label) rfl ?_
           refine TL.gdY rfl rfl (pr_pure rfl) rfl (TL.run (pr_pure rfl) rfl (TL.run (pr_pure rfl) rfl ?_))
           refine TL.split (s := 127) rfl (fun g127 => ?_) (fun g127 => ?_)
           ·
            refine TL.gdN rfl rfl rfl rfl (TL.gdN rfl rfl rfl rfl (TL.gdN rfl rfl rfl rfl (TL.gdN rfl rfl rfl rfl (TL.run (pr_pure rfl) rfl (TL.run (pr_pure rfl) rfl (TL.gdN rfl rfl rfl rfl (TL.gdN rfl rfl rfl rfl ?_)))))))
            refine TL.gdN rfl rfl rfl rfl (TL.gdN rfl rfl rfl rfl (TL.run (pr_pure rfl) rfl (TL.run (pr_pure rfl) rfl (TL.gdN rfl rfl rfl rfl (TL.gdN rfl rfl rfl rfl (TL.gdN rfl rfl rfl rfl (TL.gdN rfl rfl rfl rfl ?_)))))))
            refine TL.run (pr_pure rfl) rfl (TL.nil (TX.seqN (TC.condT rfl (TC.seq (TC.region (TL.run (pr_pure rfl) rfl (TL.nil ?_)))))))
            refine TX.seqN (TC.ret (TX.thenR (TX.blkR (TX.thenR (TX.finS (.inr rfl) (results1 rfl (RVal.tmp rfl)) (congrArg Value.bool (by unfold mayS; first | (rw [hall]; clear hall; simp_all; done) | (simp_all <;> omega))))))))
           ·
            refine TL.gdY rfl rfl (pr_field rfl) rfl (TL.gdY rfl rfl (pr_own1 rfl (.there _ (.here _)) rfl) rfl ?_)
            refine TL.callSY rfl rfl (enters rfl rfl rfl rfl) (n_MayU_ok s.peer) rfl ?_
            refine TL.gdY rfl rfl (pr_pure rfl) rfl (TL.run (pr_pure rfl) rfl (TL.run (pr_pure rfl) rfl ?_))
            refine TL.split (s := 133) rfl (fun g133 => ?_) (fun g133 => ?_)
            ·
             refine TL.gdN rfl rfl rfl rfl (TL.gdN rfl rfl rfl rfl (TL.gdN rfl rfl rfl rfl (TL.gdN rfl rfl rfl rfl (TL.run (pr_pure rfl) rfl (TL.run (pr_pure rfl) rfl (TL.gdN rfl rfl rfl rfl (TL.gdN rfl rfl rfl rfl ?_)))))))
             refine TL.gdN rfl rfl rfl rfl (TL.gdN rfl rfl rfl rfl (TL.run (pr_pure rfl) rfl (TL.nil (TX.seqN (TC.condT rfl (TC.seq (TC.region ?_)))))))
             refine TL.run (pr_pure rfl) rfl (TL.nil (TX.seqN (TC.ret (TX.thenR (TX.blkR (TX.thenR (TX.finS (.inr rfl) (results1 rfl (RVal.tmp rfl)) (congrArg Value.bool (by unfold mayS; first | (rw [hall]; clear hall; simp_all; done) | (simp_all <;> omega))))))))))
            ·
             refine TL.gdY rfl rfl (pr_field rfl) rfl (TL.gdY rfl rfl (pr_own1 rfl (.there _ (.here _)) rfl) rfl (TL.gdY rfl rfl (pr_lenSl rfl rfl hc) rfl (TL.gdY rfl rfl (pr_pure rfl) rfl (TL.run (pr_pure rfl) rfl (TL.run (pr_pure rfl) rfl ?_)))))
             refine TL.split (s := 139) rfl (fun g139 => ?_) (fun g139 => ?_)
             ·
              have q139 := of_decide_eq_true g139
              refine TL.gdN rfl rfl rfl rfl (TL.gdN rfl rfl rfl rfl (TL.gdN rfl rfl rfl rfl (TL.gdN rfl rfl rfl rfl (TL.run (pr_pure rfl) rfl (TL.nil (TX.seqN (TC.condT rfl ?_)))))))
              refine TC.seq (TC.region (TL.run (pr_pure rfl) rfl (TL.nil (TX.seqN (TC.ret (TX.thenR (TX.blkR ?_)))))))
              refine TX.thenR (TX.finS (.inr rfl) (results1 rfl (RVal.tmp rfl)) (congrArg Value.bool (by unfold mayS; first | (rw [hall]; clear hall; simp_all; done) | (simp_all <;> omega))))
             ·
              have q139 := of_decide_eq_false g139
              refine TL.gdY rfl rfl (pr_field rfl) rfl (TL.gdY rfl rfl (pr_own1 rfl (.there _ (.here _)) rfl) rfl (TL.gdY rfl rfl (pr_lenSl rfl rfl hc) rfl (TL.gdY rfl rfl (pr_pure rfl) rfl (TL.run (pr_pure rfl) rfl (TL.nil (TX.seqN ?_))))))
              refine TC.condD rfl (fun c144 => ?_) (fun c144 => ?_)
              ·
               refine TC.seq (TC.region (TL.run (pr_pure rfl) rfl (TL.nil (TX.seqN (TC.ret (TX.thenR (TX.blkR ?_)))))))
               refine TX.thenR (TX.finS (.inr rfl) (results1 rfl (RVal.tmp rfl)) (congrArg Value.bool (by unfold mayS; first | (rw [hall]; clear hall; simp_all; done) | (simp_all <;> omega))))
              ·
               refine TC.skip (TX.seqN (TC.seq (TC.region (TL.run (pr_field rfl) rfl (TL.run (pr_own1 rfl (.there _ (.here _)) rfl) rfl (TL.run (pr_lenSl rfl rfl hc) rfl (TL.run (pr_pure rfl) rfl ?_)))))))
               refine TL.nil (TX.seqN (TC.block ?_))
               refine TC.loop (V := fun k => [(148, .int .i64 k)]) (K := [(2, _), (146, _), (147, _)]) (L := fun k => _) (I := fun k => (0 ≤ k ∧ k ≤ s.casts.length) ∧ s.casts.all (fun c => !castBad c) = (s.casts.drop k.toNat).all (fun c => !castBad c)) (μ := fun k => (s.casts.length - k).toNat) (i := (0 : Int)) ⟨rfl, rfl, rfl, rfl, trivial⟩ ⟨⟨by omega, by omega⟩, rfl⟩ (fun w hw => hw) (fun k hI => ?_)
               obtain ⟨⟨k0, k1⟩, hal⟩ := hI
               refine TC.seq (TC.region (TL.run (pr_pure rfl) rfl (TL.nil (TX.seqN (TC.seq ?_)))))
               refine TC.condD rfl (fun c149 => ?_) (fun c149 => ?_)
               ·
                obtain ⟨x, hx⟩ := getSome (l := s.casts) k0 c149
                have hxa := hs.cs x (List.mem_of_getElem? hx)
                refine TC.skip (TX.seqN (TC.seq (TC.block (TC.seq (TC.region (TL.run (pr_indexSl rfl hc rfl (by omega) (by omega)) rfl (TL.run (pr_elA hc hx rfl rfl) rfl ?_)))))))
                refine TL.alloc rfl (fun b5 => ?_)
                refine TL.storeA rfl rfl rfl rfl rfl (.here _) rfl rfl ?_
                refine TL.nil (TX.seqN ?_)
                refine TC.sw (castBad x) 167 [(2, _), (5, _), (146, _), (147, _), (148, _), (149, _), (150, _), (151, _)] ⟨rfl, rfl, rfl, rfl, rfl, rfl, rfl, rfl, trivial⟩ ?_ ?_
                ·
                 refine TC.region (TL.run (pr_field rfl) rfl (TL.run (pr_own1 rfl (.here _) rfl) rfl ?_))
                 refine TL.callS (enters rfl rfl rfl rfl) (n_MayU_ok x.role) rfl ?_
                 refine TL.run (pr_pure rfl) rfl (TL.run (pr_pure rfl) rfl ?_)
                 refine TL.split (s := 156) rfl (fun g156 => ?_) (fun g156 => ?_)
                 ·
                  refine TL.gdN rfl rfl rfl rfl (TL.gdN rfl rfl rfl rfl (TL.gdN rfl rfl rfl rfl (TL.gdN rfl rfl rfl rfl (TL.run (pr_pure rfl) rfl (TL.run (pr_pure rfl) rfl (TL.gdN rfl rfl rfl rfl (TL.gdN rfl rfl rfl rfl ?_)))))))
                  refine TL.gdN rfl rfl rfl rfl (TL.gdN rfl rfl rfl rfl (TL.run (pr_pure rfl) rfl (TL.nil (TX.sw rfl (by unfold castBad; simp_all) ⟨rfl, rfl, rfl, rfl, rfl, rfl, rfl, rfl, trivial⟩))))
                 ·
                  refine TL.gdY rfl rfl (pr_field rfl) rfl (TL.gdY rfl rfl (pr_own1 rfl (.here _) rfl) rfl ?_)
                  refine TL.callSY rfl rfl (enters rfl rfl rfl rfl) (n_MayU_ok x.proc) rfl ?_
                  refine TL.gdY rfl rfl (pr_pure rfl) rfl (TL.run (pr_pure rfl) rfl (TL.run (pr_pure rfl) rfl ?_))
                  refine TL.split (s := 162) rfl (fun g162 => ?_) (fun g162 => ?_)
                  ·
                   refine TL.gdN rfl rfl rfl rfl (TL.gdN rfl rfl rfl rfl (TL.gdN rfl rfl rfl rfl (TL.gdN rfl rfl rfl rfl (TL.run (pr_pure rfl) rfl (TL.nil (TX.sw rfl (by unfold castBad; simp_all) ⟨rfl, rfl, rfl, rfl, rfl, rfl, rfl, rfl, trivial⟩))))))
                  ·
                   refine TL.gdY rfl rfl (pr_field rfl) rfl (TL.gdY rfl rfl (pr_own1 rfl (.here _) rfl) rfl (TL.gdY rfl rfl (pr_lenSl rfl rfl hxa) rfl (TL.gdY rfl rfl (pr_pure rfl) rfl (TL.run (pr_pure rfl) rfl (TL.nil (TX.sw rfl (by unfold castBad; simp_all) ⟨rfl, rfl, rfl, rfl, rfl, rfl, rfl, rfl, trivial⟩))))))
                refine TC.cond rfl (fun c167 => ?_) (fun c167 => ?_)
                ·
                 have hall := all_bad (p := fun c => !castBad c) k0 hx (by simp [c167]) hal
                 clear hal
                 refine TC.seq (TC.region (TL.run (pr_pure rfl) rfl (TL.nil (TX.seqN (TC.ret (TX.blkR (TX.thenR ?_)))))))
                 refine TX.thenR (TX.blkR (TX.blkR (TX.thenR (TX.finS (.inr rfl) (results1 rfl (RVal.tmp rfl)) (congrArg Value.bool (by unfold mayS; first | (rw [hall]; clear hall; simp_all; done) | (simp_all <;> omega)))))))
                ·
                 refine TC.skip (TX.blkN (TX.seqN (TC.region (TL.run ((by first | exact pr_add rfl rfl (by omega) (by omega) | exact pr_pure rfl)) rfl (TL.run (pr_pure rfl) rfl (TL.nil (TX.round (k + 1) ⟨⟨by omega, by omega⟩, all_next k0 hx (by simpa using c167) hal⟩ ⟨rfl, rfl, rfl, rfl, trivial⟩ (fun w hw => hw.drop) (by omega))))))))
               ·
                have hall := all_end (p := fun c => !castBad c) k0 c149 hal
                clear hal
                refine TC.exit (TX.thenE (TX.thenE (TX.blkHit (TX.blkN (TX.seqN (TC.seq (TC.region ?_)))))))
                refine TL.run (pr_pure rfl) rfl (TL.nil (TX.seqN (TC.ret (TX.finS (.inr rfl) (results1 rfl (RVal.tmp rfl)) (congrArg Value.bool (by unfold mayS; first | (rw [hall]; clear hall; simp_all; done) | (simp_all <;> omega)))))))
         ·
          refine TC.skip (TX.blkN (TX.seqN (TC.seq (TC.region (TL.run (pr_pure rfl) rfl (TL.nil (TX.seqN ?_)))))))
          refine TC.ret (TX.finS (.inr rfl) (results1 rfl (RVal.tmp rfl)) (congrArg Value.bool (by unfold mayS; first | (rw [hall]; clear hall; simp_all; done) | (simp_all <;> omega))))

set_option maxRecDepth 100000 in
set_option maxHeartbeats 2000000 in
theorem nexts_ok {H : Hp} (s : SStep) (hs : StepOk H s) (hl : s.ways.length ≤ 1000) :
  FnO Try.prog 29 [.agg s.cells.toArray] H (fun v H1 ob => H1 = H ∧ OwnSl 1 I64.cells v (nextsS s) ob) := by
 have hw := hs.w
 have hmw := hw.max
 refine FnO.enter Try.func29 Try.ntmps29 rfl rfl (fun w0 => ?_)
 refine TC.seq (TC.region ?_)
 refine TL.box rfl rfl (fun b1 => ?_)
 refine TL.run (pr_pure rfl) rfl (TL.nil (TX.seqN (TC.seq (TC.seq (TC.region (TL.run (pr_field rfl) rfl (TL.run (pr_own1 rfl (.here _) rfl) rfl ?_)))))))
 refine TL.callS (enters rfl rfl rfl rfl) (goes_ok s.kind) rfl ?_
 refine TL.nil (TX.seqN ?_)
 refine TC.cond rfl (fun c8 => ?_) (fun c8 => ?_)
 ·
  refine TC.seq (TC.region (TL.run (pr_field rfl) rfl (TL.run (pr_own1 rfl (.here _) rfl) rfl ?_)))
  refine TL.bslice rfl rfl rfl rfl (fun b11 => ?_)
  refine TL.run (pr_pure rfl) rfl (TL.nil (TX.seqN (TC.ret (TX.thenR (TX.finO (.inr rfl) (results1 rfl (RVal.tmp rfl)) (.take (.here _) rfl) ⟨rfl, by unfold nextsS; rw [if_pos c8]; exact OwnSl.blk (enc := I64.cells) [s.next] rfl rfl (by decide)⟩)))))
 ·
  refine TC.skip (TX.seqN (TC.seq (TC.region (TL.run (pr_pure rfl) rfl (TL.nil (TX.seqN (TC.seq ?_)))))))
  refine TC.seq (TC.region (TL.run (pr_field rfl) rfl (TL.run (pr_own1 rfl (.here _) rfl) rfl (TL.run (pr_lenSl rfl rfl hw) rfl (TL.run (pr_pure rfl) rfl (TL.nil (TX.seqN ?_)))))))
  refine TC.block ?_
  refine TC.loop4 (V := fun k v ob H1 => [(3, v), (15, .int .i64 k)]) (K := [(2, _), (13, _), (14, _)]) (L := fun k v ob H1 => St [] w0 H H ((b1, _) :: ob)) (I := fun k v ob H1 => (0 ≤ k ∧ k ≤ s.ways.length) ∧ OwnSl 1 I64.cells v ((s.ways.take k.toNat).map (·.next)) ob) (μ := fun k => (s.ways.length - k).toNat) 0 (.slice none 0 0) [] H ⟨rfl, rfl, rfl, rfl, rfl, trivial⟩ ⟨⟨by omega, by omega⟩, OwnSl.nil⟩ (fun w hw => hw) (fun k v ob H1 hI => ?_)
  obtain ⟨⟨k0, k1⟩, hO⟩ := hI
  obtain ⟨va, vc, rfl⟩ := hO.form
  refine TC.seq (TC.region (TL.run (pr_pure rfl) rfl (TL.nil (TX.seqN (TC.seq ?_)))))
  refine TC.condD rfl (fun c16 => ?_) (fun c16 => ?_)
  ·
   obtain ⟨x, hx⟩ := getSome (l := s.ways) k0 c16
   refine TC.skip (TX.seqN (TC.seq (TC.block (TC.seq (TC.region (TL.run (pr_indexSl rfl hw rfl (by omega) (by omega)) rfl (TL.run (pr_elA hw hx rfl rfl) rfl ?_)))))))
   refine TL.alloc rfl (fun b5 => ?_)
   refine TL.storeA rfl rfl rfl rfl rfl (.here _) rfl rfl ?_
   refine TL.nil (TX.seqN (TC.region (TL.run (pr_pure rfl) rfl (TL.run (pr_field rfl) rfl (TL.run (pr_own1 rfl (.here _) rfl) rfl ?_)))))
   refine TL.bslice rfl rfl rfl rfl (fun b22 => ?_)
   refine TL.append (enc := I64.cells) rfl rfl rfl hO (Src.own [x.next] (.here _) rfl rfl) (by simp; omega) rfl (.skip _ (.skip _ (.skip _ .all))) rfl (fun a23 c23 ob23 hO23 => ?_)
   refine TL.run (pr_pure rfl) rfl (TL.nil (TX.blkN (TX.seqN (TC.region (TL.run ((by first | exact pr_add rfl rfl (by omega) (by omega) | exact pr_pure rfl)) rfl (TL.run (pr_pure rfl) rfl (TL.nil ?_)))))))
   exact TX.round4 (k + 1) _ ob23 H ⟨⟨by omega, by omega⟩, by rw [map_take_snoc k0 hx]; exact hO23⟩ ⟨rfl, rfl, rfl, rfl, rfl, trivial⟩ (fun w hw => hw.drop.drop) (by omega)
  ·
   refine TC.exit (TX.thenE (TX.thenE (TX.blkHit (TX.seqN (TC.seq (TC.region (TL.run (pr_pure rfl) rfl ?_)))))))
   refine TL.run (pr_pure rfl) rfl (TL.nil (TX.seqN (TC.ret (TX.finO (.inr rfl) (results1 rfl (RVal.tmp rfl)) (.skip _ .all) ⟨rfl, hO.cast (by unfold nextsS; rw [if_neg (by rw [c8]; decide), take_all c16 k0])⟩))))
end Go.Sx

set_option linter.unusedVariables false
set_option linter.unusedSimpArgs false
namespace Go.Sx
open Go Go.Proofs
set_option maxRecDepth 100000 in
set_option maxHeartbeats 4000000 in
theorem terms_ok {H : Hp} (s : SStep) (hs : StepOk H s) (hl : s.args.length ≤ 6 ∧ s.casts.length ≤ 4 ∧ ∀ c ∈ s.casts, c.args.length ≤ 6) :
  FnO Try.prog 30 [.agg s.cells.toArray] H (fun v H1 ob => H1 = H ∧ OwnSl 1 I64.cells v (termsS s) ob) := by
 have hc := hs.c
 have ha := hs.a
 obtain ⟨hl1, hl2, hl3⟩ := hl
 refine FnO.enter Try.func30 Try.ntmps30 rfl rfl (fun w0 => ?_)
 refine TC.seq (TC.region ?_)
 refine TL.box rfl rfl (fun b1 => ?_)
 refine TL.run (pr_pure rfl) rfl (TL.nil (TX.seqN (TC.seq (TC.region (TL.run (pr_pure rfl) rfl (TL.nil (TX.seqN ?_)))))))
 refine TC.seq (TC.seq (TC.region (TL.run (pr_field rfl) rfl (TL.run (pr_own1 rfl (.here _) rfl) rfl (TL.nil (TX.seqN (TC.block ?_)))))))
 refine TC.sw (decide (s.kind = 1) || (decide (s.kind = 2) || decide (s.kind = 3))) 8 [(1, _), (2, _), (3, _), (7, _)] ⟨rfl, rfl, rfl, rfl, trivial⟩ ?_ ?_
 ·
  refine TC.swG (pr_pure rfl) rfl rfl ⟨rfl, rfl, rfl, rfl, trivial⟩ ?_
  refine TC.swG (pr_pure rfl) rfl rfl ⟨rfl, rfl, rfl, rfl, trivial⟩ ?_
  exact TC.swE (pr_pure rfl) rfl rfl ⟨rfl, rfl, rfl, rfl, trivial⟩
 refine TC.cond rfl (fun c8 => ?_) (fun c8 => ?_)
 ·
  have h8 : s.kind = 1 ∨ s.kind = 2 ∨ s.kind = 3 := by simpa [or_assoc] using c8
  refine TC.region (TL.run (pr_pure rfl) rfl (TL.run (pr_field rfl) rfl (TL.run (pr_own1 rfl (.here _) rfl) rfl ?_)))
  refine TL.bslice rfl rfl rfl rfl (fun b15 => ?_)
  refine TL.append (enc := I64.cells) rfl rfl rfl (OwnSl.nil (enc := I64.cells)) (Src.own [s.term] (.here _) rfl rfl) (by simp) rfl (.new _ rfl) rfl (fun a16 c16 ob16 hO16 => ?_)
  refine TL.run (pr_pure rfl) rfl (TL.nil (TX.blkN (TX.seqN (TC.seq (TC.region (TL.run (pr_pure rfl) rfl (TL.run (pr_field rfl) rfl ?_)))))))
  refine TL.run (pr_own1 rfl (.there _ (.here _)) rfl) rfl ?_
  refine TL.append (enc := I64.cells) rfl rfl rfl hO16 (Src.sl ha) (by simp; omega) rfl (.skip _ (.skip _ .all)) rfl (fun a30 c30 ob30 hO30 => ?_)
  refine TL.run (pr_pure rfl) rfl (TL.nil (TX.seqN (TC.seq (TC.seq (TC.region (TL.run (pr_field rfl) rfl (TL.run (pr_own1 rfl (.there _ (.here _)) rfl) rfl ?_)))))))
  refine TL.run (pr_lenSl rfl rfl hc) rfl (TL.run (pr_pure rfl) rfl (TL.nil (TX.seqN (TC.block ?_))))
  refine TC.loop4 (V := fun k v ob H1 => [(3, v), (34, .int .i64 k)]) (K := [(2, _), (32, _), (33, _)]) (L := fun k v ob H1 => St [] w0 H H ((b15, _) :: (b1, _) :: ob)) (I := fun k v ob H1 => (0 ≤ k ∧ k ≤ s.casts.length) ∧ OwnSl 1 I64.cells v (tHead s ++ (s.casts.take k.toNat).flatMap (·.args)) ob ∧ ((s.casts.take k.toNat).flatMap (·.args)).length ≤ 6 * k.toNat) (μ := fun k => (s.casts.length - k).toNat) 0 _ ob30 H ⟨rfl, rfl, rfl, rfl, rfl, trivial⟩ ⟨⟨by omega, by omega⟩, hO30.cast (by first | (rw [tHead_T h8]; simp) | (rw [tHead_4 c17 c21]; simp) | (rw [tHead_F h8 (.inr c21)]; simp) | (rw [tHead_F h8 (.inl c17)]; simp)), by simp⟩ (fun w hw => hw) (fun k v ob H1 hI => ?_)
  obtain ⟨⟨k0, k1⟩, hO, hfl⟩ := hI
  obtain ⟨va, vc, rfl⟩ := hO.form
  refine TC.seq (TC.region (TL.run (pr_pure rfl) rfl (TL.nil (TX.seqN (TC.seq ?_)))))
  refine TC.condD rfl (fun c35 => ?_) (fun c35 => ?_)
  ·
   obtain ⟨x, hx⟩ := getSome (l := s.casts) k0 c35
   have hxa := hs.cs x (List.mem_of_getElem? hx)
   have hx6 := hl3 x (List.mem_of_getElem? hx)
   refine TC.skip (TX.seqN (TC.seq (TC.block (TC.seq (TC.region (TL.run (pr_indexSl rfl hc rfl (by omega) (by omega)) rfl (TL.run (pr_elA hc hx rfl rfl) rfl ?_)))))))
   refine TL.alloc rfl (fun b5 => ?_)
   refine TL.storeA rfl rfl rfl rfl rfl (.here _) rfl rfl ?_
   refine TL.nil (TX.seqN (TC.region (TL.run (pr_pure rfl) rfl (TL.run (pr_field rfl) rfl (TL.run (pr_own1 rfl (.here _) rfl) rfl ?_)))))
   refine TL.append (enc := I64.cells) rfl rfl rfl hO (Src.sl hxa) (by have hh := tHead_len s; simp only [List.length_append]; omega) rfl (.skip _ (.skip _ (.skip _ .all))) rfl (fun a41 c41 ob41 hO41 => ?_)
   refine TL.run (pr_pure rfl) rfl (TL.nil (TX.blkN (TX.seqN (TC.region (TL.run ((by first | exact pr_add rfl rfl (by omega) (by omega) | exact pr_pure rfl)) rfl (TL.run (pr_pure rfl) rfl (TL.nil ?_)))))))
   exact TX.round4 (k + 1) _ ob41 H ⟨⟨by omega, by omega⟩, hO41.cast (by rw [take_snoc k0 hx, List.flatMap_append]; simp), by rw [take_snoc k0 hx, List.flatMap_append, List.length_append]; simp only [List.flatMap_cons, List.flatMap_nil, List.append_nil]; omega⟩ ⟨rfl, rfl, rfl, rfl, rfl, trivial⟩ (fun w hw => hw.drop) (by omega)
  ·
   refine TC.exit (TX.thenE (TX.thenE (TX.blkHit (TX.seqN (TC.seq (TC.region (TL.run (pr_pure rfl) rfl ?_)))))))
   refine TL.run (pr_pure rfl) rfl (TL.nil (TX.seqN (TC.ret (TX.finO (.inr rfl) (results1 rfl (RVal.tmp rfl)) (.skip _ (.skip _ .all)) ⟨rfl, hO.cast (by rw [take_all c35 k0, termsS_eq])⟩))))
 ·
  have h8 : ¬ s.kind = 1 ∧ ¬ s.kind = 2 ∧ ¬ s.kind = 3 := by simpa [and_assoc] using c8
  refine TC.seq (TC.region (TL.run (pr_pure rfl) rfl (TL.run (pr_pure rfl) rfl (TL.nil (TX.seqN ?_)))))
  refine TC.condD rfl (fun c17 => ?_) (fun c17 => ?_)
  ·
   refine TC.seq (TC.region (TL.run (pr_field rfl) rfl (TL.run (pr_own1 rfl (.here _) rfl) rfl (TL.run (pr_pure rfl) rfl (TL.nil (TX.seqN ?_))))))
   refine TC.condND rfl (fun c21 => ?_) (fun c21 => ?_)
   ·
    refine TC.region (TL.run (pr_pure rfl) rfl (TL.run (pr_field rfl) rfl (TL.run (pr_own1 rfl (.here _) rfl) rfl ?_)))
    refine TL.bslice rfl rfl rfl rfl (fun b25 => ?_)
    refine TL.append (enc := I64.cells) rfl rfl rfl (OwnSl.nil (enc := I64.cells)) (Src.own [s.term] (.here _) rfl rfl) (by simp) rfl (.new _ rfl) rfl (fun a26 c26 ob26 hO26 => ?_)
    refine TL.run (pr_pure rfl) rfl (TL.nil (TX.blkN (TX.seqN (TC.seq (TC.region (TL.run (pr_pure rfl) rfl (TL.run (pr_field rfl) rfl ?_)))))))
    refine TL.run (pr_own1 rfl (.there _ (.here _)) rfl) rfl ?_
    refine TL.append (enc := I64.cells) rfl rfl rfl hO26 (Src.sl ha) (by simp; omega) rfl (.skip _ (.skip _ .all)) rfl (fun a30 c30 ob30 hO30 => ?_)
    refine TL.run (pr_pure rfl) rfl (TL.nil (TX.seqN (TC.seq (TC.seq (TC.region (TL.run (pr_field rfl) rfl (TL.run (pr_own1 rfl (.there _ (.here _)) rfl) rfl ?_)))))))
    refine TL.run (pr_lenSl rfl rfl hc) rfl (TL.run (pr_pure rfl) rfl (TL.nil (TX.seqN (TC.block ?_))))
    refine TC.loop4 (V := fun k v ob H1 => [(3, v), (34, .int .i64 k)]) (K := [(2, _), (32, _), (33, _)]) (L := fun k v ob H1 => St [] w0 H H ((b25, _) :: (b1, _) :: ob)) (I := fun k v ob H1 => (0 ≤ k ∧ k ≤ s.casts.length) ∧ OwnSl 1 I64.cells v (tHead s ++ (s.casts.take k.toNat).flatMap (·.args)) ob ∧ ((s.casts.take k.toNat).flatMap (·.args)).length ≤ 6 * k.toNat) (μ := fun k => (s.casts.length - k).toNat) 0 _ ob30 H ⟨rfl, rfl, rfl, rfl, rfl, trivial⟩ ⟨⟨by omega, by omega⟩, hO30.cast (by first | (rw [tHead_T h8]; simp) | (rw [tHead_4 c17 c21]; simp) | (rw [tHead_F h8 (.inr c21)]; simp) | (rw [tHead_F h8 (.inl c17)]; simp)), by simp⟩ (fun w hw => hw) (fun k v ob H1 hI => ?_)
    obtain ⟨⟨k0, k1⟩, hO, hfl⟩ := hI
    obtain ⟨va, vc, rfl⟩ := hO.form
    refine TC.seq (TC.region (TL.run (pr_pure rfl) rfl (TL.nil (TX.seqN (TC.seq ?_)))))
    refine TC.condD rfl (fun c35 => ?_) (fun c35 => ?_)
    ·
     obtain ⟨x, hx⟩ := getSome (l := s.casts) k0 c35
     have hxa := hs.cs x (List.mem_of_getElem? hx)
     have hx6 := hl3 x (List.mem_of_getElem? hx)
     refine TC.skip (TX.seqN (TC.seq (TC.block (TC.seq (TC.region (TL.run (pr_indexSl rfl hc rfl (by omega) (by omega)) rfl (TL.run (pr_elA hc hx rfl rfl) rfl ?_)))))))
     refine TL.alloc rfl (fun b5 => ?_)
     refine TL.storeA rfl rfl rfl rfl rfl (.here _) rfl rfl ?_
     refine TL.nil (TX.seqN (TC.region (TL.run (pr_pure rfl) rfl (TL.run (pr_field rfl) rfl (TL.run (pr_own1 rfl (.here _) rfl) rfl ?_)))))
     refine TL.append (enc := I64.cells) rfl rfl rfl hO (Src.sl hxa) (by have hh := tHead_len s; simp only [List.length_append]; omega) rfl (.skip _ (.skip _ (.skip _ .all))) rfl (fun a41 c41 ob41 hO41 => ?_)
     refine TL.run (pr_pure rfl) rfl (TL.nil (TX.blkN (TX.seqN (TC.region (TL.run ((by first | exact pr_add rfl rfl (by omega) (by omega) | exact pr_pure rfl)) rfl (TL.run (pr_pure rfl) rfl (TL.nil ?_)))))))
     exact TX.round4 (k + 1) _ ob41 H ⟨⟨by omega, by omega⟩, hO41.cast (by rw [take_snoc k0 hx, List.flatMap_append]; simp), by rw [take_snoc k0 hx, List.flatMap_append, List.length_append]; simp only [List.flatMap_cons, List.flatMap_nil, List.append_nil]; omega⟩ ⟨rfl, rfl, rfl, rfl, rfl, trivial⟩ (fun w hw => hw.drop) (by omega)
    ·
     refine TC.exit (TX.thenE (TX.thenE (TX.blkHit (TX.seqN (TC.seq (TC.region (TL.run (pr_pure rfl) rfl ?_)))))))
     refine TL.run (pr_pure rfl) rfl (TL.nil (TX.seqN (TC.ret (TX.finO (.inr rfl) (results1 rfl (RVal.tmp rfl)) (.skip _ (.skip _ .all)) ⟨rfl, hO.cast (by rw [take_all c35 k0, termsS_eq])⟩))))
   ·
    refine TC.skip (TX.blkN (TX.seqN (TC.seq (TC.region (TL.run (pr_pure rfl) rfl (TL.run (pr_field rfl) rfl (TL.run (pr_own1 rfl (.here _) rfl) rfl ?_)))))))
    refine TL.append (enc := I64.cells) rfl rfl rfl (OwnSl.nil (enc := I64.cells)) (Src.sl ha) (by simp; omega) rfl (.new _ rfl) rfl (fun a30 c30 ob30 hO30 => ?_)
    refine TL.run (pr_pure rfl) rfl (TL.nil (TX.seqN (TC.seq (TC.seq (TC.region (TL.run (pr_field rfl) rfl (TL.run (pr_own1 rfl (.here _) rfl) rfl ?_)))))))
    refine TL.run (pr_lenSl rfl rfl hc) rfl (TL.run (pr_pure rfl) rfl (TL.nil (TX.seqN (TC.block ?_))))
    refine TC.loop4 (V := fun k v ob H1 => [(3, v), (34, .int .i64 k)]) (K := [(2, _), (32, _), (33, _)]) (L := fun k v ob H1 => St [] w0 H H ((b1, _) :: ob)) (I := fun k v ob H1 => (0 ≤ k ∧ k ≤ s.casts.length) ∧ OwnSl 1 I64.cells v (tHead s ++ (s.casts.take k.toNat).flatMap (·.args)) ob ∧ ((s.casts.take k.toNat).flatMap (·.args)).length ≤ 6 * k.toNat) (μ := fun k => (s.casts.length - k).toNat) 0 _ ob30 H ⟨rfl, rfl, rfl, rfl, rfl, trivial⟩ ⟨⟨by omega, by omega⟩, hO30.cast (by first | (rw [tHead_T h8]; simp) | (rw [tHead_4 c17 c21]; simp) | (rw [tHead_F h8 (.inr c21)]; simp) | (rw [tHead_F h8 (.inl c17)]; simp)), by simp⟩ (fun w hw => hw) (fun k v ob H1 hI => ?_)
    obtain ⟨⟨k0, k1⟩, hO, hfl⟩ := hI
    obtain ⟨va, vc, rfl⟩ := hO.form
    refine TC.seq (TC.region (TL.run (pr_pure rfl) rfl (TL.nil (TX.seqN (TC.seq ?_)))))
    refine TC.condD rfl (fun c35 => ?_) (fun c35 => ?_)
    ·
     obtain ⟨x, hx⟩ := getSome (l := s.casts) k0 c35
     have hxa := hs.cs x (List.mem_of_getElem? hx)
     have hx6 := hl3 x (List.mem_of_getElem? hx)
     refine TC.skip (TX.seqN (TC.seq (TC.block (TC.seq (TC.region (TL.run (pr_indexSl rfl hc rfl (by omega) (by omega)) rfl (TL.run (pr_elA hc hx rfl rfl) rfl ?_)))))))
     refine TL.alloc rfl (fun b5 => ?_)
     refine TL.storeA rfl rfl rfl rfl rfl (.here _) rfl rfl ?_
     refine TL.nil (TX.seqN (TC.region (TL.run (pr_pure rfl) rfl (TL.run (pr_field rfl) rfl (TL.run (pr_own1 rfl (.here _) rfl) rfl ?_)))))
     refine TL.append (enc := I64.cells) rfl rfl rfl hO (Src.sl hxa) (by have hh := tHead_len s; simp only [List.length_append]; omega) rfl (.skip _ (.skip _ .all)) rfl (fun a41 c41 ob41 hO41 => ?_)
     refine TL.run (pr_pure rfl) rfl (TL.nil (TX.blkN (TX.seqN (TC.region (TL.run ((by first | exact pr_add rfl rfl (by omega) (by omega) | exact pr_pure rfl)) rfl (TL.run (pr_pure rfl) rfl (TL.nil ?_)))))))
     exact TX.round4 (k + 1) _ ob41 H ⟨⟨by omega, by omega⟩, hO41.cast (by rw [take_snoc k0 hx, List.flatMap_append]; simp), by rw [take_snoc k0 hx, List.flatMap_append, List.length_append]; simp only [List.flatMap_cons, List.flatMap_nil, List.append_nil]; omega⟩ ⟨rfl, rfl, rfl, rfl, rfl, trivial⟩ (fun w hw => hw.drop) (by omega)
    ·
     refine TC.exit (TX.thenE (TX.thenE (TX.blkHit (TX.seqN (TC.seq (TC.region (TL.run (pr_pure rfl) rfl ?_)))))))
     refine TL.run (pr_pure rfl) rfl (TL.nil (TX.seqN (TC.ret (TX.finO (.inr rfl) (results1 rfl (RVal.tmp rfl)) (.skip _ .all) ⟨rfl, hO.cast (by rw [take_all c35 k0, termsS_eq])⟩))))
  ·
   refine TC.skip (TX.blkN (TX.seqN (TC.seq (TC.region (TL.run (pr_pure rfl) rfl (TL.run (pr_field rfl) rfl (TL.run (pr_own1 rfl (.here _) rfl) rfl ?_)))))))
   refine TL.append (enc := I64.cells) rfl rfl rfl (OwnSl.nil (enc := I64.cells)) (Src.sl ha) (by simp; omega) rfl (.new _ rfl) rfl (fun a30 c30 ob30 hO30 => ?_)
   refine TL.run (pr_pure rfl) rfl (TL.nil (TX.seqN (TC.seq (TC.seq (TC.region (TL.run (pr_field rfl) rfl (TL.run (pr_own1 rfl (.here _) rfl) rfl ?_)))))))
   refine TL.run (pr_lenSl rfl rfl hc) rfl (TL.run (pr_pure rfl) rfl (TL.nil (TX.seqN (TC.block ?_))))
   refine TC.loop4 (V := fun k v ob H1 => [(3, v), (34, .int .i64 k)]) (K := [(2, _), (32, _), (33, _)]) (L := fun k v ob H1 => St [] w0 H H ((b1, _) :: ob)) (I := fun k v ob H1 => (0 ≤ k ∧ k ≤ s.casts.length) ∧ OwnSl 1 I64.cells v (tHead s ++ (s.casts.take k.toNat).flatMap (·.args)) ob ∧ ((s.casts.take k.toNat).flatMap (·.args)).length ≤ 6 * k.toNat) (μ := fun k => (s.casts.length - k).toNat) 0 _ ob30 H ⟨rfl, rfl, rfl, rfl, rfl, trivial⟩ ⟨⟨by omega, by omega⟩, hO30.cast (by first | (rw [tHead_T h8]; simp) | (rw [tHead_4 c17 c21]; simp) | (rw [tHead_F h8 (.inr c21)]; simp) | (rw [tHead_F h8 (.inl c17)]; simp)), by simp⟩ (fun w hw => hw) (fun k v ob H1 hI => ?_)
   obtain ⟨⟨k0, k1⟩, hO, hfl⟩ := hI
   obtain ⟨va, vc, rfl⟩ := hO.form
   refine TC.seq (TC.region (TL.run (pr_pure rfl) rfl (TL.nil (TX.seqN (TC.seq ?_)))))
   refine TC.condD rfl (fun c35 => ?_) (fun c35 => ?_)
   ·
    obtain ⟨x, hx⟩ := getSome (l := s.casts) k0 c35
    have hxa := hs.cs x (List.mem_of_getElem? hx)
    have hx6 := hl3 x (List.mem_of_getElem? hx)
    refine TC.skip (TX.seqN (TC.seq (TC.block (TC.seq (TC.region (TL.run (pr_indexSl rfl hc rfl (by omega) (by omega)) rfl (TL.run (pr_elA hc hx rfl rfl) rfl ?_)))))))
    refine TL.alloc rfl (fun b5 => ?_)
    refine TL.storeA rfl rfl rfl rfl rfl (.here _) rfl rfl ?_
    refine TL.nil (TX.seqN (TC.region (TL.run (pr_pure rfl) rfl (TL.run (pr_field rfl) rfl (TL.run (pr_own1 rfl (.here _) rfl) rfl ?_)))))
    refine TL.append (enc := I64.cells) rfl rfl rfl hO (Src.sl hxa) (by have hh := tHead_len s; simp only [List.length_append]; omega) rfl (.skip _ (.skip _ .all)) rfl (fun a41 c41 ob41 hO41 => ?_)
    refine TL.run (pr_pure rfl) rfl (TL.nil (TX.blkN (TX.seqN (TC.region (TL.run ((by first | exact pr_add rfl rfl (by omega) (by omega) | exact pr_pure rfl)) rfl (TL.run (pr_pure rfl) rfl (TL.nil ?_)))))))
    exact TX.round4 (k + 1) _ ob41 H ⟨⟨by omega, by omega⟩, hO41.cast (by rw [take_snoc k0 hx, List.flatMap_append]; simp), by rw [take_snoc k0 hx, List.flatMap_append, List.length_append]; simp only [List.flatMap_cons, List.flatMap_nil, List.append_nil]; omega⟩ ⟨rfl, rfl, rfl, rfl, rfl, trivial⟩ (fun w hw => hw.drop) (by omega)
   ·
    refine TC.exit (TX.thenE (TX.thenE (TX.blkHit (TX.seqN (TC.seq (TC.region (TL.run (pr_pure rfl) rfl ?_)))))))
    refine TL.run (pr_pure rfl) rfl (TL.nil (TX.seqN (TC.ret (TX.finO (.inr rfl) (results1 rfl (RVal.tmp rfl)) (.skip _ .all) ⟨rfl, hO.cast (by rw [take_all c35 k0, termsS_eq])⟩))))

set_option maxRecDepth 100000 in
set_option maxHeartbeats 4000000 in
theorem binds_ok {H : Hp} (s : SStep) (hs : StepOk H s) (hl : s.ways.length ≤ 1000) :
  FnO Try.prog 34 [.agg s.cells.toArray] H (fun v H1 ob => H1 = H ∧ OwnSl 1 Str.cells v (bindsS s) ob) := by
 have hw := hs.w
 have hnl := nexts_len s hl
 refine FnO.enter Try.func34 Try.ntmps34 rfl rfl (fun w0 => ?_)
 refine TC.seq (TC.region ?_)
 refine TL.box rfl rfl (fun b1 => ?_)
 refine TL.run (pr_pure rfl) rfl (TL.nil (TX.seqN (TC.seq (TC.seq (TC.region (TL.run (pr_field rfl) rfl (TL.run (pr_own1 rfl (.here _) rfl) rfl ?_)))))))
 refine TL.nil (TX.seqN (TC.block ?_))
 refine TC.sw (decide (s.kind = 1) || decide (s.kind = 8)) 8 [(1, _), (2, _), (7, _)] ⟨rfl, rfl, rfl, trivial⟩ ?_ ?_
 ·
  refine TC.swG (pr_pure rfl) rfl rfl ⟨rfl, rfl, rfl, trivial⟩ ?_
  exact TC.swE (pr_pure rfl) rfl rfl ⟨rfl, rfl, rfl, trivial⟩
 refine TC.cond rfl (fun c8 => ?_) (fun c8 => ?_)
 ·
  have h8 : s.kind = 1 ∨ s.kind = 8 := by simpa using c8
  refine TC.seq (TC.region (TL.run (pr_field rfl) rfl (TL.run (pr_own1 rfl (.here _) rfl) rfl ?_)))
  refine TL.bslice rfl rfl rfl rfl (fun b13 => ?_)
  refine TL.run (pr_pure rfl) rfl (TL.nil (TX.seqN (TC.ret (TX.blkR (TX.thenR (TX.finO (.inr rfl) (results1 rfl (RVal.tmp rfl)) (.take (.here _) rfl) ⟨rfl, (OwnSl.blk (enc := Str.cells) [s.name] rfl rfl (by simp)).cast (by unfold bindsS; rw [if_pos h8])⟩))))))
 ·
  have h8 : ¬ (s.kind = 1 ∨ s.kind = 8) := by simpa using c8
  refine TC.seq (TC.region (TL.run (pr_pure rfl) rfl (TL.run (pr_pure rfl) rfl (TL.nil (TX.seqN ?_)))))
  refine TC.condD rfl (fun c14 => ?_) (fun c14 => ?_)
  ·
   refine TC.seq (TC.region (TL.run (pr_pure rfl) rfl (TL.nil (TX.seqN (TC.seq (TC.seq (TC.region ?_)))))))
   refine TL.run (pr_field rfl) rfl (TL.run (pr_own1 rfl (.here _) rfl) rfl (TL.run (pr_lenSl rfl rfl hw) rfl (TL.run (pr_pure rfl) rfl (TL.nil (TX.seqN (TC.block ?_))))))
   refine TC.loop4 (V := fun k v ob H1 => [(3, v), (19, .int .i64 k)]) (K := [(1, _), (2, _), (17, _), (18, _)]) (L := fun k v ob H1 => St [] w0 H H ((b1, _) :: ob)) (I := fun k v ob H1 => (0 ≤ k ∧ k ≤ s.ways.length) ∧ OwnSl 1 Str.cells v ((s.ways.take k.toNat).map (·.name)) ob) (μ := fun k => (s.ways.length - k).toNat) 0 (.slice none 0 0) [] H ⟨rfl, rfl, rfl, rfl, rfl, rfl, trivial⟩ ⟨⟨by omega, by omega⟩, OwnSl.nil⟩ (fun w hw => hw) (fun k v ob H1 hI => ?_)
   obtain ⟨⟨k0, k1⟩, hO⟩ := hI
   obtain ⟨va, vc, rfl⟩ := hO.form
   refine TC.seq (TC.region (TL.run (pr_pure rfl) rfl (TL.nil (TX.seqN (TC.seq ?_)))))
   refine TC.condD rfl (fun c20 => ?_) (fun c20 => ?_)
   ·
    obtain ⟨x, hx⟩ := getSome (l := s.ways) k0 c20
    refine TC.skip (TX.seqN (TC.seq (TC.block (TC.seq (TC.region (TL.run (pr_indexSl rfl hw rfl (by omega) (by omega)) rfl (TL.run (pr_elA hw hx rfl rfl) rfl ?_)))))))
    refine TL.alloc rfl (fun b5 => ?_)
    refine TL.storeA rfl rfl rfl rfl rfl (.here _) rfl rfl ?_
    refine TL.nil (TX.seqN (TC.region (TL.run (pr_pure rfl) rfl (TL.run (pr_field rfl) rfl (TL.run (pr_own1 rfl (.here _) rfl) rfl ?_)))))
    refine TL.bslice rfl rfl rfl rfl (fun b26 => ?_)
    refine TL.append (enc := Str.cells) rfl rfl rfl hO (Src.own [x.name] (.here _) rfl rfl) (by simp; omega) rfl (.skip _ (.skip _ (.skip _ .all))) rfl (fun a27 c27 ob27 hO27 => ?_)
    refine TL.run (pr_pure rfl) rfl (TL.nil (TX.blkN (TX.seqN (TC.region (TL.run ((by first | exact pr_add rfl rfl (by omega) (by omega) | exact pr_pure rfl)) rfl (TL.run (pr_pure rfl) rfl (TL.nil ?_)))))))
    exact TX.round4 (k + 1) _ ob27 H ⟨⟨by omega, by omega⟩, by rw [map_take_snoc k0 hx]; exact hO27⟩ ⟨rfl, rfl, rfl, rfl, rfl, rfl, trivial⟩ (fun w hw => hw.drop.drop) (by omega)
   ·
    refine TC.exit (TX.thenE (TX.thenE (TX.blkHit (TX.seqN (TC.seq (TC.region (TL.run (pr_pure rfl) rfl ?_)))))))
    refine TL.run (pr_pure rfl) rfl (TL.nil (TX.seqN (TC.ret (TX.blkR (TX.thenR (TX.finO (.inr rfl) (results1 rfl (RVal.tmp rfl)) (.skip _ .all) ⟨rfl, hO.cast (by unfold bindsS; rw [if_neg h8, if_pos c14, take_all c20 k0])⟩))))))
  ·
   refine TC.skip (TX.blkN (TX.seqN (TC.seq (TC.region (TL.run (pr_ownA rfl (.here _) rfl) rfl ?_)))))
   refine TL.callO (enters rfl rfl rfl rfl) (nexts_ok s hs hl) rfl (fun v31 H31 ob31 hle31 hp31 => ?_)
   obtain ⟨rfl, hO31⟩ := hp31
   obtain ⟨a31, c31, rfl⟩ := hO31.form
   refine TL.run (pr_lenO rfl rfl hO31) rfl ?_
   refine TL.make rfl rfl (by first | omega | decide) (by first | omega | decide) (by first | omega | decide) rfl (fun b33 => ?_)
   refine TL.run (pr_pure rfl) rfl (TL.nil (TX.seqN (TC.ret (TX.finO (.inr rfl) (results1 rfl (RVal.tmp rfl)) (.take (.here _) rfl) ⟨rfl, reps_own (by unfold bindsS; rw [if_neg h8, if_neg c14]) (by omega)⟩))))

set_option maxRecDepth 100000 in
set_option maxHeartbeats 1000000 in
theorem postN_ok {H : Hp} {at_ : Int} {bl bo bw : Nat} {u : Value} {xs : List Int} {ob : Blks} (hneg : at_ < 0) (hO : OwnSl 1 I64.cells u xs ob) :
  FnX Try.prog 48 [.int .i64 at_, .pointer (some ⟨bw, 0, none⟩), .pointer (some ⟨bl, 0, none⟩), .pointer (some ⟨bo, 0, none⟩)] H ((bo, [u]) :: ob) (fun r H' L' => r = .tuple #[] ∧ H' = H ∧ ∃ u' ob', L' = (bo, [u']) :: ob' ∧ OwnSl 1 I64.cells u' xs ob') := by
 refine FnX.enter Try.func48 Try.ntmps48 rfl rfl (fun w0 => ?_)
 refine TC.seq (TC.seq (TC.region (TL.run (pr_pure rfl) rfl (TL.run (pr_pure rfl) rfl (TL.nil (TX.seqN ?_))))))
 refine TC.condD rfl (fun c6 => ?_) (fun c6 => ?_)
 ·
  refine TC.ret (TX.thenR (TX.finX (.inr rfl) (results0 rfl) (fun w hw => hw) ⟨rfl, rfl, _, _, rfl, hO⟩))
 ·
  exact absurd hneg c6

set_option maxRecDepth 100000 in
set_option maxHeartbeats 2000000 in
theorem postW_ok {H : Hp} {l : List Term} {v : Value} {bl bo bw : Nat} (hT : RdSl H 6 Term.cells v l) (hl : H bl 0 = some v) (hw : H bw 0 = some (.func (.func 48) #[] #[.pointer (some ⟨bw, 0, none⟩), .pointer (some ⟨bl, 0, none⟩), .pointer (some ⟨bo, 0, none⟩)])) :
  ∀ (f : Nat) (at_ : Int), (at_ < 0 ∨ Tr l f at_) → ∀ (u : Value) (xs : List Int) (ob : Blks), OwnSl 1 I64.cells u xs ob → xs.length + (postW l f at_).length ≤ 100000000 →
   FnX Try.prog 48 [.int .i64 at_, .pointer (some ⟨bw, 0, none⟩), .pointer (some ⟨bl, 0, none⟩), .pointer (some ⟨bo, 0, none⟩)] H ((bo, [u]) :: ob) (fun r H' L' => r = .tuple #[] ∧ H' = H ∧ ∃ u' ob', L' = (bo, [u']) :: ob' ∧ OwnSl 1 I64.cells u' (xs ++ postW l f at_) ob') := by
 intro f
 induction f with
 | zero =>
  intro at_ h u xs ob hO hlen
  have h0 : at_ < 0 := h.resolve_right (fun h => h)
  rw [postW_neg h0, List.append_nil]
  exact postN_ok h0 hO
 | succ f ih =>
 intro at_ h u xs ob hO hlen
 have one0 := hT.isOne
 obtain ⟨ua, uc, rfl⟩ := hO.form
 refine FnX.enter Try.func48 Try.ntmps48 rfl rfl (fun w0 => ?_)
 refine TC.seq (TC.seq (TC.region (TL.run (pr_pure rfl) rfl (TL.run (pr_pure rfl) rfl (TL.nil (TX.seqN ?_))))))
 refine TC.condD rfl (fun c6 => ?_) (fun c6 => ?_)
 ·
  refine TC.ret (TX.thenR (TX.finX (.inr rfl) (results0 rfl) (fun w hw => hw) ⟨rfl, rfl, _, _, rfl, by rw [postW_neg c6, List.append_nil]; exact hO⟩))
 ·
  obtain ⟨h0, t, hx, _, _, hTl0, hTl1, hTr0, hTr1⟩ := h.resolve_left c6
  have hlt : at_.toNat < l.length := (List.getElem?_eq_some_iff.1 hx).1
  rw [postW_at c6 hx] at hlen
  simp only [List.length_append, List.length_cons, List.length_nil] at hlen
  have hTl : t.l < 0 ∨ Tr l f t.l := by rcases Int.lt_or_le (operandsI t.kind) 1 with h1 | h1; exact .inl (by have := hTl1 h1; omega); exact .inr (hTl0 h1)
  have hTr : t.r < 0 ∨ Tr l f t.r := by rcases Int.lt_or_le (operandsI t.kind) 2 with h1 | h1; exact .inl (by have := hTr1 h1; omega); exact .inr (hTr0 h1)
  refine TC.skip (TX.seqN (TC.seq ?_))
  refine TC.drawn (by kernel_rfl) (by kernel_rfl) ?_
  refine TD.leaf [(0, 2), (1, 2), (2, 1), (3, 1), (4, 1), (5, 2), (6, 0)] (by kernel_rfl) (by kernel_rfl) ?_
  refine TF.still (pr_hp1 rfl hw) rfl (TF.still (pr_hp1 rfl hl) rfl (TF.pure (pr_pure rfl) rfl (TF.pure (pr_indexSl rfl hT rfl (by omega) (by omega)) rfl (TF.pure (pr_field rfl) rfl (TF.still (pr_el1 hT hx rfl rfl) rfl (TF.loud ?_))))))
  refine TL.callX0 (L1 := (bo, [(.slice ua _ uc)]) :: ob) (enters rfl rfl rfl rfl) (ih t.l (hTl) _ _ _ hO (by omega)) rfl (fun v13 H13 L13 hle13 hp13 => ?_)
  obtain ⟨rfl, rfl, u13, ob13, rfl, hO13⟩ := hp13
  obtain ⟨ua13, uc13, rfl⟩ := hO13.form
  refine TF.back (TF.nil (TX.seqN (TC.seq ?_)))
  refine TC.drawn (by kernel_rfl) (by kernel_rfl) ?_
  refine TD.leaf [(0, 2), (1, 2), (2, 1), (3, 1), (4, 1), (5, 2), (6, 0)] (by kernel_rfl) (by kernel_rfl) ?_
  refine TF.still (pr_hp1 rfl hw) rfl (TF.still (pr_hp1 rfl hl) rfl (TF.pure (pr_pure rfl) rfl (TF.pure (pr_indexSl rfl hT rfl (by omega) (by omega)) rfl (TF.pure (pr_field rfl) rfl (TF.still (pr_el1 hT hx rfl rfl) rfl (TF.loud ?_))))))
  refine TL.callX0 (L1 := (bo, [(.slice ua13 _ uc13)]) :: ob13) (enters rfl rfl rfl rfl) (ih t.r (hTr) _ _ _ hO13 (by simp only [List.length_append]; omega)) rfl (fun v20 H20 L20 hle20 hp20 => ?_)
  obtain ⟨rfl, rfl, u20, ob20, rfl, hO20⟩ := hp20
  obtain ⟨ua20, uc20, rfl⟩ := hO20.form
  refine TF.back (TF.nil (TX.seqN (TC.region (TL.run (pr_own1 rfl (.here _) rfl) rfl (TL.run (pr_pure rfl) rfl ?_)))))
  refine TL.bslice rfl rfl rfl rfl (fun b23 => ?_)
  refine TL.append (enc := I64.cells) rfl rfl rfl hO20 (Src.own [at_] (.here _) rfl rfl) (by simp; omega) rfl (.skip _ (.skip _ .all)) rfl (fun a24 c24 ob24 hO24 => ?_)
  refine TL.storeV rfl rfl rfl (.there _ (.here _)) rfl ?_
  refine TL.nil (TX.finX (.inl rfl) (results0 rfl) (fun w hw => hw.drop) ⟨rfl, rfl, _, _, rfl, by rw [postW_at c6 hx, ← List.append_assoc, ← List.append_assoc]; exact hO24⟩)
end Go.Sx

set_option linter.unusedVariables false
set_option linter.unusedSimpArgs false
namespace Go.Sx
open Go Go.Proofs
set_option maxRecDepth 100000 in
set_option maxHeartbeats 1000000 in
theorem tCarries_ok {H : Hp} (ck : Int) (cn : Str) (hn : cn.length ≤ 4294960000) (hM : MaxG H) :
  FnS Try.prog 52 [.agg #[.int .i64 ck, gs cn]] H (.bool (carriesB ck cn)) := by
 refine FnS.enter Try.func52 Try.ntmps52 rfl rfl (fun w0 => ?_)
 refine TC.seq (TC.region ?_)
 refine TL.box rfl rfl (fun b1 => ?_)
 refine TL.run (pr_pure rfl) rfl (TL.nil (TX.seqN (TC.seq (TC.seq (TC.region (TL.run (pr_field rfl) rfl (TL.run (pr_own1 rfl (.here _) rfl) rfl ?_)))))))
 refine TL.run (pr_pure rfl) rfl (TL.run (pr_pure rfl) rfl ?_)
 refine TL.split (s := 9) rfl (fun g9 => ?_) (fun g9 => ?_)
 ·
  have q9 := of_decide_eq_true g9
  refine TL.gdN rfl rfl rfl rfl (TL.gdN rfl rfl rfl rfl (TL.gdN rfl rfl rfl rfl (TL.run (pr_pure rfl) rfl (TL.nil (TX.seqN (TC.condT rfl (TC.seq ?_)))))))
  refine TC.region (TL.run (pr_pure rfl) rfl (TL.nil (TX.seqN (TC.ret (TX.thenR (TX.finS (.inr rfl) (results1 rfl (RVal.tmp rfl)) (congrArg Value.bool (by unfold carriesB; simp_all))))))))
 ·
  have q9 := of_decide_eq_false g9
  refine TL.gdY rfl rfl (pr_field rfl) rfl (TL.gdY rfl rfl (pr_own1 rfl (.here _) rfl) rfl (TL.gdY rfl rfl (pr_pure rfl) rfl (TL.run (pr_pure rfl) rfl (TL.nil (TX.seqN ?_)))))
  refine TC.condD rfl (fun c13 => ?_) (fun c13 => ?_)
  ·
   refine TC.seq (TC.region (TL.run (pr_pure rfl) rfl (TL.nil (TX.seqN (TC.ret (TX.thenR (TX.finS (.inr rfl) (results1 rfl (RVal.tmp rfl)) (congrArg Value.bool (by unfold carriesB; simp_all)))))))))
  ·
   refine TC.skip (TX.seqN (TC.seq (TC.seq (TC.region (TL.run (pr_field rfl) rfl (TL.run (pr_own1 rfl (.here _) rfl) rfl (TL.run (pr_pure rfl) rfl ?_)))))))
   refine TL.nil (TX.seqN ?_)
   refine TC.condND rfl (fun c16 => ?_) (fun c16 => ?_)
   ·
    refine TC.seq (TC.region (TL.run (pr_field rfl) rfl (TL.run (pr_own1 rfl (.here _) rfl) rfl (TL.run (pr_str rfl rfl rfl) rfl (TL.run (pr_pure rfl) rfl (TL.nil (TX.seqN ?_)))))))
    refine TC.ret (TX.thenR (TX.finS (.inr rfl) (results1 rfl (RVal.tmp rfl)) (congrArg Value.bool (by unfold carriesB; simp_all))))
   ·
    refine TC.skip (TX.seqN (TC.seq (TC.region (TL.run (pr_field rfl) rfl (TL.run (pr_own1 rfl (.here _) rfl) rfl ?_)))))
    refine TL.callS (enters rfl rfl rfl rfl) (cut_ok cn hn hM) rfl ?_
    refine TL.run (pr_pure rfl) rfl (TL.run (pr_pure rfl) rfl (TL.run (pr_pure rfl) rfl (TL.run (pr_pure rfl) rfl (TL.run (pr_pure rfl) rfl (TL.run (pr_pure rfl) rfl (TL.run (pr_pure rfl) rfl (TL.nil ?_)))))))
    refine TX.seqN (TC.seq (TC.region (TL.run (pr_pure rfl) rfl ?_)))
    refine TL.callS (enters rfl rfl rfl rfl) (n_MayU_ok (cutS cn).1) rfl ?_
    refine TL.run (pr_pure rfl) rfl ?_
    refine TL.split (s := 29) rfl (fun g29 => ?_) (fun g29 => ?_)
    ·
     refine TL.gdY rfl rfl (pr_pure rfl) rfl (TL.gdY rfl rfl (pr_pure rfl) rfl (TL.gdY rfl rfl (pr_pure rfl) rfl ?_))
     refine TL.split (s := 32) rfl (fun g32 => ?_) (fun g32 => ?_)
     ·
      refine TL.gdN rfl rfl rfl rfl (TL.gdN rfl rfl rfl rfl (TL.gdY rfl rfl (pr_pure rfl) rfl (TL.run (pr_pure rfl) rfl (TL.run (pr_pure rfl) rfl (TL.nil (TX.seqN (TC.ret ?_)))))))
      exact TX.finS (.inr rfl) (results1 rfl (RVal.tmp rfl)) (congrArg Value.bool (by unfold carriesB; simp_all))
     ·
      refine TL.gdY rfl rfl (pr_pure rfl) rfl ?_
      refine TL.callSY rfl rfl (enters rfl rfl rfl rfl) (n_MayU_ok (cutS cn).2.1) rfl ?_
      refine TL.gdY rfl rfl (pr_pure rfl) rfl (TL.run (pr_pure rfl) rfl (TL.run (pr_pure rfl) rfl (TL.nil (TX.seqN (TC.ret (TX.finS (.inr rfl) (results1 rfl (RVal.tmp rfl)) (congrArg Value.bool (by unfold carriesB; simp_all))))))))
    ·
     refine TL.gdN rfl rfl rfl rfl (TL.gdN rfl rfl rfl rfl (TL.gdN rfl rfl rfl rfl (TL.gdU rfl rfl rfl (TL.gdU rfl rfl rfl (TL.gdN rfl rfl rfl rfl (TL.run (pr_pure rfl) rfl (TL.run (pr_pure rfl) rfl ?_)))))))
     refine TL.nil (TX.seqN (TC.ret (TX.finS (.inr rfl) (results1 rfl (RVal.tmp rfl)) (congrArg Value.bool (by unfold carriesB; simp_all)))))

set_option maxRecDepth 100000 in
set_option maxHeartbeats 4000000 in
theorem tArms_ok {H : Hp} {l : List SArm} {v : Value} (n : Int) (hA : RdSl H 4 SArm.cells v l) (hz : ∀ a ∈ l, a.cn.length ≤ 4294960000) (hM : MaxG H) :
  FnS Try.prog 41 [v, .int .i64 n] H (.bool (armsB l n)) := by
 have hmx := hA.max
 have one0 := hA.isOne
 obtain ⟨va, vc, rfl⟩ := hA.len
 refine FnS.enter Try.func41 Try.ntmps41 rfl rfl (fun w0 => ?_)
 refine TC.seq (TC.region (TL.run (pr_pure rfl) rfl (TL.nil (TX.seqN (TC.seq (TC.seq (TC.region ?_)))))))
 refine TL.run (pr_pure rfl) rfl (TL.run (pr_lenSl rfl rfl hA) rfl (TL.run (pr_pure rfl) rfl (TL.run (pr_pure rfl) rfl ?_)))
 refine TL.split (s := 11) rfl (fun g11 => ?_) (fun g11 => ?_)
 ·
  have q11 := of_decide_eq_true g11
  refine TL.gdN rfl rfl rfl rfl (TL.gdN rfl rfl rfl rfl (TL.gdN rfl rfl rfl rfl (TL.run (pr_pure rfl) rfl (TL.nil (TX.seqN (TC.condT rfl (TC.seq ?_)))))))
  refine TC.region (TL.run (pr_pure rfl) rfl (TL.nil (TX.seqN (TC.ret (TX.thenR (TX.finS (.inr rfl) (results1 rfl (RVal.tmp rfl)) (congrArg Value.bool (arms_len (by omega)))))))))
 ·
  have q11 := of_decide_eq_false g11
  refine TL.gdY rfl rfl (pr_pure rfl) rfl (TL.gdY rfl rfl (pr_lenSl rfl rfl hA) rfl (TL.gdY rfl rfl (pr_pure rfl) rfl (TL.run (pr_pure rfl) rfl (TL.nil (TX.seqN ?_)))))
  refine TC.condD rfl (fun c15 => ?_) (fun c15 => ?_)
  ·
   refine TC.seq (TC.region (TL.run (pr_pure rfl) rfl (TL.nil (TX.seqN (TC.ret (TX.thenR (TX.finS (.inr rfl) (results1 rfl (RVal.tmp rfl)) (congrArg Value.bool (arms_len (by omega))))))))))
  ·
   have hlen : 1 ≤ l.length ∧ l.length ≤ 6 := by omega
   refine TC.skip (TX.seqN (TC.seq (TC.region ?_)))
   refine TL.mapMake rfl (fun bm w1 hM1 => ?_)
   refine TL.run (pr_pure rfl) rfl (TL.nil (TX.seqN (TC.seq (TC.seq (TC.region (TL.run (pr_pure rfl) rfl (TL.run (pr_lenSl rfl rfl hA) rfl ?_)))))))
   refine TL.run (pr_pure rfl) rfl (TL.nil (TX.seqN (TC.block ?_)))
   refine TC.loop (V := fun k => [(19, .int .i64 k)]) (K := [(1, _), (4, _), (5, _), (17, _), (18, _)]) (L := fun k => StM [] w0 H H [] bm ((l.take k.toNat).map (·.label))) (I := fun k => (0 ≤ k ∧ k ≤ l.length) ∧ (l.take k.toNat).all (armB n) = true ∧ ((l.take k.toNat).map (·.label)).Nodup) (μ := fun k => (l.length - k).toNat) (i := (0 : Int)) ⟨rfl, rfl, rfl, rfl, rfl, rfl, trivial⟩ ⟨⟨by omega, by omega⟩, rfl, List.nodup_nil⟩ (fun w hw => hM1.over hw) (fun k hI => ?_)
   obtain ⟨⟨k0, k1⟩, hal, hnd⟩ := hI
   refine TC.rebase (fun w2 hM2 => ?_)
   refine TC.seq (TC.region (TL.run (pr_pure rfl) rfl (TL.nil (TX.seqN (TC.seq ?_)))))
   refine TC.condD rfl (fun c20 => ?_) (fun c20 => ?_)
   ·
    obtain ⟨x, hx⟩ := getSome (l := l) k0 c20
    refine TC.skip (TX.seqN (TC.seq (TC.block (TC.seq (TC.region (TL.run (pr_indexSl rfl hA rfl (by omega) (by omega)) rfl (TL.run (pr_elA hA hx rfl rfl) rfl ?_)))))))
    refine TL.alloc rfl (fun b7 => ?_)
    refine TL.storeA rfl rfl rfl rfl rfl (.here _) rfl rfl ?_
    refine TL.nil (TX.seqN (TC.seq ?_))
    refine TC.sw (!armB n x || decide (x.label ∈ ((l.take k.toNat).map (·.label)))) 49 [(1, _), (4, _), (5, _), (7, _), (17, _), (18, _), (19, _), (20, _), (21, _), (22, _)] ⟨rfl, rfl, rfl, rfl, rfl, rfl, rfl, rfl, rfl, rfl, trivial⟩ ?_ ?_
    ·
     refine TC.region (TL.run (pr_field rfl) rfl (TL.run (pr_own1 rfl (.here _) rfl) rfl ?_))
     refine TL.callS (enters rfl rfl rfl rfl) (n_MayU_ok x.label) rfl ?_
     refine TL.run (pr_pure rfl) rfl (TL.run (pr_pure rfl) rfl ?_)
     refine TL.split (s := 27) rfl (fun g27 => ?_) (fun g27 => ?_)
     ·
      refine TL.gdN rfl rfl rfl rfl (TL.gdN rfl rfl rfl rfl (TL.gdN rfl rfl rfl rfl (TL.gdN rfl rfl rfl rfl (TL.run (pr_pure rfl) rfl (TL.run (pr_pure rfl) rfl (TL.gdN rfl rfl rfl rfl (TL.gdN rfl rfl rfl rfl ?_)))))))
      refine TL.gdN rfl rfl rfl rfl (TL.gdN rfl rfl rfl rfl (TL.run (pr_pure rfl) rfl (TL.run (pr_pure rfl) rfl (TL.gdN rfl rfl rfl rfl (TL.gdN rfl rfl rfl rfl (TL.gdN rfl rfl rfl rfl (TL.run (pr_pure rfl) rfl ?_)))))))
      refine TL.run (pr_pure rfl) rfl (TL.gdN rfl rfl rfl rfl (TL.gdN rfl rfl rfl rfl (TL.gdN rfl rfl rfl rfl (TL.gdN rfl rfl rfl rfl (TL.run (pr_pure rfl) rfl (TL.nil (TX.sw rfl (by unfold armB; first | (simp_all; done) | (simp_all; omega)) ⟨rfl, rfl, rfl, rfl, rfl, rfl, rfl, rfl, rfl, rfl, trivial⟩)))))))
     ·
      refine TL.gdY rfl rfl (pr_pure rfl) rfl (TL.gdY rfl rfl (pr_field rfl) rfl (TL.gdY rfl rfl (pr_own1 rfl (.here _) rfl) rfl (TL.gdY rfl rfl (pr_mapGet hM2 rfl rfl) rfl (TL.run (pr_pure rfl) rfl (TL.run (pr_pure rfl) rfl ?_)))))
      refine TL.split (s := 33) rfl (fun g33 => ?_) (fun g33 => ?_)
      ·
       refine TL.gdN rfl rfl rfl rfl (TL.gdN rfl rfl rfl rfl (TL.gdN rfl rfl rfl rfl (TL.gdN rfl rfl rfl rfl (TL.run (pr_pure rfl) rfl (TL.run (pr_pure rfl) rfl (TL.gdN rfl rfl rfl rfl (TL.gdN rfl rfl rfl rfl ?_)))))))
       refine TL.gdN rfl rfl rfl rfl (TL.run (pr_pure rfl) rfl (TL.run (pr_pure rfl) rfl (TL.gdN rfl rfl rfl rfl (TL.gdN rfl rfl rfl rfl (TL.gdN rfl rfl rfl rfl (TL.gdN rfl rfl rfl rfl (TL.run (pr_pure rfl) rfl ?_)))))))
       refine TL.nil (TX.sw rfl (by unfold armB; first | (simp_all; done) | (simp_all; omega)) ⟨rfl, rfl, rfl, rfl, rfl, rfl, rfl, rfl, rfl, rfl, trivial⟩)
      ·
       refine TL.gdY rfl rfl (pr_field rfl) rfl (TL.gdY rfl rfl (pr_ownQ rfl (.here _) rfl) rfl ?_)
       refine TL.callSY rfl rfl (enters rfl rfl rfl rfl) (tCarries_ok x.ck x.cn (hz x (List.mem_of_getElem? hx)) hM) rfl ?_
       refine TL.gdY rfl rfl (pr_pure rfl) rfl (TL.run (pr_pure rfl) rfl (TL.run (pr_pure rfl) rfl ?_))
       refine TL.split (s := 39) rfl (fun g39 => ?_) (fun g39 => ?_)
       ·
        refine TL.gdN rfl rfl rfl rfl (TL.gdN rfl rfl rfl rfl (TL.gdN rfl rfl rfl rfl (TL.run (pr_pure rfl) rfl (TL.run (pr_pure rfl) rfl (TL.gdN rfl rfl rfl rfl (TL.gdN rfl rfl rfl rfl (TL.gdN rfl rfl rfl rfl ?_)))))))
        refine TL.gdN rfl rfl rfl rfl (TL.run (pr_pure rfl) rfl (TL.nil (TX.sw rfl (by unfold armB; first | (simp_all; done) | (simp_all; omega)) ⟨rfl, rfl, rfl, rfl, rfl, rfl, rfl, rfl, rfl, rfl, trivial⟩)))
       ·
        refine TL.gdY rfl rfl (pr_field rfl) rfl (TL.gdY rfl rfl (pr_own1 rfl (.here _) rfl) rfl (TL.gdY rfl rfl (pr_pure rfl) rfl (TL.run (pr_pure rfl) rfl (TL.run (pr_pure rfl) rfl ?_))))
        refine TL.split (s := 44) rfl (fun g44 => ?_) (fun g44 => ?_)
        ·
         have q44 := of_decide_eq_true g44
         refine TL.gdN rfl rfl rfl rfl (TL.gdN rfl rfl rfl rfl (TL.gdN rfl rfl rfl rfl (TL.gdN rfl rfl rfl rfl (TL.run (pr_pure rfl) rfl (TL.nil (TX.sw rfl (by unfold armB; first | (simp_all; done) | (simp_all; omega)) ⟨rfl, rfl, rfl, rfl, rfl, rfl, rfl, rfl, rfl, rfl, trivial⟩))))))
        ·
         have q44 := of_decide_eq_false g44
         refine TL.gdY rfl rfl (pr_field rfl) rfl (TL.gdY rfl rfl (pr_own1 rfl (.here _) rfl) rfl (TL.gdY rfl rfl (pr_pure rfl) rfl (TL.gdY rfl rfl (pr_pure rfl) rfl (TL.run (pr_pure rfl) rfl (TL.nil (TX.sw rfl (by unfold armB; first | (simp_all; done) | (simp_all; omega)) ⟨rfl, rfl, rfl, rfl, rfl, rfl, rfl, rfl, rfl, rfl, trivial⟩))))))
    refine TC.cond rfl (fun c49 => ?_) (fun c49 => ?_)
    ·
     refine TC.seq (TC.region (TL.run (pr_pure rfl) rfl (TL.nil (TX.seqN (TC.ret (TX.thenR (TX.blkR ?_)))))))
     refine TX.thenR (TX.thenR (TX.blkR (TX.thenR (TX.unbase hM2 (TX.finS (.inr rfl) (results1 rfl (RVal.tmp rfl)) (congrArg Value.bool (arms_bad k0 hx (by simpa using c49))))))))
    ·
     have h49 : armB n x = true ∧ x.label ∉ ((l.take k.toNat).map (·.label)) := by simpa using c49
     refine TC.skip (TX.seqN (TC.region (TL.run (pr_pure rfl) rfl (TL.run (pr_field rfl) rfl (TL.run (pr_own1 rfl (.here _) rfl) rfl ?_)))))
     refine TL.mapPut rfl rfl rfl h49.2 rfl hM2 ?_
     refine TL.nil (TX.blkN (TX.seqN (TC.region (TL.run ((by first | exact pr_add rfl rfl (by omega) (by omega) | exact pr_pure rfl)) rfl (TL.run (pr_pure rfl) rfl (TL.nil (TX.round (k + 1) ⟨⟨by omega, by omega⟩, by rw [take_snoc k0 hx, List.all_append, hal, List.all_cons, h49.1]; rfl, nodup_snoc k0 hx hnd h49.2⟩ ⟨rfl, rfl, rfl, rfl, rfl, rfl, trivial⟩ (fun w hw => by rw [map_take_snoc k0 hx]; exact hw.drop) (by omega))))))))
   ·
    refine TC.exit (TX.thenE (TX.thenE (TX.blkHit (TX.seqN (TC.seq (TC.region (TL.run (pr_pure rfl) rfl ?_)))))))
    refine TL.nil (TX.seqN (TC.ret (TX.unbase hM2 (TX.finS (.inr rfl) (results1 rfl (RVal.tmp rfl)) (congrArg Value.bool (arms_end hlen k0 c20 hal hnd))))))

set_option maxRecDepth 100000 in
set_option maxHeartbeats 4000000 in
theorem tMay_ok {H : Hp} (l : SLocal) (hl : LocalOk H l) (hM : MaxG H) :
  FnS Try.prog 25 [.agg l.cells.toArray] H (.bool (localB l)) := by
 have ht := hl.t
 have hmt := ht.max
 refine FnS.enter Try.func25 Try.ntmps25 rfl rfl (fun w0 => ?_)
 refine TC.seq (TC.region ?_)
 refine TL.box rfl rfl (fun b1 => ?_)
 refine TL.run (pr_pure rfl) rfl (TL.nil (TX.seqN (TC.seq (TC.seq (TC.region (TL.run (pr_field rfl) rfl (TL.run (pr_own1 rfl (.here _) rfl) rfl ?_)))))))
 refine TL.run (pr_lenSl rfl rfl ht) rfl (TL.run (pr_pure rfl) rfl (TL.run (pr_pure rfl) rfl ?_))
 refine TL.split (s := 9) rfl (fun g9 => ?_) (fun g9 => ?_)
 ·
  have q9 := of_decide_eq_true g9
  refine TL.gdN rfl rfl rfl rfl (TL.gdN rfl rfl rfl rfl (TL.gdN rfl rfl rfl rfl (TL.gdN rfl rfl rfl rfl (TL.run (pr_pure rfl) rfl (TL.nil (TX.seqN (TC.condT rfl ?_)))))))
  refine TC.seq (TC.region (TL.run (pr_pure rfl) rfl (TL.nil (TX.seqN (TC.ret (TX.thenR (TX.finS (.inr rfl) (results1 rfl (RVal.tmp rfl)) (congrArg Value.bool (local_len (by omega))))))))))
 ·
  have q9 := of_decide_eq_false g9
  refine TL.gdY rfl rfl (pr_field rfl) rfl (TL.gdY rfl rfl (pr_own1 rfl (.here _) rfl) rfl (TL.gdY rfl rfl (pr_lenSl rfl rfl ht) rfl (TL.gdY rfl rfl (pr_pure rfl) rfl (TL.run (pr_pure rfl) rfl (TL.nil (TX.seqN ?_))))))
  refine TC.condD rfl (fun c14 => ?_) (fun c14 => ?_)
  ·
   refine TC.seq (TC.region (TL.run (pr_pure rfl) rfl (TL.nil (TX.seqN (TC.ret (TX.thenR (TX.finS (.inr rfl) (results1 rfl (RVal.tmp rfl)) (congrArg Value.bool (local_len (by omega))))))))))
  ·
   have hlen : 1 ≤ l.turns.length ∧ l.turns.length ≤ 40 := by omega
   refine TC.skip (TX.seqN (TC.seq (TC.seq (TC.region (TL.run (pr_field rfl) rfl (TL.run (pr_own1 rfl (.here _) rfl) rfl (TL.run (pr_lenSl rfl rfl ht) rfl ?_)))))))
   refine TL.run (pr_pure rfl) rfl (TL.nil (TX.seqN (TC.block ?_)))
   refine TC.loop (V := fun k => [(18, .int .i64 k)]) (K := [(1, _), (2, _), (16, _), (17, _)]) (L := fun k => _) (I := fun k => (0 ≤ k ∧ k ≤ l.turns.length) ∧ l.turns.all (turnB l.turns.length) = (l.turns.drop k.toNat).all (turnB l.turns.length)) (μ := fun k => (l.turns.length - k).toNat) (i := (0 : Int)) ⟨rfl, rfl, rfl, rfl, rfl, trivial⟩ ⟨⟨by omega, by omega⟩, rfl⟩ (fun w hw => hw) (fun k hI => ?_)
   obtain ⟨⟨k0, k1⟩, hal⟩ := hI
   refine TC.seq (TC.region (TL.run (pr_pure rfl) rfl (TL.nil (TX.seqN (TC.seq ?_)))))
   refine TC.condD rfl (fun c19 => ?_) (fun c19 => ?_)
   ·
    obtain ⟨x, hx⟩ := getSome (l := l.turns) k0 c19
    have hT := hl.ts x (List.mem_of_getElem? hx)
    refine TC.skip (TX.seqN (TC.seq (TC.block (TC.seq (TC.region (TL.run (pr_indexSl rfl ht rfl (by omega) (by omega)) rfl (TL.run (pr_elA ht hx rfl rfl) rfl ?_)))))))
    refine TL.alloc rfl (fun b4 => ?_)
    refine TL.storeA rfl rfl rfl rfl rfl (.here _) rfl rfl ?_
    refine TL.nil (TX.seqN (TC.seq (TC.region (TL.run (pr_field rfl) rfl (TL.run (pr_own1 rfl (.here _) rfl) rfl (TL.nil (TX.seqN ?_)))))))
    refine TC.block ?_
    refine TC.sw (decide (x.kind = 0)) 24 [(1, _), (2, _), (4, _), (16, _), (17, _), (18, _), (19, _), (20, _), (21, _), (22, _), (23, _)] ⟨rfl, rfl, rfl, rfl, rfl, rfl, rfl, rfl, rfl, rfl, rfl, trivial⟩ ?_ ?_
    ·
     exact TC.swE (pr_pure rfl) rfl rfl ⟨rfl, rfl, rfl, rfl, rfl, rfl, rfl, rfl, rfl, rfl, rfl, trivial⟩
    refine TC.condD rfl (fun c24 => ?_) (fun c24 => ?_)
    ·
     refine TC.seq (TC.region (TL.run (pr_field rfl) rfl (TL.run (pr_own1 rfl (.here _) rfl) rfl (TL.run (pr_str rfl rfl rfl) rfl (TL.run (pr_pure rfl) rfl ?_)))))
     refine TL.split (s := 29) rfl (fun g29 => ?_) (fun g29 => ?_)
     ·
      have q29 := of_ndec_true g29
      refine TL.gdN rfl rfl rfl rfl (TL.gdN rfl rfl rfl rfl (TL.gdN rfl rfl rfl rfl (TL.gdN rfl rfl rfl rfl (TL.run (pr_pure rfl) rfl (TL.nil (TX.seqN (TC.condT rfl ?_)))))))
      refine TC.seq (TC.region (TL.run (pr_pure rfl) rfl (TL.nil (TX.seqN (TC.ret (TX.blkR (TX.blkR ?_)))))))
      refine TX.thenR (TX.thenR (TX.blkR (TX.thenR (TX.finS (.inr rfl) (results1 rfl (RVal.tmp rfl)) (congrArg Value.bool (local_bad k0 hx (by unfold turnB; simp_all) hal))))))
     ·
      have q29 := of_ndec_false g29
      refine TL.gdY rfl rfl (pr_field rfl) rfl (TL.gdY rfl rfl (pr_own1 rfl (.here _) rfl) rfl (TL.gdY rfl rfl (pr_lenSl rfl rfl hT.a) rfl (TL.gdY rfl rfl (pr_pure rfl) rfl (TL.run (pr_pure rfl) rfl (TL.nil (TX.seqN ?_))))))
      refine TC.condD rfl (fun c34 => ?_) (fun c34 => ?_)
      ·
       refine TC.seq (TC.region (TL.run (pr_pure rfl) rfl (TL.nil (TX.seqN (TC.ret (TX.blkR (TX.blkR ?_)))))))
       refine TX.thenR (TX.thenR (TX.blkR (TX.thenR (TX.finS (.inr rfl) (results1 rfl (RVal.tmp rfl)) (congrArg Value.bool (local_bad k0 hx (by unfold turnB; simp_all) hal))))))
      ·
       refine TC.skip (TX.blkN (TX.blkN (TX.seqN (TC.region (TL.run ((by first | exact pr_add rfl rfl (by omega) (by omega) | exact pr_pure rfl)) rfl (TL.run (pr_pure rfl) rfl (TL.nil ?_)))))))
       exact TX.round (k + 1) ⟨⟨by omega, by omega⟩, all_next (p := (turnB l.turns.length)) k0 hx (by unfold turnB; simp_all) hal⟩ ⟨rfl, rfl, rfl, rfl, rfl, trivial⟩ (fun w hw => hw.drop) (by omega)
    ·
     refine TC.sw (decide (x.kind = 1) || decide (x.kind = 2)) 35 [(1, _), (2, _), (4, _), (16, _), (17, _), (18, _), (19, _), (20, _), (21, _), (22, _), (23, _), (24, _)] ⟨rfl, rfl, rfl, rfl, rfl, rfl, rfl, rfl, rfl, rfl, rfl, rfl, trivial⟩ ?_ ?_
     ·
      refine TC.swG (pr_pure rfl) rfl rfl ⟨rfl, rfl, rfl, rfl, rfl, rfl, rfl, rfl, rfl, rfl, rfl, rfl, trivial⟩ ?_
      exact TC.swE (pr_pure rfl) rfl rfl ⟨rfl, rfl, rfl, rfl, rfl, rfl, rfl, rfl, rfl, rfl, rfl, rfl, trivial⟩
     refine TC.cond rfl (fun c35 => ?_) (fun c35 => ?_)
     ·
      refine TC.seq (TC.region (TL.run (pr_field rfl) rfl (TL.run (pr_own1 rfl (.here _) rfl) rfl ?_)))
      refine TL.callS (enters rfl rfl rfl rfl) (n_MayU_ok x.peer) rfl ?_
      refine TL.run (pr_pure rfl) rfl (TL.run (pr_pure rfl) rfl ?_)
      refine TL.split (s := 42) rfl (fun g42 => ?_) (fun g42 => ?_)
      ·
       refine TL.gdN rfl rfl rfl rfl (TL.gdN rfl rfl rfl rfl (TL.gdN rfl rfl rfl rfl (TL.gdN rfl rfl rfl rfl (TL.gdN rfl rfl rfl rfl (TL.gdN rfl rfl rfl rfl (TL.gdN rfl rfl rfl rfl (TL.run (pr_pure rfl) rfl ?_)))))))
       refine TL.nil (TX.seqN (TC.condT rfl (TC.seq (TC.region (TL.run (pr_pure rfl) rfl (TL.nil (TX.seqN ?_)))))))
       refine TC.ret (TX.blkR (TX.blkR (TX.thenR (TX.thenR (TX.blkR (TX.thenR (TX.finS (.inr rfl) (results1 rfl (RVal.tmp rfl)) (congrArg Value.bool (local_bad k0 hx (by unfold turnB; simp_all) hal)))))))))
      ·
       refine TL.gdY rfl rfl (pr_field rfl) rfl (TL.gdY rfl rfl (pr_own1 rfl (.here _) rfl) rfl (TL.gdY rfl rfl (pr_field rfl) rfl (TL.gdY rfl rfl (pr_own1 rfl (.there _ (.here _)) rfl) rfl (TL.gdY rfl rfl (pr_lenSl rfl rfl ht) rfl ?_))))
       refine TL.callSY rfl rfl (enters rfl rfl rfl rfl) (tArms_ok _ hT.a hT.z hM) rfl ?_
       refine TL.gdY rfl rfl (pr_pure rfl) rfl (TL.run (pr_pure rfl) rfl (TL.nil (TX.seqN ?_)))
       refine TC.cond rfl (fun c50 => ?_) (fun c50 => ?_)
       ·
        refine TC.seq (TC.region (TL.run (pr_pure rfl) rfl (TL.nil (TX.seqN (TC.ret (TX.blkR (TX.blkR ?_)))))))
        refine TX.thenR (TX.thenR (TX.blkR (TX.thenR (TX.finS (.inr rfl) (results1 rfl (RVal.tmp rfl)) (congrArg Value.bool (local_bad k0 hx (by unfold turnB; simp_all) hal))))))
       ·
        refine TC.skip (TX.blkN (TX.blkN (TX.seqN (TC.region (TL.run ((by first | exact pr_add rfl rfl (by omega) (by omega) | exact pr_pure rfl)) rfl (TL.run (pr_pure rfl) rfl (TL.nil ?_)))))))
        exact TX.round (k + 1) ⟨⟨by omega, by omega⟩, all_next (p := (turnB l.turns.length)) k0 hx (by unfold turnB; simp_all) hal⟩ ⟨rfl, rfl, rfl, rfl, rfl, trivial⟩ (fun w hw => hw.drop) (by omega)
     ·
      refine TC.seq (TC.region (TL.run (pr_pure rfl) rfl (TL.nil (TX.seqN (TC.ret (TX.blkR (TX.blkR ?_)))))))
      refine TX.thenR (TX.thenR (TX.blkR (TX.thenR (TX.finS (.inr rfl) (results1 rfl (RVal.tmp rfl)) (congrArg Value.bool (local_bad k0 hx (by unfold turnB; simp_all) hal))))))
   ·
    refine TC.exit (TX.thenE (TX.thenE (TX.blkHit (TX.seqN (TC.seq (TC.region (TL.run (pr_pure rfl) rfl ?_)))))))
    refine TL.nil (TX.seqN (TC.ret (TX.finS (.inr rfl) (results1 rfl (RVal.tmp rfl)) (congrArg Value.bool (local_end hlen k0 c19 hal)))))

set_option maxRecDepth 100000 in
set_option maxHeartbeats 1000000 in
theorem sCarries_ok {H : Hp} (ck : Int) (cn : Str) (hn : cn.length ≤ 4294960000) (hM : MaxG H) :
  FnS Try.prog 26 [.agg #[.int .i64 ck, gs cn]] H (.bool (carriesB ck cn)) := by
 refine FnS.enter Try.func26 Try.ntmps26 rfl rfl (fun w0 => ?_)
 refine TC.seq (TC.region ?_)
 refine TL.box rfl rfl (fun b1 => ?_)
 refine TL.run (pr_pure rfl) rfl (TL.nil (TX.seqN (TC.seq (TC.region (TL.run (pr_ownA rfl (.here _) rfl) rfl (TL.run (pr_build rfl rfl) rfl ?_))))))
 refine TL.bslice rfl rfl rfl rfl (fun b5 => ?_)
 refine TL.run (pr_build rfl rfl) rfl ?_
 refine TL.bslice rfl rfl rfl rfl (fun b7 => ?_)
 refine TL.run (pr_build rfl rfl) rfl ?_
 refine TL.front (.there _ (.here _)) ?_
 refine TL.pub (by simp) (fun H_b5 le_b5 rd_b5 => ?_)
 replace hM := hM.le le_b5
 have hA5 : RdSl H_b5 4 SArm.cells _ ([⟨[120], ck, cn, 0⟩]) := RdSl.blk (cap := 1) rd_b5 (by intro x hx; rfl) (by kernel_rfl) (by show 1 ≤ 9223372036854775807; decide)
 refine TL.pub (by simp) (fun H_b7 le_b7 rd_b7 => ?_)
 replace hM := hM.le le_b7
 replace hA5 := hA5.le le_b7
 have hT7 : RdSl H_b7 3 STurn.cells _ ([⟨1, [120], [⟨[120], ck, cn, 0⟩], (some ⟨b5, 0, none⟩, 1)⟩]) := RdSl.blk (cap := 1) rd_b7 (by intro x hx; rfl) (by kernel_rfl) (by show 1 ≤ 9223372036854775807; decide)
 refine TL.callS (enters rfl rfl rfl rfl) (tMay_ok ⟨[], [⟨1, [120], [⟨[120], ck, cn, 0⟩], (some ⟨b5, 0, none⟩, 1)⟩], (some ⟨b7, 0, none⟩, 1)⟩ ⟨hT7, by intro t ht; simp at ht; subst ht; exact ⟨hA5, by intro a ha; simp at ha; subst ha; exact hn⟩⟩ hM) rfl ?_
 refine TL.run (pr_pure rfl) rfl (TL.nil (TX.seqN (TC.ret (TX.finS (.inr rfl) (results1 rfl (RVal.tmp rfl)) (congrArg Value.bool (carries_local ck cn _ _))))))
end Go.Sx

set_option linter.unusedVariables false
set_option linter.unusedSimpArgs false
namespace Go.Sx
open Go Go.Proofs
set_option maxRecDepth 100000 in
set_option maxHeartbeats 1000000 in
theorem sTree_ok {H : Hp} {l : List Term} {v : Value} (root : Int) (hT : RdSl H 6 Term.cells v l) (hm : mayB l root = true) :
  FnO Try.prog 32 [v, .int .i64 root] H (fun r H1 ob => OwnSl 1 I64.cells r (postS l root) ob) := by
 have one1 := hT.isOne
 have hvl := mayB_post hm
 refine FnO.enter Try.func32 Try.ntmps32 rfl rfl (fun w0 => ?_)
 refine TC.seq (TC.region ?_)
 refine TL.box1 rfl rfl (fun b2 => ?_)
 refine TL.run (pr_pure rfl) rfl (TL.nil (TX.seqN (TC.seq (TC.region ?_))))
 refine TL.alloc rfl (fun b5 => ?_)
 refine TL.nil (TX.seqN (TC.seq (TC.region ?_)))
 refine TL.alloc rfl (fun b6 => ?_)
 refine TL.nil (TX.seqN (TC.seq (TC.region (TL.run (pr_pure rfl) rfl ?_))))
 refine TL.storeV rfl rfl rfl (.here _) rfl ?_
 refine TL.nil (TX.seqN (TC.seq (TC.region ?_)))
 refine TL.pub (by simp) (fun H_b6 le_b6 rd_b6 => ?_)
 refine TL.front (.there _ (.here _)) ?_
 refine TL.pub (by simp) (fun H_b2 le_b2 rd_b2 => ?_)
 have hT2 := (hT.le le_b6).le le_b2
 have hl : H_b2 b2 0 = some v := rd_b2 0 _ rfl
 have hw := le_b2 _ _ _ (rd_b6 0 _ rfl)
 refine TL.run (pr_hp1 rfl hw) rfl (TL.run (pr_pure rfl) rfl ?_)
 refine TL.callX0 (L1 := (b5, [.slice none 0 0]) :: []) (enters rfl rfl rfl rfl) (postW_ok hT2 hl hw (root.toNat + 1) root (.inr (mayB_Tr hm)) _ [] [] OwnSl.nil (by simp; omega)) rfl (fun v10 H10 L10 hle10 hp10 => ?_)
 obtain ⟨rfl, rfl, u10, ob10, rfl, hO10⟩ := hp10
 rw [List.nil_append] at hO10
 obtain ⟨ua10, uc10, rfl⟩ := hO10.form
 refine TL.nil (TX.seqN (TC.seq (TC.region (TL.run (pr_own1 rfl (.here _) rfl) rfl (TL.run (pr_pure rfl) rfl (TL.nil (TX.seqN ?_)))))))
 refine TC.ret (TX.finO (.inr rfl) (results1 rfl (RVal.tmp rfl)) (.skip _ .all) hO10)

set_option maxRecDepth 100000 in
set_option maxHeartbeats 1000000 in
theorem calls_ok {H : Hp} {pg : SProg} (s : Str) (n : Int) (hP : ProgOk H pg) :
  FnS Try.prog 50 [.agg pg.cells.toArray, gs s, .int .i64 n] H (.bool (callsB pg.procs s n)) := by
 have hq := hP.q
 have hmax := hq.max
 refine FnS.enter Try.func50 Try.ntmps50 rfl rfl (fun w0 => ?_)
 refine TC.seq (TC.region ?_)
 refine TL.box rfl rfl (fun b3 => ?_)
 refine TL.run (pr_pure rfl) rfl (TL.nil (TX.seqN (TC.seq (TC.region (TL.run (pr_ownA rfl (.here _) rfl) rfl (TL.run (pr_pure rfl) rfl ?_))))))
 refine TL.callS (enters rfl rfl rfl rfl) (sFind_ok s hP) rfl ?_
 refine TL.run (pr_pure rfl) rfl (TL.nil (TX.seqN (TC.seq (TC.region (TL.run (pr_pure rfl) rfl (TL.run (pr_pure rfl) rfl (TL.run (pr_pure rfl) rfl ?_)))))))
 refine TL.split (s := 13) rfl (fun g13 => ?_) (fun g13 => ?_)
 ·
  have q13 := of_decide_eq_true g13
  have hfr := find_range pg.procs s
  obtain ⟨x, hx⟩ := getSome (l := pg.procs) (i := findS pg.procs s) (by omega) (by omega)
  have hxp := (hP.qs x (List.mem_of_getElem? hx)).pa.max
  refine TL.gdY rfl rfl (pr_field rfl) rfl (TL.gdY rfl rfl (pr_own1 rfl (.here _) rfl) rfl (TL.gdY rfl rfl (pr_pure rfl) rfl (TL.gdY rfl rfl (pr_indexSl rfl hq rfl (by omega) (by omega)) rfl (TL.gdY rfl rfl (pr_field rfl) rfl (TL.gdY rfl rfl (pr_el1 hq hx rfl rfl) rfl (TL.gdY rfl rfl (pr_lenSl rfl rfl (hP.qs x (List.mem_of_getElem? hx)).pa) rfl (TL.gdY rfl rfl (pr_pure rfl) rfl ?_)))))))
  refine TL.gdY rfl rfl (pr_pure rfl) rfl (TL.run (pr_pure rfl) rfl (TL.run (pr_pure rfl) rfl (TL.nil (TX.seqN (TC.ret (TX.finS (.inr rfl) (results1 rfl (RVal.tmp rfl)) (congrArg Value.bool (by unfold callsB getP; first | (rw [hx]; simp_all; done) | (simp_all; done) | (simp_all; omega)))))))))
 ·
  have q13 := of_decide_eq_false g13
  refine TL.gdN rfl rfl rfl rfl (TL.gdN rfl rfl rfl rfl (TL.gdN rfl rfl rfl rfl (TL.gdN rfl rfl rfl rfl (TL.gdN rfl rfl rfl rfl (TL.gdN rfl rfl rfl rfl (TL.gdN rfl rfl rfl rfl (TL.gdN rfl rfl rfl rfl ?_)))))))
  refine TL.gdN rfl rfl rfl rfl (TL.run (pr_pure rfl) rfl (TL.run (pr_pure rfl) rfl (TL.nil (TX.seqN (TC.ret (TX.finS (.inr rfl) (results1 rfl (RVal.tmp rfl)) (congrArg Value.bool (by unfold callsB getP; first | (rw [hx]; simp_all; done) | (simp_all; done) | (simp_all; omega)))))))))

set_option maxRecDepth 100000 in
set_option maxHeartbeats 4000000 in
theorem opens_ok {H : Hp} {pg : SProg} (s : SStep) (hP : ProgOk H pg) (hs : StepOk H s) (hl : s.casts.length ≤ 4) :
  FnS Try.prog 51 [.agg pg.cells.toArray, .agg s.cells.toArray] H (.bool (opensB pg s)) := by
 have hr := hP.r
 have hrm := hr.max
 have hc := hs.c
 refine FnS.enter Try.func51 Try.ntmps51 rfl rfl (fun w0 => ?_)
 refine TC.seq (TC.region ?_)
 refine TL.box rfl rfl (fun b2 => ?_)
 refine TL.box rfl rfl (fun b3 => ?_)
 refine TL.run (pr_pure rfl) rfl (TL.nil (TX.seqN (TC.seq (TC.seq (TC.region (TL.run (pr_field rfl) rfl (TL.run (pr_own1 rfl (.there _ (.here _)) rfl) rfl ?_)))))))
 refine TL.run (pr_lenSl rfl rfl hr) rfl (TL.run (pr_pure rfl) rfl (TL.nil (TX.seqN (TC.block ?_))))
 refine TC.loop (V := fun k => [(15, .int .i64 k)]) (K := [(3, _), (4, _), (13, _), (14, _)]) (L := fun k => _) (I := fun k => (0 ≤ k ∧ k ≤ pg.protos.length) ∧ opensB pg s = opensGo s (pg.protos.drop k.toNat)) (μ := fun k => (pg.protos.length - k).toNat) (i := (0 : Int)) ⟨rfl, rfl, rfl, rfl, rfl, trivial⟩ ⟨⟨by omega, by omega⟩, rfl⟩ (fun w hw => hw) (fun k hI => ?_)
 obtain ⟨⟨k0, k1⟩, hop⟩ := hI
 have hk0 := k0
 refine TC.seq (TC.region (TL.run (pr_pure rfl) rfl (TL.nil (TX.seqN (TC.seq ?_)))))
 refine TC.condD rfl (fun c16 => ?_) (fun c16 => ?_)
 ·
  obtain ⟨x, hx⟩ := getSome (l := pg.protos) k0 c16
  have hxr := (hP.rs x (List.mem_of_getElem? hx)).r.max
  refine TC.skip (TX.seqN (TC.seq (TC.block (TC.seq (TC.region (TL.run (pr_indexSl rfl hr rfl (by omega) (by omega)) rfl (TL.run (pr_elA hr hx rfl rfl) rfl ?_)))))))
  refine TL.alloc rfl (fun b6 => ?_)
  refine TL.storeA rfl rfl rfl rfl rfl (.here _) rfl rfl ?_
  refine TL.nil (TX.seqN (TC.seq (TC.seq (TC.region (TL.run (pr_field rfl) rfl (TL.run (pr_own1 rfl (.here _) rfl) rfl (TL.run (pr_field rfl) rfl ?_)))))))
  refine TL.run (pr_own1 rfl (.there _ (.here _)) rfl) rfl (TL.run (pr_str rfl rfl rfl) rfl (TL.nil (TX.seqN ?_)))
  refine TC.condND rfl (fun c23 => ?_) (fun c23 => ?_)
  ·
   refine TC.exit (TX.thenE (TX.blkHit (TX.seqN (TC.region (TL.run ((by first | exact pr_add rfl rfl (by omega) (by omega) | exact pr_pure rfl)) rfl (TL.run (pr_pure rfl) rfl (TL.nil ?_)))))))
   exact TX.round (k + 1) ⟨⟨by omega, by omega⟩, opens_next k0 hx c23 hop⟩ ⟨rfl, rfl, rfl, rfl, rfl, trivial⟩ (fun w hw => hw.drop) (by omega)
  ·
   refine TC.skip (TX.seqN (TC.seq (TC.region (TL.run (pr_field rfl) rfl (TL.run (pr_own1 rfl (.there _ (.here _)) rfl) rfl ?_)))))
   refine TL.bslice rfl rfl rfl rfl (fun b26 => ?_)
   refine TL.run (pr_pure rfl) rfl (TL.nil (TX.seqN (TC.seq (TC.seq (TC.region (TL.run (pr_field rfl) rfl (TL.run (pr_own1 rfl (.there _ (.there _ (.here _))) rfl) rfl ?_)))))))
   refine TL.run (pr_lenSl rfl rfl hc) rfl (TL.run (pr_pure rfl) rfl (TL.nil (TX.seqN (TC.block ?_))))
   refine TC.loop4 (V := fun k v ob H1 => [(7, v), (30, .int .i64 k)]) (K := [(3, _), (4, _), (6, _), (13, _), (14, _), (15, _), (16, _), (17, _), (18, _), (19, _), (20, _), (21, _), (22, _), (23, _), (24, _), (25, _), (26, _), (27, _), (28, _), (29, _)]) (L := fun k v ob H1 => St [] w0 H H ((b6, _) :: (b3, _) :: (b2, _) :: ob)) (I := fun k v ob H1 => (0 ≤ k ∧ k ≤ s.casts.length) ∧ OwnSl 1 Str.cells v (s.peer :: (s.casts.take k.toNat).map (·.role)) ob) (μ := fun k => (s.casts.length - k).toNat) 0 (.slice (some ⟨b26, 0, none⟩) 1 1) [(b26, [gs s.peer])] H ⟨rfl, rfl, rfl, rfl, rfl, rfl, rfl, rfl, rfl, rfl, rfl, rfl, rfl, rfl, rfl, rfl, rfl, rfl, rfl, rfl, rfl, rfl, trivial⟩ ⟨⟨by omega, by omega⟩, OwnSl.blk (enc := Str.cells) [s.peer] rfl rfl (by simp)⟩ (fun w hw => hw.perm (List.perm_append_singleton _ _).symm) (fun k v ob H1 hI => ?_)
   obtain ⟨⟨k0, k1⟩, hO⟩ := hI
   obtain ⟨va, vc, rfl⟩ := hO.form
   refine TC.seq (TC.region (TL.run (pr_pure rfl) rfl (TL.nil (TX.seqN (TC.seq ?_)))))
   refine TC.condD rfl (fun c31 => ?_) (fun c31 => ?_)
   ·
    obtain ⟨y, hy⟩ := getSome (l := s.casts) k0 c31
    refine TC.skip (TX.seqN (TC.seq (TC.block (TC.seq (TC.region (TL.run (pr_indexSl rfl hc rfl (by omega) (by omega)) rfl (TL.run (pr_elA hc hy rfl rfl) rfl ?_)))))))
    refine TL.alloc rfl (fun b9 => ?_)
    refine TL.storeA rfl rfl rfl rfl rfl (.here _) rfl rfl ?_
    refine TL.nil (TX.seqN (TC.region (TL.run (pr_pure rfl) rfl (TL.run (pr_field rfl) rfl (TL.run (pr_own1 rfl (.here _) rfl) rfl ?_)))))
    refine TL.bslice rfl rfl rfl rfl (fun b37 => ?_)
    refine TL.append (enc := Str.cells) rfl rfl rfl hO (Src.own [y.role] (.here _) rfl rfl) (by simp; omega) rfl (.skip _ (.skip _ (.skip _ (.skip _ (.skip _ .all))))) rfl (fun a38 c38 ob38 hO38 => ?_)
    refine TL.run (pr_pure rfl) rfl (TL.nil (TX.blkN (TX.seqN (TC.region (TL.run ((by first | exact pr_add rfl rfl (by omega) (by omega) | exact pr_pure rfl)) rfl (TL.run (pr_pure rfl) rfl (TL.nil ?_)))))))
    exact TX.round4 (k + 1) _ ob38 H ⟨⟨by omega, by omega⟩, hO38.cast (by rw [map_take_snoc k0 hy]; rfl)⟩ ⟨rfl, rfl, rfl, rfl, rfl, rfl, rfl, rfl, rfl, rfl, rfl, rfl, rfl, rfl, rfl, rfl, rfl, rfl, rfl, rfl, rfl, rfl, trivial⟩ (fun w hw => hw.drop.drop) (by omega)
   ·
    refine TC.exit (TX.thenE (TX.thenE (TX.blkHit (TX.seqN (TC.seq ?_)))))
    refine TC.pubO hO (.skip _ (.skip _ (.skip _ .all))) (by simp) (fun HJ leJ hJ => ?_)
    replace hP := hP.le leJ
    replace hs := hs.le leJ
    have hJ2 := hJ.cast (show _ = castOf s by rw [take_all c31 k0]; rfl)
    clear hJ
    have hJm := hJ2.max
    refine TC.sw (!(decide (((castOf s).length : Int) = x.roles.length) && onceS (castOf s))) 50 [(3, _), (4, _), (6, _), (7, _), (13, _), (14, _), (15, _), (16, _), (17, _), (18, _), (19, _), (20, _), (21, _), (22, _), (23, _), (24, _), (25, _), (26, _), (27, _), (28, _), (29, _), (30, _), (31, _)] ⟨rfl, rfl, rfl, rfl, rfl, rfl, rfl, rfl, rfl, rfl, rfl, rfl, rfl, rfl, rfl, rfl, rfl, rfl, rfl, rfl, rfl, rfl, rfl, trivial⟩ ?_ ?_
    ·
     refine TC.region (TL.run (pr_pure rfl) rfl (TL.run (pr_lenSl rfl rfl hJ2) rfl (TL.run (pr_field rfl) rfl (TL.run (pr_own1 rfl (.here _) rfl) rfl (TL.run (pr_lenSl rfl rfl (hP.rs x (List.mem_of_getElem? hx)).r) rfl (TL.run (pr_pure rfl) rfl (TL.run (pr_pure rfl) rfl ?_)))))))
     refine TL.split (s := 46) rfl (fun g46 => ?_) (fun g46 => ?_)
     ·
      have q46 := of_ndec_true g46
      refine TL.gdN rfl rfl rfl rfl (TL.gdN rfl rfl rfl rfl (TL.gdN rfl rfl rfl rfl (TL.run (pr_pure rfl) rfl (TL.nil (TX.sw rfl (by first | (simp_all; done) | (simp_all; omega)) ⟨rfl, rfl, rfl, rfl, rfl, rfl, rfl, rfl, rfl, rfl, rfl, rfl, rfl, rfl, rfl, rfl, rfl, rfl, rfl, rfl, rfl, rfl, rfl, trivial⟩)))))
     ·
      have q46 := of_ndec_false g46
      refine TL.gdY rfl rfl (pr_pure rfl) rfl ?_
      refine TL.callSY rfl rfl (enters rfl rfl rfl rfl) (n_Once_ok hJ2) rfl ?_
      refine TL.gdY rfl rfl (pr_pure rfl) rfl (TL.run (pr_pure rfl) rfl (TL.nil (TX.sw rfl (by first | (simp_all; done) | (simp_all; omega)) ⟨rfl, rfl, rfl, rfl, rfl, rfl, rfl, rfl, rfl, rfl, rfl, rfl, rfl, rfl, rfl, rfl, rfl, rfl, rfl, rfl, rfl, rfl, rfl, trivial⟩)))
    refine TC.cond rfl (fun c50 => ?_) (fun c50 => ?_)
    ·
     refine TC.seq (TC.region (TL.run (pr_pure rfl) rfl (TL.nil (TX.seqN (TC.ret (TX.thenR (TX.blkR ?_)))))))
     refine TX.thenR (TX.thenR (TX.blkR (TX.thenR (TX.finS (.inr rfl) (results1 rfl (RVal.tmp rfl)) (congrArg Value.bool (by first | exact (opens_end k0 c16 hop).symm | exact (opens_1 hk0 hx c23 hop c50).symm | exact (opens_2 hk0 hx c23 hop c50 h1).symm))))))
    ·
     refine TC.skip (TX.seqN (TC.seq (TC.seq (TC.region (TL.run (pr_pure rfl) rfl (TL.run (pr_lenSl rfl rfl hJ2) rfl (TL.run (pr_pure rfl) rfl ?_)))))))
     refine TL.nil (TX.seqN (TC.block ?_))
     refine TC.loop (V := fun k => [(53, .int .i64 k)]) (K := [(3, _), (4, _), (6, _), (7, _), (13, _), (14, _), (15, _), (16, _), (17, _), (18, _), (19, _), (20, _), (21, _), (22, _), (23, _), (24, _), (25, _), (26, _), (27, _), (28, _), (29, _), (30, _), (31, _), (50, _), (51, _), (52, _)]) (L := fun k => _) (I := fun k => (0 ≤ k ∧ k ≤ (castOf s).length) ∧ (castOf s).all (fun r => hasS x.roles r) = ((castOf s).drop k.toNat).all (fun r => hasS x.roles r)) (μ := fun k => ((castOf s).length - k).toNat) (i := (0 : Int)) ⟨rfl, rfl, rfl, rfl, rfl, rfl, rfl, rfl, rfl, rfl, rfl, rfl, rfl, rfl, rfl, rfl, rfl, rfl, rfl, rfl, rfl, rfl, rfl, rfl, rfl, rfl, rfl, trivial⟩ ⟨⟨by omega, by omega⟩, rfl⟩ (fun w hw => hw) (fun k hI => ?_)
     obtain ⟨⟨k0, k1⟩, hal⟩ := hI
     refine TC.seq (TC.region (TL.run (pr_pure rfl) rfl (TL.nil (TX.seqN (TC.seq ?_)))))
     refine TC.condD rfl (fun c54 => ?_) (fun c54 => ?_)
     ·
      obtain ⟨z, hz⟩ := getSome (l := castOf s) k0 c54
      refine TC.skip (TX.seqN (TC.seq (TC.block (TC.seq (TC.region (TL.run (pr_indexSl rfl hJ2 rfl (by omega) (by omega)) rfl (TL.run (pr_el0 hJ2 hz rfl rfl) rfl ?_)))))))
      refine TL.run (pr_pure rfl) rfl (TL.nil (TX.seqN (TC.seq (TC.region (TL.run (pr_field rfl) rfl (TL.run (pr_own1 rfl (.here _) rfl) rfl (TL.run (pr_pure rfl) rfl ?_)))))))
      refine TL.callS (enters rfl rfl rfl rfl) (n_Has_ok z (hP.rs x (List.mem_of_getElem? hx)).r) rfl ?_
      refine TL.run (pr_pure rfl) rfl (TL.nil (TX.seqN ?_))
      refine TC.cond rfl (fun c61 => ?_) (fun c61 => ?_)
      ·
       have h1 := all_bad (p := fun r => hasS x.roles r) k0 hz (by simpa using c61) hal
       refine TC.seq (TC.region (TL.run (pr_pure rfl) rfl (TL.nil (TX.seqN (TC.ret (TX.blkR (TX.thenR ?_)))))))
       refine TX.thenR (TX.blkR (TX.thenR (TX.blkR (TX.thenR (TX.thenR (TX.blkR (TX.thenR ?_)))))))
       exact TX.finS (.inr rfl) (results1 rfl (RVal.tmp rfl)) (congrArg Value.bool (by first | exact (opens_end k0 c16 hop).symm | exact (opens_1 hk0 hx c23 hop c50).symm | exact (opens_2 hk0 hx c23 hop c50 h1).symm))
      ·
       refine TC.skip (TX.blkN (TX.seqN (TC.region (TL.run ((by first | exact pr_add rfl rfl (by omega) (by omega) | exact pr_pure rfl)) rfl (TL.run (pr_pure rfl) rfl (TL.nil (TX.round (k + 1) ⟨⟨by omega, by omega⟩, all_next (p := (fun r => hasS x.roles r)) k0 hz (by simpa using c61) hal⟩ ⟨rfl, rfl, rfl, rfl, rfl, rfl, rfl, rfl, rfl, rfl, rfl, rfl, rfl, rfl, rfl, rfl, rfl, rfl, rfl, rfl, rfl, rfl, rfl, rfl, rfl, rfl, rfl, trivial⟩ (fun w hw => hw) (by omega))))))))
     ·
      have h1 := all_end (p := fun r => hasS x.roles r) k0 c54 hal
      refine TC.exit (TX.thenE (TX.thenE (TX.blkHit (TX.seqN (TC.seq (TC.region (TL.run (pr_pure rfl) rfl ?_)))))))
      refine TL.nil (TX.seqN (TC.ret (TX.blkR (TX.thenR (TX.thenR (TX.blkR (TX.thenR ?_)))))))
      exact TX.finS (.inr rfl) (results1 rfl (RVal.tmp rfl)) (congrArg Value.bool (by first | exact (opens_end k0 c16 hop).symm | exact (opens_1 hk0 hx c23 hop c50).symm | exact (opens_2 hk0 hx c23 hop c50 h1).symm))
 ·
  refine TC.exit (TX.thenE (TX.thenE (TX.blkHit (TX.seqN (TC.seq (TC.region (TL.run (pr_pure rfl) rfl ?_)))))))
  refine TL.nil (TX.seqN (TC.ret (TX.finS (.inr rfl) (results1 rfl (RVal.tmp rfl)) (congrArg Value.bool (by first | exact (opens_end k0 c16 hop).symm | exact (opens_1 hk0 hx c23 hop c50).symm | exact (opens_2 hk0 hx c23 hop c50 h1).symm)))))
end Go.Sx
