import Derived.Test.YtjnlogbbcceaoaaWgB
set_option linter.unusedVariables false
set_option linter.unusedSimpArgs false
namespace Go.Sx
open Go Go.Proofs
set_option maxRecDepth 100000 in
set_option maxHeartbeats 4000000 in
theorem graph_ok {H : Hp} (p : SProto) (hP : ProtoOk H p) (hl : p.points.length ≤ 1000) :
  FnO Try.prog 40 [.agg p.cells.toArray] H (fun v H1 ob => H1 = H ∧ ∃ u, v = .agg #[gs [], u] ∧ OwnSl 3 STurn.cells u (p.points.map graphT) ob) := by
 have hpt := hP.pt
 have hpm := hpt.max
 refine FnO.enter Try.func40 Try.ntmps40 rfl rfl (fun w0 => ?_)
 refine TC.seq (TC.region ?_)
 refine TL.box rfl rfl (fun b1 => ?_)
 refine TL.alloc rfl (fun b2 => ?_)
 refine TL.nil (TX.seqN (TC.seq (TC.region ?_)))
 refine TL.alloc rfl (fun b3 => ?_)
 refine TL.nil (TX.seqN (TC.seq (TC.seq (TC.region (TL.run (pr_field rfl) rfl (TL.run (pr_own1 rfl (.there _ (.there _ (.here _))) rfl) rfl (TL.run (pr_lenSl rfl rfl hpt) rfl ?_)))))))
 refine TL.run (pr_pure rfl) rfl (TL.nil (TX.seqN (TC.block ?_)))
 refine TC.loop4 (V := fun k v ob H1 => [(10, .int .i64 k)]) (K := [(2, _), (3, _), (8, _), (9, _)]) (L := fun k v ob H1 => St [] w0 H H ((b3, [gs [], v]) :: (b2, _) :: (b1, _) :: ob)) (I := fun k v ob H1 => (0 ≤ k ∧ k ≤ p.points.length) ∧ OwnSl 3 STurn.cells v ((p.points.take k.toNat).map graphT) ob) (μ := fun k => (p.points.length - k).toNat) 0 (.slice none 0 0) [] H ⟨rfl, rfl, rfl, rfl, rfl, trivial⟩ ⟨⟨by omega, by omega⟩, OwnSl.nil⟩ (fun w hw => hw) (fun k v ob H1 hI => ?_)
 obtain ⟨⟨k0, k1⟩, hO⟩ := hI
 obtain ⟨va, vc, rfl⟩ := hO.form
 refine TC.seq (TC.region (TL.run (pr_pure rfl) rfl (TL.nil (TX.seqN (TC.seq ?_)))))
 refine TC.condD rfl (fun c11 => ?_) (fun c11 => ?_)
 ·
  obtain ⟨x, hx⟩ := getSome (l := p.points) k0 c11
  have hxa := (hP.ps x (List.mem_of_getElem? hx)).a.max
  refine TC.skip (TX.seqN (TC.seq (TC.block (TC.seq (TC.region (TL.run (pr_indexSl rfl hpt rfl (by omega) (by omega)) rfl (TL.run (pr_elA hpt hx rfl rfl) rfl ?_)))))))
  refine TL.alloc rfl (fun b5 => ?_)
  refine TL.storeA rfl rfl rfl rfl rfl (.here _) rfl rfl ?_
  refine TL.nil (TX.seqN (TC.seq (TC.region (TL.run (pr_field rfl) rfl (TL.run (pr_own1 rfl (.here _) rfl) rfl (TL.run (pr_build rfl rfl) rfl ?_))))))
  refine TL.alloc rfl (fun b6 => ?_)
  refine TL.storeA rfl rfl rfl rfl rfl (.here _) rfl rfl ?_
  refine TL.nil (TX.seqN (TC.seq (TC.seq (TC.region (TL.run (pr_field rfl) rfl (TL.run (pr_own1 rfl (.there _ (.here _)) rfl) rfl (TL.run (pr_str rfl rfl rfl) rfl ?_)))))))
  refine TL.run (pr_pure rfl) rfl ?_
  refine TL.split (s := 20) rfl (fun g20 => ?_) (fun g20 => ?_)
  ·
   have q20 := of_ndec_true g20
   refine TL.gdN rfl rfl rfl rfl (TL.gdN rfl rfl rfl rfl (TL.gdN rfl rfl rfl rfl (TL.run (pr_pure rfl) rfl (TL.run (pr_pure rfl) rfl (TL.gdN rfl rfl rfl rfl (TL.gdN rfl rfl rfl rfl (TL.gdN rfl rfl rfl rfl ?_)))))))
   refine TL.gdN rfl rfl rfl rfl (TL.run (pr_pure rfl) rfl (TL.nil (TX.seqN (TC.condT rfl (TC.seq (TC.region (TL.run (pr_field rfl) rfl ?_)))))))
   refine TL.store1 rfl rfl rfl (.here _) rfl rfl ?_
   refine TL.nil (TX.seqN (TC.region (TL.run (pr_field rfl) rfl (TL.run (pr_own1 rfl (.there _ (.here _)) rfl) rfl (TL.run (pr_field rfl) rfl ?_)))))
   refine TL.store1 rfl rfl rfl (.here _) rfl rfl ?_
   refine TL.nil (TX.seqN (TC.region (TL.run (pr_field rfl) rfl (TL.run (pr_own1 rfl (.there _ (.there _ (.here _))) rfl) rfl (TL.run (pr_ownA rfl (.here _) rfl) rfl ?_)))))
   refine TL.bslice rfl rfl rfl rfl (fun b38 => ?_)
   refine TL.append (enc := STurn.cells) rfl rfl rfl hO (Src.own [⟨1, x.to, x.arms, x.ap⟩] (.here _) rfl rfl) (by simp; omega) rfl (.skip _ (.skip _ (.skip _ (.skip _ (.skip _ (.skip _ .all)))))) rfl (fun a39 c39 ob39 hO39 => ?_)
   refine TL.run (pr_field rfl) rfl ?_
   refine TL.store1 rfl rfl rfl (.there _ (.there _ (.there _ (.here _)))) rfl rfl ?_
   refine TL.nil (TX.blkN (TX.seqN (TC.region (TL.run ((by first | exact pr_add rfl rfl (by omega) (by omega) | exact pr_pure rfl)) rfl (TL.run (pr_pure rfl) rfl (TL.nil (TX.round4 (k + 1) _ ob39 H ⟨⟨by omega, by omega⟩, hO39.cast (by rw [map_take_snoc k0 hx]; congr 2; first | exact (graph_T (by simp_all)).symm | exact (graph_F (by simp_all)).symm)⟩ ⟨rfl, rfl, rfl, rfl, rfl, trivial⟩ (fun w hw => hw.drop.drop.drop) (by omega))))))))
  ·
   have q20 := of_ndec_false g20
   refine TL.gdY rfl rfl (pr_field rfl) rfl (TL.gdY rfl rfl (pr_own1 rfl (.there _ (.here _)) rfl) rfl (TL.gdY rfl rfl (pr_str rfl rfl rfl) rfl (TL.run (pr_pure rfl) rfl (TL.run (pr_pure rfl) rfl ?_))))
   refine TL.split (s := 25) rfl (fun g25 => ?_) (fun g25 => ?_)
   ·
    have q25 := of_ndec_true g25
    refine TL.gdN rfl rfl rfl rfl (TL.gdN rfl rfl rfl rfl (TL.gdN rfl rfl rfl rfl (TL.gdN rfl rfl rfl rfl (TL.run (pr_pure rfl) rfl (TL.nil (TX.seqN (TC.condT rfl ?_)))))))
    refine TC.seq (TC.region (TL.run (pr_field rfl) rfl ?_))
    refine TL.store1 rfl rfl rfl (.here _) rfl rfl ?_
    refine TL.nil (TX.seqN (TC.region (TL.run (pr_field rfl) rfl (TL.run (pr_own1 rfl (.there _ (.here _)) rfl) rfl (TL.run (pr_field rfl) rfl ?_)))))
    refine TL.store1 rfl rfl rfl (.here _) rfl rfl ?_
    refine TL.nil (TX.seqN (TC.region (TL.run (pr_field rfl) rfl (TL.run (pr_own1 rfl (.there _ (.there _ (.here _))) rfl) rfl (TL.run (pr_ownA rfl (.here _) rfl) rfl ?_)))))
    refine TL.bslice rfl rfl rfl rfl (fun b38 => ?_)
    refine TL.append (enc := STurn.cells) rfl rfl rfl hO (Src.own [⟨1, x.to, x.arms, x.ap⟩] (.here _) rfl rfl) (by simp; omega) rfl (.skip _ (.skip _ (.skip _ (.skip _ (.skip _ (.skip _ .all)))))) rfl (fun a39 c39 ob39 hO39 => ?_)
    refine TL.run (pr_field rfl) rfl ?_
    refine TL.store1 rfl rfl rfl (.there _ (.there _ (.there _ (.here _)))) rfl rfl ?_
    refine TL.nil (TX.blkN (TX.seqN (TC.region (TL.run ((by first | exact pr_add rfl rfl (by omega) (by omega) | exact pr_pure rfl)) rfl (TL.run (pr_pure rfl) rfl (TL.nil (TX.round4 (k + 1) _ ob39 H ⟨⟨by omega, by omega⟩, hO39.cast (by rw [map_take_snoc k0 hx]; congr 2; first | exact (graph_T (by simp_all)).symm | exact (graph_F (by simp_all)).symm)⟩ ⟨rfl, rfl, rfl, rfl, rfl, trivial⟩ (fun w hw => hw.drop.drop.drop) (by omega))))))))
   ·
    have q25 := of_ndec_false g25
    refine TL.gdY rfl rfl (pr_field rfl) rfl (TL.gdY rfl rfl (pr_own1 rfl (.there _ (.here _)) rfl) rfl (TL.gdY rfl rfl (pr_lenSl rfl rfl (hP.ps x (List.mem_of_getElem? hx)).a) rfl (TL.gdY rfl rfl (pr_pure rfl) rfl (TL.run (pr_pure rfl) rfl (TL.nil (TX.seqN ?_))))))
    refine TC.condD rfl (fun c30 => ?_) (fun c30 => ?_)
    ·
     refine TC.seq (TC.region (TL.run (pr_field rfl) rfl ?_))
     refine TL.store1 rfl rfl rfl (.here _) rfl rfl ?_
     refine TL.nil (TX.seqN (TC.region (TL.run (pr_field rfl) rfl (TL.run (pr_own1 rfl (.there _ (.here _)) rfl) rfl (TL.run (pr_field rfl) rfl ?_)))))
     refine TL.store1 rfl rfl rfl (.here _) rfl rfl ?_
     refine TL.nil (TX.seqN (TC.region (TL.run (pr_field rfl) rfl (TL.run (pr_own1 rfl (.there _ (.there _ (.here _))) rfl) rfl (TL.run (pr_ownA rfl (.here _) rfl) rfl ?_)))))
     refine TL.bslice rfl rfl rfl rfl (fun b38 => ?_)
     refine TL.append (enc := STurn.cells) rfl rfl rfl hO (Src.own [⟨1, x.to, x.arms, x.ap⟩] (.here _) rfl rfl) (by simp; omega) rfl (.skip _ (.skip _ (.skip _ (.skip _ (.skip _ (.skip _ .all)))))) rfl (fun a39 c39 ob39 hO39 => ?_)
     refine TL.run (pr_field rfl) rfl ?_
     refine TL.store1 rfl rfl rfl (.there _ (.there _ (.there _ (.here _)))) rfl rfl ?_
     refine TL.nil (TX.blkN (TX.seqN (TC.region (TL.run ((by first | exact pr_add rfl rfl (by omega) (by omega) | exact pr_pure rfl)) rfl (TL.run (pr_pure rfl) rfl (TL.nil (TX.round4 (k + 1) _ ob39 H ⟨⟨by omega, by omega⟩, hO39.cast (by rw [map_take_snoc k0 hx]; congr 2; first | exact (graph_T (by simp_all)).symm | exact (graph_F (by simp_all)).symm)⟩ ⟨rfl, rfl, rfl, rfl, rfl, trivial⟩ (fun w hw => hw.drop.drop.drop) (by omega))))))))
    ·
     refine TC.skip (TX.seqN (TC.region (TL.run (pr_field rfl) rfl (TL.run (pr_own1 rfl (.there _ (.there _ (.here _))) rfl) rfl (TL.run (pr_ownA rfl (.here _) rfl) rfl ?_)))))
     refine TL.bslice rfl rfl rfl rfl (fun b38 => ?_)
     refine TL.append (enc := STurn.cells) rfl rfl rfl hO (Src.own [⟨0, [], x.arms, x.ap⟩] (.here _) rfl rfl) (by simp; omega) rfl (.skip _ (.skip _ (.skip _ (.skip _ (.skip _ (.skip _ .all)))))) rfl (fun a39 c39 ob39 hO39 => ?_)
     refine TL.run (pr_field rfl) rfl ?_
     refine TL.store1 rfl rfl rfl (.there _ (.there _ (.there _ (.here _)))) rfl rfl ?_
     refine TL.nil (TX.blkN (TX.seqN (TC.region (TL.run ((by first | exact pr_add rfl rfl (by omega) (by omega) | exact pr_pure rfl)) rfl (TL.run (pr_pure rfl) rfl (TL.nil (TX.round4 (k + 1) _ ob39 H ⟨⟨by omega, by omega⟩, hO39.cast (by rw [map_take_snoc k0 hx]; congr 2; first | exact (graph_T (by simp_all)).symm | exact (graph_F (by simp_all)).symm)⟩ ⟨rfl, rfl, rfl, rfl, rfl, trivial⟩ (fun w hw => hw.drop.drop.drop) (by omega))))))))
 ·
  refine TC.exit (TX.thenE (TX.thenE (TX.blkHit (TX.seqN (TC.seq (TC.region (TL.run (pr_ownA rfl (.here _) rfl) rfl ?_)))))))
  refine TL.storeA rfl rfl rfl rfl rfl (.there _ (.here _)) rfl rfl ?_
  refine TL.nil (TX.seqN (TC.ret (TX.finO (.inr rfl) (results1 rfl (RVal.cellA rfl (.there _ (.here _)) rfl)) (.skip _ (.skip _ (.skip _ .all))) ⟨rfl, _, rfl, hO.cast (by rw [take_all c11 k0])⟩)))
end Go.Sx

set_option linter.unusedVariables false
set_option linter.unusedSimpArgs false
namespace Go.Sx
open Go Go.Proofs
set_option maxRecDepth 100000 in
set_option maxHeartbeats 4000000 in
theorem gMay_ok {H : Hp} (p : SProto) (hP : ProtoOk H p) (hM : MaxG H) :
  FnS Try.prog 24 [.agg p.cells.toArray] H (.bool (protoB p)) := by
 have hr := hP.r
 have hpt := hP.pt
 have hrm := hr.max
 have hpm := hpt.max
 refine FnS.enter Try.func24 Try.ntmps24 rfl rfl (fun w0 => ?_)
 refine TC.seq (TC.region ?_)
 refine TL.box rfl rfl (fun b1 => ?_)
 refine TL.run (pr_pure rfl) rfl (TL.nil (TX.seqN (TC.seq ?_)))
 refine TC.sw (!protoHead p) 34 [(1, _), (2, _)] ⟨rfl, rfl, trivial⟩ ?_ ?_
 ·
  refine TC.region (TL.run (pr_field rfl) rfl (TL.run (pr_own1 rfl (.here _) rfl) rfl ?_))
  refine TL.callS (enters rfl rfl rfl rfl) (n_MayU_ok p.name) rfl ?_
  refine TL.run (pr_pure rfl) rfl (TL.run (pr_pure rfl) rfl ?_)
  refine TL.split (s := 11) rfl (fun g11 => ?_) (fun g11 => ?_)
  ·
   refine TL.gdN rfl rfl rfl rfl (TL.gdN rfl rfl rfl rfl (TL.gdN rfl rfl rfl rfl (TL.gdN rfl rfl rfl rfl (TL.run (pr_pure rfl) rfl (TL.run (pr_pure rfl) rfl (TL.gdN rfl rfl rfl rfl (TL.gdN rfl rfl rfl rfl ?_)))))))
   refine TL.gdN rfl rfl rfl rfl (TL.gdN rfl rfl rfl rfl (TL.run (pr_pure rfl) rfl (TL.run (pr_pure rfl) rfl (TL.gdN rfl rfl rfl rfl (TL.gdN rfl rfl rfl rfl (TL.gdN rfl rfl rfl rfl (TL.gdN rfl rfl rfl rfl ?_)))))))
   refine TL.run (pr_pure rfl) rfl (TL.run (pr_pure rfl) rfl (TL.gdN rfl rfl rfl rfl (TL.gdN rfl rfl rfl rfl (TL.gdN rfl rfl rfl rfl (TL.gdN rfl rfl rfl rfl (TL.run (pr_pure rfl) rfl (TL.nil ?_)))))))
   exact TX.sw rfl (by unfold protoHead; simp_all) ⟨rfl, rfl, trivial⟩
  ·
   refine TL.gdY rfl rfl (pr_field rfl) rfl (TL.gdY rfl rfl (pr_own1 rfl (.here _) rfl) rfl (TL.gdY rfl rfl (pr_lenSl rfl rfl hr) rfl (TL.gdY rfl rfl (pr_pure rfl) rfl (TL.run (pr_pure rfl) rfl (TL.run (pr_pure rfl) rfl ?_)))))
   refine TL.split (s := 17) rfl (fun g17 => ?_) (fun g17 => ?_)
   ·
    have q17 := of_decide_eq_true g17
    refine TL.gdN rfl rfl rfl rfl (TL.gdN rfl rfl rfl rfl (TL.gdN rfl rfl rfl rfl (TL.gdN rfl rfl rfl rfl (TL.run (pr_pure rfl) rfl (TL.run (pr_pure rfl) rfl (TL.gdN rfl rfl rfl rfl (TL.gdN rfl rfl rfl rfl ?_)))))))
    refine TL.gdN rfl rfl rfl rfl (TL.gdN rfl rfl rfl rfl (TL.run (pr_pure rfl) rfl (TL.run (pr_pure rfl) rfl (TL.gdN rfl rfl rfl rfl (TL.gdN rfl rfl rfl rfl (TL.gdN rfl rfl rfl rfl (TL.gdN rfl rfl rfl rfl ?_)))))))
    refine TL.run (pr_pure rfl) rfl (TL.nil (TX.sw rfl (by unfold protoHead; simp_all) ⟨rfl, rfl, trivial⟩))
   ·
    have q17 := of_decide_eq_false g17
    refine TL.gdY rfl rfl (pr_field rfl) rfl (TL.gdY rfl rfl (pr_own1 rfl (.here _) rfl) rfl (TL.gdY rfl rfl (pr_lenSl rfl rfl hr) rfl (TL.gdY rfl rfl (pr_pure rfl) rfl (TL.run (pr_pure rfl) rfl (TL.run (pr_pure rfl) rfl ?_)))))
    refine TL.split (s := 23) rfl (fun g23 => ?_) (fun g23 => ?_)
    ·
     have q23 := of_decide_eq_true g23
     refine TL.gdN rfl rfl rfl rfl (TL.gdN rfl rfl rfl rfl (TL.gdN rfl rfl rfl rfl (TL.gdN rfl rfl rfl rfl (TL.run (pr_pure rfl) rfl (TL.run (pr_pure rfl) rfl (TL.gdN rfl rfl rfl rfl (TL.gdN rfl rfl rfl rfl ?_)))))))
     refine TL.gdN rfl rfl rfl rfl (TL.gdN rfl rfl rfl rfl (TL.run (pr_pure rfl) rfl (TL.nil (TX.sw rfl (by unfold protoHead; simp_all) ⟨rfl, rfl, trivial⟩))))
    ·
     have q23 := of_decide_eq_false g23
     refine TL.gdY rfl rfl (pr_field rfl) rfl (TL.gdY rfl rfl (pr_own1 rfl (.here _) rfl) rfl ?_)
     refine TL.callSY rfl rfl (enters rfl rfl rfl rfl) (n_Once_ok hr) rfl ?_
     refine TL.gdY rfl rfl (pr_pure rfl) rfl (TL.run (pr_pure rfl) rfl (TL.run (pr_pure rfl) rfl ?_))
     refine TL.split (s := 29) rfl (fun g29 => ?_) (fun g29 => ?_)
     ·
      refine TL.gdN rfl rfl rfl rfl (TL.gdN rfl rfl rfl rfl (TL.gdN rfl rfl rfl rfl (TL.gdN rfl rfl rfl rfl (TL.run (pr_pure rfl) rfl (TL.nil (TX.sw rfl (by unfold protoHead; simp_all) ⟨rfl, rfl, trivial⟩))))))
     ·
      refine TL.gdY rfl rfl (pr_field rfl) rfl (TL.gdY rfl rfl (pr_own1 rfl (.here _) rfl) rfl (TL.gdY rfl rfl (pr_lenSl rfl rfl hpt) rfl (TL.gdY rfl rfl (pr_pure rfl) rfl (TL.run (pr_pure rfl) rfl (TL.nil (TX.sw rfl (by unfold protoHead; simp_all) ⟨rfl, rfl, trivial⟩))))))
 refine TC.cond rfl (fun c34 => ?_) (fun c34 => ?_)
 ·
  refine TC.seq (TC.region (TL.run (pr_pure rfl) rfl (TL.nil (TX.seqN (TC.ret (TX.thenR (TX.finS (.inr rfl) (results1 rfl (RVal.tmp rfl)) (congrArg Value.bool (by first | exact proto_1 c34 | exact proto_2 hr1 | exact proto_3 hp1 | exact proto_4 hh hr1 hp1)))))))))
 ·
  have hh : protoHead p = true := by simpa using c34
  have hp24 := proto_24 hh
  refine TC.skip (TX.seqN (TC.seq (TC.seq (TC.region (TL.run (pr_field rfl) rfl (TL.run (pr_own1 rfl (.here _) rfl) rfl (TL.run (pr_lenSl rfl rfl hr) rfl ?_)))))))
  refine TL.run (pr_pure rfl) rfl (TL.nil (TX.seqN (TC.block ?_)))
  refine TC.loop (V := fun k => [(38, .int .i64 k)]) (K := [(1, _), (2, _), (36, _), (37, _)]) (L := fun k => _) (I := fun k => (0 ≤ k ∧ k ≤ p.roles.length) ∧ p.roles.all nameMay = (p.roles.drop k.toNat).all nameMay) (μ := fun k => (p.roles.length - k).toNat) (i := (0 : Int)) ⟨rfl, rfl, rfl, rfl, rfl, trivial⟩ ⟨⟨by omega, by omega⟩, rfl⟩ (fun w hw => hw) (fun k hI => ?_)
  obtain ⟨⟨k0, k1⟩, hal⟩ := hI
  refine TC.seq (TC.region (TL.run (pr_pure rfl) rfl (TL.nil (TX.seqN (TC.seq ?_)))))
  refine TC.condD rfl (fun c39 => ?_) (fun c39 => ?_)
  ·
   obtain ⟨y, hy⟩ := getSome (l := p.roles) k0 c39
   refine TC.skip (TX.seqN (TC.seq (TC.block (TC.seq (TC.region (TL.run (pr_indexSl rfl hr rfl (by omega) (by omega)) rfl (TL.run (pr_el0 hr hy rfl rfl) rfl ?_)))))))
   refine TL.run (pr_pure rfl) rfl (TL.nil (TX.seqN (TC.seq (TC.region (TL.run (pr_pure rfl) rfl ?_)))))
   refine TL.callS (enters rfl rfl rfl rfl) (n_MayU_ok y) rfl ?_
   refine TL.run (pr_pure rfl) rfl (TL.nil (TX.seqN ?_))
   refine TC.cond rfl (fun c44 => ?_) (fun c44 => ?_)
   ·
    have hr1 := all_bad (p := nameMay) k0 hy (by simpa using c44) hal
    refine TC.seq (TC.region (TL.run (pr_pure rfl) rfl (TL.nil (TX.seqN (TC.ret (TX.blkR (TX.thenR ?_)))))))
    refine TX.thenR (TX.blkR (TX.thenR (TX.finS (.inr rfl) (results1 rfl (RVal.tmp rfl)) (congrArg Value.bool (by first | exact proto_1 c34 | exact proto_2 hr1 | exact proto_3 hp1 | exact proto_4 hh hr1 hp1)))))
   ·
    refine TC.skip (TX.blkN (TX.seqN (TC.region (TL.run ((by first | exact pr_add rfl rfl (by omega) (by omega) | exact pr_pure rfl)) rfl (TL.run (pr_pure rfl) rfl (TL.nil (TX.round (k + 1) ⟨⟨by omega, by omega⟩, all_next (p := nameMay) k0 hy (by simpa using c44) hal⟩ ⟨rfl, rfl, rfl, rfl, rfl, trivial⟩ (fun w hw => hw) (by omega))))))))
  ·
   have hr1 := all_end (p := nameMay) k0 c39 hal
   refine TC.exit (TX.thenE (TX.thenE (TX.blkHit (TX.seqN (TC.seq (TC.seq (TC.region ?_)))))))
   refine TL.run (pr_field rfl) rfl (TL.run (pr_own1 rfl (.here _) rfl) rfl (TL.run (pr_lenSl rfl rfl hpt) rfl (TL.run (pr_pure rfl) rfl (TL.nil (TX.seqN (TC.block ?_))))))
   refine TC.loop (V := fun k => [(49, .int .i64 k)]) (K := [(1, _), (2, _), (47, _), (48, _)]) (L := fun k => _) (I := fun k => (0 ≤ k ∧ k ≤ p.points.length) ∧ p.points.all (pointB p.roles) = (p.points.drop k.toNat).all (pointB p.roles)) (μ := fun k => (p.points.length - k).toNat) (i := (0 : Int)) ⟨rfl, rfl, rfl, rfl, rfl, trivial⟩ ⟨⟨by omega, by omega⟩, rfl⟩ (fun w hw => hw) (fun k hI => ?_)
   obtain ⟨⟨k0, k1⟩, hal⟩ := hI
   refine TC.seq (TC.region (TL.run (pr_pure rfl) rfl (TL.nil (TX.seqN (TC.seq ?_)))))
   refine TC.condD rfl (fun c50 => ?_) (fun c50 => ?_)
   ·
    obtain ⟨x, hx⟩ := getSome (l := p.points) k0 c50
    have hxa := (hP.ps x (List.mem_of_getElem? hx)).a.max
    refine TC.skip (TX.seqN (TC.seq (TC.block (TC.seq (TC.region (TL.run (pr_indexSl rfl hpt rfl (by omega) (by omega)) rfl (TL.run (pr_elA hpt hx rfl rfl) rfl ?_)))))))
    refine TL.alloc rfl (fun b6 => ?_)
    refine TL.storeA rfl rfl rfl rfl rfl (.here _) rfl rfl ?_
    refine TL.nil (TX.seqN (TC.seq ?_))
    refine TC.sw (emptyP x) 66 [(1, _), (2, _), (6, _), (47, _), (48, _), (49, _), (50, _), (51, _), (52, _)] ⟨rfl, rfl, rfl, rfl, rfl, rfl, rfl, rfl, rfl, trivial⟩ ?_ ?_
    ·
     refine TC.region (TL.run (pr_field rfl) rfl (TL.run (pr_own1 rfl (.here _) rfl) rfl (TL.run (pr_str rfl rfl rfl) rfl (TL.run (pr_pure rfl) rfl ?_))))
     refine TL.split (s := 56) rfl (fun g56 => ?_) (fun g56 => ?_)
     ·
      have q56 := of_decide_eq_true g56
      refine TL.gdY rfl rfl (pr_field rfl) rfl (TL.gdY rfl rfl (pr_own1 rfl (.here _) rfl) rfl (TL.gdY rfl rfl (pr_str rfl rfl rfl) rfl (TL.run (pr_pure rfl) rfl (TL.run (pr_pure rfl) rfl ?_))))
      refine TL.split (s := 61) rfl (fun g61 => ?_) (fun g61 => ?_)
      ·
       have q61 := of_decide_eq_true g61
       refine TL.gdY rfl rfl (pr_field rfl) rfl (TL.gdY rfl rfl (pr_own1 rfl (.here _) rfl) rfl (TL.gdY rfl rfl (pr_lenSl rfl rfl (hP.ps x (List.mem_of_getElem? hx)).a) rfl (TL.gdY rfl rfl (pr_pure rfl) rfl (TL.run (pr_pure rfl) rfl (TL.nil (TX.sw rfl (by unfold emptyP; simp_all) ⟨rfl, rfl, rfl, rfl, rfl, rfl, rfl, rfl, rfl, trivial⟩))))))
      ·
       have q61 := of_decide_eq_false g61
       refine TL.gdN rfl rfl rfl rfl (TL.gdN rfl rfl rfl rfl (TL.gdN rfl rfl rfl rfl (TL.gdN rfl rfl rfl rfl (TL.run (pr_pure rfl) rfl (TL.nil (TX.sw rfl (by unfold emptyP; simp_all) ⟨rfl, rfl, rfl, rfl, rfl, rfl, rfl, rfl, rfl, trivial⟩))))))
     ·
      have q56 := of_decide_eq_false g56
      refine TL.gdN rfl rfl rfl rfl (TL.gdN rfl rfl rfl rfl (TL.gdN rfl rfl rfl rfl (TL.run (pr_pure rfl) rfl (TL.run (pr_pure rfl) rfl (TL.gdN rfl rfl rfl rfl (TL.gdN rfl rfl rfl rfl (TL.gdN rfl rfl rfl rfl ?_)))))))
      refine TL.gdN rfl rfl rfl rfl (TL.run (pr_pure rfl) rfl (TL.nil (TX.sw rfl (by unfold emptyP; simp_all) ⟨rfl, rfl, rfl, rfl, rfl, rfl, rfl, rfl, rfl, trivial⟩)))
    refine TC.cond rfl (fun c66 => ?_) (fun c66 => ?_)
    ·
     refine TC.exit (TX.thenE (TX.blkHit (TX.seqN (TC.region (TL.run ((by first | exact pr_add rfl rfl (by omega) (by omega) | exact pr_pure rfl)) rfl (TL.run (pr_pure rfl) rfl (TL.nil ?_)))))))
     exact TX.round (k + 1) ⟨⟨by omega, by omega⟩, all_next (p := (pointB p.roles)) k0 hx (by first | exact pt_1 c66 | exact pt_2 c87) hal⟩ ⟨rfl, rfl, rfl, rfl, rfl, trivial⟩ (fun w hw => hw.drop) (by omega)
    ·
     refine TC.skip (TX.seqN ?_)
     refine TC.sw (!pointM p.roles x) 87 [(1, _), (2, _), (6, _), (47, _), (48, _), (49, _), (50, _), (51, _), (52, _), (66, _)] ⟨rfl, rfl, rfl, rfl, rfl, rfl, rfl, rfl, rfl, rfl, trivial⟩ ?_ ?_
     ·
      refine TC.region (TL.run (pr_field rfl) rfl (TL.run (pr_own1 rfl (.there _ (.here _)) rfl) rfl (TL.run (pr_field rfl) rfl (TL.run (pr_own1 rfl (.here _) rfl) rfl ?_))))
      refine TL.callS (enters rfl rfl rfl rfl) (n_Has_ok x.frm hr) rfl ?_
      refine TL.run (pr_pure rfl) rfl (TL.run (pr_pure rfl) rfl ?_)
      refine TL.split (s := 73) rfl (fun g73 => ?_) (fun g73 => ?_)
      ·
       refine TL.gdN rfl rfl rfl rfl (TL.gdN rfl rfl rfl rfl (TL.gdN rfl rfl rfl rfl (TL.gdN rfl rfl rfl rfl (TL.gdN rfl rfl rfl rfl (TL.gdN rfl rfl rfl rfl (TL.run (pr_pure rfl) rfl (TL.run (pr_pure rfl) rfl ?_)))))))
       refine TL.gdN rfl rfl rfl rfl (TL.gdN rfl rfl rfl rfl (TL.gdN rfl rfl rfl rfl (TL.gdN rfl rfl rfl rfl (TL.gdN rfl rfl rfl rfl (TL.run (pr_pure rfl) rfl (TL.nil (TX.sw rfl (by unfold pointM; simp_all) ⟨rfl, rfl, rfl, rfl, rfl, rfl, rfl, rfl, rfl, rfl, trivial⟩)))))))
      ·
       refine TL.gdY rfl rfl (pr_field rfl) rfl (TL.gdY rfl rfl (pr_own1 rfl (.there _ (.here _)) rfl) rfl (TL.gdY rfl rfl (pr_field rfl) rfl (TL.gdY rfl rfl (pr_own1 rfl (.here _) rfl) rfl ?_)))
       refine TL.callSY rfl rfl (enters rfl rfl rfl rfl) (n_Has_ok x.to hr) rfl ?_
       refine TL.gdY rfl rfl (pr_pure rfl) rfl (TL.run (pr_pure rfl) rfl (TL.run (pr_pure rfl) rfl ?_))
       refine TL.split (s := 81) rfl (fun g81 => ?_) (fun g81 => ?_)
       ·
        refine TL.gdN rfl rfl rfl rfl (TL.gdN rfl rfl rfl rfl (TL.gdN rfl rfl rfl rfl (TL.gdN rfl rfl rfl rfl (TL.gdN rfl rfl rfl rfl (TL.run (pr_pure rfl) rfl (TL.nil (TX.sw rfl (by unfold pointM; simp_all) ⟨rfl, rfl, rfl, rfl, rfl, rfl, rfl, rfl, rfl, rfl, trivial⟩)))))))
       ·
        refine TL.gdY rfl rfl (pr_field rfl) rfl (TL.gdY rfl rfl (pr_own1 rfl (.here _) rfl) rfl (TL.gdY rfl rfl (pr_field rfl) rfl (TL.gdY rfl rfl (pr_own1 rfl (.here _) rfl) rfl (TL.gdY rfl rfl (pr_str rfl rfl rfl) rfl (TL.run (pr_pure rfl) rfl (TL.nil (TX.sw rfl (by unfold pointM; simp_all) ⟨rfl, rfl, rfl, rfl, rfl, rfl, rfl, rfl, rfl, rfl, trivial⟩)))))))
     refine TC.cond rfl (fun c87 => ?_) (fun c87 => ?_)
     ·
      have hp1 := all_bad (p := pointB p.roles) k0 hx (pt_3 c66 c87) hal
      refine TC.seq (TC.region (TL.run (pr_pure rfl) rfl (TL.nil (TX.seqN (TC.ret (TX.blkR (TX.thenR ?_)))))))
      refine TX.thenR (TX.blkR (TX.thenR (TX.finS (.inr rfl) (results1 rfl (RVal.tmp rfl)) (congrArg Value.bool (by first | exact proto_1 c34 | exact proto_2 hr1 | exact proto_3 hp1 | exact proto_4 hh hr1 hp1)))))
     ·
      refine TC.skip (TX.blkN (TX.seqN (TC.region (TL.run ((by first | exact pr_add rfl rfl (by omega) (by omega) | exact pr_pure rfl)) rfl (TL.run (pr_pure rfl) rfl (TL.nil (TX.round (k + 1) ⟨⟨by omega, by omega⟩, all_next (p := (pointB p.roles)) k0 hx (by first | exact pt_1 c66 | exact pt_2 c87) hal⟩ ⟨rfl, rfl, rfl, rfl, rfl, trivial⟩ (fun w hw => hw.drop) (by omega))))))))
   ·
    have hp1 := all_end (p := pointB p.roles) k0 c50 hal
    refine TC.exit (TX.thenE (TX.thenE (TX.blkHit (TX.seqN (TC.seq (TC.region (TL.run (pr_ownA rfl (.here _) rfl) rfl ?_)))))))
    refine TL.callO (enters rfl rfl rfl rfl) (graph_ok p hP (by omega)) rfl (fun v90 H90 ob90 hle90 hp90 => ?_)
    obtain ⟨eH90, u90, rfl, hO90⟩ := hp90
    subst H90
    obtain ⟨a90, c90, rfl⟩ := hO90.form
    refine TL.pubO hO90 (.skip _ .all) (by simp) (fun HP90 leP90 hR90 => ?_)
    replace hP := hP.le leP90
    replace hM := hM.le leP90
    refine TL.callS (enters rfl rfl rfl rfl) (tMay_ok ⟨[], p.points.map graphT, (a90, c90)⟩ ⟨hR90, graph_turns hP⟩ hM) rfl ?_
    refine TL.run (pr_pure rfl) rfl (TL.nil (TX.seqN (TC.ret (TX.finS (.inr rfl) (results1 rfl (RVal.tmp rfl)) (congrArg Value.bool (by first | exact proto_1 c34 | exact proto_2 hr1 | exact proto_3 hp1 | exact proto_4 hh hr1 hp1))))))
end Go.Sx
