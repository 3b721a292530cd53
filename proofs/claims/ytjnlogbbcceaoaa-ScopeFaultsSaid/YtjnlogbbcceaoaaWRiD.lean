import Derived.Test.YtjnlogbbcceaoaaWRiC
import Derived.Test.YtjnlogbbcceaoaaPuR
import Derived.Test.YtjnlogbbcceaoaaWgD
set_option linter.unusedVariables false
set_option linter.unusedSimpArgs false
namespace Go.Sx
open Go Go.Proofs
set_option maxRecDepth 100000 in
set_option maxHeartbeats 32000000 in
theorem rise_ok {H : Hp} {pg : SProg} (hP : ProgOk H pg) (hM : MaxG H) :
  Fn Try.prog 9 [.agg pg.cells.toArray] H (fun v H9 => ∃ pg2 : SProg, v = .agg pg2.cells.toArray ∧ ProgOk H9 pg2 ∧ pg2.bare = riseS pg) := by
 have hmr := hP.r.max
 have hml := hP.l.max
 have hmq := hP.q.max
 refine Fn.enter Try.func9 Try.ntmps9 rfl rfl (fun w0 => ?_)
 refine TC.seq (TC.region ?_)
 refine TL.box rfl rfl (fun b1 => ?_)
 refine TL.alloc rfl (fun b2 => ?_)
 refine TL.nil (TX.seqN (TC.seq (TC.seq (TC.region ?_))))
 refine TL.front (.there _ (.here _)) ?_
 refine TL.pub (by simp) (fun H_b1 le_b1 rd_b1 => ?_)
 replace hP := hP.le le_b1
 replace hM := hM.le le_b1
 have hb : PgAt H_b1 b1 pg := rd_b1
 refine TL.run (pr_hpA rfl rfl hb.add) rfl ?_
 refine TL.call (enters rfl rfl rfl rfl) (check_ok hP hM) rfl (fun v17 H17 hle17 hp17 => ?_)
 replace hP := hP.le hle17
 replace hM := hM.le hle17
 replace hb := hb.le hle17
 subst hp17
 refine TL.run (pr_fieldV (off := 0) rfl (by kernel_rfl) rfl) rfl (TL.run (pr_pure rfl) rfl (TL.nil (TX.seqN ?_)))
 refine TC.condND rfl (fun c19 => ?_) (fun c19 => ?_)
 ·
  refine TC.seq (TC.region (TL.run (pr_build rfl rfl) rfl ?_))
  refine TL.storeA rfl rfl rfl rfl rfl (.here _) rfl rfl ?_
  refine TL.nil (TX.seqN (TC.ret (TX.thenR (TX.fin0 (.inr rfl) (results1 rfl (RVal.cellA rfl (.here _) rfl)) ⟨nilPg, rfl, nil_ok _, rise_bad c19⟩))))
 ·
  have hck := check_ok0 c19
  have hn1 := hck.r.1
  have hn2 := hck.l.1
  have hn3 := hck.q.1
  refine TC.skip (TX.seqN (TC.seq (TC.region ?_)))
  refine TL.alloc rfl (fun b3 => ?_)
  refine TL.nil (TX.seqN (TC.seq (TC.seq (TC.region (TL.run (pr_field rfl) rfl (TL.run (pr_hp1 rfl (hb 0 _ rfl)) rfl (TL.run (pr_lenSl rfl rfl hP.r) rfl ?_)))))))
  refine TL.run (pr_pure rfl) rfl (TL.nil (TX.seqN (TC.block ?_)))
  refine TC.loop4 (V := fun (p : Int × List SProto) v1 ob1 H1 => [(24, .int .i64 p.1)]) (K := [(1, _), (2, _), (3, _), (22, _), (23, _)]) (L := fun (p : Int × List SProto) v1 ob1 H1 => St [] w0 H H1 ((b3, [v1, .slice none 0 0, .slice none 0 0]) :: (b2, [.slice none 0 0, .slice none 0 0, .slice none 0 0]) :: ob1)) (I := fun (p : Int × List SProto) v1 ob1 H1 => (0 ≤ p.1 ∧ p.1 ≤ pg.protos.length) ∧ H17.le H1 ∧ OwnSl 3 SProto.cells v1 p.2 ob1 ∧ p.2.length = p.1 ∧ PrAll H1 p.2 ∧ p.2.map SProto.bare = (pg.protos.take p.1.toNat).map SProto.bare) (μ := fun (p : Int × List SProto) => (pg.protos.length - p.1).toNat) ((0 : Int), []) (.slice none 0 0) [] H17 ⟨rfl, rfl, rfl, rfl, rfl, rfl, trivial⟩ ⟨⟨by omega, by omega⟩, Hp.le.refl _, OwnSl.nil, rfl, (fun _ h => by cases h), rfl⟩ (fun w hw => hw) (fun p v1 ob1 H1 hI => ?_)
  obtain ⟨⟨k01, k11⟩, hle1, hO1, hPl1, hPA1, hPm1⟩ := hI
  obtain ⟨k1, P1⟩ := p
  dsimp only at *
  obtain ⟨va1, vc1, rfl⟩ := hO1.form
  replace hP := hP.le hle1
  replace hM := hM.le hle1
  replace hb := hb.le hle1
  refine TC.seq (TC.region (TL.run (pr_pure rfl) rfl (TL.nil (TX.seqN (TC.seq ?_)))))
  refine TC.condD rfl (fun c25 => ?_) (fun c25 => ?_)
  ·
   obtain ⟨x, hk1⟩ := getSome (l := pg.protos) k01 c25
   have hxP := hP.rs x (List.mem_of_getElem? hk1)
   have hxz := proto_le (hck.r.2 x (List.mem_of_getElem? hk1))
   refine TC.skip (TX.seqN (TC.seq (TC.block (TC.seq (TC.region (TL.run (pr_indexSl rfl hP.r rfl (by omega) (by omega)) rfl (TL.run (pr_elA hP.r hk1 rfl rfl) rfl ?_)))))))
   refine TL.alloc rfl (fun b5 => ?_)
   refine TL.storeA rfl rfl rfl rfl rfl (.here _) rfl rfl ?_
   refine TL.nil (TX.seqN (TC.seq (TC.region ?_)))
   refine TL.bslice rfl rfl rfl rfl (fun b28 => ?_)
   refine TL.run (pr_field rfl) rfl (TL.run (pr_own1 rfl (.there _ (.here _)) rfl) rfl ?_)
   refine TL.append (enc := Str.cells) rfl rfl rfl (OwnSl.blk (enc := Str.cells) [] rfl rfl (by decide)) (Src.sl hxP.r) (by simp; omega) rfl (.take (.here _) rfl) rfl (fun a31 c31 ob31 hO31 => ?_)
   refine TL.run (pr_field rfl) rfl ?_
   refine TL.store1 rfl rfl rfl (.here _) rfl rfl ?_
   refine TL.nil ?_
   refine TX.pubO hO31 (.skip _ (.skip _ (.skip _ (.past _ .all)))) (by simp) (fun HPob31 lePob31 hRr => ?_)
   replace hP := hP.le lePob31
   replace hM := hM.le lePob31
   replace hb := hb.le lePob31
   replace hle1 := hle1.trans lePob31
   replace hxP := hxP.le lePob31
   replace hPA1 := hPA1.le lePob31
   replace hRr := hRr.cast (List.nil_append _)
   refine TX.permL (L' := (b5, _) :: ((b3, _) :: ((b2, _) :: (ob1)))) (perm_end1 [(b5, _), (b3, _), (b2, _)] (A := ob1)) (TX.seqN (TC.seq (TC.region (TL.run (pr_field rfl) rfl (TL.run (pr_own1 rfl (.here _) rfl) rfl (TL.run (pr_pure rfl) rfl (TL.nil ?_)))))))
   refine TX.seqN (TC.seq (TC.region (TL.run (pr_field rfl) rfl ?_)))
   refine TL.store1 rfl rfl rfl (.here _) rfl rfl ?_
   refine TL.nil (TX.seqN (TC.seq (TC.seq (TC.region (TL.run (pr_pure rfl) rfl (TL.run (pr_lenSl rfl rfl hxP.pt) rfl (TL.run (pr_pure rfl) rfl ?_)))))))
   refine TL.nil (TX.seqN (TC.block ?_))
   refine TC.loop4 (V := fun (p : Int × List SPoint) v11 ob11 H11 => [(38, .int .i64 p.1)]) (K := [(1, _), (2, _), (3, _), (5, _), (6, _), (22, _), (23, _), (24, _), (25, _), (26, _), (27, _), (28, _), (29, _), (30, _), (31, _), (32, _), (33, _), (34, _), (35, _), (36, _), (37, _)]) (L := fun (p : Int × List SPoint) v11 ob11 H11 => St [] w0 H H11 ((b5, [gs x.name, .slice a31 ([] ++ x.roles).length c31, v11]) :: (b3, _) :: (b2, _) :: (ob1 ++ ob11))) (I := fun (p : Int × List SPoint) v11 ob11 H11 => (0 ≤ p.1 ∧ p.1 ≤ x.points.length) ∧ HPob31.le H11 ∧ OwnSl 3 SPoint.cells v11 p.2 ob11 ∧ p.2.length = p.1 ∧ PtAll H11 p.2 ∧ p.2.map SPoint.bare = (x.points.take p.1.toNat).map SPoint.bare) (μ := fun (p : Int × List SPoint) => (x.points.length - p.1).toNat) ((0 : Int), []) (.slice none 0 0) [] HPob31 ⟨rfl, rfl, rfl, rfl, rfl, rfl, rfl, rfl, rfl, rfl, rfl, rfl, rfl, rfl, rfl, rfl, rfl, rfl, rfl, rfl, rfl, rfl, trivial⟩ ⟨⟨by omega, by omega⟩, Hp.le.refl _, OwnSl.nil, rfl, (fun _ h => by cases h), rfl⟩ (fun w hw => by rw [List.append_nil]; exact hw) (fun p v11 ob11 H11 hI => ?_)
   obtain ⟨⟨k011, k111⟩, hle11, hO11, hPl11, hPA11, hPm11⟩ := hI
   obtain ⟨k11, P11⟩ := p
   dsimp only at *
   obtain ⟨va11, vc11, rfl⟩ := hO11.form
   replace hP := hP.le hle11
   replace hM := hM.le hle11
   replace hb := hb.le hle11
   replace hle1 := hle1.trans hle11
   replace hxP := hxP.le hle11
   replace hPA1 := hPA1.le hle11
   replace hRr := hRr.le hle11
   refine TC.seq (TC.region (TL.run (pr_pure rfl) rfl (TL.nil (TX.seqN (TC.seq ?_)))))
   refine TC.condD rfl (fun c39 => ?_) (fun c39 => ?_)
   ·
    obtain ⟨y, hk11⟩ := getSome (l := x.points) k011 c39
    have hyO := hxP.ps y (List.mem_of_getElem? hk11)
    have hyz := hxz.2.2 y (List.mem_of_getElem? hk11)
    refine TC.skip (TX.seqN (TC.seq (TC.block (TC.seq (TC.region (TL.run (pr_indexSl rfl hxP.pt rfl (by omega) (by omega)) rfl (TL.run (pr_elA hxP.pt hk11 rfl rfl) rfl ?_)))))))
    refine TL.alloc rfl (fun b8 => ?_)
    refine TL.storeA rfl rfl rfl rfl rfl (.here _) rfl rfl ?_
    refine TL.nil (TX.seqN (TC.seq (TC.region (TL.run (pr_field rfl) rfl (TL.run (pr_own1 rfl (.here _) rfl) rfl ?_)))))
    refine TL.callO (enters rfl rfl rfl rfl) (arms_ok hyO.a (by omega)) rfl (fun v44 H44 ob44 hle44 hp44 => ?_)
    obtain ⟨eH44, hO44⟩ := hp44
    subst H44
    obtain ⟨a44, c44, rfl⟩ := hO44.form
    refine TL.pubO hO44 (.skip _ (.skip _ (.skip _ (.skip _ (.past _ .all))))) (by simp) (fun HP44 leP44 hR44 => ?_)
    refine TL.permL (L' := (b8, _) :: ((b5, _) :: ((b3, _) :: ((b2, _) :: (ob1 ++ (ob11)))))) (perm_end1 [(b8, _), (b5, _), (b3, _), (b2, _)] (A := ob1 ++ ob11)) ?_
    replace hP := hP.le leP44
    replace hM := hM.le leP44
    replace hb := hb.le leP44
    replace hle1 := hle1.trans leP44
    replace hxP := hxP.le leP44
    replace hPA1 := hPA1.le leP44
    replace hRr := hRr.le leP44
    replace hle11 := hle11.trans leP44
    replace hPA11 := hPA11.le leP44
    replace hyO := hyO.le leP44
    refine TL.run (pr_field rfl) rfl ?_
    refine TL.store1 rfl rfl rfl (.here _) rfl rfl ?_
    refine TL.nil (TX.seqN (TC.region (TL.run (pr_field rfl) rfl (TL.run (pr_own1 rfl (.there _ (.here _)) rfl) rfl (TL.run (pr_ownA rfl (.here _) rfl) rfl ?_)))))
    refine TL.bslice rfl rfl rfl rfl (fun b49 => ?_)
    refine TL.append (enc := SPoint.cells) rfl rfl rfl hO11 (Src.own [⟨y.frm, y.to, y.arms, (a44, c44)⟩] (.here _) rfl rfl) (by simp; omega) rfl (.skip _ (.skip _ (.skip _ (.skip _ (.skip _ (.past _ .all)))))) rfl (fun a50 c50 ob50 hO50 => ?_)
    refine TL.run (pr_field rfl) rfl ?_
    refine TL.store1 rfl rfl rfl (.there _ (.there _ (.here _))) rfl rfl ?_
    refine TL.nil (TX.blkN (TX.seqN (TC.region (TL.run ((by first | exact pr_add rfl rfl (by omega) (by omega) | exact pr_pure rfl)) rfl (TL.run (pr_pure rfl) rfl (TL.nil (TX.round4 (i := (k11, P11)) (k11 + 1, P11 ++ [⟨y.frm, y.to, y.arms, (a44, c44)⟩]) _ ob50 HP44 ⟨⟨by omega, by omega⟩, hle11, hO50, by simp only [List.length_append, List.length_cons, List.length_nil]; omega, all_snoc hPA11 ⟨hR44, hyO.z⟩, map_snoc k011 hk11 hPm11 rfl⟩ ⟨rfl, rfl, rfl, rfl, rfl, rfl, rfl, rfl, rfl, rfl, rfl, rfl, rfl, rfl, rfl, rfl, rfl, rfl, rfl, rfl, rfl, rfl, trivial⟩ (fun w hw => hw.drop.drop) (by omega))))))))
   ·
    refine TC.exit (TX.thenE (TX.thenE (TX.blkHit (TX.seqN (TC.region ?_)))))
    have hQe := hPm11
    rw [take_all c39 k011] at hQe
    have hQl : P11.length = x.points.length := by have := congrArg List.length hQe; simpa using this
    refine TL.pubO hO11 (.skip _ (.skip _ (.skip _ (.past _ .all)))) (by simp) (fun HPob11 lePob11 hRp => ?_)
    replace hP := hP.le lePob11
    replace hM := hM.le lePob11
    replace hb := hb.le lePob11
    replace hle1 := hle1.trans lePob11
    replace hxP := hxP.le lePob11
    replace hPA1 := hPA1.le lePob11
    replace hRr := hRr.le lePob11
    replace hle11 := hle11.trans lePob11
    replace hPA11 := hPA11.le lePob11
    refine TL.permL (L' := (b5, _) :: ((b3, _) :: ((b2, _) :: (ob1)))) (perm_end1 [(b5, _), (b3, _), (b2, _)] (A := ob1)) ?_
    refine TL.run (pr_field rfl) rfl (TL.run (pr_own1 rfl (.there _ (.here _)) rfl) rfl (TL.run (pr_ownA rfl (.here _) rfl) rfl ?_))
    refine TL.bslice rfl rfl rfl rfl (fun b56 => ?_)
    refine TL.append (enc := SProto.cells) rfl rfl rfl hO1 (Src.own [⟨x.name, x.roles, (a31, c31), P11, (va11, vc11)⟩] (.here _) rfl rfl) (by simp; omega) rfl (.skip _ (.skip _ (.skip _ (.skip _ .all)))) rfl (fun a57 c57 ob57 hO57 => ?_)
    refine TL.run (pr_field rfl) rfl ?_
    refine TL.store1 rfl rfl rfl (.there _ (.there _ (.here _))) rfl rfl ?_
    refine TL.nil (TX.blkN (TX.seqN (TC.region (TL.run ((by first | exact pr_add rfl rfl (by omega) (by omega) | exact pr_pure rfl)) rfl (TL.run (pr_pure rfl) rfl (TL.nil (TX.round4 (i := (k1, P1)) (k1 + 1, P1 ++ [(⟨x.name, x.roles, (a31, c31), P11, (va11, vc11)⟩ : SProto)]) _ ob57 HPob11 ⟨⟨by omega, by omega⟩, hle1, hO57, by simp only [List.length_append, List.length_cons, List.length_nil]; omega, all_snoc hPA1 ⟨hRr, hRp, hPA11⟩, map_snoc k01 hk1 hPm1 (by unfold SProto.bare; simp only [hQe])⟩ ⟨rfl, rfl, rfl, rfl, rfl, rfl, trivial⟩ (fun w hw => hw.drop.drop) (by omega))))))))
  ·
   refine TC.exit (TX.thenE (TX.thenE (TX.blkHit (TX.seqN (TC.seq (TC.seq (TC.region ?_)))))))
   have hE1 := hPm1
   rw [take_all c25 k01] at hE1
   refine TL.pubO hO1 (.skip _ (.skip _ .all)) (by simp) (fun HPob1 lePob1 hRP => ?_)
   replace hP := hP.le lePob1
   replace hM := hM.le lePob1
   replace hb := hb.le lePob1
   replace hPA1 := hPA1.le lePob1
   refine TL.permL (L' := (b3, _) :: ((b2, _) :: [])) (List.Perm.refl _) ?_
   refine TL.run (pr_field rfl) rfl (TL.run (pr_hp1 rfl (hb 1 _ rfl)) rfl (TL.run (pr_lenSl rfl rfl hP.l) rfl (TL.run (pr_pure rfl) rfl (TL.nil (TX.seqN (TC.block ?_))))))
   refine TC.loop4 (V := fun (p : Int × List SLocal) v2 ob2 H2 => [(63, .int .i64 p.1)]) (K := [(1, _), (2, _), (3, _), (61, _), (62, _)]) (L := fun (p : Int × List SLocal) v2 ob2 H2 => St [] w0 H H2 ((b3, [.slice va1 P1.length vc1, v2, .slice none 0 0]) :: (b2, [.slice none 0 0, .slice none 0 0, .slice none 0 0]) :: ob2)) (I := fun (p : Int × List SLocal) v2 ob2 H2 => (0 ≤ p.1 ∧ p.1 ≤ pg.locals.length) ∧ HPob1.le H2 ∧ OwnSl 2 SLocal.cells v2 p.2 ob2 ∧ p.2.length = p.1 ∧ LoAll H2 p.2 ∧ p.2.map SLocal.bare = (pg.locals.take p.1.toNat).map SLocal.bare) (μ := fun (p : Int × List SLocal) => (pg.locals.length - p.1).toNat) ((0 : Int), []) (.slice none 0 0) [] HPob1 ⟨rfl, rfl, rfl, rfl, rfl, rfl, trivial⟩ ⟨⟨by omega, by omega⟩, Hp.le.refl _, OwnSl.nil, rfl, (fun _ h => by cases h), rfl⟩ (fun w hw => hw) (fun p v2 ob2 H2 hI => ?_)
   obtain ⟨⟨k02, k12⟩, hle2, hO2, hPl2, hPA2, hPm2⟩ := hI
   obtain ⟨k2, P2⟩ := p
   dsimp only at *
   obtain ⟨va2, vc2, rfl⟩ := hO2.form
   replace hP := hP.le hle2
   replace hM := hM.le hle2
   replace hb := hb.le hle2
   replace hPA1 := hPA1.le hle2
   replace hRP := hRP.le hle2
   refine TC.seq (TC.region (TL.run (pr_pure rfl) rfl (TL.nil (TX.seqN (TC.seq ?_)))))
   refine TC.condD rfl (fun c64 => ?_) (fun c64 => ?_)
   ·
    obtain ⟨x, hk2⟩ := getSome (l := pg.locals) k02 c64
    have hxL := hP.ls x (List.mem_of_getElem? hk2)
    have hxz := local_le (hck.l.2 x (List.mem_of_getElem? hk2)).1
    refine TC.skip (TX.seqN (TC.seq (TC.block (TC.seq (TC.region (TL.run (pr_indexSl rfl hP.l rfl (by omega) (by omega)) rfl (TL.run (pr_elA hP.l hk2 rfl rfl) rfl ?_)))))))
    refine TL.alloc rfl (fun b10 => ?_)
    refine TL.storeA rfl rfl rfl rfl rfl (.here _) rfl rfl ?_
    refine TL.nil (TX.seqN (TC.seq (TC.region (TL.run (pr_field rfl) rfl (TL.run (pr_own1 rfl (.here _) rfl) rfl (TL.run (pr_pure rfl) rfl (TL.nil ?_)))))))
    refine TX.seqN (TC.seq (TC.region (TL.run (pr_field rfl) rfl ?_)))
    refine TL.store1 rfl rfl rfl (.here _) rfl rfl ?_
    refine TL.nil (TX.seqN (TC.seq (TC.seq (TC.region (TL.run (pr_pure rfl) rfl (TL.run (pr_lenSl rfl rfl hxL.t) rfl (TL.run (pr_pure rfl) rfl ?_)))))))
    refine TL.nil (TX.seqN (TC.block ?_))
    refine TC.loop4 (V := fun (p : Int × List STurn) v12 ob12 H12 => [(72, .int .i64 p.1)]) (K := [(1, _), (2, _), (3, _), (10, _), (11, _), (61, _), (62, _), (63, _), (64, _), (65, _), (66, _), (67, _), (68, _), (69, _), (70, _), (71, _)]) (L := fun (p : Int × List STurn) v12 ob12 H12 => St [] w0 H H12 ((b10, [gs x.name, v12]) :: (b3, _) :: (b2, _) :: (ob2 ++ ob12))) (I := fun (p : Int × List STurn) v12 ob12 H12 => (0 ≤ p.1 ∧ p.1 ≤ x.turns.length) ∧ H2.le H12 ∧ OwnSl 3 STurn.cells v12 p.2 ob12 ∧ p.2.length = p.1 ∧ TuAll H12 p.2 ∧ p.2.map SArms.bare = (x.turns.take p.1.toNat).map SArms.bare) (μ := fun (p : Int × List STurn) => (x.turns.length - p.1).toNat) ((0 : Int), []) (.slice none 0 0) [] H2 ⟨rfl, rfl, rfl, rfl, rfl, rfl, rfl, rfl, rfl, rfl, rfl, rfl, rfl, rfl, rfl, rfl, rfl, trivial⟩ ⟨⟨by omega, by omega⟩, Hp.le.refl _, OwnSl.nil, rfl, (fun _ h => by cases h), rfl⟩ (fun w hw => by rw [List.append_nil]; exact hw) (fun p v12 ob12 H12 hI => ?_)
    obtain ⟨⟨k012, k112⟩, hle12, hO12, hPl12, hPA12, hPm12⟩ := hI
    obtain ⟨k12, P12⟩ := p
    dsimp only at *
    obtain ⟨va12, vc12, rfl⟩ := hO12.form
    replace hP := hP.le hle12
    replace hM := hM.le hle12
    replace hb := hb.le hle12
    replace hPA1 := hPA1.le hle12
    replace hRP := hRP.le hle12
    replace hle2 := hle2.trans hle12
    replace hxL := hxL.le hle12
    replace hPA2 := hPA2.le hle12
    refine TC.seq (TC.region (TL.run (pr_pure rfl) rfl (TL.nil (TX.seqN (TC.seq ?_)))))
    refine TC.condD rfl (fun c73 => ?_) (fun c73 => ?_)
    ·
     obtain ⟨y, hk12⟩ := getSome (l := x.turns) k012 c73
     have hyO := hxL.ts y (List.mem_of_getElem? hk12)
     have hyz := hxz.2 y (List.mem_of_getElem? hk12)
     refine TC.skip (TX.seqN (TC.seq (TC.block (TC.seq (TC.region (TL.run (pr_indexSl rfl hxL.t rfl (by omega) (by omega)) rfl (TL.run (pr_elA hxL.t hk12 rfl rfl) rfl ?_)))))))
     refine TL.alloc rfl (fun b13 => ?_)
     refine TL.storeA rfl rfl rfl rfl rfl (.here _) rfl rfl ?_
     refine TL.nil (TX.seqN (TC.seq (TC.region (TL.run (pr_field rfl) rfl (TL.run (pr_own1 rfl (.here _) rfl) rfl ?_)))))
     refine TL.callO (enters rfl rfl rfl rfl) (arms_ok hyO.a (by omega)) rfl (fun v78 H78 ob78 hle78 hp78 => ?_)
     obtain ⟨eH78, hO78⟩ := hp78
     subst H78
     obtain ⟨a78, c78, rfl⟩ := hO78.form
     refine TL.pubO hO78 (.skip _ (.skip _ (.skip _ (.skip _ (.past _ .all))))) (by simp) (fun HP78 leP78 hR78 => ?_)
     refine TL.permL (L' := (b13, _) :: ((b10, _) :: ((b3, _) :: ((b2, _) :: (ob2 ++ (ob12)))))) (perm_end1 [(b13, _), (b10, _), (b3, _), (b2, _)] (A := ob2 ++ ob12)) ?_
     replace hP := hP.le leP78
     replace hM := hM.le leP78
     replace hb := hb.le leP78
     replace hPA1 := hPA1.le leP78
     replace hRP := hRP.le leP78
     replace hle2 := hle2.trans leP78
     replace hxL := hxL.le leP78
     replace hPA2 := hPA2.le leP78
     replace hle12 := hle12.trans leP78
     replace hPA12 := hPA12.le leP78
     replace hyO := hyO.le leP78
     refine TL.run (pr_field rfl) rfl ?_
     refine TL.store1 rfl rfl rfl (.here _) rfl rfl ?_
     refine TL.nil (TX.seqN (TC.region (TL.run (pr_field rfl) rfl (TL.run (pr_own1 rfl (.there _ (.here _)) rfl) rfl (TL.run (pr_ownA rfl (.here _) rfl) rfl ?_)))))
     refine TL.bslice rfl rfl rfl rfl (fun b83 => ?_)
     refine TL.append (enc := STurn.cells) rfl rfl rfl hO12 (Src.own [⟨y.kind, y.peer, y.arms, (a78, c78)⟩] (.here _) rfl rfl) (by simp; omega) rfl (.skip _ (.skip _ (.skip _ (.skip _ (.skip _ (.past _ .all)))))) rfl (fun a84 c84 ob84 hO84 => ?_)
     refine TL.run (pr_field rfl) rfl ?_
     refine TL.store1 rfl rfl rfl (.there _ (.there _ (.here _))) rfl rfl ?_
     refine TL.nil (TX.blkN (TX.seqN (TC.region (TL.run ((by first | exact pr_add rfl rfl (by omega) (by omega) | exact pr_pure rfl)) rfl (TL.run (pr_pure rfl) rfl (TL.nil (TX.round4 (i := (k12, P12)) (k12 + 1, P12 ++ [⟨y.kind, y.peer, y.arms, (a78, c78)⟩]) _ ob84 HP78 ⟨⟨by omega, by omega⟩, hle12, hO84, by simp only [List.length_append, List.length_cons, List.length_nil]; omega, all_snoc hPA12 ⟨hR78, hyO.z⟩, map_snoc k012 hk12 hPm12 rfl⟩ ⟨rfl, rfl, rfl, rfl, rfl, rfl, rfl, rfl, rfl, rfl, rfl, rfl, rfl, rfl, rfl, rfl, rfl, trivial⟩ (fun w hw => hw.drop.drop) (by omega))))))))
    ·
     refine TC.exit (TX.thenE (TX.thenE (TX.blkHit (TX.seqN (TC.region ?_)))))
     have hQe := hPm12
     rw [take_all c73 k012] at hQe
     have hQl : P12.length = x.turns.length := by have := congrArg List.length hQe; simpa using this
     refine TL.pubO hO12 (.skip _ (.skip _ (.skip _ (.past _ .all)))) (by simp) (fun HPob12 lePob12 hRp => ?_)
     replace hP := hP.le lePob12
     replace hM := hM.le lePob12
     replace hb := hb.le lePob12
     replace hPA1 := hPA1.le lePob12
     replace hRP := hRP.le lePob12
     replace hle2 := hle2.trans lePob12
     replace hxL := hxL.le lePob12
     replace hPA2 := hPA2.le lePob12
     replace hle12 := hle12.trans lePob12
     replace hPA12 := hPA12.le lePob12
     refine TL.permL (L' := (b10, _) :: ((b3, _) :: ((b2, _) :: (ob2)))) (perm_end1 [(b10, _), (b3, _), (b2, _)] (A := ob2)) ?_
     refine TL.run (pr_field rfl) rfl (TL.run (pr_own1 rfl (.there _ (.here _)) rfl) rfl (TL.run (pr_ownA rfl (.here _) rfl) rfl ?_))
     refine TL.bslice rfl rfl rfl rfl (fun b90 => ?_)
     refine TL.append (enc := SLocal.cells) rfl rfl rfl hO2 (Src.own [⟨x.name, P12, (va12, vc12)⟩] (.here _) rfl rfl) (by simp; omega) rfl (.skip _ (.skip _ (.skip _ (.skip _ .all)))) rfl (fun a91 c91 ob91 hO91 => ?_)
     refine TL.run (pr_field rfl) rfl ?_
     refine TL.store1 rfl rfl rfl (.there _ (.there _ (.here _))) rfl rfl ?_
     refine TL.nil (TX.blkN (TX.seqN (TC.region (TL.run ((by first | exact pr_add rfl rfl (by omega) (by omega) | exact pr_pure rfl)) rfl (TL.run (pr_pure rfl) rfl (TL.nil (TX.round4 (i := (k2, P2)) (k2 + 1, P2 ++ [(⟨x.name, P12, (va12, vc12)⟩ : SLocal)]) _ ob91 HPob12 ⟨⟨by omega, by omega⟩, hle2, hO91, by simp only [List.length_append, List.length_cons, List.length_nil]; omega, all_snoc hPA2 ⟨hRp, hPA12⟩, map_snoc k02 hk2 hPm2 (by unfold SLocal.bare; simp only [hQe])⟩ ⟨rfl, rfl, rfl, rfl, rfl, rfl, trivial⟩ (fun w hw => hw.drop.drop) (by omega))))))))
   ·
    refine TC.exit (TX.thenE (TX.thenE (TX.blkHit (TX.seqN (TC.seq (TC.seq (TC.region ?_)))))))
    have hE2 := hPm2
    rw [take_all c64 k02] at hE2
    refine TL.pubO hO2 (.skip _ (.skip _ .all)) (by simp) (fun HPob2 lePob2 hRL => ?_)
    replace hP := hP.le lePob2
    replace hM := hM.le lePob2
    replace hb := hb.le lePob2
    replace hPA1 := hPA1.le lePob2
    replace hRP := hRP.le lePob2
    replace hPA2 := hPA2.le lePob2
    refine TL.permL (L' := (b3, _) :: ((b2, _) :: [])) (List.Perm.refl _) ?_
    refine TL.run (pr_field rfl) rfl (TL.run (pr_hp1 rfl (hb 2 _ rfl)) rfl (TL.run (pr_lenSl rfl rfl hP.q) rfl (TL.run (pr_pure rfl) rfl (TL.nil (TX.seqN (TC.block ?_))))))
    refine TC.loop4 (V := fun (p : Int × List SProc) v3 ob3 H3 => [(97, .int .i64 p.1)]) (K := [(2, _), (3, _), (95, _), (96, _)]) (L := fun (p : Int × List SProc) v3 ob3 H3 => St [] w0 H H3 ((b3, [.slice va1 P1.length vc1, .slice va2 P2.length vc2, v3]) :: (b2, [.slice none 0 0, .slice none 0 0, .slice none 0 0]) :: ob3)) (I := fun (p : Int × List SProc) v3 ob3 H3 => (0 ≤ p.1 ∧ p.1 ≤ pg.procs.length) ∧ HPob2.le H3 ∧ OwnSl 4 SProc.cells v3 p.2 ob3 ∧ p.2.length = p.1 ∧ PcAll H3 p.2 ∧ p.2.map SProc.bare = (pg.procs.take p.1.toNat).map raisedS) (μ := fun (p : Int × List SProc) => (pg.procs.length - p.1).toNat) ((0 : Int), []) (.slice none 0 0) [] HPob2 ⟨rfl, rfl, rfl, rfl, rfl, trivial⟩ ⟨⟨by omega, by omega⟩, Hp.le.refl _, OwnSl.nil, rfl, (fun _ h => by cases h), rfl⟩ (fun w hw => hw) (fun p v3 ob3 H3 hI => ?_)
    obtain ⟨⟨k03, k13⟩, hle3, hO3, hPl3, hPA3, hPm3⟩ := hI
    obtain ⟨k3, P3⟩ := p
    dsimp only at *
    obtain ⟨va3, vc3, rfl⟩ := hO3.form
    replace hP := hP.le hle3
    replace hM := hM.le hle3
    replace hb := hb.le hle3
    replace hPA1 := hPA1.le hle3
    replace hRP := hRP.le hle3
    replace hPA2 := hPA2.le hle3
    replace hRL := hRL.le hle3
    refine TC.seq (TC.region (TL.run (pr_pure rfl) rfl (TL.nil (TX.seqN (TC.seq ?_)))))
    refine TC.condD rfl (fun c98 => ?_) (fun c98 => ?_)
    ·
     obtain ⟨q, hk3⟩ := getSome (l := pg.procs) k03 c98
     have hqO := hP.qs q (List.mem_of_getElem? hk3)
     have hxR := hck.q.2 q (List.mem_of_getElem? hk3)
     refine TC.skip (TX.seqN (TC.seq (TC.block (TC.seq (TC.region (TL.run (pr_indexSl rfl hP.q rfl (by omega) (by omega)) rfl (TL.run (pr_elA hP.q hk3 rfl rfl) rfl ?_)))))))
     refine TL.alloc rfl (fun b15 => ?_)
     refine TL.storeA rfl rfl rfl rfl rfl (.here _) rfl rfl ?_
     refine TL.nil (TX.seqN ?_)
     refine TC.drawn (by kernel_rfl) (by kernel_rfl) ?_
     refine TD.part 1 3 rfl rfl rfl ?_ ?_
     ·
      refine TD.leaf [(0, 1), (1, 2), (2, 2), (3, 0), (4, 3), (5, 0), (6, 1), (7, 0)] (by kernel_rfl) (by kernel_rfl) ?_
      refine TF.pure (pr_field rfl) rfl (TF.still (pr_own1 rfl (.there _ (.here _)) rfl) rfl (TF.still (pr_ownA rfl (.here _) rfl) rfl (TF.loud ?_)))
      refine TL.call (enters rfl rfl rfl rfl) (raised_ok hqO hxR) rfl (fun v104 H104 hle104 hp104 => ?_)
      obtain ⟨q104, rfl, hq104, hb104⟩ := hp104
      replace hP := hP.le hle104
      replace hM := hM.le hle104
      replace hb := hb.le hle104
      replace hPA1 := hPA1.le hle104
      replace hRP := hRP.le hle104
      replace hPA2 := hPA2.le hle104
      replace hRL := hRL.le hle104
      replace hle3 := hle3.trans hle104
      replace hPA3 := hPA3.le hle104
      refine TF.back ?_
      refine TF.bslice rfl rfl rfl rfl (fun b105 => ?_)
      refine TF.loud ?_
      refine TL.append (enc := SProc.cells) rfl rfl rfl hO3 (Src.own [q104] (.here _) rfl rfl) (by simp; omega) rfl (.skip _ (.skip _ (.skip _ (.skip _ .all)))) rfl (fun a106 c106 ob106 hO106 => ?_)
      refine TF.back (TF.pure (pr_field rfl) rfl (TF.loud ?_))
      refine TL.store1 rfl rfl rfl (.there _ (.there _ (.here _))) rfl rfl ?_
      refine TF.back (TF.nil (TX.blkN (TX.seqN (TC.region (TL.run ((by first | exact pr_add rfl rfl (by omega) (by omega) | exact pr_pure rfl)) rfl (TL.run (pr_pure rfl) rfl (TL.nil ?_)))))))
      exact TX.round4 (i := (k3, P3)) (k3 + 1, P3 ++ [q104]) _ ob106 H104 ⟨⟨by omega, by omega⟩, hle3, hO106, by simp only [List.length_append, List.length_cons, List.length_nil]; omega, all_snoc hPA3 hq104, map_snoc k03 hk3 hPm3 hb104⟩ ⟨rfl, rfl, rfl, rfl, rfl, trivial⟩ (fun w hw => hw.drop.drop) (by omega)
     ·
      refine TD.leaf [(0, 1), (2, 2), (3, 0), (1, 2), (4, 3), (5, 0), (6, 1), (7, 0)] (by kernel_rfl) (by kernel_rfl) ?_
      refine TF.pure (pr_field rfl) rfl (TF.still (pr_ownA rfl (.here _) rfl) rfl (TF.loud ?_))
      refine TL.call (enters rfl rfl rfl rfl) (raised_ok hqO hxR) rfl (fun v104 H104 hle104 hp104 => ?_)
      obtain ⟨q104, rfl, hq104, hb104⟩ := hp104
      replace hP := hP.le hle104
      replace hM := hM.le hle104
      replace hb := hb.le hle104
      replace hPA1 := hPA1.le hle104
      replace hRP := hRP.le hle104
      replace hPA2 := hPA2.le hle104
      replace hRL := hRL.le hle104
      replace hle3 := hle3.trans hle104
      replace hPA3 := hPA3.le hle104
      refine TF.back (TF.still (pr_own1 rfl (.there _ (.here _)) rfl) rfl ?_)
      refine TF.bslice rfl rfl rfl rfl (fun b105 => ?_)
      refine TF.loud ?_
      refine TL.append (enc := SProc.cells) rfl rfl rfl hO3 (Src.own [q104] (.here _) rfl rfl) (by simp; omega) rfl (.skip _ (.skip _ (.skip _ (.skip _ .all)))) rfl (fun a106 c106 ob106 hO106 => ?_)
      refine TF.back (TF.pure (pr_field rfl) rfl (TF.loud ?_))
      refine TL.store1 rfl rfl rfl (.there _ (.there _ (.here _))) rfl rfl ?_
      refine TF.back (TF.nil (TX.blkN (TX.seqN (TC.region (TL.run ((by first | exact pr_add rfl rfl (by omega) (by omega) | exact pr_pure rfl)) rfl (TL.run (pr_pure rfl) rfl (TL.nil ?_)))))))
      exact TX.round4 (i := (k3, P3)) (k3 + 1, P3 ++ [q104]) _ ob106 H104 ⟨⟨by omega, by omega⟩, hle3, hO106, by simp only [List.length_append, List.length_cons, List.length_nil]; omega, all_snoc hPA3 hq104, map_snoc k03 hk3 hPm3 hb104⟩ ⟨rfl, rfl, rfl, rfl, rfl, trivial⟩ (fun w hw => hw.drop.drop) (by omega)
    ·
     refine TC.exit (TX.thenE (TX.thenE (TX.blkHit (TX.seqN (TC.seq (TC.region ?_))))))
     have hE3 := hPm3
     rw [take_all c98 k03] at hE3
     refine TL.pubO hO3 (.skip _ (.skip _ .all)) (by simp) (fun HPob3 lePob3 hRQ => ?_)
     replace hP := hP.le lePob3
     replace hM := hM.le lePob3
     replace hb := hb.le lePob3
     replace hPA1 := hPA1.le lePob3
     replace hRP := hRP.le lePob3
     replace hPA2 := hPA2.le lePob3
     replace hRL := hRL.le lePob3
     replace hPA3 := hPA3.le lePob3
     refine TL.permL (L' := (b3, _) :: ((b2, _) :: [])) (List.Perm.refl _) ?_
     refine TL.run (pr_ownA rfl (.here _) rfl) rfl ?_
     refine TL.storeA rfl rfl rfl rfl rfl (.there _ (.here _)) rfl rfl ?_
     refine TL.nil (TX.seqN (TC.ret (TX.fin0 (.inr rfl) (results1 rfl (RVal.cellA rfl (.there _ (.here _)) rfl)) ⟨⟨P1, (va1, vc1), P2, (va2, vc2), P3, (va3, vc3)⟩, rfl, ⟨hRP, hPA1, hRL, hPA2, hRQ, hPA3⟩, by rw [rise_good c19]; unfold SProg.bare; simp only [hE1, hE2, hE3]⟩)))
end Go.Sx
