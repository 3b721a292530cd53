import Derived.Test.YtjnlogbbcceaoaaGreatL15
import Derived.Test.YtjnlogbbcceaoaaGreatRows
import Derived.ProofKit
import Derived.Shelf.Vars
import Derived.Deep.DeepHandedRow
import Derived.OpenShut
set_option linter.all false
set_option maxRecDepth 100000
set_option maxHeartbeats 32000000
namespace Go.Sx
open Go Go.Proofs
theorem uC {H : Hp} {q : SProc} (hQ : ProcOk H q) (hN : NmOk q) :
  Fn Tryz.prog 33 [.agg q.cells.toArray] H (fun v H1 => ∃ q2 : SProc, v = .agg q2.cells.toArray ∧ ProcOk H1 q2 ∧ q2.bare = (nmQ q).bare) := by
 have hn1 := hN.pl
 have hn2 := hN.tl
 have hn3 := hN.sl
 refine Fn.enter Tryz.func33 Tryz.ntmps33 rfl rfl (fun w0 => ?_)
 refine zm2 ?_
 refine TL.box rfl rfl (fun b1 => ?_)
 refine TL.alloc rfl (fun b2 => ?_)
 refine TL.nil (ad ?_); refine gS ?_; refine dy ?_
 refine TL.alloc rfl (fun b3 => ?_)
 refine fu ?_; refine mA ?_
 refine aV (V := fun (ix : Int × List SParam) v1 ob1 H1 => [(4, .int .i64 ix.1)]) (K := [(1, _), (2, _), (3, _)]) (L := fun (ix : Int × List SParam) v1 ob1 H1 => St [] w0 H H1 ((b3, [gs q.name, v1, .slice none 0 0, .slice none 0 0]) :: (b2, [gs [], .slice none 0 0, .slice none 0 0, .slice none 0 0]) :: (b1, q.cells) :: ob1)) (I := fun (ix : Int × List SParam) v1 ob1 H1 => (0 ≤ ix.1 ∧ ix.1 ≤ q.params.length) ∧ H.le H1 ∧ OwnSl 3 SParam.cells v1 ix.2 ob1 ∧ ix.2.length = ix.1 ∧ PaAll H1 ix.2 ∧ ix.2.map (fun x => x) = (q.params.take ix.1.toNat).map nmP) (μ := fun (ix : Int × List SParam) => (q.params.length - ix.1).toNat) ((0 : Int), []) (.slice none 0 0) [] H ky ⟨⟨by omega, by omega⟩, Hp.le.refl _, OwnSl.nil, rfl, (fun _ h => by cases h), rfl⟩ (fun w hw => hw) (fun ix v1 ob1 H1 hI => ?_)
 obtain ⟨⟨k01, k11⟩, hle1, hO1, hPl1, hPA1, hPm1⟩ := hI
 obtain ⟨k1, P1⟩ := ix
 dsimp only at *
 obtain ⟨va1, vc1, rfl⟩ := hO1.form
 replace hQ := hQ.le hle1
 refine kI ?_; refine k8 ?_; refine TL.run (ai rfl rfl hQ.pa) rfl ?_; refine zm1 ?_
 refine ag rfl (fun c17 => ?_) (fun c17 => ?_)
 ·
  obtain ⟨x, hk1⟩ := ao (l := q.params) k01 c17
  have hxn := hN.p x (List.mem_of_getElem? hk1)
  have hxz := hQ.pz x (List.mem_of_getElem? hk1)
  refine ph ?_
  refine bZ [(0, 1), (1, 2), (2, 1), (3, 2), (4, 1), (5, 1), (6, 1), (7, 2), (9, 1), (10, 2), (11, 1), (12, 1), (13, 1), (14, 2), (8, 3), (15, 1), (16, 3), (17, 0), (18, 1), (19, 0)] (by kernel_rfl) (by kernel_rfl) ?_
  refine nr ?_; refine zm4 ?_; refine lE ?_; refine zm5 ?_; refine az (af rfl hQ.pa rfl (by omega) (by omega)) rfl ?_; refine zm4 ?_; refine a7 (br hQ.pa hk1 rfl rfl) rfl ?_; refine zm4 ?_
  refine lE ?_; refine zm5 ?_; refine az (af rfl hQ.pa rfl (by omega) (by omega)) rfl ?_; refine zm4 ?_; refine a7 (mV hQ.pa hk1 rfl rfl) rfl (my (ab rfl rfl rfl rfl) (ma x.name hxn) rfl ?_)
  refine dZ ?_
  refine aE rfl rfl rfl rfl (fun b36 => ?_)
  refine bj (TL.append (enc := SParam.cells) rfl rfl rfl hO1 (Src.own [nmP x] (.here _) rfl rfl) (by simp; omega) rfl (.skip _ (.skip _ (.skip _ (.skip _ .all)))) rfl (fun a37 c37 ob37 hO37 => ?_))
  refine TF.back ?_; refine pA ?_; refine sj ?_
  exact aF (i := (k1, P1)) (k1 + 1, P1 ++ [nmP x]) _ ob37 H1 ⟨⟨by omega, by omega⟩, hle1, hO37, by simp only [List.length_append, List.length_cons, List.length_nil]; omega, ep hPA1 hxz, e9 k01 hk1 hPm1 rfl⟩ ky (fun w hw => hw.drop) (by omega)
 refine pH ?_
 have hE1 := hPm1
 rw [bB c17 k01] at hE1
 refine TL.pubO hO1 (.skip _ (.skip _ (.skip _ .all))) (by simp) (fun HPob1 lePob1 hRP => ?_)
 replace hQ := hQ.le lePob1
 replace hPA1 := hPA1.le lePob1
 refine aT (L' := (b3, _) :: ((b2, _) :: ((b1, _) :: []))) (List.Perm.refl _) ?_; refine zm8 ?_
 refine aV (V := fun (ix : Int × List Term) v2 ob2 H2 => [(5, .int .i64 ix.1)]) (K := [(1, _), (2, _), (3, _)]) (L := fun (ix : Int × List Term) v2 ob2 H2 => St [] w0 H H2 ((b3, [gs q.name, .slice va1 P1.length vc1, v2, .slice none 0 0]) :: (b2, [gs [], .slice none 0 0, .slice none 0 0, .slice none 0 0]) :: (b1, q.cells) :: ob2)) (I := fun (ix : Int × List Term) v2 ob2 H2 => (0 ≤ ix.1 ∧ ix.1 ≤ q.terms.length) ∧ HPob1.le H2 ∧ OwnSl 6 Term.cells v2 ix.2 ob2 ∧ ix.2.length = ix.1 ∧ TmAll H2 ix.2 ∧ ix.2.map (fun x => x) = (q.terms.take ix.1.toNat).map nmT) (μ := fun (ix : Int × List Term) => (q.terms.length - ix.1).toNat) ((0 : Int), []) (.slice none 0 0) [] HPob1 ky ⟨⟨by omega, by omega⟩, Hp.le.refl _, OwnSl.nil, rfl, (fun _ h => by cases h), rfl⟩ (fun w hw => hw) (fun ix v2 ob2 H2 hI => ?_)
 obtain ⟨⟨k02, k12⟩, hle2, hO2, hPl2, hPA2, hPm2⟩ := hI
 obtain ⟨k2, P2⟩ := ix
 dsimp only at *
 obtain ⟨va2, vc2, rfl⟩ := hO2.form
 replace hQ := hQ.le hle2
 replace hPA1 := hPA1.le hle2
 replace hRP := hRP.le hle2
 refine kI ?_; refine k8 ?_; refine TL.run (ai rfl rfl hQ.t) rfl ?_; refine zm1 ?_
 refine ag rfl (fun c43 => ?_) (fun c43 => ?_)
 ·
  obtain ⟨x, hk2⟩ := ao (l := q.terms) k02 c43
  have hxz := hN.t x (List.mem_of_getElem? hk2)
  refine jm ?_; refine vM ?_; refine zm0 ?_; refine TL.run (af rfl hQ.t rfl (by omega) (by omega)) rfl (TL.run (bh hQ.t hk2 rfl rfl) rfl (TL.alloc rfl (fun b6 => ?_)))
  refine nN ?_; refine ay (ab rfl rfl rfl rfl) (ma x.name hxz) rfl ?_; refine mD ?_; refine nH ?_; refine f2 ?_
  refine aB rfl rfl rfl rfl (fun b58 => ?_)
  refine TL.append (enc := Term.cells) rfl rfl rfl hO2 (Src.own [nmT x] (.here _) rfl rfl) (by simp; omega) rfl (.skip _ (.skip _ (.skip _ (.skip _ (.skip _ .all))))) rfl (fun a59 c59 ob59 hO59 => ?_)
  refine pD ?_; refine lq ?_
  exact aF (i := (k2, P2)) (k2 + 1, P2 ++ [nmT x]) _ ob59 H2 ⟨⟨by omega, by omega⟩, hle2, hO59, by simp only [List.length_append, List.length_cons, List.length_nil]; omega, ep hPA2 (nmT_z hxz), e9 k02 hk2 hPm2 rfl⟩ ky (fun w hw => hw.drop.drop) (by omega)
 refine pH ?_
 have hE2 := hPm2
 rw [bB c43 k02] at hE2
 refine TL.pubO hO2 (.skip _ (.skip _ (.skip _ .all))) (by simp) (fun HPob2 lePob2 hRT => ?_)
 replace hQ := hQ.le lePob2
 replace hPA1 := hPA1.le lePob2
 replace hRP := hRP.le lePob2
 replace hPA2 := hPA2.le lePob2
 refine aT (L' := (b3, _) :: ((b2, _) :: ((b1, _) :: []))) (List.Perm.refl _) ?_; refine zm8 ?_
 refine aV (V := fun (ix : Int × List SStep) v3 ob3 H3 => [(7, .int .i64 ix.1)]) (K := [(1, _), (2, _), (3, _)]) (L := fun (ix : Int × List SStep) v3 ob3 H3 => St [] w0 H H3 ((b3, [gs q.name, .slice va1 P1.length vc1, .slice va2 P2.length vc2, v3]) :: (b2, [gs [], .slice none 0 0, .slice none 0 0, .slice none 0 0]) :: (b1, q.cells) :: ob3)) (I := fun (ix : Int × List SStep) v3 ob3 H3 => (0 ≤ ix.1 ∧ ix.1 ≤ q.steps.length) ∧ HPob2.le H3 ∧ OwnSl 10 SStep.cells v3 ix.2 ob3 ∧ ix.2.length = ix.1 ∧ StAll H3 ix.2 ∧ ix.2.map SStep.bare = (q.steps.take ix.1.toNat).map (fun s => (d4 s).bare)) (μ := fun (ix : Int × List SStep) => (q.steps.length - ix.1).toNat) ((0 : Int), []) (.slice none 0 0) [] HPob2 ky ⟨⟨by omega, by omega⟩, Hp.le.refl _, OwnSl.nil, rfl, (fun _ h => by cases h), rfl⟩ (fun w hw => hw) (fun ix v3 ob3 H3 hI => ?_)
 obtain ⟨⟨k03, k13⟩, hle3, hO3, hPl3, hPA3, hPm3⟩ := hI
 obtain ⟨k3, P3⟩ := ix
 dsimp only at *
 obtain ⟨va3, vc3, rfl⟩ := hO3.form
 replace hQ := hQ.le hle3
 replace hPA1 := hPA1.le hle3
 replace hRP := hRP.le hle3
 replace hPA2 := hPA2.le hle3
 replace hRT := hRT.le hle3
 refine kI ?_; refine k8 ?_; refine TL.run (ai rfl rfl hQ.s) rfl ?_; refine zm1 ?_
 refine ag rfl (fun c65 => ?_) (fun c65 => ?_)
 ·
  obtain ⟨x, hk3⟩ := ao (l := q.steps) k03 c65
  have hxn := hN.s x (List.mem_of_getElem? hk3)
  have hs := hQ.ss x (List.mem_of_getElem? hk3)
  have hxw := hxn.2.1
  refine jm ?_; refine vM ?_; refine zm0 ?_; refine vK ?_; refine TL.run (bh hQ.s hk3 rfl rfl) rfl (TL.alloc rfl (fun b8 => ?_))
  refine nN ?_; refine ay (ab rfl rfl rfl rfl) (ma x.name hxn.1) rfl ?_; refine mD ?_; refine fw ?_
  refine TL.append (enc := SWay.cells) rfl rfl rfl (OwnSl.nil (enc := SWay.cells)) (Src.sl hs.w) (by simp; omega) rfl (.new _ rfl) rfl (fun a79 c79 ob79 hO79 => ?_)
  refine mD ?_; refine mA ?_
  refine aV (V := fun k vv ob HX => [(9, .int .i64 k)]) (K := [(1, _), (2, _), (3, _), (7, _), (8, _), (61, _), (62, _), (63, _), (64, _), (65, _), (68, _), (69, _), (70, _), (71, _), (72, _), (73, _), (74, _), (75, _), (76, _), (77, _), (78, _), (79, _), (80, _)]) (L := fun k vv ob HX => St [] w0 H H3 ((b8, bP (bP x.cells 1 [gs (nmS x.name)]) 8 [.slice a79 ([] ++ x.ways).length c79]) :: (b3, [gs q.name, .slice va1 P1.length vc1, .slice va2 P2.length vc2, .slice va3 P3.length vc3]) :: (b2, [gs [], .slice none 0 0, .slice none 0 0, .slice none 0 0]) :: (b1, q.cells) :: ob3 ++ ob)) (I := fun k vv ob HX => (0 ≤ k ∧ k ≤ x.ways.length) ∧ OwnSl 3 SWay.cells (.slice a79 ([] ++ x.ways).length c79) (wUp x.ways k) ob) (μ := fun k => (x.ways.length - k).toNat) 0 .nilFunc _ H3 ky ⟨⟨by omega, by omega⟩, hO79.cast (by rw [wUp_0]; rfl)⟩ (fun w hw => hw) (fun k vv ob HX hI => ?_)
  obtain ⟨⟨k0, k1⟩, hOw⟩ := hI
  refine pq ?_; refine TL.run (bG rfl rfl hOw) rfl ?_; refine zm1 ?_
  refine ag rfl (fun c85 => ?_) (fun c85 => ?_)
  ·
   replace c85 : k < x.ways.length := by simpa [t6] using c85
   obtain ⟨w, hw⟩ := ao (l := x.ways) k0 c85
   have hwn := hxn.2.2 w (List.mem_of_getElem? hw)
   have hwl := t6 x.ways k
   refine ph ?_; refine bZ [(0, 1), (1, 2), (2, 1), (3, 1), (4, 2), (5, 1), (6, 1), (7, 1), (8, 2), (9, 3), (10, 1), (11, 1), (12, 0)] (by kernel_rfl) (by kernel_rfl) ?_; refine rQ ?_; refine rQ ?_; refine sx ?_
   refine zm4 ?_; refine a7 (PR.to (dO rfl hOw (.skip _ (.skip _ (.skip _ (.skip _ (.past _ .all))))) (BV hw) rfl) (rfl : _ = gs w.name)) rfl (my (ab rfl rfl rfl rfl) (ma w.name hwn) rfl ?_)
   refine sx ?_; refine fR ?_
   refine fq (a := w) (a' := nmW w) rfl rfl hOw (.skip _ (.skip _ (.skip _ (.skip _ (.past _ .all))))) (BV hw) rfl rfl rfl rfl (fun obw2 hogb hOw2 => ?_)
   refine sj ?_
   exact aF (k + 1) .nilFunc _ H3 ⟨⟨by omega, by omega⟩, hOw2.cast (wUp_set k0 hw)⟩ ky (fun w hw => hw) (by omega)
  replace c85 : ¬ k < x.ways.length := by simpa [t6] using c85
  refine fL ?_; refine TC.region ?_
  replace hOw := hOw.cast (wUp_end c85)
  have hEl : ([] ++ x.ways).length = (x.ways.map nmW).length := by simp
  rw [hEl] at hOw ⊢
  refine TL.pubO hOw (.skip _ (.skip _ (.skip _ (.skip _ (.past _ .all))))) (by simp) (fun HPob lePob hRW => ?_)
  replace hle3 := hle3.trans lePob
  replace hPA3 := hPA3.le lePob
  replace hs := hs.le lePob
  refine aT (L' := (b8, _) :: ((b3, _) :: ((b2, _) :: ((b1, _) :: (ob3))))) (gz [(b8, _), (b3, _), (b2, _), (b1, _)] (A := ob3)) ?_; refine iz ?_; refine f2 ?_
  refine aB rfl rfl rfl rfl (fun b103 => ?_)
  refine TL.append (enc := SStep.cells) rfl rfl rfl hO3 (Src.own [⟨x.kind, nmS x.name, x.peer, x.label, x.proc, x.term, x.args, x.ap, x.casts, x.cp, x.ways.map nmW, (a79, c79), x.next⟩] (.here _) rfl rfl) (by simp; omega) rfl (.skip _ (.skip _ (.skip _ (.skip _ (.skip _ .all))))) rfl (fun a104 c104 ob104 hO104 => ?_)
  refine pD ?_; refine lq ?_
  exact aF (i := (k3, P3)) (k3 + 1, P3 ++ [⟨x.kind, nmS x.name, x.peer, x.label, x.proc, x.term, x.args, x.ap, x.casts, x.cp, x.ways.map nmW, (a79, c79), x.next⟩]) _ ob104 HPob ⟨⟨by omega, by omega⟩, hle3, hO104, by simp only [List.length_append, List.length_cons, List.length_nil]; omega, ep hPA3 ⟨hs.a, hs.c, hs.cs, hRW⟩, e9 k03 hk3 hPm3 rfl⟩ ky (fun w hw => hw.drop.drop) (by omega)
 refine fL ?_; refine pi ?_
 refine TX.pubO hO3 (.skip _ (.skip _ (.skip _ .all))) (by simp) (fun HC leC hRS => ?_)
 have hE3 := hPm3
 rw [bB c65 k03] at hE3
 simp only [List.map_id'] at hE1 hE2
 exact aQ (.inr rfl) (ae rfl (RVal.cellA rfl (.there _ (.here _)) rfl)) ⟨⟨q.name, P1, (va1, vc1), P2, (va2, vc2), P3, (va3, vc3)⟩, rfl, ⟨hRP.le leC, hPA1, by rw [hE1]; simp; omega, hRT.le leC, hPA2, hRS, StAll.le hPA3 leC⟩, by rw [oQ]; unfold SProc.bare; simp only [hE1, hE2, hE3]⟩
theorem m7 {H : Hp} {pg : SProg} (hP : ProgOk H pg) (hN : ∀ q ∈ pg.procs, NmOk q) (hn : pg.procs.length ≤ 1000) :
  Fn Tryz.prog 12 [.agg pg.cells.toArray] H (fun v H1 => ∃ pg2 : SProg, v = .agg pg2.cells.toArray ∧ ProgOk H1 pg2 ∧ pg2.bare = (nmG pg).bare) := by
 refine Fn.enter Tryz.func12 Tryz.ntmps12 rfl rfl (fun w0 => ?_)
 refine zm2 ?_
 refine TL.box rfl rfl (fun b1 => ?_)
 refine TL.alloc rfl (fun b2 => ?_)
 refine gV ?_; refine k9 ?_
 refine TL.alloc rfl (fun b3 => ?_)
 refine fu ?_; refine gr ?_; refine ju ?_; refine pw ?_
 refine aV (V := fun (ix : Int × List SProc) v1 ob1 H1 => [(4, .int .i64 ix.1)]) (K := [(1, _), (2, _), (3, _)]) (L := fun (ix : Int × List SProc) v1 ob1 H1 => St [] w0 H H1 ((b3, [.slice pg.rp.1 pg.protos.length pg.rp.2, .slice pg.lp.1 pg.locals.length pg.lp.2, v1]) :: (b2, [.slice none 0 0, .slice none 0 0, .slice none 0 0]) :: (b1, pg.cells) :: ob1)) (I := fun (ix : Int × List SProc) v1 ob1 H1 => (0 ≤ ix.1 ∧ ix.1 ≤ pg.procs.length) ∧ H.le H1 ∧ OwnSl 4 SProc.cells v1 ix.2 ob1 ∧ ix.2.length = ix.1 ∧ PcAll H1 ix.2 ∧ ix.2.map SProc.bare = (pg.procs.take ix.1.toNat).map (fun q => (nmQ q).bare)) (μ := fun (ix : Int × List SProc) => (pg.procs.length - ix.1).toNat) ((0 : Int), []) (.slice none 0 0) [] H ky ⟨⟨by omega, by omega⟩, Hp.le.refl _, OwnSl.nil, rfl, (fun _ h => by cases h), rfl⟩ (fun w hw => hw) (fun ix v1 ob1 H1 hI => ?_)
 obtain ⟨⟨k01, k11⟩, hle1, hO1, hPl1, hPA1, hPm1⟩ := hI
 obtain ⟨k1, P1⟩ := ix
 dsimp only at *
 obtain ⟨va1, vc1, rfl⟩ := hO1.form
 replace hP := hP.le hle1
 refine kI ?_; refine k8 ?_; refine TL.run (ai rfl rfl hP.q) rfl ?_; refine zm1 ?_
 refine ag rfl (fun c11 => ?_) (fun c11 => ?_)
 ·
  obtain ⟨x, hk1⟩ := ao (l := pg.procs) k01 c11
  refine ph ?_; refine aU [true, true, true] [(0, 1), (1, 4), (2, 1), (3, 4), (4, 1), (5, 1), (6, 4), (7, 5), (8, 3), (9, 5), (10, 1), (11, 0)] (by kernel_rfl) (by kernel_rfl) ?_; refine zm4 ?_
  refine aH (S1 (S1 (S1 SN))) (Hp.le.refl _) (fun _ _ => aD rfl (.here _) rfl) rfl ?_; refine zm4 ?_; refine aH (S1 (S1 (S1 SN))) (Hp.le.refl _) (fun _ _ => aD rfl (.there _ (.there _ (.here _))) rfl) rfl ?_
  refine zm5 ?_
  refine az (af rfl hP.q rfl (by omega) (by omega)) rfl (aH (S1 (S1 (S1 SN))) (Hp.le.refl _) (fun _ _ => bh hP.q hk1 rfl rfl) rfl (ar rfl (TL.call (ab rfl rfl rfl rfl) (uC (hP.qs x (List.mem_of_getElem? hk1)) (hN x (List.mem_of_getElem? hk1))) rfl (fun v21 H21 hle21 hp21 => ?_))))
  obtain ⟨x21, rfl, hx21, hb21⟩ := hp21
  replace hle1 := hle1.trans hle21
  replace hPA1 := hPA1.le hle21
  refine au (S1 (S1 (S1 SN))) hle21 (aE rfl rfl rfl rfl (fun b22 => ?_))
  refine ar rfl (TL.append (enc := SProc.cells) rfl rfl rfl hO1 (Src.own [x21] (.here _) rfl rfl) (by simp; omega) rfl (.skip _ (.skip _ (.skip _ (.skip _ .all)))) rfl (fun a23 c23 ob23 hO23 => ?_))
  refine au (S0 (S1 (S1 (S1 SN)))) hle21 ?_; refine pA ?_; refine sj ?_
  exact aF (i := (k1, P1)) (k1 + 1, P1 ++ [x21]) _ ob23 H21 ⟨⟨by omega, by omega⟩, hle1, hO23, by simp only [List.length_append, List.length_cons, List.length_nil]; omega, ep hPA1 hx21, e9 k01 hk1 hPm1 hb21⟩ ky (fun w hw => hw.drop) (by omega)
 refine fL ?_; refine pi ?_
 refine TX.pubO hO1 (.skip _ (.skip _ (.skip _ .all))) (by simp) (fun HC leC hRQ => ?_)
 have hE1 := hPm1
 rw [bB c11 k01] at hE1
 replace hP := hP.le leC
 exact aQ (.inr rfl) (ae rfl (RVal.cellA rfl (.there _ (.here _)) rfl)) ⟨⟨pg.protos, pg.rp, pg.locals, pg.lp, P1, (va1, vc1)⟩, rfl, ⟨hP.r, hP.rs, hP.l, hP.ls, hRQ, PcAll.le hPA1 leC⟩, by unfold SProg.bare nmG; simp only [hE1, List.map_map, Function.comp_def]⟩
end Go.Sx
namespace Go.Sx
open Go
theorem fY {α β : Type} {f : α → β} {a b : List α} {k : Int} {x : α} (h : a.map f = b.map f) (hx : a[k.toNat]? = some x) : ∃ y, b[k.toNat]? = some y ∧ f x = f y := by
  have h1 : (b.map f)[k.toNat]? = some (f x) := by rw [← h, List.getElem?_map, hx]; rfl
  rw [List.getElem?_map] at h1
  cases hb : b[k.toNat]? with
  | none => rw [hb] at h1; simp at h1
  | some y => rw [hb] at h1; simp at h1; exact ⟨y, rfl, h1.symm⟩
theorem fh {α β : Type} {f : α → β} {a b : List α} (h : a.map f = b.map f) : (a.length : Int) = b.length := by
  have := congrArg List.length h; simp at this; omega
theorem cast_eq {x y : SCast} (h : x.bare = y.bare) : x.role = y.role ∧ x.proc = y.proc ∧ x.args = y.args := by
  unfold SCast.bare at h; simp at h; exact h
theorem step_eq {a b : SStep} (h : a.bare = b.bare) : a.kind = b.kind ∧ a.name = b.name ∧ a.peer = b.peer ∧ a.label = b.label ∧ a.proc = b.proc ∧ a.term = b.term ∧ a.next = b.next ∧ a.args = b.args ∧ a.casts.map SCast.bare = b.casts.map SCast.bare ∧ a.ways = b.ways := by
  unfold SStep.bare at h
  obtain ⟨_, _, _, _, _, _, _, _, _, _, _, _, _⟩ := a
  obtain ⟨_, _, _, _, _, _, _, _, _, _, _, _, _⟩ := b
  simp at h ⊢
  simp_all
theorem proc_eq {a b : SProc} (h : a.bare = b.bare) : a.name = b.name ∧ a.params = b.params ∧ a.terms = b.terms ∧ a.steps.map SStep.bare = b.steps.map SStep.bare := by
  unfold SProc.bare at h
  obtain ⟨_, _, _, _, _, _, _⟩ := a
  obtain ⟨_, _, _, _, _, _, _⟩ := b
  simp at h ⊢
  simp_all
theorem turn_eq {a b : STurn} (h : SArms.bare a = SArms.bare b) : a.kind = b.kind ∧ a.peer = b.peer ∧ a.arms = b.arms := by
  unfold SArms.bare at h
  obtain ⟨_, _, _, _⟩ := a
  obtain ⟨_, _, _, _⟩ := b
  simp at h ⊢
  simp_all
theorem Di {a b : SLocal} (h : a.bare = b.bare) : a.name = b.name ∧ a.turns.map SArms.bare = b.turns.map SArms.bare := by
  unfold SLocal.bare at h
  obtain ⟨_, _, _⟩ := a
  obtain ⟨_, _, _⟩ := b
  simp at h ⊢
  simp_all
theorem Au {a b : SPoint} (h : a.bare = b.bare) : a.frm = b.frm ∧ a.to = b.to ∧ a.arms = b.arms := by
  unfold SPoint.bare at h
  obtain ⟨_, _, _, _⟩ := a
  obtain ⟨_, _, _, _⟩ := b
  simp at h ⊢
  simp_all
theorem CO {a b : SProto} (h : a.bare = b.bare) : a.name = b.name ∧ a.roles = b.roles ∧ a.points.map SPoint.bare = b.points.map SPoint.bare := by
  unfold SProto.bare at h
  obtain ⟨_, _, _, _, _⟩ := a
  obtain ⟨_, _, _, _, _⟩ := b
  simp at h ⊢
  simp_all
end Go.Sx
namespace Go.Sx
open Go Go.Proofs
theorem eqTerm (t : Term) : gP Tryz.prog 4 45 t.cells t.cells = some true := by
 have h : gP Tryz.prog 4 45 t.cells t.cells = some ((t.kind == t.kind) && (((ByteArray.mk t.name.toArray).toList == (ByteArray.mk t.name.toArray).toList) && ((t.n == t.n) && (((ByteArray.mk t.text.toArray).toList == (ByteArray.mk t.text.toArray).toList) && ((t.l == t.l) && ((t.r == t.r) && true)))))) := by kernel_rfl
 rw [h]; simp
theorem eqWay (t : SWay) : gP Tryz.prog 4 66 t.cells t.cells = some true := by
 have h : gP Tryz.prog 4 66 t.cells t.cells = some (((ByteArray.mk t.label.toArray).toList == (ByteArray.mk t.label.toArray).toList) && (((ByteArray.mk t.name.toArray).toList == (ByteArray.mk t.name.toArray).toList) && ((t.next == t.next) && true))) := by kernel_rfl
 rw [h]; simp
theorem eqArm (t : SArm) : gP Tryz.prog 4 175 t.cells t.cells = some true := by
 have h : gP Tryz.prog 4 175 t.cells t.cells = some (((ByteArray.mk t.label.toArray).toList == (ByteArray.mk t.label.toArray).toList) && (((t.ck == t.ck) && (((ByteArray.mk t.cn.toArray).toList == (ByteArray.mk t.cn.toArray).toList) && true)) && ((t.next == t.next) && true))) := by kernel_rfl
 rw [h]; simp
theorem eqParam (t : SParam) : gP Tryz.prog 4 42 t.cells t.cells = some true := by
 have h : gP Tryz.prog 4 42 t.cells t.cells = some (((ByteArray.mk t.name.toArray).toList == (ByteArray.mk t.name.toArray).toList) && (((t.ck == t.ck) && (((ByteArray.mk t.cn.toArray).toList == (ByteArray.mk t.cn.toArray).toList) && true)) && true)) := by kernel_rfl
 rw [h]; simp
theorem kF {H : Hp} {l : List Int} {va vb : Value} (ha : RdSl H 1 I64.cells va l) (hb : RdSl H 1 I64.cells vb l) :
  FnS Tryz.prog 144 [va, vb] H (.bool true) := by
 have hma := ha.max
 obtain ⟨aa, ac, rfl⟩ := ha.len
 obtain ⟨ba, bc, rfl⟩ := hb.len
 refine FnS.enter Tryz.func144 Tryz.ntmps144 rfl rfl (fun w0 => ?_)
 refine nA ?_
 refine aW rfl (fun c10 => ?_) (fun c10 => ?_)
 · exact absurd rfl c10
 refine mC ?_
 refine TC.loop (V := fun k => [(5, .int .i64 k)]) (K := [(0, _), (1, _), (4, _)]) (L := fun k => _) (I := fun k => 0 ≤ k ∧ k ≤ l.length) (μ := fun k => (l.length - k).toNat) (i := (0 : Int)) ky ⟨by omega, by omega⟩ (fun w hw => hw) (fun k hI => ?_)
 refine nz ?_
 refine ag rfl (fun c14 => ?_) (fun c14 => ?_)
 ·
  obtain ⟨x, hx⟩ := ao (l := l) hI.1 c14
  refine ny ?_; refine TQ.run (aM ha hx rfl rfl) rfl ?_; refine nw ?_; refine TQ.run (aM hb hx rfl rfl) rfl ?_; refine kL ?_
  refine aW rfl (fun c25 => ?_) (fun c25 => ?_)
  · exact absurd rfl c25
  exact iq
 refine gv ?_
 exact ax (.inr rfl) (ae rfl (RVal.tmp rfl)) rfl
theorem ou {H : Hp} {l : List Str} {va vb : Value} (ha : RdSl H 1 Str.cells va l) (hb : RdSl H 1 Str.cells vb l) :
  FnS Tryz.prog 88 [va, vb] H (.bool true) := by
 have hma := ha.max
 obtain ⟨aa, ac, rfl⟩ := ha.len
 obtain ⟨ba, bc, rfl⟩ := hb.len
 refine FnS.enter Tryz.func88 Tryz.ntmps88 rfl rfl (fun w0 => ?_)
 refine nA ?_
 refine aW rfl (fun c10 => ?_) (fun c10 => ?_)
 · exact absurd rfl c10
 refine mC ?_
 refine TC.loop (V := fun k => [(5, .int .i64 k)]) (K := [(0, _), (1, _), (4, _)]) (L := fun k => _) (I := fun k => 0 ≤ k ∧ k ≤ l.length) (μ := fun k => (l.length - k).toNat) (i := (0 : Int)) ky ⟨by omega, by omega⟩ (fun w hw => hw) (fun k hI => ?_)
 refine nz ?_
 refine ag rfl (fun c14 => ?_) (fun c14 => ?_)
 ·
  obtain ⟨x, hx⟩ := ao (l := l) hI.1 c14
  refine ny ?_; refine TQ.run (aM ha hx rfl rfl) rfl ?_; refine nw ?_; refine TQ.run (aM hb hx rfl rfl) rfl (TQ.run (bV rfl rfl rfl) rfl (TQ.nil (ad ?_)))
  refine aW rfl (fun c25 => ?_) (fun c25 => ?_)
  · exact absurd rfl c25
  exact iq
 refine gv ?_
 exact ax (.inr rfl) (ae rfl (RVal.tmp rfl)) rfl
theorem jF {H : Hp} {l : List SArm} {va vb : Value} (ha : RdSl H 4 SArm.cells va l) (hb : RdSl H 4 SArm.cells vb l) :
  FnS Tryz.prog 89 [va, vb] H (.bool true) := by
 have hma := ha.max
 obtain ⟨aa, ac, rfl⟩ := ha.len
 obtain ⟨ba, bc, rfl⟩ := hb.len
 refine FnS.enter Tryz.func89 Tryz.ntmps89 rfl rfl (fun w0 => ?_)
 refine nA ?_
 refine aW rfl (fun c10 => ?_) (fun c10 => ?_)
 · exact absurd rfl c10
 refine mC ?_
 refine TC.loop (V := fun k => [(5, .int .i64 k)]) (K := [(0, _), (1, _), (4, _)]) (L := fun k => _) (I := fun k => 0 ≤ k ∧ k ≤ l.length) (μ := fun k => (l.length - k).toNat) (i := (0 : Int)) ky ⟨by omega, by omega⟩ (fun w hw => hw) (fun k hI => ?_)
 refine nz ?_
 refine ag rfl (fun c14 => ?_) (fun c14 => ?_)
 ·
  obtain ⟨x, hx⟩ := ao (l := l) hI.1 c14
  refine ny ?_; refine TQ.run (bh ha hx rfl rfl) rfl ?_; refine nw ?_; refine TQ.run (bh hb hx rfl rfl) rfl (TQ.run (qt (r := true) rfl rfl (by kernel_rfl) (by kernel_rfl) (eqArm x)) rfl (TQ.nil (ad ?_)))
  refine TC.cond rfl (fun c25 => ?_) (fun c25 => ?_)
  · exact absurd c25 (by decide)
  exact iq
 refine gv ?_
 exact ax (.inr rfl) (ae rfl (RVal.tmp rfl)) rfl
theorem qP {H : Hp} {l : List Term} {va vb : Value} (ha : RdSl H 6 Term.cells va l) (hb : RdSl H 6 Term.cells vb l) :
  FnS Tryz.prog 90 [va, vb] H (.bool true) := by
 have hma := ha.max
 obtain ⟨aa, ac, rfl⟩ := ha.len
 obtain ⟨ba, bc, rfl⟩ := hb.len
 refine FnS.enter Tryz.func90 Tryz.ntmps90 rfl rfl (fun w0 => ?_)
 refine nA ?_
 refine aW rfl (fun c10 => ?_) (fun c10 => ?_)
 · exact absurd rfl c10
 refine mC ?_
 refine TC.loop (V := fun k => [(5, .int .i64 k)]) (K := [(0, _), (1, _), (4, _)]) (L := fun k => _) (I := fun k => 0 ≤ k ∧ k ≤ l.length) (μ := fun k => (l.length - k).toNat) (i := (0 : Int)) ky ⟨by omega, by omega⟩ (fun w hw => hw) (fun k hI => ?_)
 refine nz ?_
 refine ag rfl (fun c14 => ?_) (fun c14 => ?_)
 ·
  obtain ⟨x, hx⟩ := ao (l := l) hI.1 c14
  refine ny ?_; refine TQ.run (bh ha hx rfl rfl) rfl ?_; refine nw ?_; refine TQ.run (bh hb hx rfl rfl) rfl (TQ.run (qt (r := true) rfl rfl (by kernel_rfl) (by kernel_rfl) (eqTerm x)) rfl (TQ.nil (ad ?_)))
  refine TC.cond rfl (fun c25 => ?_) (fun c25 => ?_)
  · exact absurd c25 (by decide)
  exact iq
 refine gv ?_
 exact ax (.inr rfl) (ae rfl (RVal.tmp rfl)) rfl
theorem rK {H : Hp} {l : List SWay} {va vb : Value} (ha : RdSl H 3 SWay.cells va l) (hb : RdSl H 3 SWay.cells vb l) :
  FnS Tryz.prog 146 [va, vb] H (.bool true) := by
 have hma := ha.max
 obtain ⟨aa, ac, rfl⟩ := ha.len
 obtain ⟨ba, bc, rfl⟩ := hb.len
 refine FnS.enter Tryz.func146 Tryz.ntmps146 rfl rfl (fun w0 => ?_)
 refine nA ?_
 refine aW rfl (fun c10 => ?_) (fun c10 => ?_)
 · exact absurd rfl c10
 refine mC ?_
 refine TC.loop (V := fun k => [(5, .int .i64 k)]) (K := [(0, _), (1, _), (4, _)]) (L := fun k => _) (I := fun k => 0 ≤ k ∧ k ≤ l.length) (μ := fun k => (l.length - k).toNat) (i := (0 : Int)) ky ⟨by omega, by omega⟩ (fun w hw => hw) (fun k hI => ?_)
 refine nz ?_
 refine ag rfl (fun c14 => ?_) (fun c14 => ?_)
 ·
  obtain ⟨x, hx⟩ := ao (l := l) hI.1 c14
  refine ny ?_; refine TQ.run (bh ha hx rfl rfl) rfl ?_; refine nw ?_; refine TQ.run (bh hb hx rfl rfl) rfl (TQ.run (qt (r := true) rfl rfl (by kernel_rfl) (by kernel_rfl) (eqWay x)) rfl (TQ.nil (ad ?_)))
  refine TC.cond rfl (fun c25 => ?_) (fun c25 => ?_)
  · exact absurd c25 (by decide)
  exact iq
 refine gv ?_
 exact ax (.inr rfl) (ae rfl (RVal.tmp rfl)) rfl
theorem qO {H : Hp} {a b : List SCast} {va vb : Value} (ha : RdSl H 3 SCast.cells va a) (hb : RdSl H 3 SCast.cells vb b) (hA : CsAll H a) (hB : CsAll H b) (he : a.map SCast.bare = b.map SCast.bare) :
  FnS Tryz.prog 145 [va, vb] H (.bool true) := by
 have hma := ha.max
 have hel := fh he
 obtain ⟨aa, ac, rfl⟩ := ha.len
 obtain ⟨ba, bc, rfl⟩ := hb.len
 refine FnS.enter Tryz.func145 Tryz.ntmps145 rfl rfl (fun w0 => ?_)
 refine nA ?_
 refine aW rfl (fun c10 => ?_) (fun c10 => ?_)
 · exact absurd hel c10
 refine mC ?_
 refine TC.loop (V := fun k => [(5, .int .i64 k)]) (K := [(0, _), (1, _), (4, _)]) (L := fun k => _) (I := fun k => 0 ≤ k ∧ k ≤ a.length) (μ := fun k => (a.length - k).toNat) (i := (0 : Int)) ky ⟨by omega, by omega⟩ (fun w hw => hw) (fun k hI => ?_)
 refine nz ?_
 refine ag rfl (fun c14 => ?_) (fun c14 => ?_)
 ·
  obtain ⟨x, hx⟩ := ao (l := a) hI.1 c14
  obtain ⟨y, hy, hxy⟩ := fY he hx
  have hf := cast_eq hxy
  have hlb := il hy
  have hax := hA x (List.mem_of_getElem? hx)
  have hby := (hB y (List.mem_of_getElem? hy)).cast hf.2.2.symm
  refine ny ?_; refine gt ?_; refine TQ.run (br ha hx rfl rfl) rfl ?_; refine nw ?_; refine gt ?_
  refine TQ.run (br hb hy rfl rfl) rfl (TQ.run (bV rfl rfl rfl) rfl (TQ.run (ah rfl) rfl (fK (s := 28) rfl (fun g28 => ?_) (fun g28 => ?_))))
  ·
   have q28 := aP g28
   exact absurd hf.1 q28
  have q28 := aL g28
  refine lo ?_; refine yJ ?_; refine iT ?_; refine bC rfl rfl (br ha hx rfl rfl) rfl ?_; refine lo ?_; refine yI ?_; refine iT ?_
  refine bC rfl rfl (br hb hy rfl rfl) rfl (bC rfl rfl (bV rfl rfl rfl) rfl ?_); refine iB ?_
  refine fK (s := 41) rfl (fun g41 => ?_) (fun g41 => ?_)
  ·
   have q41 := aP g41
   exact absurd hf.2.1 q41
  have q41 := aL g41
  refine lo ?_; refine yJ ?_; refine iT ?_; refine bC rfl rfl (br ha hx rfl rfl) rfl ?_; refine lo ?_; refine yI ?_; refine iT ?_
  refine bC rfl rfl (br hb hy rfl rfl) rfl (kg rfl rfl (ab rfl rfl rfl rfl) (kF hax hby) rfl ?_); refine vy ?_
  refine TC.cond rfl (fun c54 => ?_) (fun c54 => ?_)
  · exact absurd c54 (by decide)
  exact iq
 refine gv ?_
 exact ax (.inr rfl) (ae rfl (RVal.tmp rfl)) rfl
theorem ot {H : Hp} {a b : List STurn} {va vb : Value} (ha : RdSl H 3 STurn.cells va a) (hb : RdSl H 3 STurn.cells vb b) (hA : TuAll H a) (hB : TuAll H b) (he : a.map SArms.bare = b.map SArms.bare) :
  FnS Tryz.prog 44 [va, vb] H (.bool true) := by
 have hma := ha.max
 have hel := fh he
 obtain ⟨aa, ac, rfl⟩ := ha.len
 obtain ⟨ba, bc, rfl⟩ := hb.len
 refine FnS.enter Tryz.func44 Tryz.ntmps44 rfl rfl (fun w0 => ?_)
 refine nA ?_
 refine aW rfl (fun c10 => ?_) (fun c10 => ?_)
 · exact absurd hel c10
 refine mC ?_
 refine TC.loop (V := fun k => [(5, .int .i64 k)]) (K := [(0, _), (1, _), (4, _)]) (L := fun k => _) (I := fun k => 0 ≤ k ∧ k ≤ a.length) (μ := fun k => (a.length - k).toNat) (i := (0 : Int)) ky ⟨by omega, by omega⟩ (fun w hw => hw) (fun k hI => ?_)
 refine nz ?_
 refine ag rfl (fun c14 => ?_) (fun c14 => ?_)
 ·
  obtain ⟨x, hx⟩ := ao (l := a) hI.1 c14
  obtain ⟨y, hy, hxy⟩ := fY he hx
  have hf := turn_eq hxy
  have hlb := il hy
  have hax := (hA x (List.mem_of_getElem? hx)).a
  have hby := ((hB y (List.mem_of_getElem? hy)).a).cast hf.2.2.symm
  refine ny ?_; refine gt ?_; refine TQ.run (br ha hx rfl rfl) rfl ?_; refine nw ?_; refine gt ?_; refine TQ.run (br hb hy rfl rfl) rfl ?_; refine iB ?_
  refine fK (s := 28) rfl (fun g28 => ?_) (fun g28 => ?_)
  ·
   have q28 := aP g28
   exact absurd hf.1 q28
  have q28 := aL g28
  refine lo ?_; refine yJ ?_; refine iT ?_; refine bC rfl rfl (br ha hx rfl rfl) rfl ?_; refine lo ?_; refine yI ?_; refine iT ?_
  refine bC rfl rfl (br hb hy rfl rfl) rfl (bC rfl rfl (bV rfl rfl rfl) rfl ?_); refine iB ?_
  refine fK (s := 41) rfl (fun g41 => ?_) (fun g41 => ?_)
  ·
   have q41 := aP g41
   exact absurd hf.2.1 q41
  have q41 := aL g41
  refine lo ?_; refine yJ ?_; refine iT ?_; refine bC rfl rfl (br ha hx rfl rfl) rfl ?_; refine lo ?_; refine yI ?_; refine iT ?_
  refine bC rfl rfl (br hb hy rfl rfl) rfl (kg rfl rfl (ab rfl rfl rfl rfl) (jF hax hby) rfl ?_); refine vy ?_
  refine TC.cond rfl (fun c54 => ?_) (fun c54 => ?_)
  · exact absurd c54 (by decide)
  exact iq
 refine gv ?_
 exact ax (.inr rfl) (ae rfl (RVal.tmp rfl)) rfl
end Go.Sx
namespace Go.Sx
open Go Go.Proofs
theorem rL {H : Hp} {a b : SStep} (hA : StepOk H a) (hB : StepOk H b) (he : a.bare = b.bare) :
  FnS Tryz.prog 91 [.agg a.cells.toArray, .agg b.cells.toArray] H (.bool true) := by
 have hf := step_eq he
 refine FnS.enter Tryz.func91 Tryz.ntmps91 rfl rfl (fun w0 => ?_)
 refine zm2 ?_
 refine TL.box rfl rfl (fun b2 => ?_)
 refine TL.box rfl rfl (fun b3 => ?_)
 refine zm1 ?_; refine gS ?_; refine fz ?_; refine zm3 ?_
 refine aj (s := 10) rfl (fun g10 => ?_) (fun g10 => ?_)
 ·
  have q10 := of_decide_eq_true g10
  refine fM ?_; refine o7 ?_
  refine aj (s := 17) rfl (fun g17 => ?_) (fun g17 => ?_)
  ·
   have q17 := of_decide_eq_true g17
   refine fM ?_; refine o7 ?_
   refine aj (s := 24) rfl (fun g24 => ?_) (fun g24 => ?_)
   ·
    have q24 := of_decide_eq_true g24
    refine fM ?_; refine o7 ?_
    refine aj (s := 31) rfl (fun g31 => ?_) (fun g31 => ?_)
    ·
     have q31 := of_decide_eq_true g31
     refine fM ?_; refine o7 ?_
     refine aj (s := 38) rfl (fun g38 => ?_) (fun g38 => ?_)
     ·
      have q38 := of_decide_eq_true g38
      refine kw ?_; refine dD ?_
      refine aj (s := 45) rfl (fun g45 => ?_) (fun g45 => ?_)
      ·
       have q45 := of_decide_eq_true g45
       refine kw ?_; refine dD ?_
       refine aj (s := 52) rfl (fun g52 => ?_) (fun g52 => ?_)
       ·
        have q52 := of_decide_eq_true g52
        refine kw ?_; refine aK rfl rfl (ab rfl rfl rfl rfl) (kF hA.a (hB.a.cast hf.2.2.2.2.2.2.2.1.symm)) rfl ?_; refine zm3 ?_
        refine aj (s := 59) rfl (fun g59 => ?_) (fun g59 => ?_)
        ·
         refine kw ?_; refine aK rfl rfl (ab rfl rfl rfl rfl) (qO hA.c hB.c hA.cs hB.cs hf.2.2.2.2.2.2.2.2.1) rfl ?_; refine zm3 ?_
         refine aj (s := 66) rfl (fun g66 => ?_) (fun g66 => ?_)
         ·
          refine kw ?_; refine aK rfl rfl (ab rfl rfl rfl rfl) (rK hA.w (hB.w.cast hf.2.2.2.2.2.2.2.2.2.symm)) rfl ?_; refine ff ?_
          exact ax (.inr rfl) (ae rfl (RVal.tmp rfl)) rfl
         exact absurd g66 (by decide)
        exact absurd g59 (by decide)
       have q52 := of_decide_eq_false g52
       exact absurd hf.2.2.2.2.2.2.1 q52
      have q45 := of_decide_eq_false g45
      exact absurd hf.2.2.2.2.2.1 q45
     have q38 := of_decide_eq_false g38
     exact absurd hf.2.2.2.2.1 q38
    have q31 := of_decide_eq_false g31
    exact absurd hf.2.2.2.1 q31
   have q24 := of_decide_eq_false g24
   exact absurd hf.2.2.1 q24
  have q17 := of_decide_eq_false g17
  exact absurd hf.2.1 q17
 have q10 := of_decide_eq_false g10
 exact absurd hf.1 q10
theorem rM {H : Hp} {a b : SProc} (hA : ProcOk H a) (hB : ProcOk H b) (he : a.bare = b.bare) :
  FnS Tryz.prog 45 [.agg a.cells.toArray, .agg b.cells.toArray] H (.bool true) := by
 have hf := proc_eq he
 have hel := fh hf.2.2.2
 have hepl : (a.params.length : Int) = b.params.length := by rw [hf.2.1]
 have hm1 := hA.pa.max
 have hm2 := hA.s.max
 refine FnS.enter Tryz.func45 Tryz.ntmps45 rfl rfl (fun w0 => ?_)
 refine zm2 ?_
 refine TL.box rfl rfl (fun b2 => ?_)
 refine TL.box rfl rfl (fun b3 => ?_)
 refine pL ?_; refine fz ?_; refine ll ?_
 refine aj (s := 12) rfl (fun g12 => ?_) (fun g12 => ?_)
 ·
  have q12 := aP g12
  exact absurd hf.1 q12
 have q12 := aL g12
 refine fM ?_; refine aw rfl rfl (ai rfl rfl hA.pa) rfl ?_; refine zm9 ?_; refine aw rfl rfl (ai rfl rfl hB.pa) rfl ?_; refine dD ?_
 refine aj (s := 21) rfl (fun g21 => ?_) (fun g21 => ?_)
 ·
  have q21 := aP g21
  exact absurd hepl q21
 have q21 := aL g21
 refine fM ?_; refine aw rfl rfl (ai rfl rfl hA.s) rfl ?_; refine zm9 ?_; refine aw rfl rfl (ai rfl rfl hB.s) rfl ?_; refine dD ?_
 refine aj (s := 30) rfl (fun g30 => ?_) (fun g30 => ?_)
 ·
  have q30 := aP g30
  exact absurd hel q30
 have q30 := aL g30
 refine kw ?_; refine aK rfl rfl (ab rfl rfl rfl rfl) (qP hA.t (hB.t.cast hf.2.2.1.symm)) rfl ?_; refine gW ?_
 refine TC.cond rfl (fun c37 => ?_) (fun c37 => ?_)
 · exact absurd c37 (by decide)
 refine mC ?_
 refine TC.loop (V := fun k => [(5, .int .i64 k)]) (K := [(2, _), (3, _), (4, _)]) (L := fun k => _) (I := fun k => 0 ≤ k ∧ k ≤ a.params.length) (μ := fun k => (a.params.length - k).toNat) (i := (0 : Int)) ky ⟨by omega, by omega⟩ (fun w hw => hw) (fun k hI => ?_)
 refine nv ?_; refine TL.run (ai rfl rfl hA.pa) rfl ?_; refine zm1 ?_
 refine ag rfl (fun c42 => ?_) (fun c42 => ?_)
 ·
  obtain ⟨x, hx⟩ := ao (l := a.params) hI.1 c42
  have hy : b.params[k.toNat]? = some x := hf.2.1 ▸ hx
  refine rV ?_; refine TQ.run (af rfl hA.pa rfl (by omega) (by omega)) rfl (TQ.run (bh hA.pa hx rfl rfl) rfl ?_); refine nE ?_
  refine TQ.run (af rfl hB.pa rfl (by omega) (by omega)) rfl (TQ.run (bh hB.pa hy rfl rfl) rfl (TQ.run (qt (r := true) rfl rfl (by kernel_rfl) (by kernel_rfl) (eqParam x)) rfl (TQ.nil ?_)))
  refine ad (TC.cond rfl (fun c55 => ?_) (fun c55 => ?_))
  · exact absurd c55 (by decide)
  exact iq
 refine vn ?_
 refine TC.loop (V := fun k => [(6, .int .i64 k)]) (K := [(2, _), (3, _), (4, _)]) (L := fun k => _) (I := fun k => 0 ≤ k ∧ k ≤ a.steps.length) (μ := fun k => (a.steps.length - k).toNat) (i := (0 : Int)) ky ⟨by omega, by omega⟩ (fun w hw => hw) (fun k hI => ?_)
 refine nv ?_; refine TL.run (ai rfl rfl hA.s) rfl ?_; refine zm1 ?_
 refine ag rfl (fun c60 => ?_) (fun c60 => ?_)
 ·
  obtain ⟨x, hx⟩ := ao (l := a.steps) hI.1 c60
  obtain ⟨y, hy, hxy⟩ := fY hf.2.2.2 hx
  refine rV ?_; refine TQ.run (af rfl hA.s rfl (by omega) (by omega)) rfl (TQ.run (bh hA.s hx rfl rfl) rfl ?_); refine nE ?_
  refine TQ.run (af rfl hB.s rfl (by omega) (by omega)) rfl (TQ.run (bh hB.s hy rfl rfl) rfl (gR (ab rfl rfl rfl rfl) (rL (hA.ss x (List.mem_of_getElem? hx)) (hB.ss y (List.mem_of_getElem? hy)) hxy) rfl ?_))
  refine kL ?_
  refine TC.cond rfl (fun c74 => ?_) (fun c74 => ?_)
  · exact absurd c74 (by decide)
  exact iq
 refine gv ?_
 exact ax (.inr rfl) (ae rfl (RVal.tmp rfl)) rfl
theorem qQ {H : Hp} {a b : SProto} (hA : ProtoOk H a) (hB : ProtoOk H b) (he : a.bare = b.bare) :
  FnS Tryz.prog 43 [.agg a.cells.toArray, .agg b.cells.toArray] H (.bool true) := by
 have hf := CO he
 have hel := fh hf.2.2
 have hm1 := hA.pt.max
 refine FnS.enter Tryz.func43 Tryz.ntmps43 rfl rfl (fun w0 => ?_)
 refine zm2 ?_
 refine TL.box rfl rfl (fun b2 => ?_)
 refine TL.box rfl rfl (fun b3 => ?_)
 refine pL ?_; refine fz ?_; refine ll ?_
 refine aj (s := 11) rfl (fun g11 => ?_) (fun g11 => ?_)
 ·
  have q11 := aP g11
  exact absurd hf.1 q11
 have q11 := aL g11
 refine kw ?_; refine aK rfl rfl (ab rfl rfl rfl rfl) (ou hA.r (hB.r.cast hf.2.1.symm)) rfl ?_; refine dD ?_
 refine aj (s := 19) rfl (fun g19 => ?_) (fun g19 => ?_)
 · exact absurd g19 (by decide)
 refine fM ?_; refine aw rfl rfl (ai rfl rfl hA.pt) rfl ?_; refine zm9 ?_; refine aw rfl rfl (ai rfl rfl hB.pt) rfl ?_; refine gW ?_
 refine aW rfl (fun c27 => ?_) (fun c27 => ?_)
 · exact absurd hel c27
 refine mC ?_
 refine TC.loop (V := fun k => [(5, .int .i64 k)]) (K := [(2, _), (3, _), (4, _)]) (L := fun k => _) (I := fun k => 0 ≤ k ∧ k ≤ a.points.length) (μ := fun k => (a.points.length - k).toNat) (i := (0 : Int)) ky ⟨by omega, by omega⟩ (fun w hw => hw) (fun k hI => ?_)
 refine nv ?_; refine TL.run (ai rfl rfl hA.pt) rfl ?_; refine zm1 ?_
 refine ag rfl (fun c32 => ?_) (fun c32 => ?_)
 ·
  obtain ⟨x, hx⟩ := ao (l := a.points) hI.1 c32
  obtain ⟨y, hy, hxy⟩ := fY hf.2.2 hx
  have hg := Au hxy
  have hxa := (hA.ps x (List.mem_of_getElem? hx)).a
  have hya := (hB.ps y (List.mem_of_getElem? hy)).a.cast hg.2.2.symm
  have hlb := il hy
  refine rV ?_; refine TQ.run (af rfl hA.pt rfl (by omega) (by omega)) rfl ?_; refine gt ?_; refine TQ.run (br hA.pt hx rfl rfl) rfl ?_; refine nE ?_
  refine TQ.run (af rfl hB.pt rfl (by omega) (by omega)) rfl ?_; refine gt ?_
  refine TQ.run (br hB.pt hy rfl rfl) rfl (TQ.run (bV rfl rfl rfl) rfl (TQ.run (ah rfl) rfl (fK (s := 48) rfl (fun g48 => ?_) (fun g48 => ?_))))
  ·
   have q48 := aP g48
   exact absurd hg.1 q48
  have q48 := aL g48
  refine iT ?_; refine bC rfl rfl (aD rfl (.there _ (.here _)) rfl) rfl (bC rfl rfl (ah rfl) rfl (bC rfl rfl (af rfl hA.pt rfl (by omega) (by omega)) rfl ?_)); refine iT ?_
  refine bC rfl rfl (br hA.pt hx rfl rfl) rfl ?_; refine vz ?_; refine bC rfl rfl (ah rfl) rfl (bC rfl rfl (af rfl hB.pt rfl (by omega) (by omega)) rfl ?_); refine iT ?_
  refine bC rfl rfl (br hB.pt hy rfl rfl) rfl (bC rfl rfl (bV rfl rfl rfl) rfl ?_); refine iB ?_
  refine fK (s := 63) rfl (fun g63 => ?_) (fun g63 => ?_)
  ·
   have q63 := aP g63
   exact absurd hg.2.1 q63
  have q63 := aL g63
  refine iT ?_; refine bC rfl rfl (aD rfl (.there _ (.here _)) rfl) rfl (bC rfl rfl (ah rfl) rfl (bC rfl rfl (af rfl hA.pt rfl (by omega) (by omega)) rfl ?_)); refine iT ?_
  refine bC rfl rfl (br hA.pt hx rfl rfl) rfl ?_; refine vz ?_; refine bC rfl rfl (ah rfl) rfl (bC rfl rfl (af rfl hB.pt rfl (by omega) (by omega)) rfl ?_); refine iT ?_
  refine bC rfl rfl (br hB.pt hy rfl rfl) rfl (kg rfl rfl (ab rfl rfl rfl rfl) (jF hxa hya) rfl ?_); refine vy ?_
  refine TC.cond rfl (fun c78 => ?_) (fun c78 => ?_)
  · exact absurd c78 (by decide)
  exact iq
 refine gv ?_
 exact ax (.inr rfl) (ae rfl (RVal.tmp rfl)) rfl
theorem m8 {H : Hp} {a b : SProg} (hA : ProgOk H a) (hB : ProgOk H b) (he : a.bare = b.bare) :
  FnS Tryz.prog 14 [.agg a.cells.toArray, .agg b.cells.toArray] H (.bool true) := by
 have hf := zp he
 have hl1 := fh hf.1
 have hl2 := fh hf.2.1
 have hl3 := fh hf.2.2
 have hm1 := hA.r.max
 have hm2 := hA.l.max
 have hm3 := hA.q.max
 refine FnS.enter Tryz.func14 Tryz.ntmps14 rfl rfl (fun w0 => ?_)
 refine zm2 ?_
 refine TL.box rfl rfl (fun b2 => ?_)
 refine TL.box rfl rfl (fun b3 => ?_)
 refine pL ?_; refine TL.run (ai rfl rfl hA.r) rfl ?_; refine fz ?_; refine TL.run (ai rfl rfl hB.r) rfl ?_; refine zm3 ?_
 refine aj (s := 15) rfl (fun g15 => ?_) (fun g15 => ?_)
 ·
  have q15 := aP g15
  exact absurd hl1 q15
 have q15 := aL g15
 refine fM ?_; refine aw rfl rfl (ai rfl rfl hA.l) rfl ?_; refine zm9 ?_; refine aw rfl rfl (ai rfl rfl hB.l) rfl ?_; refine dD ?_
 refine aj (s := 24) rfl (fun g24 => ?_) (fun g24 => ?_)
 ·
  have q24 := aP g24
  exact absurd hl2 q24
 have q24 := aL g24
 refine fM ?_; refine aw rfl rfl (ai rfl rfl hA.q) rfl ?_; refine zm9 ?_; refine aw rfl rfl (ai rfl rfl hB.q) rfl ?_; refine gW ?_
 refine aW rfl (fun c32 => ?_) (fun c32 => ?_)
 · exact absurd hl3 c32
 refine mC ?_
 refine TC.loop (V := fun k => [(5, .int .i64 k)]) (K := [(2, _), (3, _), (4, _)]) (L := fun k => _) (I := fun k => 0 ≤ k ∧ k ≤ a.protos.length) (μ := fun k => (a.protos.length - k).toNat) (i := (0 : Int)) ky ⟨by omega, by omega⟩ (fun w hw => hw) (fun k hI => ?_)
 refine nv ?_; refine TL.run (ai rfl rfl hA.r) rfl ?_; refine zm1 ?_
 refine ag rfl (fun c37 => ?_) (fun c37 => ?_)
 ·
  obtain ⟨x, hx⟩ := ao (l := a.protos) hI.1 c37
  obtain ⟨y, hy, hxy⟩ := fY hf.1 hx
  have hlb := il hy
  refine rV ?_; refine TQ.run (af rfl hA.r rfl (by omega) (by omega)) rfl (TQ.run (bh hA.r hx rfl rfl) rfl ?_); refine nE ?_
  refine TQ.run (af rfl hB.r rfl (by omega) (by omega)) rfl (TQ.run (bh hB.r hy rfl rfl) rfl (gR (ab rfl rfl rfl rfl) (qQ (hA.rs x (List.mem_of_getElem? hx)) (hB.rs y (List.mem_of_getElem? hy)) hxy) rfl ?_))
  refine kL ?_
  refine TC.cond rfl (fun c51 => ?_) (fun c51 => ?_)
  · exact absurd c51 (by decide)
  exact iq
 refine vn ?_
 refine TC.loop (V := fun k => [(6, .int .i64 k)]) (K := [(2, _), (3, _), (4, _)]) (L := fun k => _) (I := fun k => 0 ≤ k ∧ k ≤ a.locals.length) (μ := fun k => (a.locals.length - k).toNat) (i := (0 : Int)) ky ⟨by omega, by omega⟩ (fun w hw => hw) (fun k hI => ?_)
 refine nv ?_; refine TL.run (ai rfl rfl hA.l) rfl ?_; refine zm1 ?_
 refine ag rfl (fun c56 => ?_) (fun c56 => ?_)
 ·
  obtain ⟨x, hx⟩ := ao (l := a.locals) hI.1 c56
  obtain ⟨y, hy, hxy⟩ := fY hf.2.1 hx
  have hg := Di hxy
  have hlb := il hy
  refine rV ?_; refine TQ.run (af rfl hA.l rfl (by omega) (by omega)) rfl ?_; refine gt ?_; refine TQ.run (br hA.l hx rfl rfl) rfl ?_; refine nE ?_
  refine TQ.run (af rfl hB.l rfl (by omega) (by omega)) rfl ?_; refine gt ?_
  refine TQ.run (br hB.l hy rfl rfl) rfl (TQ.run (bV rfl rfl rfl) rfl (TQ.run (ah rfl) rfl (fK (s := 72) rfl (fun g72 => ?_) (fun g72 => ?_))))
  ·
   have q72 := aP g72
   exact absurd hg.1 q72
  have q72 := aL g72
  refine iT ?_; refine bC rfl rfl (aD rfl (.there _ (.here _)) rfl) rfl (bC rfl rfl (ah rfl) rfl (bC rfl rfl (af rfl hA.l rfl (by omega) (by omega)) rfl ?_)); refine iT ?_
  refine bC rfl rfl (br hA.l hx rfl rfl) rfl ?_; refine vz ?_; refine bC rfl rfl (ah rfl) rfl (bC rfl rfl (af rfl hB.l rfl (by omega) (by omega)) rfl ?_); refine iT ?_
  refine bC rfl rfl (br hB.l hy rfl rfl) rfl ?_; refine zm389 ?_; refine vy ?_
  refine TC.cond rfl (fun c87 => ?_) (fun c87 => ?_)
  · exact absurd c87 (by decide)
  exact iq
 refine vn ?_
 refine TC.loop (V := fun k => [(7, .int .i64 k)]) (K := [(2, _), (3, _), (4, _)]) (L := fun k => _) (I := fun k => 0 ≤ k ∧ k ≤ a.procs.length) (μ := fun k => (a.procs.length - k).toNat) (i := (0 : Int)) ky ⟨by omega, by omega⟩ (fun w hw => hw) (fun k hI => ?_)
 refine nv ?_; refine TL.run (ai rfl rfl hA.q) rfl ?_; refine zm1 ?_
 refine ag rfl (fun c92 => ?_) (fun c92 => ?_)
 ·
  obtain ⟨x, hx⟩ := ao (l := a.procs) hI.1 c92
  obtain ⟨y, hy, hxy⟩ := fY hf.2.2 hx
  have hlb := il hy
  refine rV ?_; refine TQ.run (af rfl hA.q rfl (by omega) (by omega)) rfl (TQ.run (bh hA.q hx rfl rfl) rfl ?_); refine nE ?_
  refine TQ.run (af rfl hB.q rfl (by omega) (by omega)) rfl (TQ.run (bh hB.q hy rfl rfl) rfl (gR (ab rfl rfl rfl rfl) (rM (hA.qs x (List.mem_of_getElem? hx)) (hB.qs y (List.mem_of_getElem? hy)) hxy) rfl ?_))
  refine kL ?_
  refine TC.cond rfl (fun c106 => ?_) (fun c106 => ?_)
  · exact absurd c106 (by decide)
  exact iq
 refine gv ?_
 exact ax (.inr rfl) (ae rfl (RVal.tmp rfl)) rfl
end Go.Sx
namespace Go.Sx
open Go Go.Proofs
theorem eqFa {f g : SFault} {r : Bool} (h : ((f.e == g.e) && ((f.part == g.part) && ((f.at_ == g.at_) && true))) = r) : gP Tryz.prog 4 35 f.cells g.cells = some r := by
 rw [← h]
 obtain ⟨a, b, c⟩ := f
 obtain ⟨a', b', c'⟩ := g
 exact (show gP Tryz.prog 4 35 [.int .i64 a, .int .i64 b, .int .i64 c] [.int .i64 a', .int .i64 b', .int .i64 c'] = some ((a == a') && ((b == b') && ((c == c') && true))) by kernel_rfl)
theorem AY (f : SFault) : gP Tryz.prog 4 35 f.cells f.cells = some true := eqFa (by simp)
theorem ov {H : Hp} {lv : Value} {l : List Int} (hl : RdSl H 1 I64.cells lv l) (hm : l.length ≤ 1000000000000) (wh what : Int) (hM : MaxG H) :
  Fn Tryz.prog 3 [lv, .int .i64 wh, .int .i64 what] H (fun v H1 => v = .bool true) := by
 refine Fn.enter Tryz.func3 Tryz.ntmps3 rfl rfl (fun w0 => ?_)
 refine zm6 ?_; refine zm2 ?_
 refine TL.call (ab rfl rfl rfl rfl) (ym hM) rfl (fun v9 H9 hle9 hp9 => ?_)
 replace hM := hM.le hle9
 replace hl := hl.le hle9
 subst hp9
 refine zm1 ?_
 refine TC.cond rfl (fun c10 => ?_) (fun c10 => ?_)
 · exact absurd c10 (by decide)
 refine zm233 ?_
 refine TL.call (ab rfl rfl rfl rfl) (yg hl hm wh what) rfl (fun v14 H14 hle14 hp14 => ?_)
 obtain ⟨pg14, rfl, hP14, hg14⟩ := hp14
 replace hM := hM.le hle14
 replace hl := hl.le hle14
 refine TL.alloc rfl (fun b7 => ?_)
 refine fu ?_; refine kI ?_; refine TL.run (dw rfl) rfl (TL.run (fE rfl rfl (by omega)) rfl ?_); refine zm1 ?_
 refine ag rfl (fun c18 => ?_) (fun c18 => ?_)
 ·
  refine iw ?_
  clear hP14 hg14
  refine cS (ab rfl rfl rfl rfl) (nZ hl hm) rfl (fun v20 H20 ob20 hle20 hp20 => ?_)
  obtain ⟨ps, qs, S, pv, psv, ob1, B, rfl, rfl, hps, hPs, hO, hB, hq, hN, hn1, hn11⟩ := hp20
  obtain ⟨psa, psc, rfl⟩ := hps.len
  obtain ⟨pva, pvc, rfl⟩ := hO.form
  replace hM := hM.le hle20
  refine TL.pubO hO (.skip _ (.app _)) (by simp) (fun HQ leQ hR => ?_)
  refine TL.pubB (hB.leH leQ) (.skip _ .all) (by simp) (fun HB leB hBH => ?_)
  have leQB := leQ.trans leB
  obtain ⟨pg14, hpg, hP14, hg14, _, _⟩ := qU hBH (hR.le leB) (fun x hx => (hq x hx).le leQB (.refl _)) (hps.le leQB) ((hPs.le leQB).pk) hN (by omega) (by omega)
  replace hM := hM.le leQB
  rw [hpg]
  refine sk ?_
  exact zq970
 exact TC.skip (zq970)
end Go.Sx
namespace Go.Proofs.YtjnlogbbcceaoaaGreat.ScopeRenamesUpto
open Go Go.Sx Go.ChangeShapes Go.WideShapes Go.ChangeAt Go.RowKit
theorem own : ownKnob Tryz.prog.godebug = none := by kernel_rfl
theorem laidOut : laidOutB Tryz.prog = true := by kernel_rfl
theorem hread : ∀ t ∈ Tryz.f3.params.toList, Tryz.prog.readableRec t = true ∧ t < Tryz.prog.types.size := by
  intro t ht
  have := List.all_eq_true.1 (show (Tryz.f3.params.toList.all fun t => Tryz.prog.readableRec t && decide (t < Tryz.prog.types.size)) = true by kernel_rfl) t ht
  simp only [Bool.and_eq_true, decide_eq_true_eq] at this
  exact this
theorem contract (H : Type) (enc : TypeId × Value → H) (W : World) (base : Nat) (args : Array Value) (ds gs0 : List (DataW H)) (before : List MemPlace)
    (hval0 : ∀ (j : Nat) t v, Tryz.f3.params[j]? = some t → args[j]? = some v → Value.okWide Tryz.prog W .any base t v)
    (hW : DataW.Whole enc Tryz.prog Tryz.f3.params.toList Rows.scopeRenamesSpec.vars false W args.toList ds gs0 before) (hsh : W.ShapedOpen Tryz.prog) (hk : Rows.uptoSmall H (ds ++ gs0) = true) :
    Calls Tryz.prog 3 args W fun e W' => ∃ v, e = .returned v ∧ Rows.scopeRenamesSpec.post enc Tryz.prog Tryz.f3 false true false false W args v W' := by
  have hMx : MaxG (yh W) := Go.Proofs.cell_of_shapedOpen_int (zero := #[.int .i64 0]) (t := 3) hsh (of_decide_eq_true (by kernel_rfl)) (by kernel_rfl) rfl (by kernel_rfl) (by kernel_rfl) Tryz.underlying3
  have hval : ∀ (j : Nat) t v, Tryz.f3.params[j]? = some t → args[j]? = some v → Value.okWide Tryz.prog W .any base t v := hval0
  have hW' := hW
  obtain ⟨p, q, hA0, hV, hpq, hfz, hnd⟩ := hW
  have hA : DataW.TrodAll enc Tryz.prog W 0 (fun _ => true) true Tryz.f3.params.toList args.toList ds p := hA0
  rw [Tryz.params3] at hA hval
  obtain ⟨v0, vs0, d0, ds0, p0, q0, hargs, rfl, rfl, h0, r0⟩ := trodAll_cons hA
  obtain ⟨v1, vs1, d1, ds1, p1, q1, rfl, rfl, rfl, h1, r1⟩ := trodAll_cons r0
  obtain ⟨v2, vs2, d2, ds2, p2, q2, rfl, rfl, rfl, h2, r2⟩ := trodAll_cons r1
  obtain ⟨rfl, rfl, rfl⟩ := trodAll_nil r2
  obtain rfl : args = #[v0, v1, v2] := by cases args; simp_all
  obtain ⟨rfl, rfl⟩ := trodVars_none hV
  obtain ⟨a_l, len_l, cap_l, ev_l⟩ := okWide_slice Tryz.underlying22 (hval 0 22 v0 rfl rfl)
  obtain ⟨⟨u_l, l⟩, e_l, R_l, K_l⟩ := (ux Tryz.underlying22 (k := 1) (by kernel_rfl) (by decide) (Az (Ay Tryz.underlying3))).one h0 (bulk_of (i := 0) hk rfl)
  obtain rfl : v0 = .slice u_l.1 l.length u_l.2 := by rw [ev_l] at e_l ⊢; simpa [Value.cells] using e_l
  simp only at R_l K_l
  obtain ⟨wh, rfl, rfl, rfl, w_wh⟩ := open_int Tryz.underlying3 (hval 1 3 v1 rfl rfl) h1
  have R_wh : xh wh := by simpa [xh, Lit.wf, IntKind.min, IntKind.max, IntKind.signed, IntKind.bits] using w_wh
  obtain ⟨what, rfl, rfl, rfl, w_what⟩ := open_int Tryz.underlying3 (hval 2 3 v2 rfl rfl) h2
  have R_what : xh what := by simpa [xh, Lit.wf, IntKind.min, IntKind.max, IntKind.signed, IntKind.bits] using w_what
  refine (Fn.callsT (W := W) (ov R_l (Nat.le_trans K_l.1 (by decide)) wh what hMx)).mono ?_
  rintro e W1 ⟨rfl, hB⟩
  have done : Rows.scopeRenamesSpec.post enc Tryz.prog Tryz.f3 false true false false W #[.slice u_l.1 l.length u_l.2, .int .i64 wh, .int .i64 what] (.bool true) W1 := Dj (P := Tryz.prog) (tb := 4) hW' rfl rfl rfl rfl (by kernel_rfl) (by kernel_rfl) laidOut hread hB
  exact ⟨_, rfl, done⟩
noncomputable def laidWorld (os : Os) : World := World.holding Tryz.prog os ⟨#[], #[], []⟩
theorem laid_met (os : Os) : laidMet Tryz.prog Rows.scopeRenamesUptoRow.laid ((laidWorld os).forCall (fun _ _ => 0) ⟨#[], #[.slice none 0 0, .int .i64 0, .int .i64 0], []⟩).memory :=
  laidMet_of_run' 8 (by kernel_rfl) (by kernel_rfl)
theorem reads (os : Os) {H : Type} (enc : TypeId × Value → H) : ∃ places, DataW.whole enc Tryz.prog ((laidWorld os).forCall (fun _ _ => 0) ⟨#[], #[.slice none 0 0, .int .i64 0, .int .i64 0], []⟩).memory Tryz.f3.params.toList Rows.scopeRenamesSpec.vars false #[(.slice none 0 0 : Value), (.int .i64 0 : Value), (.int .i64 0 : Value)].toList 8 = some ([.nil, .lit (.int .i64 0), .lit (.int .i64 0)], [], places) :=
  ⟨[], by kernel_rfl⟩
theorem lifted (os : Os) (started : os.Started) (H : Type) (enc : TypeId × Value → H) (F : Stop.Interp) :
    ReturnsInHanded {} Tryz.checked os 3 .any ((Rows.OpenSpec.upto Rows.scopeRenamesSpec).preRow enc Tryz.prog Tryz.f3 Rows.scopeRenamesUptoRow.domain false Rows.scopeRenamesUptoRow.laid) (((Rows.OpenSpec.upto Rows.scopeRenamesSpec).at F).post enc Tryz.prog Tryz.f3 false true false false) := by
  obtain ⟨places, hx⟩ := reads os enc
  refine returnsInHanded_of_row (C := Tryz.checked) (s := (Rows.OpenSpec.upto Rows.scopeRenamesSpec)) own started (by kernel_rfl) Tryz.func3
    (witness_row_at (enc := enc) (C := Tryz.checked) false (laidWorld os) #[.slice none 0 0, .int .i64 0, .int .i64 0] rfl (by kernel_rfl) (by kernel_rfl) (by kernel_rfl)
      (OpenSpec.preRow_of_cond 8 hx (by kernel_rfl) (fun k hk => by cases hk; kernel_rfl) (by kernel_rfl) (laid_met os))) ?_
  intro W base args ds gs before hval hW _ hcond _ _ hsh _
  exact contract H enc W base args ds gs before hval hW hsh (hcond _ rfl)
theorem holds : Rows.ScopeRenamesUptoSaid :=
  OpenClaim.holds_of_cond 3 Tryz.f3 rfl rfl rfl rfl rfl rfl rfl ⟨rfl, rfl, rfl, rfl, rfl⟩ rfl rfl rfl rfl rfl (by kernel_rfl) Tryz.func3 (by kernel_rfl)
    (of_decide_eq_true (by kernel_rfl)) (by unfold Func.isWrapper; first | (rw [if_pos (by decide +kernel)]; kernel_rfl) | (rw [if_neg (by decide +kernel)]; exact ⟨rfl, rfl⟩))
    (fun os started H enc _ F => by rw [OpenClaim.pre_eq_preRow]; exact lifted os started H enc F)
end Go.Proofs.YtjnlogbbcceaoaaGreat.ScopeRenamesUpto
