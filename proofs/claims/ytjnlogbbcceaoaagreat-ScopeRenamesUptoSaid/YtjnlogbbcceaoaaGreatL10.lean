import Derived.Test.YtjnlogbbcceaoaaGreatL9
set_option linter.all false
set_option maxRecDepth 100000
set_option maxHeartbeats 32000000
namespace Go.Sx
open Go Go.Proofs
theorem tf {H : Hp} {q : SProc} (hQ : ProcOk H q) (hR : RiseOk q) :
  Fn Tryz.prog 47 [.agg q.cells.toArray] H (fun v H2 => ∃ q2 : SProc, v = .agg q2.cells.toArray ∧ ProcOk H2 q2 ∧ q2.bare = fD q) := by
 have hS := hR.s
 have n1 := hR.n1
 have n2 := hR.n2
 have n3 := hR.n3
 have np := hR.p
 have hol0 := zu hS hR.t q.steps.length 0 (by omega)
 have hoL : (dm q).length ≤ q.steps.length := hol0
 have hplc := Av q
 have hmaxs := hQ.s.max
 have hmaxt := hQ.t.max
 refine Fn.enter Tryz.func47 Tryz.ntmps47 rfl rfl (fun w0 => ?_)
 refine zm2 ?_
 refine TL.box rfl rfl (fun b1 => ?_)
 refine TL.alloc rfl (fun b2 => ?_)
 refine TL.nil (ad (rm (V := fun (y : Nat × Option Addr × Nat × aq) => [(3, .pointer (some ⟨y.1, 0, none⟩))]) (K := [(1, _), (2, _)]) ⟨rfl, rfl, trivial⟩ (L := fun (y : Nat × Option Addr × Nat × aq) => St [] w0 H H ((y.1, [gs q.name, .slice y.2.1 q.params.length y.2.2.1, .slice none 0 0, .slice none 0 0]) :: (b2, [gs [], .slice none 0 0, .slice none 0 0, .slice none 0 0]) :: (b1, q.cells) :: y.2.2.2)) (I := fun (y : Nat × Option Addr × Nat × aq) => OwnSl 3 SParam.cells (.slice y.2.1 q.params.length y.2.2.1) q.params y.2.2.2) ?_ ?_))
 ·
  refine eP ?_
  refine TD.part 1 5 rfl rfl rfl ?_ ?_
  ·
   refine TD.part 5 7 rfl rfl rfl ?_ ?_
   ·
    refine bZ [(0, 1), (1, 2), (3, 1), (4, 2), (2, 3), (5, 0), (6, 1), (7, 3), (8, 0)] (by kernel_rfl) (by kernel_rfl) ?_; refine o4 ?_; refine o4 ?_
    refine aE rfl rfl rfl rfl (fun b19 => ?_)
    refine bj (TL.append (enc := SParam.cells) rfl rfl rfl (OwnSl.blk (enc := SParam.cells) [] rfl rfl (by decide)) (Src.sl hQ.pa) (by simp; omega) rfl (.take (.here _) rfl) rfl (fun a22 c22 ob22 hO22 => ?_))
    refine TF.back ?_; refine dZ ?_
    refine TF.alloc rfl (fun b3 => ?_)
    refine sB ?_
    exact je (b3, a22, c22, ob22) (hO22.cast (List.nil_append _)) ky (fun w hw => hw)
   refine TD.part 2 7 rfl rfl rfl ?_ ?_
   ·
    refine bZ [(0, 1), (1, 2), (3, 1), (4, 2), (2, 3), (7, 3), (5, 0), (6, 1), (8, 0)] (by kernel_rfl) (by kernel_rfl) ?_; refine o4 ?_; refine o4 ?_
    refine aE rfl rfl rfl rfl (fun b19 => ?_)
    refine TF.alloc rfl (fun b3 => ?_)
    refine bj (TL.append (enc := SParam.cells) rfl rfl rfl (OwnSl.blk (enc := SParam.cells) [] rfl rfl (by decide)) (Src.sl hQ.pa) (by simp; omega) rfl (.take (.there _ (.here _)) rfl) rfl (fun a22 c22 ob22 hO22 => ?_))
    refine TF.back ?_; refine dZ ?_; refine sB ?_
    exact je (b3, a22, c22, ob22) (hO22.cast (List.nil_append _)) ky (fun w hw => hw)
   refine bZ [(0, 1), (1, 2), (3, 1), (4, 2), (7, 3), (2, 3), (5, 0), (6, 1), (8, 0)] (by kernel_rfl) (by kernel_rfl) ?_; refine o4 ?_; refine o4 ?_
   refine TF.alloc rfl (fun b3 => ?_)
   refine aE rfl rfl rfl rfl (fun b19 => ?_)
   refine bj (TL.append (enc := SParam.cells) rfl rfl rfl (OwnSl.blk (enc := SParam.cells) [] rfl rfl (by decide)) (Src.sl hQ.pa) (by simp; omega) rfl (.take (.here _) rfl) rfl (fun a22 c22 ob22 hO22 => ?_))
   refine TF.back ?_; refine dZ ?_; refine sB ?_
   exact je (b3, a22, c22, ob22) (hO22.cast (List.nil_append _)) ky (fun w hw => hw)
  refine TD.part 5 7 rfl rfl rfl ?_ ?_
  ·
   refine bZ [(0, 1), (3, 1), (4, 2), (2, 3), (5, 0), (1, 2), (6, 1), (7, 3), (8, 0)] (by kernel_rfl) (by kernel_rfl) ?_; refine zm4 ?_; refine o4 ?_
   refine aE rfl rfl rfl rfl (fun b19 => ?_)
   refine bj (TL.append (enc := SParam.cells) rfl rfl rfl (OwnSl.blk (enc := SParam.cells) [] rfl rfl (by decide)) (Src.sl hQ.pa) (by simp; omega) rfl (.take (.here _) rfl) rfl (fun a22 c22 ob22 hO22 => ?_))
   refine TF.back (a7 (aD rfl (.there _ (.here _)) rfl) rfl ?_); refine dZ ?_
   refine TF.alloc rfl (fun b3 => ?_)
   refine sB ?_
   exact je (b3, a22, c22, ob22) (hO22.cast (List.nil_append _)) ky (fun w hw => hw)
  refine TD.part 2 7 rfl rfl rfl ?_ ?_
  ·
   refine bZ [(0, 1), (3, 1), (4, 2), (2, 3), (7, 3), (5, 0), (1, 2), (6, 1), (8, 0)] (by kernel_rfl) (by kernel_rfl) ?_; refine zm4 ?_; refine o4 ?_
   refine aE rfl rfl rfl rfl (fun b19 => ?_)
   refine TF.alloc rfl (fun b3 => ?_)
   refine bj (TL.append (enc := SParam.cells) rfl rfl rfl (OwnSl.blk (enc := SParam.cells) [] rfl rfl (by decide)) (Src.sl hQ.pa) (by simp; omega) rfl (.take (.there _ (.here _)) rfl) rfl (fun a22 c22 ob22 hO22 => ?_))
   refine TF.back ?_; refine lE ?_; refine dZ ?_; refine sB ?_
   exact je (b3, a22, c22, ob22) (hO22.cast (List.nil_append _)) ky (fun w hw => hw)
  refine bZ [(0, 1), (3, 1), (4, 2), (7, 3), (2, 3), (5, 0), (1, 2), (6, 1), (8, 0)] (by kernel_rfl) (by kernel_rfl) ?_; refine zm4 ?_; refine o4 ?_
  refine TF.alloc rfl (fun b3 => ?_)
  refine aE rfl rfl rfl rfl (fun b19 => ?_)
  refine bj (TL.append (enc := SParam.cells) rfl rfl rfl (OwnSl.blk (enc := SParam.cells) [] rfl rfl (by decide)) (Src.sl hQ.pa) (by simp; omega) rfl (.take (.here _) rfl) rfl (fun a22 c22 ob22 hO22 => ?_))
  refine TF.back ?_; refine lE ?_; refine dZ ?_; refine sB ?_
  exact je (b3, a22, c22, ob22) (hO22.cast (List.nil_append _)) ky (fun w hw => hw)
 intro y hI
 obtain ⟨b3, a22, c22, ob22⟩ := y
 dsimp only at *
 replace hO22 := hI
 refine zm2 ?_
 refine TL.alloc rfl (fun b4 => ?_)
 refine gV ?_
 refine TL.alloc rfl (fun b5 => ?_)
 refine gE ?_; refine sJ ?_; refine eI (.there _ (.there _ (.there _ (.there _ (.here _))))) (dK (by simp) (fun H_b1 le_b1 rd_b1 => ?_))
 replace hQ := hQ.le le_b1
 have hx : ProcAt H_b1 b1 q := rd_b1
 refine dK (by simp) (fun H_b5 le_b5 rd_b5 => ?_)
 replace hQ := hQ.le le_b5
 replace hx := hx.le le_b5
 have hw : CellAt H_b5 b5 _ := rd_b5 0 _ rfl
 refine TL.pubO hO22 (.skip _ (.skip _ (.skip _ .all))) (by simp) (fun HPob22 lePob22 hPa => ?_)
 replace hQ := hQ.le lePob22
 replace hx := hx.le lePob22
 replace hw := hw.le lePob22
 refine aT (L' := (b4, _) :: ((b3, _) :: ((b2, _) :: []))) (List.Perm.refl _) (TL.run (bI rfl hw) rfl (dY (L1 := [(b4, [.slice none 0 0])]) (ab rfl rfl rfl rfl) (ordW_ok hR.s hR.n2 q.steps.length 0 hQ hx hw (by omega) (by omega) (by omega) _ [] [] OwnSl.nil (by simp only [List.length_nil]; omega)) rfl (fun v26 H26 L26 hle26 hp26 => ?_)))
 obtain ⟨rfl, -, u26, ob26, rfl, hO26⟩ := hp26
 obtain ⟨ua26, uc26, rfl⟩ := hO26.form
 refine aT (L' := (b4, _) :: (ob26 ++ ((b3, _) :: ((b2, _) :: [])))) (List.Perm.refl _) ?_
 replace hQ := hQ.le hle26
 replace hx := hx.le hle26
 replace hw := hw.le hle26
 replace hPa := hPa.le hle26
 refine TL.pubO hO26 (.skip _ (.app _)) (by simp) (fun HPob26 lePob26 hOr => ?_)
 replace hQ := hQ.le lePob26
 replace hx := hx.le lePob26
 replace hw := hw.le lePob26
 replace hPa := hPa.le lePob26
 refine dK (by simp) (fun H_b4 le_b4 rd_b4 => ?_)
 replace hQ := hQ.le le_b4
 replace hx := hx.le le_b4
 replace hw := hw.le le_b4
 replace hPa := hPa.le le_b4
 replace hOr := hOr.le le_b4
 have hb4 : CellAt H_b4 b4 _ := rd_b4 0 _ rfl
 replace hOr := hOr.cast (show _ = dm q from rfl)
 refine vL ?_; refine TL.run (bI rfl (hx 3 _ rfl)) rfl (TL.run (ai rfl rfl hQ.s) rfl (gw rfl rfl (by first | omega | decide) (by first | omega | decide) (by first | omega | decide) rfl (fun b30 => ?_)))
 refine wi ?_; refine TL.run (bI rfl hb4) rfl (TL.run (ai rfl rfl hOr) rfl ?_); refine zm8 ?_
 refine TC.loop (V := fun (p : Int × List Int) => [(33, .int .i64 p.1)]) (K := [(1, _), (2, _), (3, _), (4, _), (6, _), (31, _), (32, _)]) (L := fun (p : Int × List Int) => St [] w0 H H_b4 ((b30, (p.2).map (Value.int .i64)) :: (b3, _) :: (b2, _) :: [])) (I := fun (p : Int × List Int) => (0 ≤ p.1 ∧ p.1 ≤ (dm q).length) ∧ p.2.length = q.steps.length ∧ bQ q = eu ((dm q).drop p.1.toNat) p.1 p.2) (μ := fun (p : Int × List Int) => ((dm q).length - p.1).toNat) (i := ((0 : Int), List.replicate q.steps.length (0 : Int))) ky ⟨⟨by omega, by omega⟩, by simp, rfl⟩ (fun w hw => by simp only [oB] at hw; exact hw) (fun (p : Int × List Int) hI => ?_)
 obtain ⟨⟨k0, k1⟩, hpll, hPl⟩ := hI
 obtain ⟨k, pl⟩ := p
 dsimp only at *
 refine zm6 ?_
 refine ag rfl (fun c34 => ?_) (fun c34 => ?_)
 ·
  obtain ⟨x, hk⟩ := ao (l := dm q) k0 c34
  have hxb := uv hS (List.mem_of_getElem? hk)
  refine sK ?_; refine TL.run (af rfl hOr rfl (by omega) (by omega)) rfl (TL.run (aM hOr hk rfl rfl) rfl ?_); refine kK ?_; refine o3 ?_; refine fS ?_
  refine bz rfl rfl rfl (.here _) (by simp; omega) rfl ?_; refine o5 ?_
  exact aR (i := (k, pl)) (k + 1, pl.set x.toNat k) ⟨⟨by omega, by omega⟩, by rw [List.length_set]; exact hpll, pg_next k0 hk hPl⟩ ky (fun w hw => by have hw2 := hw; simp only [uL] at hw2; exact hw2) (by omega)
 have hPE := pg_end k0 c34 hPl
 subst hPE
 refine pI ?_; refine TL.run (bI rfl (hx 2 _ rfl)) rfl (TL.run (ai rfl rfl hQ.t) rfl (gw rfl rfl (by first | omega | decide) (by first | omega | decide) (by first | omega | decide) rfl (fun b46 => ?_)))
 refine TL.alloc rfl (fun b9 => ?_)
 refine sJ ?_
 refine dK (by simp) (fun H_b9 le_b9 rd_b9 => ?_)
 replace hQ := hQ.le le_b9
 replace hx := hx.le le_b9
 replace hw := hw.le le_b9
 replace hPa := hPa.le le_b9
 replace hOr := hOr.le le_b9
 replace hb4 := hb4.le le_b9
 have hmv : CellAt H_b9 b9 (.slice (some ⟨b46, 0, none⟩) q.terms.length q.terms.length) := rd_b9 0 _ rfl
 refine zm0 ?_
 refine TL.alloc rfl (fun b10 => ?_)
 refine sJ ?_
 refine dK (by simp) (fun H_b10 le_b10 rd_b10 => ?_)
 replace hQ := hQ.le le_b10
 replace hx := hx.le le_b10
 replace hw := hw.le le_b10
 replace hPa := hPa.le le_b10
 replace hOr := hOr.le le_b10
 replace hb4 := hb4.le le_b10
 replace hmv := hmv.le le_b10
 have hTKc : CellAt H_b10 b10 (.func (.func 93) #[] #[.pointer (some ⟨b1, 0, none⟩), .pointer (some ⟨b9, 0, none⟩), .pointer (some ⟨b3, 0, none⟩)]) := rd_b10 0 _ rfl
 refine aT (L' := (b46, _) :: ((b3, _) :: ((b30, _) :: ((b2, _) :: [])))) (ei [[(b46, _)], [(b30, _)], [(b3, _)], [(b2, _)]] [0, 2, 1, 3] rfl) ?_; refine zm0 ?_; refine wi ?_
 refine TL.run (bI rfl hb4) rfl (TL.run (ai rfl rfl hOr) rfl ?_); refine zm8 ?_
 refine aV (V := fun (p : Int × RS × Value × aq × List SStep) vS obS H1 => [(51, .int .i64 p.1)]) (K := [(1, _), (2, _), (3, _), (6, _), (10, _), (11, _), (49, _), (50, _)]) (L := fun (p : Int × RS × Value × aq × List SStep) vS obS H1 => St [] w0 H H1 ((b46, (p.2.1.1).map (Value.int .i64)) :: (b3, [gs q.name, (.slice a22 q.params.length c22), p.2.2.1, vS]) :: (b30, (bQ q).map (Value.int .i64)) :: (b2, [gs [], .slice none 0 0, .slice none 0 0, .slice none 0 0]) :: (p.2.2.2.1 ++ obS))) (I := fun (p : Int × RS × Value × aq × List SStep) vS obS H1 => (0 ≤ p.1 ∧ p.1 ≤ (dm q).length) ∧ H_b10.le H1 ∧ (p.2.1.1.length = q.terms.length ∧ p.2.1.2.length ≤ 3355443200 * p.1.toNat) ∧ OwnSl 6 Term.cells p.2.2.1 p.2.1.2 p.2.2.2.1 ∧ OwnSl 10 SStep.cells vS p.2.2.2.2 obS ∧ p.2.2.2.2.length = p.1 ∧ StAll H1 p.2.2.2.2 ∧ eb q (bQ q) (dm q) [] (List.replicate q.terms.length 0, []) = eb q (bQ q) ((dm q).drop p.1.toNat) (p.2.2.2.2.map SStep.bare) p.2.1) (μ := fun (p : Int × RS × Value × aq × List SStep) => ((dm q).length - p.1).toNat) ((0 : Int), (List.replicate q.terms.length (0 : Int), []), (.slice none 0 0), [], []) (.slice none 0 0) [] H_b10 ky ⟨⟨by omega, by omega⟩, Hp.le.refl _, ⟨by simp, by simp⟩, OwnSl.nil, OwnSl.nil, rfl, (fun s hs => by cases hs), rfl⟩ (fun w hw => by simp only [oB] at hw; exact hw) (fun p vS obS H1 hI => ?_)
 obtain ⟨⟨k0, k1⟩, hle, ⟨hml, hol⟩, hO1, hOS, hSl, hSt, hT⟩ := hI
 obtain ⟨k, ⟨m, o⟩, u1, ob1, S⟩ := p
 dsimp only at *
 obtain ⟨va, vc, rfl⟩ := hOS.form
 replace hQ := hQ.le hle
 replace hx := hx.le hle
 replace hw := hw.le hle
 replace hPa := hPa.le hle
 replace hOr := hOr.le hle
 replace hmv := hmv.le hle
 replace hTKc := hTKc.le hle
 refine zm6 ?_
 refine ag rfl (fun c52 => ?_) (fun c52 => ?_)
 ·
  obtain ⟨x, hk⟩ := ao (l := dm q) k0 c52
  have hxb := uv hS (List.mem_of_getElem? hk)
  obtain ⟨s, hs⟩ := ao (l := q.steps) hxb.1 hxb.2
  have hs0 := hQ.ss s (List.mem_of_getElem? hs)
  obtain ⟨hma, hin⟩ := hS _ _ hs
  have hTm := hR.m _ _ hs
  have hsz := gB hma
  refine dC ?_; refine TL.run (af rfl hOr rfl (by omega) (by omega)) rfl (TL.run (aM hOr hk rfl rfl) rfl ?_); refine tZ ?_; refine TL.run (bI rfl (hx 3 _ rfl)) rfl ?_; refine zm0 ?_; refine vK ?_
  refine TL.run (bh hQ.s hs rfl rfl) rfl (TL.alloc rfl (fun b14 => ?_))
  refine o6 ?_; refine oY ?_
  refine ag rfl (fun c62 => ?_) (fun c62 => ?_)
  ·
   have hA : dg q.terms s (m, o) = er q.terms s.term (m, o) := by unfold dg; rw [if_pos (by omega)]
   refine TC.region (TL.run (bI rfl hTKc) rfl ?_); refine fz ?_; refine zm342 ?_
   refine dY (L1 := (b46, m.map (Value.int .i64)) :: (b3, _) :: ob1) (ab rfl rfl rfl rfl) (zf s.term hQ hx hmv (hTm _ (nT hma (by omega))) hml hO1 (by omega)) rfl (fun v66 H66 L66 hle66 hp66 => ?_)
   obtain ⟨rfl, u66, ob66, rfl, hO66⟩ := hp66
   refine aT (L' := (b46, _) :: ((b3, _) :: (ob66 ++ ((b14, _) :: ((b30, _) :: ((b2, _) :: (obS))))))) (List.Perm.refl _) ?_
   replace hQ := hQ.le hle66
   replace hx := hx.le hle66
   replace hw := hw.le hle66
   replace hmv := hmv.le hle66
   replace hTKc := hTKc.le hle66
   replace hle := hle.trans hle66
   replace hs0 := hs0.le hle66
   replace hSt := hSt.le hle66
   refine aT (L' := (b14, _) :: ((b46, _) :: ((b3, _) :: ((b30, _) :: ((b2, _) :: (ob66 ++ (obS))))))) (ei [[(b46, _)], [(b3, _)], ob66, [(b14, _)], [(b30, _)], [(b2, _)], obS] [3, 0, 1, 4, 5, 2, 6] rfl) ?_
   refine vG ?_; refine fz ?_
   refine aT (L' := (b46, _) :: ((b3, _) :: (ob66 ++ ((b14, _) :: ((b30, _) :: ((b2, _) :: (obS))))))) (ei [[(b14, _)], [(b46, _)], [(b3, _)], [(b30, _)], [(b2, _)], ob66, obS] [1, 2, 5, 0, 3, 4, 6] rfl) ?_
   have hmA : (dg q.terms s (m, o)).1.length = q.terms.length := by rw [jW.1]; exact hml
   have hzA := (gH (q := q) (st := (m, o)) hma hTm).1
   have hOA : OwnSl 6 Term.cells u66 (dg q.terms s (m, o)).2 ob66 := by rw [hA]; exact hO66
   refine aT (L' := (b46, (dg q.terms s (m, o)).1.map (Value.int .i64)) :: (b3, _) :: (ob66 ++ ((b14, _) :: ((b30, _) :: ((b2, _) :: (obS)))))) (by rw [hA]) (dY (L1 := (b46, (dg q.terms s (m, o)).1.map (Value.int .i64)) :: (b3, _) :: ob66) (ab rfl rfl rfl rfl) (fT hs0.a hTKc hQ hx hmv (fun t h => hTm t (ia h)) hsz.2.1 hmA hOA (by simp only at hzA; omega)) rfl (fun v71 H71 L71 hle71 hp71 => ?_))
   obtain ⟨u71, ob71, oc71, rfl, hO71, hA71⟩ := hp71
   obtain ⟨aa71, ac71, rfl⟩ := hA71.form
   refine aT (fm (A := ob71) (B := oc71)) ?_
   replace hQ := hQ.le hle71
   replace hx := hx.le hle71
   replace hw := hw.le hle71
   replace hmv := hmv.le hle71
   replace hTKc := hTKc.le hle71
   replace hle := hle.trans hle71
   replace hs0 := hs0.le hle71
   replace hSt := hSt.le hle71
   refine TL.pubO hA71 (.skip _ (.skip _ (.past _ (.app _)))) (by simp) (fun HPoc71 lePoc71 hRA => ?_)
   replace hQ := hQ.le lePoc71
   replace hx := hx.le lePoc71
   replace hw := hw.le lePoc71
   replace hmv := hmv.le lePoc71
   replace hTKc := hTKc.le lePoc71
   replace hle := hle.trans lePoc71
   replace hs0 := hs0.le lePoc71
   replace hSt := hSt.le lePoc71
   clear hOA
   change OwnSl 6 Term.cells u71 (dL q.terms s (m, o)).2.2 ob71 at hO71
   replace hRA := hRA.cast (show _ = (dL q.terms s (m, o)).1 from rfl)
   refine zm343 ?_; refine zm344 ?_
   have hmB : (dL q.terms s (m, o)).2.1.length = q.terms.length := by rw [jW.2.1]; exact hml
   have hzB := (gH (q := q) (st := (m, o)) hma hTm).2.1
   simp only at hzB
   refine pd ?_; refine gV ?_
   refine aB rfl rfl rfl rfl (fun b73 => ?_)
   refine iz ?_
   refine TL.append (enc := SCast.cells) rfl rfl rfl (OwnSl.blk (enc := SCast.cells) [] rfl rfl (by decide)) (Src.sl hs0.c) (by simp; omega) rfl (.take (.here _) rfl) rfl (fun a76 c76 ob76 hO76 => ?_)
   refine aT (i2 [(b14, _), (b46, _), (b3, _), (b30, _), (b2, _)] (A := ob71) (B := obS) (C := ob76)) ?_; refine sA ?_
   replace hO76 := hO76.cast (List.nil_append _)
   refine y6 ?_; refine TL.run (bG rfl rfl hO76) rfl ?_; refine zm8 ?_; refine zm345 ?_
   refine aV (V := fun (p : Int × RS × Value × aq × List SCast × aq) v2 ob H2 => [(81, .int .i64 p.1)]) (K := [(1, _), (2, _), (3, _), (6, _), (10, _), (11, _), (13, _), (14, _), (49, _), (50, _), (51, _), (52, _), (53, _), (54, _), (55, _), (56, _), (57, _), (58, _), (59, _), (60, _), (61, _), (62, _), (63, _), (64, _), (65, _), (66, _), (67, _), (68, _), (69, _), (70, _), (71, _), (72, _), (73, _), (74, _), (75, _), (76, _), (77, _), (78, _), (79, _), (80, _)]) (L := fun (p : Int × RS × Value × aq × List SCast × aq) v2 ob H2 => St [] w0 H H2 ((b14, _) :: (b46, (p.2.1.1).map (Value.int .i64)) :: (b3, [gs q.name, (.slice a22 q.params.length c22), p.2.2.1, (.slice va S.length vc)]) :: (b30, (bQ q).map (Value.int .i64)) :: (b2, [gs [], .slice none 0 0, .slice none 0 0, .slice none 0 0]) :: (p.2.2.2.1 ++ (obS ++ p.2.2.2.2.2)))) (I := fun (p : Int × RS × Value × aq × List SCast × aq) v2 ob H2 => (0 ≤ p.1 ∧ p.1 ≤ s.casts.length) ∧ HPoc71.le H2 ∧ (p.2.1.1.length = q.terms.length ∧ p.2.1.2.length ≤ (dL q.terms s (m, o)).2.2.length + 201326592 * p.1.toNat) ∧ OwnSl 6 Term.cells p.2.2.1 p.2.1.2 p.2.2.2.1 ∧ OwnSl 3 SCast.cells (.slice a76 s.casts.length c76) p.2.2.2.2.1 p.2.2.2.2.2 ∧ CaIx H2 s.casts p.2.2.2.2.1 p.1 ∧ gm q.terms s (m, o) = cV q.terms (s.casts.drop p.1.toNat) ((p.2.2.2.2.1.take p.1.toNat).map SCast.bare) p.2.1) (μ := fun (p : Int × RS × Value × aq × List SCast × aq) => (s.casts.length - p.1).toNat) ((0 : Int), (dL q.terms s (m, o)).2, u71, ob71, s.casts, ob76) .nilFunc [] HPoc71 ky ⟨⟨by omega, by omega⟩, Hp.le.refl _, ⟨hmB, by simp⟩, hO71, hO76, ⟨rfl, hs0.cs, rfl⟩, rfl⟩ (fun w hw => hw) (fun p v2 ob H2 hI => ?_)
   obtain ⟨⟨j0, j1⟩, hle2, ⟨hm2, ho2⟩, hO2, hOc, hC, hK⟩ := hI
   obtain ⟨j, ⟨m2, o2⟩, u2, ob2, C, oc⟩ := p
   dsimp only at *
   replace hQ := hQ.le hle2
   replace hx := hx.le hle2
   replace hw := hw.le hle2
   replace hmv := hmv.le hle2
   replace hTKc := hTKc.le hle2
   replace hle := hle.trans hle2
   replace hs0 := hs0.le hle2
   replace hSt := hSt.le hle2
   replace hRA := hRA.le hle2
   refine zm6 ?_
   refine ag rfl (fun c82 => ?_) (fun c82 => ?_)
   ·
    obtain ⟨c, hc⟩ := ao (l := s.casts) j0 c82
    have hcC := hC.at_ hc
    have hCl : (C.length : Int) = s.casts.length := by rw [hC.n]
    have hc6 := hsz.2.2.2 c (List.mem_of_getElem? hc)
    have hcm : ∀ t ∈ c.args, cA q.terms t = true := fun t h => hTm t (hZ (List.mem_of_getElem? hc) h)
    refine nK ?_; refine eP ?_
    refine TD.part 1 10 rfl rfl rfl ?_ ?_
    ·
     refine zm346 ?_; refine nr ?_; refine sy ?_; refine nI ?_; refine zm4 ?_; refine y0 ?_; refine bj ?_; refine yZ ?_
     refine dY (L1 := (b46, m2.map (Value.int .i64)) :: (b3, _) :: ob2) (ab rfl rfl rfl rfl) (fT (hs0.cs c (List.mem_of_getElem? hc)) hTKc hQ hx hmv hcm hc6 hm2 hO2 (by omega)) rfl (fun v94 H94 L94 hle94 hp94 => ?_)
     obtain ⟨u94, ob94, oc94, rfl, hO94, hA94⟩ := hp94
     obtain ⟨aa94, ac94, rfl⟩ := hA94.form
     refine aT (fm (A := ob94) (B := oc94)) ?_
     replace hw := hw.le hle94
     replace hle2 := hle2.trans hle94
     replace hC := hC.le hle94
     refine TL.pubO hA94 (.skip _ (.skip _ (.past _ (.app _)))) (by simp) (fun HPoc94 lePoc94 hRC => ?_)
     replace hw := hw.le lePoc94
     replace hle2 := hle2.trans lePoc94
     replace hC := hC.le lePoc94
     refine yY ?_; refine yX ?_; refine TF.back ?_; refine nI ?_; refine fR ?_
     refine fq (a' := { c with args := (bp q.terms c.args [] (m2, o2)).1, ap := (aa94, ac94) }) rfl rfl hOc (.skip _ (.skip _ (.skip _ (.skip _ (.skip _ (.past _ (.past _ .all))))))) hcC rfl rfl rfl rfl (fun obd ed hOd => ?_)
     refine lD ?_
     exact aF (i := (j, (m2, o2), u2, ob2, C, oc)) (j + 1, (bp q.terms c.args [] (m2, o2)).2, u94, ob94, C.set j.toNat { c with args := (bp q.terms c.args [] (m2, o2)).1, ap := (aa94, ac94) }, obd) .nilFunc [] HPoc94 ⟨⟨by omega, by omega⟩, hle2, ⟨by rw [eD]; exact hm2, by have h7 := d9 (acc := []) (s := (m2, o2)) hcm; simp only at h7 ⊢; omega⟩, hO94, hOd, hC.put j0 hRC, by rw [mt j0 hcC]; exact oT j0 hc hK⟩ ky (fun w hw => hw) (by omega)
    refine zm347 ?_; refine zm4 ?_; refine sy ?_; refine nI ?_; refine zm4 ?_; refine y0 ?_; refine bj ?_; refine yZ ?_
    refine dY (L1 := (b46, m2.map (Value.int .i64)) :: (b3, _) :: ob2) (ab rfl rfl rfl rfl) (fT (hs0.cs c (List.mem_of_getElem? hc)) hTKc hQ hx hmv hcm hc6 hm2 hO2 (by omega)) rfl (fun v94 H94 L94 hle94 hp94 => ?_)
    obtain ⟨u94, ob94, oc94, rfl, hO94, hA94⟩ := hp94
    obtain ⟨aa94, ac94, rfl⟩ := hA94.form
    refine aT (fm (A := ob94) (B := oc94)) ?_
    replace hw := hw.le hle94
    replace hle2 := hle2.trans hle94
    replace hC := hC.le hle94
    refine TL.pubO hA94 (.skip _ (.skip _ (.past _ (.app _)))) (by simp) (fun HPoc94 lePoc94 hRC => ?_)
    replace hw := hw.le lePoc94
    replace hle2 := hle2.trans lePoc94
    replace hC := hC.le lePoc94
    refine yY ?_; refine yX ?_; refine TF.back ?_; refine nt ?_; refine nI ?_; refine fR ?_
    refine fq (a' := { c with args := (bp q.terms c.args [] (m2, o2)).1, ap := (aa94, ac94) }) rfl rfl hOc (.skip _ (.skip _ (.skip _ (.skip _ (.skip _ (.past _ (.past _ .all))))))) hcC rfl rfl rfl rfl (fun obd ed hOd => ?_)
    refine lD ?_
    exact aF (i := (j, (m2, o2), u2, ob2, C, oc)) (j + 1, (bp q.terms c.args [] (m2, o2)).2, u94, ob94, C.set j.toNat { c with args := (bp q.terms c.args [] (m2, o2)).1, ap := (aa94, ac94) }, obd) .nilFunc [] HPoc94 ⟨⟨by omega, by omega⟩, hle2, ⟨by rw [eD]; exact hm2, by have h7 := d9 (acc := []) (s := (m2, o2)) hcm; simp only at h7 ⊢; omega⟩, hO94, hOd, hC.put j0 hRC, by rw [mt j0 hcC]; exact oT j0 hc hK⟩ ky (fun w hw => hw) (by omega)
   have hCE := DG j0 c82 hK
   rw [bB (by rw [hC.n]; exact c82) j0] at hCE
   have hCn := hC.n
   refine pJ ?_
   refine aB rfl rfl rfl rfl (fun b98 => ?_)
   refine iz ?_
   refine TL.append (enc := SWay.cells) rfl rfl rfl (OwnSl.blk (enc := SWay.cells) [] rfl rfl (by decide)) (Src.sl hs0.w) (by simp; omega) rfl (.take (.here _) rfl) rfl (fun a101 c101 ob101 hO101 => ?_)
   refine zm348 ?_; refine sA ?_
   replace hO101 := hO101.cast (List.nil_append _)
   refine y6 ?_; refine TL.run (bG rfl rfl hO101) rfl ?_; refine zm8 ?_; refine zm349 ?_
   refine aV (V := fun (p : Int × List SWay × aq) v3 ob H3 => [(106, .int .i64 p.1)]) (K := [(1, _), (2, _), (3, _), (6, _), (10, _), (11, _), (13, _), (14, _), (49, _), (50, _), (51, _), (52, _), (53, _), (54, _), (55, _), (56, _), (57, _), (58, _), (59, _), (60, _), (61, _), (62, _), (63, _), (64, _), (65, _), (66, _), (67, _), (68, _), (69, _), (70, _), (71, _), (72, _), (73, _), (74, _), (75, _), (76, _), (77, _), (78, _), (79, _), (80, _), (81, _), (82, _), (98, _), (99, _), (100, _), (101, _), (102, _), (103, _), (104, _), (105, _)]) (L := fun (p : Int × List SWay × aq) v3 ob H3 => St [] w0 H H2 ((b14, _) :: (b46, _) :: (b3, _) :: (b30, _) :: (b2, _) :: (ob2 ++ (obS ++ (oc ++ p.2.2))))) (I := fun (p : Int × List SWay × aq) v3 ob H3 => (0 ≤ p.1 ∧ p.1 ≤ s.ways.length) ∧ OwnSl 3 SWay.cells (.slice a101 s.ways.length c101) p.2.1 p.2.2 ∧ WaIx (bQ q) s.ways p.2.1 p.1) (μ := fun (p : Int × List SWay × aq) => (s.ways.length - p.1).toNat) ((0 : Int), s.ways, ob101) .nilFunc [] H2 ky ⟨⟨by omega, by omega⟩, hO101, rfl⟩ (fun w hw => hw) (fun p v3 ob H3 hI => ?_)
   obtain ⟨⟨i0, i1⟩, hOw, hW⟩ := hI
   obtain ⟨i, W, ow⟩ := p
   dsimp only at *
   refine zm6 ?_
   refine ag rfl (fun c107 => ?_) (fun c107 => ?_)
   ·
    obtain ⟨w, hwy⟩ := ao (l := s.ways) i0 c107
    have hwW := hW.at_ hwy
    have hWl : (W.length : Int) = s.ways.length := by rw [hW.len]
    have hwn := hin _ (pT hma (List.mem_of_getElem? hwy))
    refine nK ?_; refine eP ?_; refine zm350 ?_; refine nr ?_; refine sy ?_; refine sx ?_; refine zm4 ?_; refine zm351 ?_; refine su ?_
    refine a7 (aD rfl (.there _ (.there _ (.there _ (.here _)))) (gN (by omega))) rfl ?_; refine sx ?_; refine fR ?_
    refine fq (a' := gX (bQ q) w) rfl rfl hOw (.skip _ (.skip _ (.skip _ (.skip _ (.skip _ (.past _ (.past _ (.past _ .all)))))))) hwW rfl rfl rfl rfl (fun obe ee hOe => ?_)
    refine lD ?_
    exact aF (i := (i, W, ow)) (i + 1, W.set i.toNat (gX (bQ q) w), obe) .nilFunc [] H2 ⟨⟨by omega, by omega⟩, hOe, hW.put i0 hwy⟩ ky (fun w hw => hw) (by omega)
   refine iy ?_; refine fw ?_; refine ay (ab rfl rfl rfl rfl) (oR s.kind) rfl (TL.nil (ad (TC.cond rfl (fun c126 => ?_) (fun c126 => ?_))))
   ·
    have hnn := hin _ (na c126)
    refine kt ?_; refine fS ?_; refine BN ?_; refine mD ?_; refine TC.region (TL.pubO hOc (.skip _ (.skip _ (.skip _ (.skip _ (.skip _ (.past _ (.past _ (.app _)))))))) (by simp) (fun HPoc lePoc hRC2 => ?_))
    replace hw := hw.le lePoc
    replace hle := hle.trans lePoc
    replace hSt := hSt.le lePoc
    replace hRA := hRA.le lePoc
    replace hC := hC.le lePoc
    refine TL.pubO hOw (.skip _ (.skip _ (.skip _ (.skip _ (.skip _ (.past _ (.past _ .all))))))) (by simp) (fun HPow lePow hRW2 => ?_)
    replace hw := hw.le lePow
    replace hle := hle.trans lePow
    replace hSt := hSt.le lePow
    replace hRA := hRA.le lePow
    replace hC := hC.le lePow
    replace hRC2 := hRC2.le lePow
    refine yW ?_
    have hWn : W.length = s.ways.length := hW.len
    generalize hs2e : (⟨s.kind, s.name, s.peer, s.label, s.proc, (aJ (er q.terms s.term (m, o)).1 s.term), (dL q.terms s (m, o)).1, (aa71, ac71), C, (a76, c76), W, (a101, c101), (aJ (bQ q) s.next)⟩ : SStep) = s2
    have hs2 : StepOk HPow s2 := by subst hs2e; exact ⟨hRA, by simp only [hCn]; exact hRC2, hC.r, by simp only [hWn]; exact hRW2⟩
    have hWE : W = s.ways.map (gX (bQ q)) := by rw [show W = _ from hW, bB c107 i0, List.drop_of_length_le (by omega), List.append_nil]
    have hs2b : s2.bare = gG q.terms (bQ q) s (m, o) := by subst hs2e; exact jV hCE hWE (by rw [if_pos (by omega), hA]) (if_pos c126).symm
    exact yz
   refine d3 ?_; refine TC.region (TL.pubO hOc (.skip _ (.skip _ (.skip _ (.skip _ (.skip _ (.past _ (.past _ (.app _)))))))) (by simp) (fun HPoc lePoc hRC2 => ?_))
   replace hw := hw.le lePoc
   replace hle := hle.trans lePoc
   replace hSt := hSt.le lePoc
   replace hRA := hRA.le lePoc
   replace hC := hC.le lePoc
   refine TL.pubO hOw (.skip _ (.skip _ (.skip _ (.skip _ (.skip _ (.past _ (.past _ .all))))))) (by simp) (fun HPow lePow hRW2 => ?_)
   replace hw := hw.le lePow
   replace hle := hle.trans lePow
   replace hSt := hSt.le lePow
   replace hRA := hRA.le lePow
   replace hC := hC.le lePow
   replace hRC2 := hRC2.le lePow
   refine yW ?_
   have hWn : W.length = s.ways.length := hW.len
   generalize hs2e : (⟨s.kind, s.name, s.peer, s.label, s.proc, (aJ (er q.terms s.term (m, o)).1 s.term), (dL q.terms s (m, o)).1, (aa71, ac71), C, (a76, c76), W, (a101, c101), s.next⟩ : SStep) = s2
   have hs2 : StepOk HPow s2 := by subst hs2e; exact ⟨hRA, by simp only [hCn]; exact hRC2, hC.r, by simp only [hWn]; exact hRW2⟩
   have hWE : W = s.ways.map (gX (bQ q)) := by rw [show W = _ from hW, bB c107 i0, List.drop_of_length_le (by omega), List.append_nil]
   have hs2b : s2.bare = gG q.terms (bQ q) s (m, o) := by subst hs2e; exact jV hCE hWE (by rw [if_pos (by omega), hA]) (if_neg (by rw [c126]; decide)).symm
   exact yz
  have hA : dg q.terms s (m, o) = (m, o) := by unfold dg; rw [if_neg (by omega)]
  refine lC ?_; refine fz ?_; refine zm342 ?_
  have hmA : (dg q.terms s (m, o)).1.length = q.terms.length := by rw [jW.1]; exact hml
  have hzA := (gH (q := q) (st := (m, o)) hma hTm).1
  have hOA : OwnSl 6 Term.cells u1 (dg q.terms s (m, o)).2 ob1 := by rw [hA]; exact hO1
  refine aT (L' := (b46, (dg q.terms s (m, o)).1.map (Value.int .i64)) :: (b3, _) :: (ob1 ++ ((b14, _) :: ((b30, _) :: ((b2, _) :: (obS)))))) (by rw [hA]) (dY (L1 := (b46, (dg q.terms s (m, o)).1.map (Value.int .i64)) :: (b3, _) :: ob1) (ab rfl rfl rfl rfl) (fT hs0.a hTKc hQ hx hmv (fun t h => hTm t (ia h)) hsz.2.1 hmA hOA (by simp only at hzA; omega)) rfl (fun v71 H71 L71 hle71 hp71 => ?_))
  obtain ⟨u71, ob71, oc71, rfl, hO71, hA71⟩ := hp71
  obtain ⟨aa71, ac71, rfl⟩ := hA71.form
  refine aT (fm (A := ob71) (B := oc71)) ?_
  replace hQ := hQ.le hle71
  replace hx := hx.le hle71
  replace hw := hw.le hle71
  replace hmv := hmv.le hle71
  replace hTKc := hTKc.le hle71
  replace hle := hle.trans hle71
  replace hs0 := hs0.le hle71
  replace hSt := hSt.le hle71
  refine TL.pubO hA71 (.skip _ (.skip _ (.past _ (.app _)))) (by simp) (fun HPoc71 lePoc71 hRA => ?_)
  replace hQ := hQ.le lePoc71
  replace hx := hx.le lePoc71
  replace hw := hw.le lePoc71
  replace hmv := hmv.le lePoc71
  replace hTKc := hTKc.le lePoc71
  replace hle := hle.trans lePoc71
  replace hs0 := hs0.le lePoc71
  replace hSt := hSt.le lePoc71
  clear hOA
  change OwnSl 6 Term.cells u71 (dL q.terms s (m, o)).2.2 ob71 at hO71
  replace hRA := hRA.cast (show _ = (dL q.terms s (m, o)).1 from rfl)
  refine zm343 ?_; refine zm344 ?_
  have hmB : (dL q.terms s (m, o)).2.1.length = q.terms.length := by rw [jW.2.1]; exact hml
  have hzB := (gH (q := q) (st := (m, o)) hma hTm).2.1
  simp only at hzB
  refine pd ?_; refine gV ?_
  refine aB rfl rfl rfl rfl (fun b73 => ?_)
  refine iz ?_
  refine TL.append (enc := SCast.cells) rfl rfl rfl (OwnSl.blk (enc := SCast.cells) [] rfl rfl (by decide)) (Src.sl hs0.c) (by simp; omega) rfl (.take (.here _) rfl) rfl (fun a76 c76 ob76 hO76 => ?_)
  refine aT (i2 [(b14, _), (b46, _), (b3, _), (b30, _), (b2, _)] (A := ob71) (B := obS) (C := ob76)) ?_; refine sA ?_
  replace hO76 := hO76.cast (List.nil_append _)
  refine y6 ?_; refine TL.run (bG rfl rfl hO76) rfl ?_; refine zm8 ?_; refine zm345 ?_
  refine aV (V := fun (p : Int × RS × Value × aq × List SCast × aq) v2 ob H2 => [(81, .int .i64 p.1)]) (K := [(1, _), (2, _), (3, _), (6, _), (10, _), (11, _), (13, _), (14, _), (49, _), (50, _), (51, _), (52, _), (53, _), (54, _), (55, _), (56, _), (57, _), (58, _), (59, _), (60, _), (61, _), (62, _), (68, _), (69, _), (70, _), (71, _), (72, _), (73, _), (74, _), (75, _), (76, _), (77, _), (78, _), (79, _), (80, _)]) (L := fun (p : Int × RS × Value × aq × List SCast × aq) v2 ob H2 => St [] w0 H H2 ((b14, _) :: (b46, (p.2.1.1).map (Value.int .i64)) :: (b3, [gs q.name, (.slice a22 q.params.length c22), p.2.2.1, (.slice va S.length vc)]) :: (b30, (bQ q).map (Value.int .i64)) :: (b2, [gs [], .slice none 0 0, .slice none 0 0, .slice none 0 0]) :: (p.2.2.2.1 ++ (obS ++ p.2.2.2.2.2)))) (I := fun (p : Int × RS × Value × aq × List SCast × aq) v2 ob H2 => (0 ≤ p.1 ∧ p.1 ≤ s.casts.length) ∧ HPoc71.le H2 ∧ (p.2.1.1.length = q.terms.length ∧ p.2.1.2.length ≤ (dL q.terms s (m, o)).2.2.length + 201326592 * p.1.toNat) ∧ OwnSl 6 Term.cells p.2.2.1 p.2.1.2 p.2.2.2.1 ∧ OwnSl 3 SCast.cells (.slice a76 s.casts.length c76) p.2.2.2.2.1 p.2.2.2.2.2 ∧ CaIx H2 s.casts p.2.2.2.2.1 p.1 ∧ gm q.terms s (m, o) = cV q.terms (s.casts.drop p.1.toNat) ((p.2.2.2.2.1.take p.1.toNat).map SCast.bare) p.2.1) (μ := fun (p : Int × RS × Value × aq × List SCast × aq) => (s.casts.length - p.1).toNat) ((0 : Int), (dL q.terms s (m, o)).2, u71, ob71, s.casts, ob76) .nilFunc [] HPoc71 ky ⟨⟨by omega, by omega⟩, Hp.le.refl _, ⟨hmB, by simp⟩, hO71, hO76, ⟨rfl, hs0.cs, rfl⟩, rfl⟩ (fun w hw => hw) (fun p v2 ob H2 hI => ?_)
  obtain ⟨⟨j0, j1⟩, hle2, ⟨hm2, ho2⟩, hO2, hOc, hC, hK⟩ := hI
  obtain ⟨j, ⟨m2, o2⟩, u2, ob2, C, oc⟩ := p
  dsimp only at *
  replace hQ := hQ.le hle2
  replace hx := hx.le hle2
  replace hw := hw.le hle2
  replace hmv := hmv.le hle2
  replace hTKc := hTKc.le hle2
  replace hle := hle.trans hle2
  replace hs0 := hs0.le hle2
  replace hSt := hSt.le hle2
  replace hRA := hRA.le hle2
  refine zm6 ?_
  refine ag rfl (fun c82 => ?_) (fun c82 => ?_)
  ·
   obtain ⟨c, hc⟩ := ao (l := s.casts) j0 c82
   have hcC := hC.at_ hc
   have hCl : (C.length : Int) = s.casts.length := by rw [hC.n]
   have hc6 := hsz.2.2.2 c (List.mem_of_getElem? hc)
   have hcm : ∀ t ∈ c.args, cA q.terms t = true := fun t h => hTm t (hZ (List.mem_of_getElem? hc) h)
   refine nK ?_; refine eP ?_
   refine TD.part 1 10 rfl rfl rfl ?_ ?_
   ·
    refine zm346 ?_; refine nr ?_; refine sy ?_; refine nI ?_; refine zm4 ?_; refine y0 ?_; refine bj ?_; refine yZ ?_
    refine dY (L1 := (b46, m2.map (Value.int .i64)) :: (b3, _) :: ob2) (ab rfl rfl rfl rfl) (fT (hs0.cs c (List.mem_of_getElem? hc)) hTKc hQ hx hmv hcm hc6 hm2 hO2 (by omega)) rfl (fun v94 H94 L94 hle94 hp94 => ?_)
    obtain ⟨u94, ob94, oc94, rfl, hO94, hA94⟩ := hp94
    obtain ⟨aa94, ac94, rfl⟩ := hA94.form
    refine aT (fm (A := ob94) (B := oc94)) ?_
    replace hw := hw.le hle94
    replace hle2 := hle2.trans hle94
    replace hC := hC.le hle94
    refine TL.pubO hA94 (.skip _ (.skip _ (.past _ (.app _)))) (by simp) (fun HPoc94 lePoc94 hRC => ?_)
    replace hw := hw.le lePoc94
    replace hle2 := hle2.trans lePoc94
    replace hC := hC.le lePoc94
    refine yY ?_; refine yX ?_; refine TF.back ?_; refine nI ?_; refine fR ?_
    refine fq (a' := { c with args := (bp q.terms c.args [] (m2, o2)).1, ap := (aa94, ac94) }) rfl rfl hOc (.skip _ (.skip _ (.skip _ (.skip _ (.skip _ (.past _ (.past _ .all))))))) hcC rfl rfl rfl rfl (fun obd ed hOd => ?_)
    refine lD ?_
    exact aF (i := (j, (m2, o2), u2, ob2, C, oc)) (j + 1, (bp q.terms c.args [] (m2, o2)).2, u94, ob94, C.set j.toNat { c with args := (bp q.terms c.args [] (m2, o2)).1, ap := (aa94, ac94) }, obd) .nilFunc [] HPoc94 ⟨⟨by omega, by omega⟩, hle2, ⟨by rw [eD]; exact hm2, by have h7 := d9 (acc := []) (s := (m2, o2)) hcm; simp only at h7 ⊢; omega⟩, hO94, hOd, hC.put j0 hRC, by rw [mt j0 hcC]; exact oT j0 hc hK⟩ ky (fun w hw => hw) (by omega)
   refine zm347 ?_; refine zm4 ?_; refine sy ?_; refine nI ?_; refine zm4 ?_; refine y0 ?_; refine bj ?_; refine yZ ?_
   refine dY (L1 := (b46, m2.map (Value.int .i64)) :: (b3, _) :: ob2) (ab rfl rfl rfl rfl) (fT (hs0.cs c (List.mem_of_getElem? hc)) hTKc hQ hx hmv hcm hc6 hm2 hO2 (by omega)) rfl (fun v94 H94 L94 hle94 hp94 => ?_)
   obtain ⟨u94, ob94, oc94, rfl, hO94, hA94⟩ := hp94
   obtain ⟨aa94, ac94, rfl⟩ := hA94.form
   refine aT (fm (A := ob94) (B := oc94)) ?_
   replace hw := hw.le hle94
   replace hle2 := hle2.trans hle94
   replace hC := hC.le hle94
   refine TL.pubO hA94 (.skip _ (.skip _ (.past _ (.app _)))) (by simp) (fun HPoc94 lePoc94 hRC => ?_)
   replace hw := hw.le lePoc94
   replace hle2 := hle2.trans lePoc94
   replace hC := hC.le lePoc94
   refine yY ?_; refine yX ?_; refine TF.back ?_; refine nt ?_; refine nI ?_; refine fR ?_
   refine fq (a' := { c with args := (bp q.terms c.args [] (m2, o2)).1, ap := (aa94, ac94) }) rfl rfl hOc (.skip _ (.skip _ (.skip _ (.skip _ (.skip _ (.past _ (.past _ .all))))))) hcC rfl rfl rfl rfl (fun obd ed hOd => ?_)
   refine lD ?_
   exact aF (i := (j, (m2, o2), u2, ob2, C, oc)) (j + 1, (bp q.terms c.args [] (m2, o2)).2, u94, ob94, C.set j.toNat { c with args := (bp q.terms c.args [] (m2, o2)).1, ap := (aa94, ac94) }, obd) .nilFunc [] HPoc94 ⟨⟨by omega, by omega⟩, hle2, ⟨by rw [eD]; exact hm2, by have h7 := d9 (acc := []) (s := (m2, o2)) hcm; simp only at h7 ⊢; omega⟩, hO94, hOd, hC.put j0 hRC, by rw [mt j0 hcC]; exact oT j0 hc hK⟩ ky (fun w hw => hw) (by omega)
  have hCE := DG j0 c82 hK
  rw [bB (by rw [hC.n]; exact c82) j0] at hCE
  have hCn := hC.n
  refine pJ ?_
  refine aB rfl rfl rfl rfl (fun b98 => ?_)
  refine iz ?_
  refine TL.append (enc := SWay.cells) rfl rfl rfl (OwnSl.blk (enc := SWay.cells) [] rfl rfl (by decide)) (Src.sl hs0.w) (by simp; omega) rfl (.take (.here _) rfl) rfl (fun a101 c101 ob101 hO101 => ?_)
  refine zm348 ?_; refine sA ?_
  replace hO101 := hO101.cast (List.nil_append _)
  refine y6 ?_; refine TL.run (bG rfl rfl hO101) rfl ?_; refine zm8 ?_; refine zm349 ?_
  refine aV (V := fun (p : Int × List SWay × aq) v3 ob H3 => [(106, .int .i64 p.1)]) (K := [(1, _), (2, _), (3, _), (6, _), (10, _), (11, _), (13, _), (14, _), (49, _), (50, _), (51, _), (52, _), (53, _), (54, _), (55, _), (56, _), (57, _), (58, _), (59, _), (60, _), (61, _), (62, _), (68, _), (69, _), (70, _), (71, _), (72, _), (73, _), (74, _), (75, _), (76, _), (77, _), (78, _), (79, _), (80, _), (81, _), (82, _), (98, _), (99, _), (100, _), (101, _), (102, _), (103, _), (104, _), (105, _)]) (L := fun (p : Int × List SWay × aq) v3 ob H3 => St [] w0 H H2 ((b14, _) :: (b46, _) :: (b3, _) :: (b30, _) :: (b2, _) :: (ob2 ++ (obS ++ (oc ++ p.2.2))))) (I := fun (p : Int × List SWay × aq) v3 ob H3 => (0 ≤ p.1 ∧ p.1 ≤ s.ways.length) ∧ OwnSl 3 SWay.cells (.slice a101 s.ways.length c101) p.2.1 p.2.2 ∧ WaIx (bQ q) s.ways p.2.1 p.1) (μ := fun (p : Int × List SWay × aq) => (s.ways.length - p.1).toNat) ((0 : Int), s.ways, ob101) .nilFunc [] H2 ky ⟨⟨by omega, by omega⟩, hO101, rfl⟩ (fun w hw => hw) (fun p v3 ob H3 hI => ?_)
  obtain ⟨⟨i0, i1⟩, hOw, hW⟩ := hI
  obtain ⟨i, W, ow⟩ := p
  dsimp only at *
  refine zm6 ?_
  refine ag rfl (fun c107 => ?_) (fun c107 => ?_)
  ·
   obtain ⟨w, hwy⟩ := ao (l := s.ways) i0 c107
   have hwW := hW.at_ hwy
   have hWl : (W.length : Int) = s.ways.length := by rw [hW.len]
   have hwn := hin _ (pT hma (List.mem_of_getElem? hwy))
   refine nK ?_; refine eP ?_; refine zm350 ?_; refine nr ?_; refine sy ?_; refine sx ?_; refine zm4 ?_; refine zm351 ?_; refine su ?_
   refine a7 (aD rfl (.there _ (.there _ (.there _ (.here _)))) (gN (by omega))) rfl ?_; refine sx ?_; refine fR ?_
   refine fq (a' := gX (bQ q) w) rfl rfl hOw (.skip _ (.skip _ (.skip _ (.skip _ (.skip _ (.past _ (.past _ (.past _ .all)))))))) hwW rfl rfl rfl rfl (fun obe ee hOe => ?_)
   refine lD ?_
   exact aF (i := (i, W, ow)) (i + 1, W.set i.toNat (gX (bQ q) w), obe) .nilFunc [] H2 ⟨⟨by omega, by omega⟩, hOe, hW.put i0 hwy⟩ ky (fun w hw => hw) (by omega)
  refine iy ?_; refine fw ?_; refine ay (ab rfl rfl rfl rfl) (oR s.kind) rfl (TL.nil (ad (TC.cond rfl (fun c126 => ?_) (fun c126 => ?_))))
  ·
   have hnn := hin _ (na c126)
   refine kt ?_; refine fS ?_; refine BN ?_; refine mD ?_; refine TC.region (TL.pubO hOc (.skip _ (.skip _ (.skip _ (.skip _ (.skip _ (.past _ (.past _ (.app _)))))))) (by simp) (fun HPoc lePoc hRC2 => ?_))
   replace hw := hw.le lePoc
   replace hle := hle.trans lePoc
   replace hSt := hSt.le lePoc
   replace hRA := hRA.le lePoc
   replace hC := hC.le lePoc
   refine TL.pubO hOw (.skip _ (.skip _ (.skip _ (.skip _ (.skip _ (.past _ (.past _ .all))))))) (by simp) (fun HPow lePow hRW2 => ?_)
   replace hw := hw.le lePow
   replace hle := hle.trans lePow
   replace hSt := hSt.le lePow
   replace hRA := hRA.le lePow
   replace hC := hC.le lePow
   replace hRC2 := hRC2.le lePow
   refine yW ?_
   have hWn : W.length = s.ways.length := hW.len
   generalize hs2e : (⟨s.kind, s.name, s.peer, s.label, s.proc, s.term, (dL q.terms s (m, o)).1, (aa71, ac71), C, (a76, c76), W, (a101, c101), (aJ (bQ q) s.next)⟩ : SStep) = s2
   have hs2 : StepOk HPow s2 := by subst hs2e; exact ⟨hRA, by simp only [hCn]; exact hRC2, hC.r, by simp only [hWn]; exact hRW2⟩
   have hWE : W = s.ways.map (gX (bQ q)) := by rw [show W = _ from hW, bB c107 i0, List.drop_of_length_le (by omega), List.append_nil]
   have hs2b : s2.bare = gG q.terms (bQ q) s (m, o) := by subst hs2e; exact jV hCE hWE (by rw [if_neg (by omega)]) (if_pos c126).symm
   exact yz
  refine d3 ?_; refine TC.region (TL.pubO hOc (.skip _ (.skip _ (.skip _ (.skip _ (.skip _ (.past _ (.past _ (.app _)))))))) (by simp) (fun HPoc lePoc hRC2 => ?_))
  replace hw := hw.le lePoc
  replace hle := hle.trans lePoc
  replace hSt := hSt.le lePoc
  replace hRA := hRA.le lePoc
  replace hC := hC.le lePoc
  refine TL.pubO hOw (.skip _ (.skip _ (.skip _ (.skip _ (.skip _ (.past _ (.past _ .all))))))) (by simp) (fun HPow lePow hRW2 => ?_)
  replace hw := hw.le lePow
  replace hle := hle.trans lePow
  replace hSt := hSt.le lePow
  replace hRA := hRA.le lePow
  replace hC := hC.le lePow
  replace hRC2 := hRC2.le lePow
  refine yW ?_
  have hWn : W.length = s.ways.length := hW.len
  generalize hs2e : (⟨s.kind, s.name, s.peer, s.label, s.proc, s.term, (dL q.terms s (m, o)).1, (aa71, ac71), C, (a76, c76), W, (a101, c101), s.next⟩ : SStep) = s2
  have hs2 : StepOk HPow s2 := by subst hs2e; exact ⟨hRA, by simp only [hCn]; exact hRC2, hC.r, by simp only [hWn]; exact hRW2⟩
  have hWE : W = s.ways.map (gX (bQ q)) := by rw [show W = _ from hW, bB c107 i0, List.drop_of_length_le (by omega), List.append_nil]
  have hs2b : s2.bare = gG q.terms (bQ q) s (m, o) := by subst hs2e; exact jV hCE hWE (by rw [if_neg (by omega)]) (if_neg (by rw [c126]; decide)).symm
  exact yz
 refine pJ ?_
 obtain ⟨ta, tc, rfl⟩ := hO1.form
 refine aT (L' := (b46, _) :: ((b3, _) :: ((b30, _) :: ((b2, _) :: (ob1 ++ (obS)))))) (ei [[(b46, _)], [(b3, _)], [(b30, _)], [(b2, _)], ob1, obS] [0, 1, 2, 3, 4, 5] rfl) ?_; refine k9 ?_; refine BM ?_
 refine TL.nil (ad (TC.ret ?_))
 have hE := st_end k0 c52 hT
 refine TX.pubO hO1 (.skip _ (.skip _ (.skip _ (.skip _ (.app _))))) (by simp) (fun HPt lePt hRT => ?_)
 replace hQ := hQ.le lePt
 replace hPa := hPa.le lePt
 refine TX.pubO hOS (.skip _ (.skip _ (.skip _ (.skip _ .all)))) (by simp) (fun HPs lePs hRS => ?_)
 replace hQ := hQ.le lePs
 replace hPa := hPa.le lePs
 replace hRT := hRT.le lePs
 replace hSt := (hSt.le lePt).le lePs
 have hNm : Nm o := by have h7 := qF (q := q) (pl := bQ q) (L := dm q) (acc := []) (st := (List.replicate q.terms.length 0, [])) hQ.tn (fun t h => by cases h); rw [hE] at h7; exact h7
 exact aQ (.inr rfl) (ae rfl (RVal.cellA rfl (.there _ (.there _ (.there _ (.here _)))) rfl)) ⟨⟨q.name, q.params, (a22, c22), o, (ta, tc), S, (va, vc)⟩, rfl, ⟨hPa, hQ.pz, hQ.pl, hRT, hNm, hRS, hSt⟩, by unfold fD; rw [hE]; rfl⟩
end Go.Sx
namespace Go.Sx
open Go Go.Proofs
theorem Dp {H : Hp} (p : SProto) (hP : ProtoOk H p) (hl : p.points.length ≤ 1000) :
  FnO Tryz.prog 134 [.agg p.cells.toArray] H (fun v H1 ob => H1 = H ∧ ∃ u, v = .agg #[gs [], u] ∧ OwnSl 3 STurn.cells u (p.points.map dJ) ob) := by
 have hpt := hP.pt
 have hpm := hpt.max
 refine FnO.enter Tryz.func134 Tryz.ntmps134 rfl rfl (fun w0 => ?_)
 refine zm2 ?_
 refine TL.box rfl rfl (fun b1 => ?_)
 refine TL.alloc rfl (fun b2 => ?_)
 refine gV ?_
 refine TL.alloc rfl (fun b3 => ?_)
 refine TL.nil (ad (TC.seq ?_)); refine vM ?_; refine TL.run (ai rfl rfl hpt) rfl ?_; refine zm8 ?_
 refine aV (V := fun k v ob H1 => [(10, .int .i64 k)]) (K := [(2, _), (3, _), (8, _), (9, _)]) (L := fun k v ob H1 => St [] w0 H H ((b3, [gs [], v]) :: (b2, _) :: (b1, _) :: ob)) (I := fun k v ob H1 => (0 ≤ k ∧ k ≤ p.points.length) ∧ OwnSl 3 STurn.cells v ((p.points.take k.toNat).map dJ) ob) (μ := fun k => (p.points.length - k).toNat) 0 (.slice none 0 0) [] H ky ⟨⟨by omega, by omega⟩, OwnSl.nil⟩ (fun w hw => hw) (fun k v ob H1 hI => ?_)
 obtain ⟨⟨k0, k1⟩, hO⟩ := hI
 obtain ⟨va, vc, rfl⟩ := hO.form
 refine zm6 ?_
 refine ag rfl (fun c11 => ?_) (fun c11 => ?_)
 ·
  obtain ⟨x, hx⟩ := ao (l := p.points) k0 c11
  have hxa := (hP.ps x (List.mem_of_getElem? hx)).a.max
  refine dC ?_; refine TL.run (af rfl hpt rfl (by omega) (by omega)) rfl (TL.run (bh hpt hx rfl rfl) rfl (TL.alloc rfl (fun b5 => ?_)))
  refine nN ?_; refine dy ?_
  refine TL.alloc rfl (fun b6 => ?_)
  refine o6 ?_; refine gS ?_; refine ll ?_
  refine aj (s := 20) rfl (fun g20 => ?_) (fun g20 => ?_)
  ·
   have q20 := aP g20
   refine lI ?_; refine nM ?_
   exact Bj
  have q20 := aL g20
  refine fM ?_; refine mB ?_; refine zm3 ?_
  refine aj (s := 25) rfl (fun g25 => ?_) (fun g25 => ?_)
  ·
   have q25 := aP g25
   refine eB ?_; refine nM ?_
   exact Bj
  have q25 := aL g25
  refine fM ?_; refine aw rfl rfl (ai rfl rfl (hP.ps x (List.mem_of_getElem? hx)).a) rfl ?_; refine gW ?_
  refine ag rfl (fun c30 => ?_) (fun c30 => ?_)
  · exact Bj
  refine d3 ?_; refine vH ?_
  refine aB rfl rfl rfl rfl (fun b38 => ?_)
  refine TL.append (enc := STurn.cells) rfl rfl rfl hO (Src.own [⟨0, [], x.arms, x.ap⟩] (.here _) rfl rfl) (by simp; omega) rfl (.skip _ (.skip _ (.skip _ (.skip _ (.skip _ (.skip _ .all)))))) rfl (fun a39 c39 ob39 hO39 => ?_)
  refine zm7 ?_; refine lB ?_; refine o5 ?_
  exact aF (k + 1) _ ob39 H ⟨⟨by omega, by omega⟩, hO39.cast (by rw [bX k0 hx]; congr 2; first | exact (zI (by simp_all)).symm | exact (zJ (by simp_all)).symm)⟩ ky (fun w hw => hw.drop.drop.drop) (by omega)
 refine fL ?_; refine pi ?_
 exact ez (.inr rfl) (ae rfl (RVal.cellA rfl (.there _ (.here _)) rfl)) (.skip _ (.skip _ (.skip _ .all))) ⟨rfl, _, rfl, hO.cast (by rw [bB c11 k0])⟩
end Go.Sx
namespace Go.Sx
open Go Go.Proofs
theorem gMay_ok {H : Hp} (p : SProto) (hP : ProtoOk H p) (hM : MaxG H) :
  FnS Tryz.prog 77 [.agg p.cells.toArray] H (.bool (cK p)) := by
 have hr := hP.r
 have hpt := hP.pt
 have hrm := hr.max
 have hpm := hpt.max
 refine FnS.enter Tryz.func77 Tryz.ntmps77 rfl rfl (fun w0 => ?_)
 refine zm2 ?_
 refine TL.box rfl rfl (fun b1 => ?_)
 refine iv ?_
 refine cf (!cE p) 34 [(1, _), (2, _)] ⟨rfl, rfl, trivial⟩ ?_ ?_
 ·
  refine oX ?_; refine ay (ab rfl rfl rfl rfl) (bK p.name) rfl ?_; refine zm3 ?_
  refine aj (s := 11) rfl (fun g11 => ?_) (fun g11 => ?_)
  ·
   refine vR ?_; refine dP ?_
   exact a8 rfl (by unfold cE; simp_all) ⟨rfl, rfl, trivial⟩
  refine zm9 ?_; refine aw rfl rfl (ai rfl rfl hr) rfl ?_; refine dD ?_
  refine aj (s := 17) rfl (fun g17 => ?_) (fun g17 => ?_)
  ·
   have q17 := of_decide_eq_true g17
   refine uZ ?_; refine dP ?_
   exact a8 rfl (by unfold cE; simp_all) ⟨rfl, rfl, trivial⟩
  have q17 := of_decide_eq_false g17
  refine zm9 ?_; refine aw rfl rfl (ai rfl rfl hr) rfl ?_; refine dD ?_
  refine aj (s := 23) rfl (fun g23 => ?_) (fun g23 => ?_)
  ·
   have q23 := of_decide_eq_true g23
   refine ns ?_; refine dP ?_
   exact a8 rfl (by unfold cE; simp_all) ⟨rfl, rfl, trivial⟩
  have q23 := of_decide_eq_false g23
  refine zm9 ?_; refine aK rfl rfl (ab rfl rfl rfl rfl) (j8 hr) rfl ?_; refine dD ?_
  refine aj (s := 29) rfl (fun g29 => ?_) (fun g29 => ?_)
  ·
   refine mE ?_
   exact a8 rfl (by unfold cE; simp_all) ⟨rfl, rfl, trivial⟩
  refine zm9 ?_; refine aw rfl rfl (ai rfl rfl hpt) rfl ?_; refine ii ?_
  exact a8 rfl (by unfold cE; simp_all) ⟨rfl, rfl, trivial⟩
 refine TC.cond rfl (fun c34 => ?_) (fun c34 => ?_)
 ·
  refine o8 ?_
  exact ax (.inr rfl) (ae rfl (RVal.tmp rfl)) (congrArg Value.bool (by first | exact oF c34 | exact oE hr1 | exact oD hp1 | exact oC hh hr1 hp1))
 have hh : cE p = true := by simpa using c34
 have hp24 := CP hh
 refine iS ?_; refine fw ?_; refine TL.run (ai rfl rfl hr) rfl ?_; refine zm8 ?_
 refine TC.loop (V := fun k => [(38, .int .i64 k)]) (K := [(1, _), (2, _), (36, _), (37, _)]) (L := fun k => _) (I := fun k => (0 ≤ k ∧ k ≤ p.roles.length) ∧ p.roles.all aG = (p.roles.drop k.toNat).all aG) (μ := fun k => (p.roles.length - k).toNat) (i := (0 : Int)) ky ⟨⟨by omega, by omega⟩, rfl⟩ (fun w hw => hw) (fun k hI => ?_)
 obtain ⟨⟨k0, k1⟩, hal⟩ := hI
 refine zm6 ?_
 refine ag rfl (fun c39 => ?_) (fun c39 => ?_)
 ·
  obtain ⟨y, hy⟩ := ao (l := p.roles) k0 c39
  refine dC ?_; refine TL.run (af rfl hr rfl (by omega) (by omega)) rfl (TL.run (aM hr hy rfl rfl) rfl ?_); refine kM ?_; refine ay (ab rfl rfl rfl rfl) (bK y) rfl ?_; refine zm1 ?_
  refine TC.cond rfl (fun c44 => ?_) (fun c44 => ?_)
  ·
   have hr1 := dx (p := aG) k0 hy (by simpa using c44) hal
   refine nJ ?_
   exact ax (.inr rfl) (ae rfl (RVal.tmp rfl)) (congrArg Value.bool (by first | exact oF c34 | exact oE hr1 | exact oD hp1 | exact oC hh hr1 hp1))
  refine lg ?_
  exact aR (k + 1) ⟨⟨by omega, by omega⟩, cj (p := aG) k0 hy (by simpa using c44) hal⟩ ky (fun w hw => hw) (by omega)
 have hr1 := cW (p := aG) k0 c39 hal
 refine iy ?_; refine fw ?_; refine TL.run (ai rfl rfl hpt) rfl ?_; refine zm8 ?_
 refine TC.loop (V := fun k => [(49, .int .i64 k)]) (K := [(1, _), (2, _), (47, _), (48, _)]) (L := fun k => _) (I := fun k => (0 ≤ k ∧ k ≤ p.points.length) ∧ p.points.all (eF p.roles) = (p.points.drop k.toNat).all (eF p.roles)) (μ := fun k => (p.points.length - k).toNat) (i := (0 : Int)) ky ⟨⟨by omega, by omega⟩, rfl⟩ (fun w hw => hw) (fun k hI => ?_)
 obtain ⟨⟨k0, k1⟩, hal⟩ := hI
 refine zm6 ?_
 refine ag rfl (fun c50 => ?_) (fun c50 => ?_)
 ·
  obtain ⟨x, hx⟩ := ao (l := p.points) k0 c50
  have hxa := (hP.ps x (List.mem_of_getElem? hx)).a.max
  refine dC ?_; refine TL.run (af rfl hpt rfl (by omega) (by omega)) rfl (TL.run (bh hpt hx rfl rfl) rfl (TL.alloc rfl (fun b6 => ?_)))
  refine o6 ?_
  refine cf (eR x) 66 [(1, _), (2, _), (6, _), (47, _), (48, _), (49, _), (50, _), (51, _), (52, _)] ky ?_ ?_
  ·
   refine vT ?_
   refine aj (s := 56) rfl (fun g56 => ?_) (fun g56 => ?_)
   ·
    have q56 := of_decide_eq_true g56
    refine o7 ?_
    refine aj (s := 61) rfl (fun g61 => ?_) (fun g61 => ?_)
    ·
     have q61 := of_decide_eq_true g61
     refine zm9 ?_; refine aw rfl rfl (ai rfl rfl (hP.ps x (List.mem_of_getElem? hx)).a) rfl ?_; refine ii ?_
     exact a8 rfl (by unfold eR; simp_all) ky
    have q61 := of_decide_eq_false g61
    refine mE ?_
    exact a8 rfl (by unfold eR; simp_all) ky
   have q56 := of_decide_eq_false g56
   refine vP ?_
   exact a8 rfl (by unfold eR; simp_all) ky
  refine TC.cond rfl (fun c66 => ?_) (fun c66 => ?_)
  ·
   refine zm232 ?_; refine kr ?_
   exact aR (k + 1) ⟨⟨by omega, by omega⟩, cj (p := (eF p.roles)) k0 hx (by first | exact pt_1 c66 | exact pt_2 c87) hal⟩ ky (fun w hw => hw.drop) (by omega)
  refine d3 ?_
  refine cf (!eQ p.roles x) 87 [(1, _), (2, _), (6, _), (47, _), (48, _), (49, _), (50, _), (51, _), (52, _), (66, _)] ky ?_ ?_
  ·
   refine nH ?_; refine fz ?_; refine ay (ab rfl rfl rfl rfl) (iL x.frm hr) rfl ?_; refine zm3 ?_
   refine aj (s := 73) rfl (fun g73 => ?_) (fun g73 => ?_)
   ·
    refine pM ?_; refine cI ?_; refine dP ?_
    exact a8 rfl (by unfold eQ; simp_all) ky
   refine kw ?_; refine aK rfl rfl (ab rfl rfl rfl rfl) (iL x.to hr) rfl ?_; refine dD ?_
   refine aj (s := 81) rfl (fun g81 => ?_) (fun g81 => ?_)
   ·
    refine rz ?_; refine dP ?_
    exact a8 rfl (by unfold eQ; simp_all) ky
   refine zm9 ?_; refine rT ?_; refine dP ?_
   exact a8 rfl (by unfold eQ; simp_all) ky
  refine TC.cond rfl (fun c87 => ?_) (fun c87 => ?_)
  ·
   have hp1 := dx (p := eF p.roles) k0 hx (pt_3 c66 c87) hal
   refine nJ ?_
   exact ax (.inr rfl) (ae rfl (RVal.tmp rfl)) (congrArg Value.bool (by first | exact oF c34 | exact oE hr1 | exact oD hp1 | exact oC hh hr1 hp1))
  refine lg ?_
  exact aR (k + 1) ⟨⟨by omega, by omega⟩, cj (p := (eF p.roles)) k0 hx (by first | exact pt_1 c66 | exact pt_2 c87) hal⟩ ky (fun w hw => hw.drop) (by omega)
 have hp1 := cW (p := eF p.roles) k0 c50 hal
 refine fL ?_; refine gu ?_
 refine cS (ab rfl rfl rfl rfl) (Dp p hP (by omega)) rfl (fun v90 H90 ob90 hle90 hp90 => ?_)
 obtain ⟨eH90, u90, rfl, hO90⟩ := hp90
 subst H90
 obtain ⟨a90, c90, rfl⟩ := hO90.form
 refine TL.pubO hO90 (.skip _ .all) (by simp) (fun HP90 leP90 hR90 => ?_)
 replace hP := hP.le leP90
 replace hM := hM.le leP90
 refine ay (ab rfl rfl rfl rfl) (t8 ⟨[], p.points.map dJ, (a90, c90)⟩ ⟨hR90, xj hP⟩ hM) rfl ?_; refine eh ?_
 exact ax (.inr rfl) (ae rfl (RVal.tmp rfl)) (congrArg Value.bool (by first | exact oF c34 | exact oE hr1 | exact oD hp1 | exact oC hh hr1 hp1))
end Go.Sx
