import Derived.Test.YtjnlogbbcceaoaaGreatK6
set_option linter.all false
set_option maxRecDepth 100000
namespace Go.Sx
open Go Go.Proofs
set_option maxHeartbeats 64000000 in
theorem raised_ok {H : Hp} {q : SProc} (hQ : ProcOk H q) (hR : RiseOk q) :
  Fn Tryz.prog 47 [.agg q.cells.toArray] H (fun v H2 => ∃ q2 : SProc, v = .agg q2.cells.toArray ∧ ProcOk H2 q2 ∧ q2.bare = raisedS q) := by
 have hS := hR.s
 have n1 := hR.n1
 have n2 := hR.n2
 have n3 := hR.n3
 have np := hR.p
 have hol0 := ord_len hS hR.t q.steps.length 0 (by omega)
 have hoL : (ordS q).length ≤ q.steps.length := hol0
 have hplc := place_len q
 have hmaxs := hQ.s.max
 have hmaxt := hQ.t.max
 refine Fn.enter Tryz.func47 Tryz.ntmps47 rfl rfl (fun w0 => ?_)
 refine zm4 ?_
 refine TL.box rfl rfl (fun b1 => ?_)
 refine TL.alloc rfl (fun b2 => ?_)
 refine zm33 ?_
 refine TC.mid (V := fun (y : Nat × Option Addr × Nat × Blks) => [(3, .pointer (some ⟨y.1, 0, none⟩))]) (K := [(1, _), (2, _)]) ⟨rfl, rfl, trivial⟩ (L := fun (y : Nat × Option Addr × Nat × Blks) => St [] w0 H H ((y.1, [gs q.name, .slice y.2.1 q.params.length y.2.2.1, .slice none 0 0, .slice none 0 0]) :: (b2, [gs [], .slice none 0 0, .slice none 0 0, .slice none 0 0]) :: (b1, q.cells) :: y.2.2.2)) (I := fun (y : Nat × Option Addr × Nat × Blks) => OwnSl 3 SParam.cells (.slice y.2.1 q.params.length y.2.2.1) q.params y.2.2.2) ?_ ?_
 ·
  refine zm25 ?_
  refine TD.part 1 5 rfl rfl rfl ?_ ?_
  ·
   refine TD.part 5 7 rfl rfl rfl ?_ ?_
   ·
    refine TD.leaf [(0, 1), (1, 2), (3, 1), (4, 2), (2, 3), (5, 0), (6, 1), (7, 3), (8, 0)] (by kernel_rfl) (by kernel_rfl) ?_; refine zm76 ?_; refine zm76 ?_
    refine TF.bslice rfl rfl rfl rfl (fun b19 => ?_)
    refine TF.loud (TL.append (enc := SParam.cells) rfl rfl rfl (OwnSl.blk (enc := SParam.cells) [] rfl rfl (by decide)) (Src.sl hQ.pa) (by simp; omega) rfl (.take (.here _) rfl) rfl (fun a22 c22 ob22 hO22 => ?_))
    exact TF.back (zq766)
   ·
    refine TD.part 2 7 rfl rfl rfl ?_ ?_
    ·
     refine TD.leaf [(0, 1), (1, 2), (3, 1), (4, 2), (2, 3), (7, 3), (5, 0), (6, 1), (8, 0)] (by kernel_rfl) (by kernel_rfl) ?_; refine zm76 ?_; refine zm76 ?_
     refine TF.bslice rfl rfl rfl rfl (fun b19 => ?_)
     refine TF.alloc rfl (fun b3 => ?_)
     refine TF.loud (TL.append (enc := SParam.cells) rfl rfl rfl (OwnSl.blk (enc := SParam.cells) [] rfl rfl (by decide)) (Src.sl hQ.pa) (by simp; omega) rfl (.take (.there _ (.here _)) rfl) rfl (fun a22 c22 ob22 hO22 => ?_))
     exact zq773
    ·
     refine TD.leaf [(0, 1), (1, 2), (3, 1), (4, 2), (7, 3), (2, 3), (5, 0), (6, 1), (8, 0)] (by kernel_rfl) (by kernel_rfl) ?_; refine zm76 ?_; refine zm76 ?_
     refine TF.alloc rfl (fun b3 => ?_)
     refine TF.bslice rfl rfl rfl rfl (fun b19 => ?_)
     refine TF.loud (TL.append (enc := SParam.cells) rfl rfl rfl (OwnSl.blk (enc := SParam.cells) [] rfl rfl (by decide)) (Src.sl hQ.pa) (by simp; omega) rfl (.take (.here _) rfl) rfl (fun a22 c22 ob22 hO22 => ?_))
     exact zq773
  ·
   refine TD.part 5 7 rfl rfl rfl ?_ ?_
   ·
    refine TD.leaf [(0, 1), (3, 1), (4, 2), (2, 3), (5, 0), (1, 2), (6, 1), (7, 3), (8, 0)] (by kernel_rfl) (by kernel_rfl) ?_; refine zm3 ?_; refine zm76 ?_
    refine TF.bslice rfl rfl rfl rfl (fun b19 => ?_)
    refine TF.loud (TL.append (enc := SParam.cells) rfl rfl rfl (OwnSl.blk (enc := SParam.cells) [] rfl rfl (by decide)) (Src.sl hQ.pa) (by simp; omega) rfl (.take (.here _) rfl) rfl (fun a22 c22 ob22 hO22 => ?_))
    refine TF.back ?_; refine zm278 ?_
    exact zq766
   ·
    refine TD.part 2 7 rfl rfl rfl ?_ ?_
    ·
     refine TD.leaf [(0, 1), (3, 1), (4, 2), (2, 3), (7, 3), (5, 0), (1, 2), (6, 1), (8, 0)] (by kernel_rfl) (by kernel_rfl) ?_; refine zm3 ?_; refine zm76 ?_
     refine TF.bslice rfl rfl rfl rfl (fun b19 => ?_)
     refine TF.alloc rfl (fun b3 => ?_)
     refine TF.loud (TL.append (enc := SParam.cells) rfl rfl rfl (OwnSl.blk (enc := SParam.cells) [] rfl rfl (by decide)) (Src.sl hQ.pa) (by simp; omega) rfl (.take (.there _ (.here _)) rfl) rfl (fun a22 c22 ob22 hO22 => ?_))
     exact zq775
    ·
     refine TD.leaf [(0, 1), (3, 1), (4, 2), (7, 3), (2, 3), (5, 0), (1, 2), (6, 1), (8, 0)] (by kernel_rfl) (by kernel_rfl) ?_; refine zm3 ?_; refine zm76 ?_
     refine TF.alloc rfl (fun b3 => ?_)
     refine TF.bslice rfl rfl rfl rfl (fun b19 => ?_)
     refine TF.loud (TL.append (enc := SParam.cells) rfl rfl rfl (OwnSl.blk (enc := SParam.cells) [] rfl rfl (by decide)) (Src.sl hQ.pa) (by simp; omega) rfl (.take (.here _) rfl) rfl (fun a22 c22 ob22 hO22 => ?_))
     exact zq775
 ·
  intro y hI
  obtain ⟨b3, a22, c22, ob22⟩ := y
  dsimp only at *
  replace hO22 := hI
  refine zm4 ?_
  refine TL.alloc rfl (fun b4 => ?_)
  refine zm27 ?_
  refine TL.alloc rfl (fun b5 => ?_)
  refine zm41 ?_; refine zm134 ?_; refine TL.front (.there _ (.there _ (.there _ (.there _ (.here _))))) (TL.pub (by simp) (fun H_b1 le_b1 rd_b1 => ?_))
  replace hQ := hQ.le le_b1
  have hx : ProcAt H_b1 b1 q := rd_b1
  refine TL.pub (by simp) (fun H_b5 le_b5 rd_b5 => ?_)
  replace hQ := hQ.le le_b5
  replace hx := hx.le le_b5
  have hw : CellAt H_b5 b5 _ := rd_b5 0 _ rfl
  refine TL.pubO hO22 (.skip _ (.skip _ (.skip _ .all))) (by simp) (fun HPob22 lePob22 hPa => ?_)
  replace hQ := hQ.le lePob22
  replace hx := hx.le lePob22
  replace hw := hw.le lePob22
  refine TL.permL (L' := (b4, _) :: ((b3, _) :: ((b2, _) :: []))) (List.Perm.refl _) (TL.run (pr_hp1 rfl hw) rfl (TL.callX (L1 := [(b4, [.slice none 0 0])]) (enters rfl rfl rfl rfl) (ordW_ok hR.s hR.n2 q.steps.length 0 hQ hx hw (by omega) (by omega) (by omega) _ [] [] OwnSl.nil (by simp only [List.length_nil]; omega)) rfl (fun v26 H26 L26 hle26 hp26 => ?_)))
  obtain ⟨rfl, -, u26, ob26, rfl, hO26⟩ := hp26
  obtain ⟨ua26, uc26, rfl⟩ := hO26.form
  refine TL.permL (L' := (b4, _) :: (ob26 ++ ((b3, _) :: ((b2, _) :: [])))) (List.Perm.refl _) ?_
  replace hQ := hQ.le hle26
  replace hx := hx.le hle26
  replace hw := hw.le hle26
  replace hPa := hPa.le hle26
  refine TL.pubO hO26 (.skip _ (.app _)) (by simp) (fun HPob26 lePob26 hOr => ?_)
  replace hQ := hQ.le lePob26
  replace hx := hx.le lePob26
  replace hw := hw.le lePob26
  replace hPa := hPa.le lePob26
  refine TL.pub (by simp) (fun H_b4 le_b4 rd_b4 => ?_)
  replace hQ := hQ.le le_b4
  replace hx := hx.le le_b4
  replace hw := hw.le le_b4
  replace hPa := hPa.le le_b4
  replace hOr := hOr.le le_b4
  have hb4 : CellAt H_b4 b4 _ := rd_b4 0 _ rfl
  replace hOr := hOr.cast (show _ = ordS q from rfl)
  refine zm27 ?_; refine zm6 ?_
  refine TL.run (pr_hp1 rfl (hx 3 _ rfl)) rfl (TL.run (pr_lenSl rfl rfl hQ.s) rfl (TL.make rfl rfl (by first | omega | decide) (by first | omega | decide) (by first | omega | decide) rfl (fun b30 => ?_)))
  refine zm59 ?_; refine TL.run (pr_hp1 rfl hb4) rfl (TL.run (pr_lenSl rfl rfl hOr) rfl ?_); refine zm10 ?_
  refine TC.loop (V := fun (p : Int × List Int) => [(33, .int .i64 p.1)]) (K := [(1, _), (2, _), (3, _), (4, _), (6, _), (31, _), (32, _)]) (L := fun (p : Int × List Int) => St [] w0 H H_b4 ((b30, (p.2).map (Value.int .i64)) :: (b3, _) :: (b2, _) :: [])) (I := fun (p : Int × List Int) => (0 ≤ p.1 ∧ p.1 ≤ (ordS q).length) ∧ p.2.length = q.steps.length ∧ placeS' q = placeGo ((ordS q).drop p.1.toNat) p.1 p.2) (μ := fun (p : Int × List Int) => ((ordS q).length - p.1).toNat) (i := ((0 : Int), List.replicate q.steps.length (0 : Int))) ⟨rfl, rfl, rfl, rfl, rfl, rfl, rfl, rfl, trivial⟩ ⟨⟨by omega, by omega⟩, by simp, rfl⟩ (fun w hw => by simp only [reps_i0] at hw; exact hw) (fun (p : Int × List Int) hI => ?_)
  obtain ⟨⟨k0, k1⟩, hpll, hPl⟩ := hI
  obtain ⟨k, pl⟩ := p
  dsimp only at *
  refine zm11 ?_
  refine TC.condD rfl (fun c34 => ?_) (fun c34 => ?_)
  ·
   obtain ⟨x, hk⟩ := getSome (l := ordS q) k0 c34
   have hxb := ord_in hS (List.mem_of_getElem? hk)
   refine zm114 ?_; refine TL.run (pr_indexSl rfl hOr rfl (by omega) (by omega)) rfl (TL.run (pr_el0 hOr hk rfl rfl) rfl ?_); refine zm60 ?_; refine zm121 ?_; refine zm132 ?_
   refine TL.store1 rfl rfl rfl (.here _) (by simp; omega) rfl ?_; refine zm99 ?_
   exact TX.round (i := (k, pl)) (k + 1, pl.set x.toNat k) ⟨⟨by omega, by omega⟩, by rw [List.length_set]; exact hpll, pg_next k0 hk hPl⟩ ⟨rfl, rfl, rfl, rfl, rfl, rfl, rfl, rfl, trivial⟩ (fun w hw => by have hw2 := hw; simp only [is_set] at hw2; exact hw2) (by omega)
  ·
   have hPE := pg_end k0 c34 hPl
   subst hPE
   refine zm144 ?_; refine TL.run (pr_hp1 rfl (hx 2 _ rfl)) rfl (TL.run (pr_lenSl rfl rfl hQ.t) rfl (TL.make rfl rfl (by first | omega | decide) (by first | omega | decide) (by first | omega | decide) rfl (fun b46 => ?_)))
   refine TL.alloc rfl (fun b9 => ?_)
   refine zm134 ?_
   refine TL.pub (by simp) (fun H_b9 le_b9 rd_b9 => ?_)
   replace hQ := hQ.le le_b9
   replace hx := hx.le le_b9
   replace hw := hw.le le_b9
   replace hPa := hPa.le le_b9
   replace hOr := hOr.le le_b9
   replace hb4 := hb4.le le_b9
   have hmv : CellAt H_b9 b9 (.slice (some ⟨b46, 0, none⟩) q.terms.length q.terms.length) := rd_b9 0 _ rfl
   refine zm0 ?_
   refine TL.alloc rfl (fun b10 => ?_)
   refine zm134 ?_
   refine TL.pub (by simp) (fun H_b10 le_b10 rd_b10 => ?_)
   replace hQ := hQ.le le_b10
   replace hx := hx.le le_b10
   replace hw := hw.le le_b10
   replace hPa := hPa.le le_b10
   replace hOr := hOr.le le_b10
   replace hb4 := hb4.le le_b10
   replace hmv := hmv.le le_b10
   have hTKc : CellAt H_b10 b10 (.func (.func 93) #[] #[.pointer (some ⟨b1, 0, none⟩), .pointer (some ⟨b9, 0, none⟩), .pointer (some ⟨b3, 0, none⟩)]) := rd_b10 0 _ rfl
   refine zm412 ?_; refine zm60 ?_; refine zm88 ?_; refine TL.run (pr_hp1 rfl hb4) rfl (TL.run (pr_lenSl rfl rfl hOr) rfl ?_); refine zm10 ?_
   refine TC.loop4 (V := fun (p : Int × RS × Value × Blks × List SStep) vS obS H1 => [(51, .int .i64 p.1)]) (K := [(1, _), (2, _), (3, _), (6, _), (10, _), (11, _), (49, _), (50, _)]) (L := fun (p : Int × RS × Value × Blks × List SStep) vS obS H1 => St [] w0 H H1 ((b46, (p.2.1.1).map (Value.int .i64)) :: (b3, [gs q.name, (.slice a22 q.params.length c22), p.2.2.1, vS]) :: (b30, (placeS' q).map (Value.int .i64)) :: (b2, [gs [], .slice none 0 0, .slice none 0 0, .slice none 0 0]) :: (p.2.2.2.1 ++ obS))) (I := fun (p : Int × RS × Value × Blks × List SStep) vS obS H1 => (0 ≤ p.1 ∧ p.1 ≤ (ordS q).length) ∧ H_b10.le H1 ∧ (p.2.1.1.length = q.terms.length ∧ p.2.1.2.length ≤ 3355443200 * p.1.toNat) ∧ OwnSl 6 Term.cells p.2.2.1 p.2.1.2 p.2.2.2.1 ∧ OwnSl 10 SStep.cells vS p.2.2.2.2 obS ∧ p.2.2.2.2.length = p.1 ∧ StAll H1 p.2.2.2.2 ∧ stepsGo q (placeS' q) (ordS q) [] (List.replicate q.terms.length 0, []) = stepsGo q (placeS' q) ((ordS q).drop p.1.toNat) (p.2.2.2.2.map SStep.bare) p.2.1) (μ := fun (p : Int × RS × Value × Blks × List SStep) => ((ordS q).length - p.1).toNat) ((0 : Int), (List.replicate q.terms.length (0 : Int), []), (.slice none 0 0), [], []) (.slice none 0 0) [] H_b10 ⟨rfl, rfl, rfl, rfl, rfl, rfl, rfl, rfl, rfl, trivial⟩ ⟨⟨by omega, by omega⟩, Hp.le.refl _, ⟨by simp, by simp⟩, OwnSl.nil, OwnSl.nil, rfl, (fun s hs => by cases hs), rfl⟩ (fun w hw => by simp only [reps_i0] at hw; exact hw) (fun p vS obS H1 hI => ?_)
   obtain ⟨⟨k0, k1⟩, hle, ⟨hml, hol⟩, hO1, hOS, hSl, hSt, hT⟩ := hI
   obtain ⟨k, ⟨m, o⟩, u1, ob1, S⟩ := p
   dsimp only at *
   obtain ⟨va, vc, rfl⟩ := hOS.form
   replace hQ := hQ.le hle
   replace hx := hx.le hle
   replace hw := hw.le hle
   replace hPa := hPa.le hle
   replace hOr := hOr.le hle
   replace hmv := hmv.le hle
   replace hTKc := hTKc.le hle
   refine zm11 ?_
   refine TC.condD rfl (fun c52 => ?_) (fun c52 => ?_)
   ·
    obtain ⟨x, hk⟩ := getSome (l := ordS q) k0 c52
    have hxb := ord_in hS (List.mem_of_getElem? hk)
    obtain ⟨s, hs⟩ := getSome (l := q.steps) hxb.1 hxb.2
    have hs0 := hQ.ss s (List.mem_of_getElem? hs)
    obtain ⟨hma, hin⟩ := hS _ _ hs
    have hTm := hR.m _ _ hs
    have hsz := may_sizes hma
    refine zm15 ?_; refine TL.run (pr_indexSl rfl hOr rfl (by omega) (by omega)) rfl (TL.run (pr_el0 hOr hk rfl rfl) rfl ?_); refine zm102 ?_; refine TL.run (pr_hp1 rfl (hx 3 _ rfl)) rfl ?_; refine zm0 ?_; refine zm228 ?_
    refine TL.run (pr_elA hQ.s hs rfl rfl) rfl (TL.alloc rfl (fun b14 => ?_))
    refine zm26 ?_; refine zm138 ?_
    refine TC.condD rfl (fun c62 => ?_) (fun c62 => ?_)
    ·
     have hA : stepA q.terms s (m, o) = takeS q.terms s.term (m, o) := by unfold stepA; rw [if_pos (by omega)]
     refine TC.region (TL.run (pr_hp1 rfl hTKc) rfl ?_); refine zm51 ?_; refine zm356 ?_
     refine TL.callX (L1 := (b46, m.map (Value.int .i64)) :: (b3, _) :: ob1) (enters rfl rfl rfl rfl) (take_ok s.term hQ hx hmv (hTm _ (terms_mem_t hma (by omega))) hml hO1 (by omega)) rfl (fun v66 H66 L66 hle66 hp66 => ?_)
     obtain ⟨rfl, u66, ob66, rfl, hO66⟩ := hp66
     refine TL.permL (L' := (b46, _) :: ((b3, _) :: (ob66 ++ ((b14, _) :: ((b30, _) :: ((b2, _) :: (obS))))))) (List.Perm.refl _) ?_
     replace hQ := hQ.le hle66
     replace hx := hx.le hle66
     replace hw := hw.le hle66
     replace hmv := hmv.le hle66
     replace hTKc := hTKc.le hle66
     replace hle := hle.trans hle66
     replace hs0 := hs0.le hle66
     replace hSt := hSt.le hle66
     refine zm413 ?_; refine zm178 ?_; refine zm51 ?_; refine zm414 ?_
     have hmA : (stepA q.terms s (m, o)).1.length = q.terms.length := by rw [stepC_len.1]; exact hml
     have hzA := (stepC_size (q := q) (st := (m, o)) hma hTm).1
     have hOA : OwnSl 6 Term.cells u66 (stepA q.terms s (m, o)).2 ob66 := by rw [hA]; exact hO66
     refine zm415 ?_
     refine TL.callX (L1 := (b46, (stepA q.terms s (m, o)).1.map (Value.int .i64)) :: (b3, _) :: ob66) (enters rfl rfl rfl rfl) (takeAll_ok hs0.a hTKc hQ hx hmv (fun t h => hTm t (terms_mem_a h)) hsz.2.1 hmA hOA (by simp only at hzA; omega)) rfl (fun v71 H71 L71 hle71 hp71 => ?_)
     obtain ⟨u71, ob71, oc71, rfl, hO71, hA71⟩ := hp71
     obtain ⟨aa71, ac71, rfl⟩ := hA71.form
     refine TL.permL (perm_assoc2 (A := ob71) (B := oc71)) ?_
     replace hQ := hQ.le hle71
     replace hx := hx.le hle71
     replace hw := hw.le hle71
     replace hmv := hmv.le hle71
     replace hTKc := hTKc.le hle71
     replace hle := hle.trans hle71
     replace hs0 := hs0.le hle71
     replace hSt := hSt.le hle71
     refine TL.pubO hA71 (.skip _ (.skip _ (.past _ (.app _)))) (by simp) (fun HPoc71 lePoc71 hRA => ?_)
     replace hQ := hQ.le lePoc71
     replace hx := hx.le lePoc71
     replace hw := hw.le lePoc71
     replace hmv := hmv.le lePoc71
     replace hTKc := hTKc.le lePoc71
     replace hle := hle.trans lePoc71
     replace hs0 := hs0.le lePoc71
     replace hSt := hSt.le lePoc71
     clear hOA
     change OwnSl 6 Term.cells u71 (stepB q.terms s (m, o)).2.2 ob71 at hO71
     replace hRA := hRA.cast (show _ = (stepB q.terms s (m, o)).1 from rfl)
     refine zm357 ?_; refine zm358 ?_
     have hmB : (stepB q.terms s (m, o)).2.1.length = q.terms.length := by rw [stepC_len.2.1]; exact hml
     have hzB := (stepC_size (q := q) (st := (m, o)) hma hTm).2.1
     simp only at hzB
     refine zm277 ?_; refine zm27 ?_
     refine TL.bslice rfl rfl rfl rfl (fun b73 => ?_)
     refine zm20 ?_
     refine TL.append (enc := SCast.cells) rfl rfl rfl (OwnSl.blk (enc := SCast.cells) [] rfl rfl (by decide)) (Src.sl hs0.c) (by simp; omega) rfl (.take (.here _) rfl) rfl (fun a76 c76 ob76 hO76 => ?_)
     refine zm359 ?_; refine zm179 ?_
     replace hO76 := hO76.cast (List.nil_append _)
     refine zm213 ?_; refine TL.run (pr_lenO rfl rfl hO76) rfl ?_; refine zm10 ?_; refine zm360 ?_
     refine TC.loop4 (V := fun (p : Int × RS × Value × Blks × List SCast × Blks) v2 ob H2 => [(81, .int .i64 p.1)]) (K := [(1, _), (2, _), (3, _), (6, _), (10, _), (11, _), (13, _), (14, _), (49, _), (50, _), (51, _), (52, _), (53, _), (54, _), (55, _), (56, _), (57, _), (58, _), (59, _), (60, _), (61, _), (62, _), (63, _), (64, _), (65, _), (66, _), (67, _), (68, _), (69, _), (70, _), (71, _), (72, _), (73, _), (74, _), (75, _), (76, _), (77, _), (78, _), (79, _), (80, _)]) (L := fun (p : Int × RS × Value × Blks × List SCast × Blks) v2 ob H2 => St [] w0 H H2 ((b14, _) :: (b46, (p.2.1.1).map (Value.int .i64)) :: (b3, [gs q.name, (.slice a22 q.params.length c22), p.2.2.1, (.slice va S.length vc)]) :: (b30, (placeS' q).map (Value.int .i64)) :: (b2, [gs [], .slice none 0 0, .slice none 0 0, .slice none 0 0]) :: (p.2.2.2.1 ++ (obS ++ p.2.2.2.2.2)))) (I := fun (p : Int × RS × Value × Blks × List SCast × Blks) v2 ob H2 => (0 ≤ p.1 ∧ p.1 ≤ s.casts.length) ∧ HPoc71.le H2 ∧ (p.2.1.1.length = q.terms.length ∧ p.2.1.2.length ≤ (stepB q.terms s (m, o)).2.2.length + 201326592 * p.1.toNat) ∧ OwnSl 6 Term.cells p.2.2.1 p.2.1.2 p.2.2.2.1 ∧ OwnSl 3 SCast.cells (.slice a76 s.casts.length c76) p.2.2.2.2.1 p.2.2.2.2.2 ∧ CaIx H2 s.casts p.2.2.2.2.1 p.1 ∧ stepC q.terms s (m, o) = castsGo q.terms (s.casts.drop p.1.toNat) ((p.2.2.2.2.1.take p.1.toNat).map SCast.bare) p.2.1) (μ := fun (p : Int × RS × Value × Blks × List SCast × Blks) => (s.casts.length - p.1).toNat) ((0 : Int), (stepB q.terms s (m, o)).2, u71, ob71, s.casts, ob76) .nilFunc [] HPoc71 ⟨rfl, rfl, rfl, rfl, rfl, rfl, rfl, rfl, rfl, rfl, rfl, rfl, rfl, rfl, rfl, rfl, rfl, rfl, rfl, rfl, rfl, rfl, rfl, rfl, rfl, rfl, rfl, rfl, rfl, rfl, rfl, rfl, rfl, rfl, rfl, rfl, rfl, rfl, rfl, rfl, rfl, trivial⟩ ⟨⟨by omega, by omega⟩, Hp.le.refl _, ⟨hmB, by simp⟩, hO71, hO76, ⟨rfl, hs0.cs, rfl⟩, rfl⟩ (fun w hw => hw) (fun p v2 ob H2 hI => ?_)
     obtain ⟨⟨j0, j1⟩, hle2, ⟨hm2, ho2⟩, hO2, hOc, hC, hK⟩ := hI
     obtain ⟨j, ⟨m2, o2⟩, u2, ob2, C, oc⟩ := p
     dsimp only at *
     replace hQ := hQ.le hle2
     replace hx := hx.le hle2
     replace hw := hw.le hle2
     replace hmv := hmv.le hle2
     replace hTKc := hTKc.le hle2
     replace hle := hle.trans hle2
     replace hs0 := hs0.le hle2
     replace hSt := hSt.le hle2
     replace hRA := hRA.le hle2
     refine zm11 ?_
     refine TC.condD rfl (fun c82 => ?_) (fun c82 => ?_)
     ·
      obtain ⟨c, hc⟩ := getSome (l := s.casts) j0 c82
      have hcC := hC.at_ hc
      have hCl : (C.length : Int) = s.casts.length := by rw [hC.n]
      have hc6 := hsz.2.2.2 c (List.mem_of_getElem? hc)
      have hcm : ∀ t ∈ c.args, mayB q.terms t = true := fun t h => hTm t (terms_mem_c (List.mem_of_getElem? hc) h)
      refine zm117 ?_; refine zm25 ?_
      refine TD.part 1 10 rfl rfl rfl ?_ ?_
      ·
       refine zm361 ?_; refine zm231 ?_; refine zm180 ?_; refine zm181 ?_; refine zm3 ?_; refine zm279 ?_; refine TF.loud ?_; refine zm280 ?_
       refine TL.callX (L1 := (b46, m2.map (Value.int .i64)) :: (b3, _) :: ob2) (enters rfl rfl rfl rfl) (takeAll_ok (hs0.cs c (List.mem_of_getElem? hc)) hTKc hQ hx hmv hcm hc6 hm2 hO2 (by omega)) rfl (fun v94 H94 L94 hle94 hp94 => ?_)
       obtain ⟨u94, ob94, oc94, rfl, hO94, hA94⟩ := hp94
       obtain ⟨aa94, ac94, rfl⟩ := hA94.form
       refine zm281 ?_
       replace hw := hw.le hle94
       replace hle2 := hle2.trans hle94
       replace hC := hC.le hle94
       refine TL.pubO hA94 (.skip _ (.skip _ (.past _ (.app _)))) (by simp) (fun HPoc94 lePoc94 hRC => ?_)
       replace hw := hw.le lePoc94
       replace hle2 := hle2.trans lePoc94
       replace hC := hC.le lePoc94
       refine zm282 ?_; refine zm283 ?_; exact TF.back (zq777)
      ·
       refine zm362 ?_; refine zm3 ?_; refine zm180 ?_; refine zm181 ?_; refine zm3 ?_; refine zm279 ?_; refine TF.loud ?_; refine zm280 ?_
       refine TL.callX (L1 := (b46, m2.map (Value.int .i64)) :: (b3, _) :: ob2) (enters rfl rfl rfl rfl) (takeAll_ok (hs0.cs c (List.mem_of_getElem? hc)) hTKc hQ hx hmv hcm hc6 hm2 hO2 (by omega)) rfl (fun v94 H94 L94 hle94 hp94 => ?_)
       obtain ⟨u94, ob94, oc94, rfl, hO94, hA94⟩ := hp94
       obtain ⟨aa94, ac94, rfl⟩ := hA94.form
       refine zm281 ?_
       replace hw := hw.le hle94
       replace hle2 := hle2.trans hle94
       replace hC := hC.le hle94
       refine TL.pubO hA94 (.skip _ (.skip _ (.past _ (.app _)))) (by simp) (fun HPoc94 lePoc94 hRC => ?_)
       replace hw := hw.le lePoc94
       replace hle2 := hle2.trans lePoc94
       replace hC := hC.le lePoc94
       refine zm282 ?_; refine zm283 ?_; refine TF.back ?_; refine zm42 ?_
       exact zq777
     ·
      have hCE := ca_end j0 c82 hK
      rw [take_all (by rw [hC.n]; exact c82) j0] at hCE
      have hCn := hC.n
      refine zm84 ?_
      refine TL.bslice rfl rfl rfl rfl (fun b98 => ?_)
      refine zm20 ?_
      refine TL.append (enc := SWay.cells) rfl rfl rfl (OwnSl.blk (enc := SWay.cells) [] rfl rfl (by decide)) (Src.sl hs0.w) (by simp; omega) rfl (.take (.here _) rfl) rfl (fun a101 c101 ob101 hO101 => ?_)
      refine zm363 ?_; refine zm179 ?_
      replace hO101 := hO101.cast (List.nil_append _)
      refine zm213 ?_; refine TL.run (pr_lenO rfl rfl hO101) rfl ?_; refine zm10 ?_; refine zm364 ?_
      refine TC.loop4 (V := fun (p : Int × List SWay × Blks) v3 ob H3 => [(106, .int .i64 p.1)]) (K := [(1, _), (2, _), (3, _), (6, _), (10, _), (11, _), (13, _), (14, _), (49, _), (50, _), (51, _), (52, _), (53, _), (54, _), (55, _), (56, _), (57, _), (58, _), (59, _), (60, _), (61, _), (62, _), (63, _), (64, _), (65, _), (66, _), (67, _), (68, _), (69, _), (70, _), (71, _), (72, _), (73, _), (74, _), (75, _), (76, _), (77, _), (78, _), (79, _), (80, _), (81, _), (82, _), (98, _), (99, _), (100, _), (101, _), (102, _), (103, _), (104, _), (105, _)]) (L := fun (p : Int × List SWay × Blks) v3 ob H3 => St [] w0 H H2 ((b14, _) :: (b46, _) :: (b3, _) :: (b30, _) :: (b2, _) :: (ob2 ++ (obS ++ (oc ++ p.2.2))))) (I := fun (p : Int × List SWay × Blks) v3 ob H3 => (0 ≤ p.1 ∧ p.1 ≤ s.ways.length) ∧ OwnSl 3 SWay.cells (.slice a101 s.ways.length c101) p.2.1 p.2.2 ∧ WaIx (placeS' q) s.ways p.2.1 p.1) (μ := fun (p : Int × List SWay × Blks) => (s.ways.length - p.1).toNat) ((0 : Int), s.ways, ob101) .nilFunc [] H2 ⟨rfl, rfl, rfl, rfl, rfl, rfl, rfl, rfl, rfl, rfl, rfl, rfl, rfl, rfl, rfl, rfl, rfl, rfl, rfl, rfl, rfl, rfl, rfl, rfl, rfl, rfl, rfl, rfl, rfl, rfl, rfl, rfl, rfl, rfl, rfl, rfl, rfl, rfl, rfl, rfl, rfl, rfl, rfl, rfl, rfl, rfl, rfl, rfl, rfl, rfl, rfl, trivial⟩ ⟨⟨by omega, by omega⟩, hO101, rfl⟩ (fun w hw => hw) (fun p v3 ob H3 hI => ?_)
      obtain ⟨⟨i0, i1⟩, hOw, hW⟩ := hI
      obtain ⟨i, W, ow⟩ := p
      dsimp only at *
      refine zm11 ?_
      refine TC.condD rfl (fun c107 => ?_) (fun c107 => ?_)
      ·
       obtain ⟨w, hwy⟩ := getSome (l := s.ways) i0 c107
       have hwW := hW.at_ hwy
       have hWl : (W.length : Int) = s.ways.length := by rw [hW.len]
       have hwn := hin _ (way_next hma (List.mem_of_getElem? hwy))
       refine zm117 ?_; refine zm25 ?_; refine zm365 ?_; refine zm231 ?_; refine zm180 ?_; refine zm284 ?_; refine zm3 ?_; refine zm366 ?_; refine zm71 ?_; refine zm367 ?_; refine zm284 ?_; refine zm31 ?_
       refine TL.storeO (a' := wayMv (placeS' q) w) rfl rfl hOw (.skip _ (.skip _ (.skip _ (.skip _ (.skip _ (.past _ (.past _ (.past _ .all)))))))) hwW rfl rfl rfl rfl (fun obe ee hOe => ?_)
       refine TF.back (TF.nil ?_); refine zm312 ?_
       exact TX.round4 (i := (i, W, ow)) (i + 1, W.set i.toNat (wayMv (placeS' q) w), obe) .nilFunc [] H2 ⟨⟨by omega, by omega⟩, hOe, hW.put i0 hwy⟩ ⟨rfl, rfl, rfl, rfl, rfl, rfl, rfl, rfl, rfl, rfl, rfl, rfl, rfl, rfl, rfl, rfl, rfl, rfl, rfl, rfl, rfl, rfl, rfl, rfl, rfl, rfl, rfl, rfl, rfl, rfl, rfl, rfl, rfl, rfl, rfl, rfl, rfl, rfl, rfl, rfl, rfl, rfl, rfl, rfl, rfl, rfl, rfl, rfl, rfl, rfl, rfl, trivial⟩ (fun w hw => hw) (by omega)
      ·
       refine zm38 ?_; refine zm118 ?_; refine zm274 ?_; refine zm33 ?_
       refine TC.cond rfl (fun c126 => ?_) (fun c126 => ?_)
       ·
        have hnn := hin _ (goes_next c126)
        refine zm52 ?_; refine zm21 ?_; refine zm313 ?_; refine zm63 ?_; refine TC.region (TL.pubO hOc (.skip _ (.skip _ (.skip _ (.skip _ (.skip _ (.past _ (.past _ (.app _)))))))) (by simp) (fun HPoc lePoc hRC2 => ?_))
        replace hw := hw.le lePoc
        replace hle := hle.trans lePoc
        replace hSt := hSt.le lePoc
        replace hRA := hRA.le lePoc
        replace hC := hC.le lePoc
        refine TL.pubO hOw (.skip _ (.skip _ (.skip _ (.skip _ (.skip _ (.past _ (.past _ .all))))))) (by simp) (fun HPow lePow hRW2 => ?_)
        replace hw := hw.le lePow
        replace hle := hle.trans lePow
        replace hSt := hSt.le lePow
        replace hRA := hRA.le lePow
        replace hC := hC.le lePow
        replace hRC2 := hRC2.le lePow
        refine zm285 ?_
        have hWn : W.length = s.ways.length := hW.len
        generalize hs2e : (⟨s.kind, s.name, s.peer, s.label, s.proc, (getI (takeS q.terms s.term (m, o)).1 s.term), (stepB q.terms s (m, o)).1, (aa71, ac71), C, (a76, c76), W, (a101, c101), (getI (placeS' q) s.next)⟩ : SStep) = s2
        have hs2 : StepOk HPow s2 := by subst hs2e; exact ⟨hRA, by simp only [hCn]; exact hRC2, hC.r, by simp only [hWn]; exact hRW2⟩
        have hWE : W = s.ways.map (wayMv (placeS' q)) := by rw [show W = _ from hW, take_all c107 i0, List.drop_of_length_le (by omega), List.append_nil]
        have hs2b : s2.bare = stepMv q.terms (placeS' q) s (m, o) := by subst hs2e; exact step_bare hCE hWE (by rw [if_pos (by omega), hA]) (if_pos c126).symm
        exact zq790
       ·
        refine zm12 ?_; refine TC.region (TL.pubO hOc (.skip _ (.skip _ (.skip _ (.skip _ (.skip _ (.past _ (.past _ (.app _)))))))) (by simp) (fun HPoc lePoc hRC2 => ?_))
        replace hw := hw.le lePoc
        replace hle := hle.trans lePoc
        replace hSt := hSt.le lePoc
        replace hRA := hRA.le lePoc
        replace hC := hC.le lePoc
        refine TL.pubO hOw (.skip _ (.skip _ (.skip _ (.skip _ (.skip _ (.past _ (.past _ .all))))))) (by simp) (fun HPow lePow hRW2 => ?_)
        replace hw := hw.le lePow
        replace hle := hle.trans lePow
        replace hSt := hSt.le lePow
        replace hRA := hRA.le lePow
        replace hC := hC.le lePow
        replace hRC2 := hRC2.le lePow
        refine zm285 ?_
        have hWn : W.length = s.ways.length := hW.len
        generalize hs2e : (⟨s.kind, s.name, s.peer, s.label, s.proc, (getI (takeS q.terms s.term (m, o)).1 s.term), (stepB q.terms s (m, o)).1, (aa71, ac71), C, (a76, c76), W, (a101, c101), s.next⟩ : SStep) = s2
        have hs2 : StepOk HPow s2 := by subst hs2e; exact ⟨hRA, by simp only [hCn]; exact hRC2, hC.r, by simp only [hWn]; exact hRW2⟩
        have hWE : W = s.ways.map (wayMv (placeS' q)) := by rw [show W = _ from hW, take_all c107 i0, List.drop_of_length_le (by omega), List.append_nil]
        have hs2b : s2.bare = stepMv q.terms (placeS' q) s (m, o) := by subst hs2e; exact step_bare hCE hWE (by rw [if_pos (by omega), hA]) (if_neg (by rw [c126]; decide)).symm
        exact zq790
    ·
     have hA : stepA q.terms s (m, o) = (m, o) := by unfold stepA; rw [if_neg (by omega)]
     refine zm103 ?_; refine zm51 ?_; refine zm356 ?_
     have hmA : (stepA q.terms s (m, o)).1.length = q.terms.length := by rw [stepC_len.1]; exact hml
     have hzA := (stepC_size (q := q) (st := (m, o)) hma hTm).1
     have hOA : OwnSl 6 Term.cells u1 (stepA q.terms s (m, o)).2 ob1 := by rw [hA]; exact hO1
     refine zm416 ?_
     refine TL.callX (L1 := (b46, (stepA q.terms s (m, o)).1.map (Value.int .i64)) :: (b3, _) :: ob1) (enters rfl rfl rfl rfl) (takeAll_ok hs0.a hTKc hQ hx hmv (fun t h => hTm t (terms_mem_a h)) hsz.2.1 hmA hOA (by simp only at hzA; omega)) rfl (fun v71 H71 L71 hle71 hp71 => ?_)
     obtain ⟨u71, ob71, oc71, rfl, hO71, hA71⟩ := hp71
     obtain ⟨aa71, ac71, rfl⟩ := hA71.form
     refine TL.permL (perm_assoc2 (A := ob71) (B := oc71)) ?_
     replace hQ := hQ.le hle71
     replace hx := hx.le hle71
     replace hw := hw.le hle71
     replace hmv := hmv.le hle71
     replace hTKc := hTKc.le hle71
     replace hle := hle.trans hle71
     replace hs0 := hs0.le hle71
     replace hSt := hSt.le hle71
     refine TL.pubO hA71 (.skip _ (.skip _ (.past _ (.app _)))) (by simp) (fun HPoc71 lePoc71 hRA => ?_)
     replace hQ := hQ.le lePoc71
     replace hx := hx.le lePoc71
     replace hw := hw.le lePoc71
     replace hmv := hmv.le lePoc71
     replace hTKc := hTKc.le lePoc71
     replace hle := hle.trans lePoc71
     replace hs0 := hs0.le lePoc71
     replace hSt := hSt.le lePoc71
     clear hOA
     change OwnSl 6 Term.cells u71 (stepB q.terms s (m, o)).2.2 ob71 at hO71
     replace hRA := hRA.cast (show _ = (stepB q.terms s (m, o)).1 from rfl)
     refine zm357 ?_; refine zm358 ?_
     have hmB : (stepB q.terms s (m, o)).2.1.length = q.terms.length := by rw [stepC_len.2.1]; exact hml
     have hzB := (stepC_size (q := q) (st := (m, o)) hma hTm).2.1
     simp only at hzB
     refine zm277 ?_; refine zm27 ?_
     refine TL.bslice rfl rfl rfl rfl (fun b73 => ?_)
     refine zm20 ?_
     refine TL.append (enc := SCast.cells) rfl rfl rfl (OwnSl.blk (enc := SCast.cells) [] rfl rfl (by decide)) (Src.sl hs0.c) (by simp; omega) rfl (.take (.here _) rfl) rfl (fun a76 c76 ob76 hO76 => ?_)
     refine zm359 ?_; refine zm179 ?_
     replace hO76 := hO76.cast (List.nil_append _)
     refine zm213 ?_; refine TL.run (pr_lenO rfl rfl hO76) rfl ?_; refine zm10 ?_; refine zm360 ?_
     refine TC.loop4 (V := fun (p : Int × RS × Value × Blks × List SCast × Blks) v2 ob H2 => [(81, .int .i64 p.1)]) (K := [(1, _), (2, _), (3, _), (6, _), (10, _), (11, _), (13, _), (14, _), (49, _), (50, _), (51, _), (52, _), (53, _), (54, _), (55, _), (56, _), (57, _), (58, _), (59, _), (60, _), (61, _), (62, _), (68, _), (69, _), (70, _), (71, _), (72, _), (73, _), (74, _), (75, _), (76, _), (77, _), (78, _), (79, _), (80, _)]) (L := fun (p : Int × RS × Value × Blks × List SCast × Blks) v2 ob H2 => St [] w0 H H2 ((b14, _) :: (b46, (p.2.1.1).map (Value.int .i64)) :: (b3, [gs q.name, (.slice a22 q.params.length c22), p.2.2.1, (.slice va S.length vc)]) :: (b30, (placeS' q).map (Value.int .i64)) :: (b2, [gs [], .slice none 0 0, .slice none 0 0, .slice none 0 0]) :: (p.2.2.2.1 ++ (obS ++ p.2.2.2.2.2)))) (I := fun (p : Int × RS × Value × Blks × List SCast × Blks) v2 ob H2 => (0 ≤ p.1 ∧ p.1 ≤ s.casts.length) ∧ HPoc71.le H2 ∧ (p.2.1.1.length = q.terms.length ∧ p.2.1.2.length ≤ (stepB q.terms s (m, o)).2.2.length + 201326592 * p.1.toNat) ∧ OwnSl 6 Term.cells p.2.2.1 p.2.1.2 p.2.2.2.1 ∧ OwnSl 3 SCast.cells (.slice a76 s.casts.length c76) p.2.2.2.2.1 p.2.2.2.2.2 ∧ CaIx H2 s.casts p.2.2.2.2.1 p.1 ∧ stepC q.terms s (m, o) = castsGo q.terms (s.casts.drop p.1.toNat) ((p.2.2.2.2.1.take p.1.toNat).map SCast.bare) p.2.1) (μ := fun (p : Int × RS × Value × Blks × List SCast × Blks) => (s.casts.length - p.1).toNat) ((0 : Int), (stepB q.terms s (m, o)).2, u71, ob71, s.casts, ob76) .nilFunc [] HPoc71 ⟨rfl, rfl, rfl, rfl, rfl, rfl, rfl, rfl, rfl, rfl, rfl, rfl, rfl, rfl, rfl, rfl, rfl, rfl, rfl, rfl, rfl, rfl, rfl, rfl, rfl, rfl, rfl, rfl, rfl, rfl, rfl, rfl, rfl, rfl, rfl, rfl, trivial⟩ ⟨⟨by omega, by omega⟩, Hp.le.refl _, ⟨hmB, by simp⟩, hO71, hO76, ⟨rfl, hs0.cs, rfl⟩, rfl⟩ (fun w hw => hw) (fun p v2 ob H2 hI => ?_)
     obtain ⟨⟨j0, j1⟩, hle2, ⟨hm2, ho2⟩, hO2, hOc, hC, hK⟩ := hI
     obtain ⟨j, ⟨m2, o2⟩, u2, ob2, C, oc⟩ := p
     dsimp only at *
     replace hQ := hQ.le hle2
     replace hx := hx.le hle2
     replace hw := hw.le hle2
     replace hmv := hmv.le hle2
     replace hTKc := hTKc.le hle2
     replace hle := hle.trans hle2
     replace hs0 := hs0.le hle2
     replace hSt := hSt.le hle2
     replace hRA := hRA.le hle2
     refine zm11 ?_
     refine TC.condD rfl (fun c82 => ?_) (fun c82 => ?_)
     ·
      obtain ⟨c, hc⟩ := getSome (l := s.casts) j0 c82
      have hcC := hC.at_ hc
      have hCl : (C.length : Int) = s.casts.length := by rw [hC.n]
      have hc6 := hsz.2.2.2 c (List.mem_of_getElem? hc)
      have hcm : ∀ t ∈ c.args, mayB q.terms t = true := fun t h => hTm t (terms_mem_c (List.mem_of_getElem? hc) h)
      refine zm117 ?_; refine zm25 ?_
      refine TD.part 1 10 rfl rfl rfl ?_ ?_
      ·
       refine zm361 ?_; refine zm231 ?_; refine zm180 ?_; refine zm181 ?_; refine zm3 ?_; refine zm279 ?_; refine TF.loud ?_; refine zm280 ?_
       refine TL.callX (L1 := (b46, m2.map (Value.int .i64)) :: (b3, _) :: ob2) (enters rfl rfl rfl rfl) (takeAll_ok (hs0.cs c (List.mem_of_getElem? hc)) hTKc hQ hx hmv hcm hc6 hm2 hO2 (by omega)) rfl (fun v94 H94 L94 hle94 hp94 => ?_)
       obtain ⟨u94, ob94, oc94, rfl, hO94, hA94⟩ := hp94
       obtain ⟨aa94, ac94, rfl⟩ := hA94.form
       refine zm281 ?_
       replace hw := hw.le hle94
       replace hle2 := hle2.trans hle94
       replace hC := hC.le hle94
       refine TL.pubO hA94 (.skip _ (.skip _ (.past _ (.app _)))) (by simp) (fun HPoc94 lePoc94 hRC => ?_)
       replace hw := hw.le lePoc94
       replace hle2 := hle2.trans lePoc94
       replace hC := hC.le lePoc94
       refine zm282 ?_; refine zm283 ?_; exact TF.back (zq811)
      ·
       refine zm362 ?_; refine zm3 ?_; refine zm180 ?_; refine zm181 ?_; refine zm3 ?_; refine zm279 ?_; refine TF.loud ?_; refine zm280 ?_
       refine TL.callX (L1 := (b46, m2.map (Value.int .i64)) :: (b3, _) :: ob2) (enters rfl rfl rfl rfl) (takeAll_ok (hs0.cs c (List.mem_of_getElem? hc)) hTKc hQ hx hmv hcm hc6 hm2 hO2 (by omega)) rfl (fun v94 H94 L94 hle94 hp94 => ?_)
       obtain ⟨u94, ob94, oc94, rfl, hO94, hA94⟩ := hp94
       obtain ⟨aa94, ac94, rfl⟩ := hA94.form
       refine zm281 ?_
       replace hw := hw.le hle94
       replace hle2 := hle2.trans hle94
       replace hC := hC.le hle94
       refine TL.pubO hA94 (.skip _ (.skip _ (.past _ (.app _)))) (by simp) (fun HPoc94 lePoc94 hRC => ?_)
       replace hw := hw.le lePoc94
       replace hle2 := hle2.trans lePoc94
       replace hC := hC.le lePoc94
       refine zm282 ?_; refine zm283 ?_; refine TF.back ?_; refine zm42 ?_
       exact zq811
     ·
      have hCE := ca_end j0 c82 hK
      rw [take_all (by rw [hC.n]; exact c82) j0] at hCE
      have hCn := hC.n
      refine zm84 ?_
      refine TL.bslice rfl rfl rfl rfl (fun b98 => ?_)
      refine zm20 ?_
      refine TL.append (enc := SWay.cells) rfl rfl rfl (OwnSl.blk (enc := SWay.cells) [] rfl rfl (by decide)) (Src.sl hs0.w) (by simp; omega) rfl (.take (.here _) rfl) rfl (fun a101 c101 ob101 hO101 => ?_)
      refine zm363 ?_; refine zm179 ?_
      replace hO101 := hO101.cast (List.nil_append _)
      refine zm213 ?_; refine TL.run (pr_lenO rfl rfl hO101) rfl ?_; refine zm10 ?_; refine zm364 ?_
      refine TC.loop4 (V := fun (p : Int × List SWay × Blks) v3 ob H3 => [(106, .int .i64 p.1)]) (K := [(1, _), (2, _), (3, _), (6, _), (10, _), (11, _), (13, _), (14, _), (49, _), (50, _), (51, _), (52, _), (53, _), (54, _), (55, _), (56, _), (57, _), (58, _), (59, _), (60, _), (61, _), (62, _), (68, _), (69, _), (70, _), (71, _), (72, _), (73, _), (74, _), (75, _), (76, _), (77, _), (78, _), (79, _), (80, _), (81, _), (82, _), (98, _), (99, _), (100, _), (101, _), (102, _), (103, _), (104, _), (105, _)]) (L := fun (p : Int × List SWay × Blks) v3 ob H3 => St [] w0 H H2 ((b14, _) :: (b46, _) :: (b3, _) :: (b30, _) :: (b2, _) :: (ob2 ++ (obS ++ (oc ++ p.2.2))))) (I := fun (p : Int × List SWay × Blks) v3 ob H3 => (0 ≤ p.1 ∧ p.1 ≤ s.ways.length) ∧ OwnSl 3 SWay.cells (.slice a101 s.ways.length c101) p.2.1 p.2.2 ∧ WaIx (placeS' q) s.ways p.2.1 p.1) (μ := fun (p : Int × List SWay × Blks) => (s.ways.length - p.1).toNat) ((0 : Int), s.ways, ob101) .nilFunc [] H2 ⟨rfl, rfl, rfl, rfl, rfl, rfl, rfl, rfl, rfl, rfl, rfl, rfl, rfl, rfl, rfl, rfl, rfl, rfl, rfl, rfl, rfl, rfl, rfl, rfl, rfl, rfl, rfl, rfl, rfl, rfl, rfl, rfl, rfl, rfl, rfl, rfl, rfl, rfl, rfl, rfl, rfl, rfl, rfl, rfl, rfl, rfl, trivial⟩ ⟨⟨by omega, by omega⟩, hO101, rfl⟩ (fun w hw => hw) (fun p v3 ob H3 hI => ?_)
      obtain ⟨⟨i0, i1⟩, hOw, hW⟩ := hI
      obtain ⟨i, W, ow⟩ := p
      dsimp only at *
      refine zm11 ?_
      refine TC.condD rfl (fun c107 => ?_) (fun c107 => ?_)
      ·
       obtain ⟨w, hwy⟩ := getSome (l := s.ways) i0 c107
       have hwW := hW.at_ hwy
       have hWl : (W.length : Int) = s.ways.length := by rw [hW.len]
       have hwn := hin _ (way_next hma (List.mem_of_getElem? hwy))
       refine zm117 ?_; refine zm25 ?_; refine zm365 ?_; refine zm231 ?_; refine zm180 ?_; refine zm284 ?_; refine zm3 ?_; refine zm366 ?_; refine zm71 ?_; refine zm367 ?_; refine zm284 ?_; refine zm31 ?_
       refine TL.storeO (a' := wayMv (placeS' q) w) rfl rfl hOw (.skip _ (.skip _ (.skip _ (.skip _ (.skip _ (.past _ (.past _ (.past _ .all)))))))) hwW rfl rfl rfl rfl (fun obe ee hOe => ?_)
       refine TF.back (TF.nil ?_); refine zm312 ?_
       exact TX.round4 (i := (i, W, ow)) (i + 1, W.set i.toNat (wayMv (placeS' q) w), obe) .nilFunc [] H2 ⟨⟨by omega, by omega⟩, hOe, hW.put i0 hwy⟩ ⟨rfl, rfl, rfl, rfl, rfl, rfl, rfl, rfl, rfl, rfl, rfl, rfl, rfl, rfl, rfl, rfl, rfl, rfl, rfl, rfl, rfl, rfl, rfl, rfl, rfl, rfl, rfl, rfl, rfl, rfl, rfl, rfl, rfl, rfl, rfl, rfl, rfl, rfl, rfl, rfl, rfl, rfl, rfl, rfl, rfl, rfl, trivial⟩ (fun w hw => hw) (by omega)
      ·
       refine zm38 ?_; refine zm118 ?_; refine zm274 ?_; refine zm33 ?_
       refine TC.cond rfl (fun c126 => ?_) (fun c126 => ?_)
       ·
        have hnn := hin _ (goes_next c126)
        refine zm52 ?_; refine zm21 ?_; refine zm313 ?_; refine zm63 ?_; refine TC.region (TL.pubO hOc (.skip _ (.skip _ (.skip _ (.skip _ (.skip _ (.past _ (.past _ (.app _)))))))) (by simp) (fun HPoc lePoc hRC2 => ?_))
        replace hw := hw.le lePoc
        replace hle := hle.trans lePoc
        replace hSt := hSt.le lePoc
        replace hRA := hRA.le lePoc
        replace hC := hC.le lePoc
        refine TL.pubO hOw (.skip _ (.skip _ (.skip _ (.skip _ (.skip _ (.past _ (.past _ .all))))))) (by simp) (fun HPow lePow hRW2 => ?_)
        replace hw := hw.le lePow
        replace hle := hle.trans lePow
        replace hSt := hSt.le lePow
        replace hRA := hRA.le lePow
        replace hC := hC.le lePow
        replace hRC2 := hRC2.le lePow
        refine zm285 ?_
        have hWn : W.length = s.ways.length := hW.len
        generalize hs2e : (⟨s.kind, s.name, s.peer, s.label, s.proc, s.term, (stepB q.terms s (m, o)).1, (aa71, ac71), C, (a76, c76), W, (a101, c101), (getI (placeS' q) s.next)⟩ : SStep) = s2
        have hs2 : StepOk HPow s2 := by subst hs2e; exact ⟨hRA, by simp only [hCn]; exact hRC2, hC.r, by simp only [hWn]; exact hRW2⟩
        have hWE : W = s.ways.map (wayMv (placeS' q)) := by rw [show W = _ from hW, take_all c107 i0, List.drop_of_length_le (by omega), List.append_nil]
        have hs2b : s2.bare = stepMv q.terms (placeS' q) s (m, o) := by subst hs2e; exact step_bare hCE hWE (by rw [if_neg (by omega)]) (if_pos c126).symm
        exact zq790
       ·
        refine zm12 ?_; refine TC.region (TL.pubO hOc (.skip _ (.skip _ (.skip _ (.skip _ (.skip _ (.past _ (.past _ (.app _)))))))) (by simp) (fun HPoc lePoc hRC2 => ?_))
        replace hw := hw.le lePoc
        replace hle := hle.trans lePoc
        replace hSt := hSt.le lePoc
        replace hRA := hRA.le lePoc
        replace hC := hC.le lePoc
        refine TL.pubO hOw (.skip _ (.skip _ (.skip _ (.skip _ (.skip _ (.past _ (.past _ .all))))))) (by simp) (fun HPow lePow hRW2 => ?_)
        replace hw := hw.le lePow
        replace hle := hle.trans lePow
        replace hSt := hSt.le lePow
        replace hRA := hRA.le lePow
        replace hC := hC.le lePow
        replace hRC2 := hRC2.le lePow
        refine zm285 ?_
        have hWn : W.length = s.ways.length := hW.len
        generalize hs2e : (⟨s.kind, s.name, s.peer, s.label, s.proc, s.term, (stepB q.terms s (m, o)).1, (aa71, ac71), C, (a76, c76), W, (a101, c101), s.next⟩ : SStep) = s2
        have hs2 : StepOk HPow s2 := by subst hs2e; exact ⟨hRA, by simp only [hCn]; exact hRC2, hC.r, by simp only [hWn]; exact hRW2⟩
        have hWE : W = s.ways.map (wayMv (placeS' q)) := by rw [show W = _ from hW, take_all c107 i0, List.drop_of_length_le (by omega), List.append_nil]
        have hs2b : s2.bare = stepMv q.terms (placeS' q) s (m, o) := by subst hs2e; exact step_bare hCE hWE (by rw [if_neg (by omega)]) (if_neg (by rw [c126]; decide)).symm
        exact zq790
   ·
    refine zm84 ?_
    obtain ⟨ta, tc, rfl⟩ := hO1.form
    refine zm417 ?_; refine zm70 ?_; refine zm314 ?_; refine zm77 ?_
    have hE := st_end k0 c52 hT
    refine TX.pubO hO1 (.skip _ (.skip _ (.skip _ (.skip _ (.app _))))) (by simp) (fun HPt lePt hRT => ?_)
    replace hQ := hQ.le lePt
    replace hPa := hPa.le lePt
    refine TX.pubO hOS (.skip _ (.skip _ (.skip _ (.skip _ .all)))) (by simp) (fun HPs lePs hRS => ?_)
    replace hQ := hQ.le lePs
    replace hPa := hPa.le lePs
    replace hRT := hRT.le lePs
    replace hSt := (hSt.le lePt).le lePs
    have hNm : Nm o := by have h7 := nm_steps (q := q) (pl := placeS' q) (L := ordS q) (acc := []) (st := (List.replicate q.terms.length 0, [])) hQ.tn (fun t h => by cases h); rw [hE] at h7; exact h7
    exact TX.fin0 (.inr rfl) (results1 rfl (RVal.cellA rfl (.there _ (.there _ (.there _ (.here _)))) rfl)) ⟨⟨q.name, q.params, (a22, c22), o, (ta, tc), S, (va, vc)⟩, rfl, ⟨hPa, hQ.pz, hQ.pl, hRT, hNm, hRS, hSt⟩, by unfold raisedS; rw [hE]; rfl⟩
end Go.Sx
namespace Go.Sx
open Go Go.Proofs
set_option maxHeartbeats 4000000 in
theorem graph_ok {H : Hp} (p : SProto) (hP : ProtoOk H p) (hl : p.points.length ≤ 1000) :
  FnO Tryz.prog 134 [.agg p.cells.toArray] H (fun v H1 ob => H1 = H ∧ ∃ u, v = .agg #[gs [], u] ∧ OwnSl 3 STurn.cells u (p.points.map graphT) ob) := by
 have hpt := hP.pt
 have hpm := hpt.max
 refine FnO.enter Tryz.func134 Tryz.ntmps134 rfl rfl (fun w0 => ?_)
 refine zm4 ?_
 refine TL.box rfl rfl (fun b1 => ?_)
 refine TL.alloc rfl (fun b2 => ?_)
 refine zm27 ?_
 refine TL.alloc rfl (fun b3 => ?_)
 refine zm135 ?_; refine zm62 ?_; refine TL.run (pr_lenSl rfl rfl hpt) rfl ?_; refine zm10 ?_
 refine TC.loop4 (V := fun k v ob H1 => [(10, .int .i64 k)]) (K := [(2, _), (3, _), (8, _), (9, _)]) (L := fun k v ob H1 => St [] w0 H H ((b3, [gs [], v]) :: (b2, _) :: (b1, _) :: ob)) (I := fun k v ob H1 => (0 ≤ k ∧ k ≤ p.points.length) ∧ OwnSl 3 STurn.cells v ((p.points.take k.toNat).map graphT) ob) (μ := fun k => (p.points.length - k).toNat) 0 (.slice none 0 0) [] H ⟨rfl, rfl, rfl, rfl, rfl, trivial⟩ ⟨⟨by omega, by omega⟩, OwnSl.nil⟩ (fun w hw => hw) (fun k v ob H1 hI => ?_)
 obtain ⟨⟨k0, k1⟩, hO⟩ := hI
 obtain ⟨va, vc, rfl⟩ := hO.form
 refine zm11 ?_
 refine TC.condD rfl (fun c11 => ?_) (fun c11 => ?_)
 ·
  obtain ⟨x, hx⟩ := getSome (l := p.points) k0 c11
  have hxa := (hP.ps x (List.mem_of_getElem? hx)).a.max
  refine zm15 ?_; refine zm315 ?_; refine TL.run (pr_elA hpt hx rfl rfl) rfl (TL.alloc rfl (fun b5 => ?_))
  refine zm98 ?_; refine zm14 ?_
  refine TL.alloc rfl (fun b6 => ?_)
  refine zm26 ?_; refine zm224 ?_; refine zm232 ?_
  refine TL.split (s := 20) rfl (fun g20 => ?_) (fun g20 => ?_)
  ·
   have q20 := of_ndec_true g20
   refine zm46 ?_
   exact zq824
  ·
   have q20 := of_ndec_false g20
   refine zm36 ?_; refine zm272 ?_
   refine TL.split (s := 25) rfl (fun g25 => ?_) (fun g25 => ?_)
   ·
    have q25 := of_ndec_true g25
    exact zq824
   ·
    have q25 := of_ndec_false g25
    refine zm36 ?_; refine zm368 ?_; refine zm35 ?_
    refine TC.condD rfl (fun c30 => ?_) (fun c30 => ?_)
    · exact zq832
    ·
     refine zm12 ?_; refine zm230 ?_
     refine TL.bslice rfl rfl rfl rfl (fun b38 => ?_)
     refine TL.append (enc := STurn.cells) rfl rfl rfl hO (Src.own [⟨0, [], x.arms, x.ap⟩] (.here _) rfl rfl) (by simp; omega) rfl (.skip _ (.skip _ (.skip _ (.skip _ (.skip _ (.skip _ .all)))))) rfl (fun a39 c39 ob39 hO39 => ?_)
     exact zq851
 ·
  refine zm38 ?_; refine zm34 ?_; refine zm145 ?_
  exact TX.finO (.inr rfl) (results1 rfl (RVal.cellA rfl (.there _ (.here _)) rfl)) (.skip _ (.skip _ (.skip _ .all))) ⟨rfl, _, rfl, hO.cast (by rw [take_all c11 k0])⟩
end Go.Sx
namespace Go.Sx
open Go Go.Proofs
set_option maxHeartbeats 4000000 in
theorem gMay_ok {H : Hp} (p : SProto) (hP : ProtoOk H p) (hM : MaxG H) :
  FnS Tryz.prog 77 [.agg p.cells.toArray] H (.bool (protoB p)) := by
 have hr := hP.r
 have hpt := hP.pt
 have hrm := hr.max
 have hpm := hpt.max
 refine FnS.enter Tryz.func77 Tryz.ntmps77 rfl rfl (fun w0 => ?_)
 refine zm4 ?_
 refine TL.box rfl rfl (fun b1 => ?_)
 refine zm2 ?_; refine TC.seq (TC.sw (!protoHead p) 34 [(1, _), (2, _)] ⟨rfl, rfl, trivial⟩ ?_ ?_)
 ·
  refine zm86 ?_; refine TL.callS (enters rfl rfl rfl rfl) (n_MayU_ok p.name) rfl ?_; refine zm9 ?_
  refine TL.split (s := 11) rfl (fun g11 => ?_) (fun g11 => ?_)
  ·
   refine zm119 ?_
   exact zq861
  ·
   refine zm13 ?_; refine zm286 ?_; refine zm17 ?_
   refine TL.split (s := 17) rfl (fun g17 => ?_) (fun g17 => ?_)
   ·
    have q17 := of_decide_eq_true g17
    exact zq861
   ·
    have q17 := of_decide_eq_false g17
    refine zm13 ?_; refine zm286 ?_; refine zm17 ?_
    refine TL.split (s := 23) rfl (fun g23 => ?_) (fun g23 => ?_)
    ·
     have q23 := of_decide_eq_true g23
     exact zq867
    ·
     have q23 := of_decide_eq_false g23
     refine zm13 ?_; refine TL.callSY rfl rfl (enters rfl rfl rfl rfl) (n_Once_ok hr) rfl ?_; refine zm17 ?_
     refine TL.split (s := 29) rfl (fun g29 => ?_) (fun g29 => ?_)
     · exact zq873
     ·
      refine zm13 ?_; refine zm287 ?_; refine zm85 ?_
      exact TX.sw rfl (by unfold protoHead; simp_all) ⟨rfl, rfl, trivial⟩
 refine TC.cond rfl (fun c34 => ?_) (fun c34 => ?_)
 ·
  refine zm57 ?_
  exact zq877
 ·
  have hh : protoHead p = true := by simpa using c34
  have hp24 := proto_24 hh
  refine zm12 ?_; refine zm118 ?_; refine TL.run (pr_lenSl rfl rfl hr) rfl ?_; refine zm10 ?_
  refine TC.loop (V := fun k => [(38, .int .i64 k)]) (K := [(1, _), (2, _), (36, _), (37, _)]) (L := fun k => _) (I := fun k => (0 ≤ k ∧ k ≤ p.roles.length) ∧ p.roles.all nameMay = (p.roles.drop k.toNat).all nameMay) (μ := fun k => (p.roles.length - k).toNat) (i := (0 : Int)) ⟨rfl, rfl, rfl, rfl, rfl, trivial⟩ ⟨⟨by omega, by omega⟩, rfl⟩ (fun w hw => hw) (fun k hI => ?_)
  obtain ⟨⟨k0, k1⟩, hal⟩ := hI
  refine zm11 ?_
  refine TC.condD rfl (fun c39 => ?_) (fun c39 => ?_)
  ·
   obtain ⟨y, hy⟩ := getSome (l := p.roles) k0 c39
   refine zm15 ?_; refine zm275 ?_; refine TL.run (pr_el0 hr hy rfl rfl) rfl ?_; refine zm53 ?_; refine TL.callS (enters rfl rfl rfl rfl) (n_MayU_ok y) rfl ?_; refine zm2 ?_
   refine TC.cond rfl (fun c44 => ?_) (fun c44 => ?_)
   ·
    have hr1 := all_bad (p := nameMay) k0 hy (by simpa using c44) hal
    exact zq879
   ·
    refine zm116 ?_
    exact TX.round (k + 1) ⟨⟨by omega, by omega⟩, all_next (p := nameMay) k0 hy (by simpa using c44) hal⟩ ⟨rfl, rfl, rfl, rfl, rfl, trivial⟩ (fun w hw => hw) (by omega)
  ·
   have hr1 := all_end (p := nameMay) k0 c39 hal
   refine zm38 ?_; refine zm118 ?_; refine TL.run (pr_lenSl rfl rfl hpt) rfl ?_; refine zm10 ?_
   refine TC.loop (V := fun k => [(49, .int .i64 k)]) (K := [(1, _), (2, _), (47, _), (48, _)]) (L := fun k => _) (I := fun k => (0 ≤ k ∧ k ≤ p.points.length) ∧ p.points.all (pointB p.roles) = (p.points.drop k.toNat).all (pointB p.roles)) (μ := fun k => (p.points.length - k).toNat) (i := (0 : Int)) ⟨rfl, rfl, rfl, rfl, rfl, trivial⟩ ⟨⟨by omega, by omega⟩, rfl⟩ (fun w hw => hw) (fun k hI => ?_)
   obtain ⟨⟨k0, k1⟩, hal⟩ := hI
   refine zm11 ?_
   refine TC.condD rfl (fun c50 => ?_) (fun c50 => ?_)
   ·
    obtain ⟨x, hx⟩ := getSome (l := p.points) k0 c50
    have hxa := (hP.ps x (List.mem_of_getElem? hx)).a.max
    refine zm15 ?_; refine zm315 ?_; refine TL.run (pr_elA hpt hx rfl rfl) rfl (TL.alloc rfl (fun b6 => ?_))
    refine zm175 ?_
    refine TC.sw (emptyP x) 66 [(1, _), (2, _), (6, _), (47, _), (48, _), (49, _), (50, _), (51, _), (52, _)] ⟨rfl, rfl, rfl, rfl, rfl, rfl, rfl, rfl, rfl, trivial⟩ ?_ ?_
    ·
     refine zm221 ?_
     refine TL.split (s := 56) rfl (fun g56 => ?_) (fun g56 => ?_)
     ·
      have q56 := of_decide_eq_true g56
      refine zm131 ?_
      refine TL.split (s := 61) rfl (fun g61 => ?_) (fun g61 => ?_)
      ·
       have q61 := of_decide_eq_true g61
       refine zm13 ?_; refine zm368 ?_; refine zm8 ?_
       exact zq889
      ·
       have q61 := of_decide_eq_false g61
       exact zq890
     ·
      have q56 := of_decide_eq_false g56
      refine zm46 ?_
      exact zq890
    refine TC.cond rfl (fun c66 => ?_) (fun c66 => ?_)
    · exact TC.exit (TX.thenE (TX.blkHit (zq893)))
    ·
     refine zm12 ?_
     refine TC.sw (!pointM p.roles x) 87 [(1, _), (2, _), (6, _), (47, _), (48, _), (49, _), (50, _), (51, _), (52, _), (66, _)] ⟨rfl, rfl, rfl, rfl, rfl, rfl, rfl, rfl, rfl, rfl, trivial⟩ ?_ ?_
     ·
      refine zm146 ?_; refine zm51 ?_; refine TL.callS (enters rfl rfl rfl rfl) (n_Has_ok x.frm hr) rfl ?_; refine zm9 ?_
      refine TL.split (s := 73) rfl (fun g73 => ?_) (fun g73 => ?_)
      ·
       refine zm44 ?_; refine zm168 ?_
       exact zq899
      ·
       refine zm36 ?_; refine zm13 ?_; refine TL.callSY rfl rfl (enters rfl rfl rfl rfl) (n_Has_ok x.to hr) rfl ?_; refine zm17 ?_
       refine TL.split (s := 81) rfl (fun g81 => ?_) (fun g81 => ?_)
       · exact zq899
       ·
        refine zm13 ?_; refine zm13 ?_; refine zm75 ?_
        exact zq903
     refine TC.cond rfl (fun c87 => ?_) (fun c87 => ?_)
     ·
      have hp1 := all_bad (p := pointB p.roles) k0 hx (pt_3 c66 c87) hal
      exact zq879
     · exact TC.skip (TX.blkN (zq893))
   ·
    have hp1 := all_end (p := pointB p.roles) k0 c50 hal
    refine zm38 ?_; refine zm34 ?_
    refine TL.callO (enters rfl rfl rfl rfl) (graph_ok p hP (by omega)) rfl (fun v90 H90 ob90 hle90 hp90 => ?_)
    obtain ⟨eH90, u90, rfl, hO90⟩ := hp90
    subst H90
    obtain ⟨a90, c90, rfl⟩ := hO90.form
    refine TL.pubO hO90 (.skip _ .all) (by simp) (fun HP90 leP90 hR90 => ?_)
    replace hP := hP.le leP90
    replace hM := hM.le leP90
    refine TL.callS (enters rfl rfl rfl rfl) (tMay_ok ⟨[], p.points.map graphT, (a90, c90)⟩ ⟨hR90, graph_turns hP⟩ hM) rfl ?_; refine zm22 ?_
    exact zq878
end Go.Sx
