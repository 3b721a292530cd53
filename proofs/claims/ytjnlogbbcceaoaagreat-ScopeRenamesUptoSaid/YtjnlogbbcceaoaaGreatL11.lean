import Derived.Test.YtjnlogbbcceaoaaGreatL10
set_option linter.all false
set_option maxRecDepth 100000
set_option maxHeartbeats 32000000
namespace Go.Sx
open Go Go.Proofs
theorem step_ok {H : Hp} {pg : SProg} {vb : Value} {q : SProc} {bound : List Str} (s : SStep) (hP : ProgOk H pg) (hQ : ProcOk H q) (hs : StepOk H s) (hB : RdSl H 1 Str.cells vb bound) (hl : s.args.length ≤ 6 ∧ s.casts.length ≤ 4 ∧ ∀ c ∈ s.casts, c.args.length ≤ 6) (hw7 : s.ways.length ≤ 1000) :
  FnS Tryz.prog 86 [.agg pg.cells.toArray, .agg q.cells.toArray, .agg s.cells.toArray, vb] H (.int .i64 (eE pg q.terms s bound)) := by
 have oneB := hB.isOne
 have hTl := Ag hl
 refine FnS.enter Tryz.func86 Tryz.ntmps86 rfl rfl (fun w0 => ?_)
 refine zm2 ?_
 refine TL.box rfl rfl (fun b4 => ?_)
 refine TL.box rfl rfl (fun b5 => ?_)
 refine TL.box rfl rfl (fun b6 => ?_)
 refine zm1 ?_; refine zm6 ?_; refine gu ?_
 refine cS (ab rfl rfl rfl rfl) (wt s hs hl) rfl (fun v19 H19 ob19 hle19 hp19 => ?_)
 obtain ⟨eH19, hO19⟩ := hp19
 subst H19
 obtain ⟨a19, c19, rfl⟩ := hO19.form
 refine TL.pubO hO19 (.skip _ (.skip _ (.skip _ .all))) (by simp) (fun HP19 leP19 hR19 => ?_)
 replace hP := hP.le leP19
 replace hQ := hQ.le leP19
 replace hs := hs.le leP19
 replace hB := hB.le leP19
 refine TL.run (ai rfl rfl hR19) rfl ?_; refine zm8 ?_
 refine aV (V := fun k v ob H1 => [(9, v), (21, .int .i64 k)]) (K := [(3, _), (4, _), (5, _), (6, _), (8, _), (19, _), (20, _)]) (L := fun k v ob H1 => St [] w0 H H1 ((b6, _) :: (b5, _) :: (b4, _) :: ob)) (I := fun k v ob H1 => (0 ≤ k ∧ k ≤ (bD s).length) ∧ HP19.le H1 ∧ OwnSl 1 Str.cells v (((bD s).take k.toNat).flatMap (gl q.terms)) ob) (μ := fun k => ((bD s).length - k).toNat) 0 (.slice none 0 0) [] HP19 ky ⟨⟨by omega, by omega⟩, Hp.le.refl _, OwnSl.nil⟩ (fun w hw => hw) (fun k v ob H1 hI => ?_)
 obtain ⟨⟨k0, k1⟩, hle, hO⟩ := hI
 obtain ⟨va, vc, rfl⟩ := hO.form
 have hfl := zc (ts := q.terms) ((bD s).take k.toNat)
 rw [List.length_take] at hfl
 replace hP := hP.le hle
 replace hQ := hQ.le hle
 replace hs := hs.le hle
 replace hB := hB.le hle
 replace hR19 := hR19.le hle
 refine zm6 ?_
 refine ag rfl (fun c22 => ?_) (fun c22 => ?_)
 ·
  obtain ⟨x, hx⟩ := ao (l := bD s) k0 c22
  refine dC ?_; refine TL.run (af rfl hR19 rfl (by omega) (by omega)) rfl (TL.run (aM hR19 hx rfl rfl) rfl ?_); refine zm1 ?_; refine iw ?_; refine iz ?_; refine zm0 ?_
  refine TL.call (ab rfl rfl rfl rfl) (Vars_ok x hQ.t hQ.tn) rfl (fun v29 H29 hle29 hp29 => ?_)
  replace hle := hle.trans hle29
  have hV29 : RdSl H29 1 Str.cells v29 (gl q.terms x) := hp29
  have hvl29 := sS q.terms x
  obtain ⟨la29, lc29, rfl⟩ := hV29.len
  refine TL.append (enc := Str.cells) rfl rfl rfl hO (Src.sl hV29) (by first | omega | (simp only [List.length_append]; omega)) rfl (.skip _ (.skip _ (.skip _ .all))) rfl (fun a30 c30 ob30 hO30 => ?_)
  refine lF ?_
  exact aF (k + 1) _ ob30 H29 ⟨⟨by omega, by omega⟩, hle, hO30.cast (by rw [bR k0 hx, List.flatMap_append]; simp)⟩ ky (fun w hw => hw) (by omega)
 refine iy ?_
 refine cf (decide (s.kind = 4) || (decide (s.kind = 5) || decide (s.kind = 9))) 44 [(3, _), (4, _), (6, _), (8, _), (9, _)] ky ?_ ?_
 ·
  refine oX ?_; refine zm3 ?_
  refine aj (s := 35) rfl (fun g35 => ?_) (fun g35 => ?_)
  ·
   have q35 := of_decide_eq_true g35
   refine jt ?_; refine lf ?_
   exact a8 rfl (by simp_all) ky
  have q35 := of_decide_eq_false g35
  refine pN ?_
  refine aj (s := 40) rfl (fun g40 => ?_) (fun g40 => ?_)
  ·
   have q40 := of_decide_eq_true g40
   refine lf ?_
   exact a8 rfl (by simp_all) ky
  have q40 := of_decide_eq_false g40
  refine zm9 ?_; refine ii ?_
  exact a8 rfl (by simp_all) ky
 refine TC.cond rfl (fun c44 => ?_) (fun c44 => ?_)
 ·
  have h44 : s.kind = 4 ∨ s.kind = 5 ∨ s.kind = 9 := by simp_all
  refine kt ?_
  refine aB rfl rfl rfl rfl (fun b48 => ?_)
  refine TL.append (enc := Str.cells) rfl rfl rfl hO (Src.own [s.name] (.here _) rfl rfl) (by simp only [List.length_append, List.length_cons, List.length_nil]; omega) rfl (.skip _ (.skip _ (.skip _ (.skip _ .all)))) rfl (fun a49 c49 ob49 hO49 => ?_)
  refine sC ?_
  refine TL.pubO hO49 (.skip _ (.skip _ (.skip _ (.skip _ .all)))) (by simp) (fun HA leA hA => ?_)
  replace hP := hP.le leA
  replace hs := hs.le leA
  replace hB := hB.le leA
  have hA2 := hA.cast (show _ = cM q.terms s by unfold cM; rw [if_pos (by first | exact h44 | omega), bB c22 k0])
  clear hA
  have hAm := hA2.max
  refine TL.run (ai rfl rfl hA2) rfl ?_; refine zm8 ?_
  refine TC.loop (V := fun k => [(52, .int .i64 k)]) (K := [(3, _), (4, _), (6, _), (8, _), (50, _), (51, _)]) (L := fun k => _) (I := fun k => (0 ≤ k ∧ k ≤ (cM q.terms s).length) ∧ (cM q.terms s).all (fun n => cq bound n) = ((cM q.terms s).drop k.toNat).all (fun n => cq bound n)) (μ := fun k => ((cM q.terms s).length - k).toNat) (i := (0 : Int)) ky ⟨⟨by omega, by omega⟩, rfl⟩ (fun w hw => hw) (fun k hI => ?_)
  obtain ⟨⟨k0, k1⟩, hal⟩ := hI
  refine zm6 ?_
  refine ag rfl (fun c53 => ?_) (fun c53 => ?_)
  ·
   obtain ⟨xA, hxA⟩ := ao (l := cM q.terms s) k0 c53
   refine dC ?_; refine TL.run (af rfl hA2 rfl (by omega) (by omega)) rfl (TL.run (aM hA2 hxA rfl rfl) rfl ?_); refine zm1 ?_; refine eJ ?_; refine ay (ab rfl rfl rfl rfl) (iL xA hB) rfl ?_
   refine zm1 ?_
   refine TC.cond rfl (fun c59 => ?_) (fun c59 => ?_)
   ·
    have h1 := dx (p := (fun n => cq bound n)) k0 hxA (by simpa using c59) hal
    exact uW
   refine lg ?_
   exact aR (k + 1) ⟨⟨by omega, by omega⟩, cj (p := (fun n => cq bound n)) k0 hxA (by simpa using c59) hal⟩ ky (fun w hw => hw) (by omega)
  have h1 := cW (p := (fun n => cq bound n)) k0 c53 hal
  refine pH ?_; refine k9 ?_
  refine cS (ab rfl rfl rfl rfl) (rf s hs hw7) rfl (fun v62 H62 ob62 hle62 hp62 => ?_)
  obtain ⟨eH62, hO62⟩ := hp62
  subst H62
  obtain ⟨a62, c62, rfl⟩ := hO62.form
  refine TL.pubO hO62 (.skip _ (.skip _ (.skip _ (.skip _ .all)))) (by simp) (fun HP62 leP62 hR62 => ?_)
  replace hP := hP.le leP62
  replace hs := hs.le leP62
  replace hB := hB.le leP62
  have hBm := RdSl.max hR62
  have hCm := hs.c.max
  refine TL.run (ai rfl rfl hR62) rfl ?_; refine zm8 ?_
  refine TC.loop (V := fun k => [(64, .int .i64 k)]) (K := [(3, _), (4, _), (6, _), (8, _), (62, _), (63, _)]) (L := fun k => _) (I := fun k => (0 ≤ k ∧ k ≤ (cd s).length) ∧ (cd s).all (fun n => !(!decide (n = []) && cq bound n)) = ((cd s).drop k.toNat).all (fun n => !(!decide (n = []) && cq bound n))) (μ := fun k => ((cd s).length - k).toNat) (i := (0 : Int)) ky ⟨⟨by omega, by omega⟩, rfl⟩ (fun w hw => hw) (fun k hI => ?_)
  obtain ⟨⟨k0, k1⟩, hal⟩ := hI
  refine zm6 ?_
  refine ag rfl (fun c65 => ?_) (fun c65 => ?_)
  · exact zq299
  have h2 := cW (p := (fun n => !(!decide (n = []) && cq bound n))) k0 c65 hal
  refine iy ?_
  refine cf (!decide (s.proc = []) && !bN pg.procs s.proc s.args.length) 88 [(4, _), (6, _), (8, _)] ky ?_ ?_
  ·
   refine nH ?_; refine ll ?_
   refine aj (s := 79) rfl (fun g79 => ?_) (fun g79 => ?_)
   ·
    have q79 := aP g79
    refine aw rfl rfl (bu rfl (.there _ (.there _ (.there _ (.here _)))) rfl) rfl ?_; refine fM ?_; refine fM ?_
    refine aw rfl rfl (ai rfl rfl hs.a) rfl (aK rfl rfl (ab rfl rfl rfl rfl) (mv s.proc s.args.length hP) rfl ?_); refine ii ?_
    exact a8 rfl (by simp_all) ky
   have q79 := aL g79
   refine eB ?_; refine mE ?_
   exact a8 rfl (by simp_all) ky
  refine TC.cond rfl (fun c88 => ?_) (fun c88 => ?_)
  ·
   refine iu ?_
   exact uV
  refine iS ?_; refine gS ?_; refine TL.run (ai rfl rfl hs.c) rfl ?_; refine zm8 ?_
  refine TC.loop (V := fun k => [(92, .int .i64 k)]) (K := [(4, _), (6, _), (8, _), (90, _), (91, _)]) (L := fun k => _) (I := fun k => (0 ≤ k ∧ k ≤ s.casts.length) ∧ s.casts.all (fun c => bN pg.procs c.proc (c.args.length + 1)) = (s.casts.drop k.toNat).all (fun c => bN pg.procs c.proc (c.args.length + 1))) (μ := fun k => (s.casts.length - k).toNat) (i := (0 : Int)) ky ⟨⟨by omega, by omega⟩, rfl⟩ (fun w hw => hw) (fun k hI => ?_)
  obtain ⟨⟨k0, k1⟩, hal⟩ := hI
  refine zm6 ?_
  refine ag rfl (fun c93 => ?_) (fun c93 => ?_)
  ·
   obtain ⟨xC, hxC⟩ := ao (l := s.casts) k0 c93
   have hxl := hl.2.2 xC (List.mem_of_getElem? hxC)
   refine dC ?_; refine TL.run (af rfl hs.c rfl (by omega) (by omega)) rfl (TL.run (bh hs.c hxC rfl rfl) rfl (TL.alloc rfl (fun b17 => ?_)))
   refine pG ?_; refine TL.run (bu rfl (.there _ (.there _ (.there _ (.there _ (.here _))))) rfl) rfl ?_; refine fz ?_; refine fz ?_; refine TL.run (ai rfl rfl (hs.cs xC (List.mem_of_getElem? hxC))) rfl ?_
   refine kJ ?_; refine ay (ab rfl rfl rfl rfl) (mv xC.proc (xC.args.length + 1) hP) rfl ?_; refine zm1 ?_
   refine TC.cond rfl (fun c104 => ?_) (fun c104 => ?_)
   ·
    have h4 := dx (p := (fun c => bN pg.procs c.proc (c.args.length + 1))) k0 hxC (by simpa using c104) hal
    exact uW
   refine lg ?_
   exact aR (k + 1) ⟨⟨by omega, by omega⟩, cj (p := (fun c => bN pg.procs c.proc (c.args.length + 1))) k0 hxC (by simpa using c104) hal⟩ ky (fun w hw => hw.drop) (by omega)
  have h4 := cW (p := (fun c => bN pg.procs c.proc (c.args.length + 1))) k0 c93 hal
  refine iy ?_
  refine cf (decide (s.kind = 8) && !fg pg s) 114 [(8, _)] ⟨rfl, trivial⟩ ?_ ?_
  ·
   refine nH ?_; refine zm3 ?_
   refine aj (s := 109) rfl (fun g109 => ?_) (fun g109 => ?_)
   ·
    have q109 := of_decide_eq_true g109
    refine aw rfl rfl (bu rfl (.there _ (.there _ (.there _ (.here _)))) rfl) rfl (aw rfl rfl (bu rfl (.there _ (.here _)) rfl) rfl (aK rfl rfl (ab rfl rfl rfl rfl) (wW s hP hs hl.2.1) rfl ?_))
    refine ii ?_
    exact a8 rfl (by simp_all) ⟨rfl, trivial⟩
   have q109 := of_decide_eq_false g109
   refine mE ?_
   exact a8 rfl (by simp_all) ⟨rfl, trivial⟩
  refine TC.cond rfl (fun c114 => ?_) (fun c114 => ?_)
  ·
   refine iu ?_
   exact uV
  refine d3 ?_; refine iu ?_
  exact Bi
 have h44 : ¬ (s.kind = 4 ∨ s.kind = 5 ∨ s.kind = 9) := by simp_all
 refine iS ?_; refine d7 ?_
 refine TL.pubO hO (.skip _ (.skip _ (.skip _ .all))) (by simp) (fun HA leA hA => ?_)
 replace hP := hP.le leA
 replace hs := hs.le leA
 replace hB := hB.le leA
 have hA2 := hA.cast (show _ = cM q.terms s by unfold cM; rw [if_neg (by first | exact h44 | omega), bB c22 k0, List.append_nil])
 clear hA
 have hAm := hA2.max
 refine TL.run (ai rfl rfl hA2) rfl ?_; refine zm8 ?_
 refine TC.loop (V := fun k => [(52, .int .i64 k)]) (K := [(3, _), (4, _), (6, _), (8, _), (50, _), (51, _)]) (L := fun k => _) (I := fun k => (0 ≤ k ∧ k ≤ (cM q.terms s).length) ∧ (cM q.terms s).all (fun n => cq bound n) = ((cM q.terms s).drop k.toNat).all (fun n => cq bound n)) (μ := fun k => ((cM q.terms s).length - k).toNat) (i := (0 : Int)) ky ⟨⟨by omega, by omega⟩, rfl⟩ (fun w hw => hw) (fun k hI => ?_)
 obtain ⟨⟨k0, k1⟩, hal⟩ := hI
 refine zm6 ?_
 refine ag rfl (fun c53 => ?_) (fun c53 => ?_)
 ·
  obtain ⟨xA, hxA⟩ := ao (l := cM q.terms s) k0 c53
  refine dC ?_; refine TL.run (af rfl hA2 rfl (by omega) (by omega)) rfl (TL.run (aM hA2 hxA rfl rfl) rfl ?_); refine zm1 ?_; refine eJ ?_; refine ay (ab rfl rfl rfl rfl) (iL xA hB) rfl ?_
  refine zm1 ?_
  refine TC.cond rfl (fun c59 => ?_) (fun c59 => ?_)
  ·
   have h1 := dx (p := (fun n => cq bound n)) k0 hxA (by simpa using c59) hal
   exact uW
  refine lg ?_
  exact aR (k + 1) ⟨⟨by omega, by omega⟩, cj (p := (fun n => cq bound n)) k0 hxA (by simpa using c59) hal⟩ ky (fun w hw => hw) (by omega)
 have h1 := cW (p := (fun n => cq bound n)) k0 c53 hal
 refine iy ?_; refine gu ?_
 refine cS (ab rfl rfl rfl rfl) (rf s hs hw7) rfl (fun v62 H62 ob62 hle62 hp62 => ?_)
 obtain ⟨eH62, hO62⟩ := hp62
 subst H62
 obtain ⟨a62, c62, rfl⟩ := hO62.form
 refine TL.pubO hO62 (.skip _ (.skip _ (.skip _ .all))) (by simp) (fun HP62 leP62 hR62 => ?_)
 replace hP := hP.le leP62
 replace hs := hs.le leP62
 replace hB := hB.le leP62
 have hBm := RdSl.max hR62
 have hCm := hs.c.max
 refine TL.run (ai rfl rfl hR62) rfl ?_; refine zm8 ?_
 refine TC.loop (V := fun k => [(64, .int .i64 k)]) (K := [(3, _), (4, _), (6, _), (8, _), (62, _), (63, _)]) (L := fun k => _) (I := fun k => (0 ≤ k ∧ k ≤ (cd s).length) ∧ (cd s).all (fun n => !(!decide (n = []) && cq bound n)) = ((cd s).drop k.toNat).all (fun n => !(!decide (n = []) && cq bound n))) (μ := fun k => ((cd s).length - k).toNat) (i := (0 : Int)) ky ⟨⟨by omega, by omega⟩, rfl⟩ (fun w hw => hw) (fun k hI => ?_)
 obtain ⟨⟨k0, k1⟩, hal⟩ := hI
 refine zm6 ?_
 refine ag rfl (fun c65 => ?_) (fun c65 => ?_)
 · exact zq299
 have h2 := cW (p := (fun n => !(!decide (n = []) && cq bound n))) k0 c65 hal
 refine iy ?_
 refine cf (!decide (s.proc = []) && !bN pg.procs s.proc s.args.length) 88 [(4, _), (6, _), (8, _)] ky ?_ ?_
 ·
  refine vT ?_
  refine aj (s := 79) rfl (fun g79 => ?_) (fun g79 => ?_)
  ·
   have q79 := aP g79
   refine aw rfl rfl (bu rfl (.there _ (.there _ (.here _))) rfl) rfl ?_; refine zm9 ?_; refine zm9 ?_
   refine aw rfl rfl (ai rfl rfl hs.a) rfl (aK rfl rfl (ab rfl rfl rfl rfl) (mv s.proc s.args.length hP) rfl ?_); refine ii ?_
   exact a8 rfl (by simp_all) ky
  have q79 := aL g79
  refine eB ?_; refine mE ?_
  exact a8 rfl (by simp_all) ky
 refine TC.cond rfl (fun c88 => ?_) (fun c88 => ?_)
 ·
  refine iu ?_
  exact uV
 refine iS ?_; refine fw ?_; refine TL.run (ai rfl rfl hs.c) rfl ?_; refine zm8 ?_
 refine TC.loop (V := fun k => [(92, .int .i64 k)]) (K := [(4, _), (6, _), (8, _), (90, _), (91, _)]) (L := fun k => _) (I := fun k => (0 ≤ k ∧ k ≤ s.casts.length) ∧ s.casts.all (fun c => bN pg.procs c.proc (c.args.length + 1)) = (s.casts.drop k.toNat).all (fun c => bN pg.procs c.proc (c.args.length + 1))) (μ := fun k => (s.casts.length - k).toNat) (i := (0 : Int)) ky ⟨⟨by omega, by omega⟩, rfl⟩ (fun w hw => hw) (fun k hI => ?_)
 obtain ⟨⟨k0, k1⟩, hal⟩ := hI
 refine zm6 ?_
 refine ag rfl (fun c93 => ?_) (fun c93 => ?_)
 ·
  obtain ⟨xC, hxC⟩ := ao (l := s.casts) k0 c93
  have hxl := hl.2.2 xC (List.mem_of_getElem? hxC)
  refine dC ?_; refine TL.run (af rfl hs.c rfl (by omega) (by omega)) rfl (TL.run (bh hs.c hxC rfl rfl) rfl (TL.alloc rfl (fun b17 => ?_)))
  refine pG ?_; refine TL.run (bu rfl (.there _ (.there _ (.there _ (.here _)))) rfl) rfl ?_; refine fz ?_; refine fz ?_; refine TL.run (ai rfl rfl (hs.cs xC (List.mem_of_getElem? hxC))) rfl ?_; refine kJ ?_
  refine ay (ab rfl rfl rfl rfl) (mv xC.proc (xC.args.length + 1) hP) rfl ?_; refine zm1 ?_
  refine TC.cond rfl (fun c104 => ?_) (fun c104 => ?_)
  ·
   have h4 := dx (p := (fun c => bN pg.procs c.proc (c.args.length + 1))) k0 hxC (by simpa using c104) hal
   exact uW
  refine lg ?_
  exact aR (k + 1) ⟨⟨by omega, by omega⟩, cj (p := (fun c => bN pg.procs c.proc (c.args.length + 1))) k0 hxC (by simpa using c104) hal⟩ ky (fun w hw => hw.drop) (by omega)
 have h4 := cW (p := (fun c => bN pg.procs c.proc (c.args.length + 1))) k0 c93 hal
 refine iy ?_
 refine cf (decide (s.kind = 8) && !fg pg s) 114 [(8, _)] ⟨rfl, trivial⟩ ?_ ?_
 ·
  refine oX ?_; refine zm3 ?_
  refine aj (s := 109) rfl (fun g109 => ?_) (fun g109 => ?_)
  ·
   have q109 := of_decide_eq_true g109
   refine aw rfl rfl (bu rfl (.there _ (.there _ (.here _))) rfl) rfl (aw rfl rfl (bu rfl (.here _) rfl) rfl (aK rfl rfl (ab rfl rfl rfl rfl) (wW s hP hs hl.2.1) rfl ?_)); refine ii ?_
   exact a8 rfl (by simp_all) ⟨rfl, trivial⟩
  have q109 := of_decide_eq_false g109
  refine mE ?_
  exact a8 rfl (by simp_all) ⟨rfl, trivial⟩
 refine TC.cond rfl (fun c114 => ?_) (fun c114 => ?_)
 ·
  refine iu ?_
  exact uV
 refine d3 ?_; refine iu ?_
 exact Bi
end Go.Sx
namespace Go.Sx
open Go Go.Proofs
theorem head_ok {H : Hp} {pg : SProg} {q : SProc} (i : Int) (hP : ProgOk H pg) (hM : MaxG H) (h0 : 0 ≤ i) (hq : pg.procs[i.toNat]? = some q) :
  FnS Tryz.prog 38 [.agg pg.cells.toArray, .int .i64 i] H (.agg (ew pg.procs i q).cells.toArray) := by
 have hPq := hP.q
 have hmax := hPq.max
 have hlt := il hq
 have hQ := hP.qs q (List.mem_of_getElem? hq)
 have hpa := hQ.pa
 have ht := hQ.t
 have hst := hQ.s
 have hpm := hpa.max
 have htm := ht.max
 have hsm := hst.max
 refine FnS.enter Tryz.func38 Tryz.ntmps38 rfl rfl (fun w0 => ?_)
 refine zm2 ?_
 refine TL.box rfl rfl (fun b2 => ?_)
 refine TL.alloc rfl (fun b4 => ?_)
 refine TL.nil (ad ?_); refine gS ?_; refine zm0 ?_; refine TL.run (af rfl hPq rfl (by omega) (by omega)) rfl (TL.run (bh hPq hq rfl rfl) rfl (TL.alloc rfl (fun b5 => ?_)))
 refine fu ?_
 refine cf (bL q) 6 [(1, _), (2, _), (4, _), (5, _)] ky ?_ ?_
 ·
  refine oX ?_; refine ay (ab rfl rfl rfl rfl) (bK q.name) rfl ?_; refine zm0 ?_
  refine aj (s := 18) rfl (fun g18 => ?_) (fun g18 => ?_)
  ·
   refine zm9 ?_; refine aw rfl rfl (ai rfl rfl hpa) rfl ?_; refine dD ?_
   refine aj (s := 24) rfl (fun g24 => ?_) (fun g24 => ?_)
   ·
    have q24 := of_decide_eq_true g24
    refine zm9 ?_; refine aw rfl rfl (ai rfl rfl hst) rfl ?_; refine dD ?_
    refine aj (s := 30) rfl (fun g30 => ?_) (fun g30 => ?_)
    ·
     have q30 := of_decide_eq_true g30
     refine zm9 ?_; refine aw rfl rfl (ai rfl rfl hst) rfl ?_; refine dD ?_
     refine aj (s := 36) rfl (fun g36 => ?_) (fun g36 => ?_)
     ·
      have q36 := of_decide_eq_true g36
      refine zm9 ?_; refine aw rfl rfl (ai rfl rfl ht) rfl ?_; refine dD ?_; exact TL.nil (a8 rfl (by unfold bL; first | (simp_all; done) | (simp [*]; done) | (simp_all; omega)) ky)
     have q36 := of_decide_eq_false g36
     refine eB ?_; refine vF ?_
     exact a8 rfl (by unfold bL; first | (simp_all; done) | (simp [*]; done) | (simp_all; omega)) ky
    have q30 := of_decide_eq_false g30
    refine ns ?_; refine vF ?_
    exact a8 rfl (by unfold bL; first | (simp_all; done) | (simp [*]; done) | (simp_all; omega)) ky
   have q24 := of_decide_eq_false g24
   refine uZ ?_; refine vF ?_
   exact a8 rfl (by unfold bL; first | (simp_all; done) | (simp [*]; done) | (simp_all; omega)) ky
  refine vR ?_; refine vF ?_
  exact a8 rfl (by unfold bL; first | (simp_all; done) | (simp [*]; done) | (simp_all; omega)) ky
 refine vU ?_; refine TL.run (ai rfl rfl hpa) rfl ?_; refine zm8 ?_
 refine aV (V := fun (p : Int × Bool) v ob H1 => [(6, .bool p.2), (7, v), (45, .int .i64 p.1)]) (K := [(1, _), (2, _), (4, _), (5, _), (43, _), (44, _)]) (L := fun (p : Int × Bool) v ob H1 => St [] w0 H H ((b5, _) :: (b4, _) :: (b2, _) :: ob)) (I := fun (p : Int × Bool) v ob H1 => (0 ≤ p.1 ∧ p.1 ≤ q.params.length) ∧ OwnSl 1 Str.cells v ((q.params.take p.1.toNat).map (·.name)) ob ∧ p.2 = (bL q && (q.params.take p.1.toNat).all dI)) (μ := fun (p : Int × Bool) => (q.params.length - p.1).toNat) ((0 : Int), bL q) (.slice none 0 0) [] H ky ⟨⟨by omega, by omega⟩, OwnSl.nil, by simp⟩ (fun w hw => hw) (fun p v ob H1 hI => ?_)
 obtain ⟨⟨k0, k1⟩, hO, hg⟩ := hI
 obtain ⟨va, vc, rfl⟩ := hO.form
 have hpl := hQ.pl
 refine zm6 ?_
 refine ag rfl (fun c46 => ?_) (fun c46 => ?_)
 ·
  obtain ⟨x, hx⟩ := ao (l := q.params) k0 c46
  refine dC ?_; refine TL.run (af rfl hpa rfl (by omega) (by omega)) rfl (TL.run (bh hpa hx rfl rfl) rfl (TL.alloc rfl (fun b9 => ?_)))
  refine fu ?_
  refine cf (p.2 && dI x) 6 [(1, _), (2, _), (4, _), (5, _), (7, _), (9, _), (43, _), (44, _), (45, _), (46, _), (47, _), (48, _)] ky ?_ ?_
  ·
   refine jh ?_
   refine aj (s := 50) rfl (fun g50 => ?_) (fun g50 => ?_)
   ·
    refine zm9 ?_; refine aK rfl rfl (ab rfl rfl rfl rfl) (bK x.name) rfl ?_; refine zm3 ?_
    refine aj (s := 55) rfl (fun g55 => ?_) (fun g55 => ?_)
    ·
     refine jn ?_; refine aw rfl rfl (iZ rfl (.here _) rfl) rfl (aK rfl rfl (ab rfl rfl rfl rfl) (wB x.ck x.cn (hQ.pz x (List.mem_of_getElem? hx)) hM) rfl ?_); refine vF ?_
     exact a8 rfl (by unfold dI; simp_all) ky
    refine jt ?_; exact TL.nil (a8 rfl (by unfold dI; simp_all) ky)
   refine jt ?_; refine jt ?_; exact TL.nil (a8 rfl (by unfold dI; simp_all) ky)
  refine kt ?_
  refine aB rfl rfl rfl rfl (fun b63 => ?_)
  refine TL.append (enc := Str.cells) rfl rfl rfl hO (Src.own [x.name] (.here _) rfl rfl) (by simp; omega) rfl (.skip _ (.skip _ (.skip _ (.skip _ (.skip _ .all))))) rfl (fun a64 c64 ob64 hO64 => ?_)
  refine lF ?_
  exact aF (p.1 + 1, _) _ ob64 H ⟨⟨by omega, by omega⟩, hO64.cast (by rw [bX k0 hx]), Do k0 hx hg rfl⟩ ky (fun w hw => hw.drop.drop) (by omega)
 have hg2 := hg
 rw [bB c46 k0] at hg2
 refine iy ?_; refine TC.block ?_; refine zm231 ?_
 refine TC.cond rfl (fun c66 => ?_) (fun c66 => ?_)
 ·
  refine d7 ?_; refine ay (ab rfl rfl rfl rfl) (dV 1500 i (-1)) rfl ?_; refine lm ?_
  exact aN (al (ax (.inr rfl) (ae rfl (RVal.cellA rfl (.there _ (.here _)) rfl)) (by first | (rw [yk (by rw [← hg2]; simpa using c66)]; rfl) | (rw [yj (by rw [← hg2]; simpa using c66) c71]; rfl) | (rw [yi (by rw [← hg2]; simpa using c66) c71]; rfl))))
 refine TC.pubO hO (.skip _ (.skip _ (.skip _ .all))) (by simp) (fun HJ leJ hJ => ?_)
 replace hP := hP.le leJ
 have hJ2 := hJ.cast (show _ = q.params.map (·.name) by rw [bB c46 k0])
 refine cf (decide (dq pg.procs q.name < i) || !dj (q.params.map (·.name))) 71 [(1, _), (4, _)] ⟨rfl, rfl, trivial⟩ ?_ ?_
 ·
  refine TC.region (TL.run (bu rfl (.there _ (.there _ (.here _))) rfl) rfl ?_); refine fz ?_; refine ay (ab rfl rfl rfl rfl) (jB q.name hP) rfl ?_; refine zm3 ?_; refine zm0 ?_
  refine aj (s := 78) rfl (fun g78 => ?_) (fun g78 => ?_)
  ·
   have q78 := of_decide_eq_true g78
   refine jt ?_; exact TL.nil (a8 rfl (by first | (simp_all; done) | (simp_all; omega)) ⟨rfl, rfl, trivial⟩)
  have q78 := of_decide_eq_false g78
  refine cN ?_; refine aK rfl rfl (ab rfl rfl rfl rfl) (j8 hJ2) rfl ?_; refine dD ?_; exact TL.nil (a8 rfl (by first | (simp_all; done) | (simp_all; omega)) ⟨rfl, rfl, trivial⟩)
 refine TC.cond rfl (fun c71 => ?_) (fun c71 => ?_)
 ·
  refine d7 ?_; refine ay (ab rfl rfl rfl rfl) (dV 1501 i (-1)) rfl ?_; refine lm ?_
  exact aN (al (ax (.inr rfl) (ae rfl (RVal.cellA rfl (.there _ (.here _)) rfl)) (by first | (rw [yk (by rw [← hg2]; simpa using c66)]; rfl) | (rw [yj (by rw [← hg2]; simpa using c66) c71]; rfl) | (rw [yi (by rw [← hg2]; simpa using c66) c71]; rfl))))
 refine TC.skip (bA (ad ?_)); refine kq ?_; refine lm ?_
 exact ax (.inr rfl) (ae rfl (RVal.cellA rfl (.there _ (.here _)) rfl)) (by first | (rw [yk (by rw [← hg2]; simpa using c66)]; rfl) | (rw [yj (by rw [← hg2]; simpa using c66) c71]; rfl) | (rw [yi (by rw [← hg2]; simpa using c66) c71]; rfl))
theorem all_ok {H : Hp} {pg : SProg} (hP : ProgOk H pg) (hM : MaxG H) :
  FnS Tryz.prog 37 [.agg pg.cells.toArray] H (.agg (gb pg).cells.toArray) := by
 have hr := hP.r
 have hl := hP.l
 have hq := hP.q
 have hrm := hr.max
 have hlm := hl.max
 have hqm := hq.max
 refine FnS.enter Tryz.func37 Tryz.ntmps37 rfl rfl (fun w0 => ?_)
 refine zm2 ?_
 refine TL.box rfl rfl (fun b1 => ?_)
 refine TL.alloc rfl (fun b2 => ?_)
 refine TL.nil (ad (TC.seq (cf (decide (6 < (pg.protos.length : Int)) || (decide (12 < (pg.locals.length : Int)) || decide (24 < (pg.procs.length : Int)))) 22 [(1, _), (2, _)] ⟨rfl, rfl, trivial⟩ ?_ ?_)))
 ·
  refine nH ?_; refine TL.run (ai rfl rfl hr) rfl ?_; refine zm3 ?_
  refine aj (s := 11) rfl (fun g11 => ?_) (fun g11 => ?_)
  ·
   have q11 := of_decide_eq_true g11
   refine ns ?_; refine dP ?_
   exact a8 rfl (by first | (simp [*]; done) | (simp_all; done) | (simp_all; omega)) ⟨rfl, rfl, trivial⟩
  have q11 := of_decide_eq_false g11
  refine fM ?_; refine aw rfl rfl (ai rfl rfl hl) rfl ?_; refine dD ?_
  refine aj (s := 17) rfl (fun g17 => ?_) (fun g17 => ?_)
  ·
   have q17 := of_decide_eq_true g17
   refine mE ?_
   exact a8 rfl (by first | (simp [*]; done) | (simp_all; done) | (simp_all; omega)) ⟨rfl, rfl, trivial⟩
  have q17 := of_decide_eq_false g17
  refine fM ?_; refine aw rfl rfl (ai rfl rfl hq) rfl ?_; refine ii ?_
  exact a8 rfl (by first | (simp [*]; done) | (simp_all; done) | (simp_all; omega)) ⟨rfl, rfl, trivial⟩
 refine TC.cond rfl (fun c22 => ?_) (fun c22 => ?_)
 ·
  refine zm2 ?_; refine ay (ab rfl rfl rfl rfl) (dV 1500 (-1) (-1)) rfl ?_; refine iU ?_
  exact al (ax (.inr rfl) (ae rfl (RVal.cellA rfl (.here _) rfl)) (by first | (rw [z1 c22]; rfl) | (rw [zZ c22 hr1]; rfl) | (rw [zY c22 hr1 hl1]; rfl) | (rw [zX c22 hr1 hl1]; rfl)))
 refine iS ?_; refine gS ?_; refine TL.run (ai rfl rfl hr) rfl ?_; refine zm8 ?_
 refine TC.loop (V := fun k => [(27, .int .i64 k)]) (K := [(1, _), (2, _), (25, _), (26, _)]) (L := fun k => _) (I := fun k => (0 ≤ k ∧ k ≤ pg.protos.length) ∧ pg.protos.all cK = (pg.protos.drop k.toNat).all cK) (μ := fun k => (pg.protos.length - k).toNat) (i := (0 : Int)) ky ⟨⟨by omega, by omega⟩, rfl⟩ (fun w hw => hw) (fun k hI => ?_)
 obtain ⟨⟨k0, k1⟩, hal⟩ := hI
 refine zm6 ?_
 refine ag rfl (fun c28 => ?_) (fun c28 => ?_)
 ·
  obtain ⟨x, hx⟩ := ao (l := pg.protos) k0 c28
  refine dC ?_; refine TL.run (af rfl hr rfl (by omega) (by omega)) rfl (TL.run (bh hr hx rfl rfl) rfl (TL.alloc rfl (fun b4 => ?_)))
  refine fu ?_; refine gu ?_; refine ay (ab rfl rfl rfl rfl) (gMay_ok x (hP.rs x (List.mem_of_getElem? hx)) hM) rfl ?_; refine zm1 ?_
  refine TC.cond rfl (fun c33 => ?_) (fun c33 => ?_)
  ·
   have hr1 := dx (p := cK) k0 hx (by simpa using c33) hal
   refine zm2 ?_; refine ay (ab rfl rfl rfl rfl) (dV 1500 (-1) (-1)) rfl ?_; refine lm ?_; refine it ?_
   exact ax (.inr rfl) (ae rfl (RVal.cellA rfl (.there _ (.here _)) rfl)) (by first | (rw [z1 c22]; rfl) | (rw [zZ c22 hr1]; rfl) | (rw [zY c22 hr1 hl1]; rfl) | (rw [zX c22 hr1 hl1]; rfl))
  refine lg ?_
  exact aR (k + 1) ⟨⟨by omega, by omega⟩, cj (p := cK) k0 hx (by simpa using c33) hal⟩ ky (fun w hw => hw.drop) (by omega)
 have hr1 := cW (p := cK) k0 c28 hal
 refine iy ?_; refine gS ?_; refine TL.run (ai rfl rfl hl) rfl ?_; refine zm8 ?_
 refine TC.loop (V := fun k => [(39, .int .i64 k)]) (K := [(2, _), (37, _), (38, _)]) (L := fun k => _) (I := fun k => (0 ≤ k ∧ k ≤ pg.locals.length) ∧ pg.locals.all (fun l => ci l && aG l.name) = (pg.locals.drop k.toNat).all (fun l => ci l && aG l.name)) (μ := fun k => (pg.locals.length - k).toNat) (i := (0 : Int)) ky ⟨⟨by omega, by omega⟩, rfl⟩ (fun w hw => hw) (fun k hI => ?_)
 obtain ⟨⟨k0, k1⟩, hal⟩ := hI
 refine zm6 ?_
 refine ag rfl (fun c40 => ?_) (fun c40 => ?_)
 ·
  obtain ⟨y, hy⟩ := ao (l := pg.locals) k0 c40
  refine dC ?_; refine TL.run (af rfl hl rfl (by omega) (by omega)) rfl (TL.run (bh hl hy rfl rfl) rfl (TL.alloc rfl (fun b6 => ?_)))
  refine fu ?_
  refine cf (!(ci y && aG y.name)) 51 [(2, _), (6, _), (37, _), (38, _), (39, _), (40, _), (41, _), (42, _)] ky ?_ ?_
  ·
   refine TC.region ?_; refine f2 ?_; refine ay (ab rfl rfl rfl rfl) (t8 y (hP.ls y (List.mem_of_getElem? hy)) hM) rfl ?_; refine zm3 ?_
   refine aj (s := 46) rfl (fun g46 => ?_) (fun g46 => ?_)
   ·
    refine mE ?_
    exact a8 rfl (by simp_all) ky
   refine zm9 ?_; refine aK rfl rfl (ab rfl rfl rfl rfl) (bK y.name) rfl ?_; refine ii ?_
   exact a8 rfl (by simp_all) ky
  refine TC.cond rfl (fun c51 => ?_) (fun c51 => ?_)
  ·
   have hl1 := dx (p := fun l => ci l && aG l.name) k0 hy (AD c51) hal
   refine zm2 ?_; refine ay (ab rfl rfl rfl rfl) (dV 1500 (-1) (-1)) rfl ?_; refine lm ?_; refine it ?_
   exact ax (.inr rfl) (ae rfl (RVal.cellA rfl (.there _ (.here _)) rfl)) (by first | (rw [z1 c22]; rfl) | (rw [zZ c22 hr1]; rfl) | (rw [zY c22 hr1 hl1]; rfl) | (rw [zX c22 hr1 hl1]; rfl))
  refine lg ?_
  exact aR (k + 1) ⟨⟨by omega, by omega⟩, cj (p := (fun l => ci l && aG l.name)) k0 hy (nb_F c51) hal⟩ ky (fun w hw => hw.drop) (by omega)
 have hl1 := cW (p := fun l => ci l && aG l.name) k0 c40 hal
 refine sr ?_; refine iU ?_
 exact ax (.inr rfl) (ae rfl (RVal.cellA rfl (.here _) rfl)) (by first | (rw [z1 c22]; rfl) | (rw [zZ c22 hr1]; rfl) | (rw [zY c22 hr1 hl1]; rfl) | (rw [zX c22 hr1 hl1]; rfl))
end Go.Sx
namespace Go.Sx
open Go Go.Proofs
theorem Cp {H : Hp} {pg : SProg} {q : SProc} (i : Int) (hP : ProgOk H pg) (h0 : 0 ≤ i) (hq : pg.procs[i.toNat]? = some q) (hz1 : q.steps.length ≤ 80) (hz2 : q.terms.length ≤ 160) :
  FnS Tryz.prog 39 [.agg pg.cells.toArray, .int .i64 i] H (.agg (dR i q).cells.toArray) := by
 have hPq := hP.q
 have hmax := hPq.max
 have hlt := il hq
 have hQ := hP.qs q (List.mem_of_getElem? hq)
 have hst0 := hQ.s
 have ht0 := hQ.t
 refine FnS.enter Tryz.func39 Tryz.ntmps39 rfl rfl (fun w0 => ?_)
 refine zm2 ?_
 refine TL.box rfl rfl (fun b2 => ?_)
 refine TL.alloc rfl (fun b4 => ?_)
 refine TL.nil (ad ?_); refine gS ?_; refine zm0 ?_; refine TL.run (af rfl hPq rfl (by omega) (by omega)) rfl (TL.run (bh hPq hq rfl rfl) rfl (TL.alloc rfl (fun b5 => ?_)))
 refine nN ?_; refine TL.run (ai rfl rfl hst0) rfl (gw rfl rfl (by first | omega | decide) (by first | omega | decide) (by first | omega | decide) rfl (fun b25 => ?_))
 refine zm1 ?_; refine gS ?_; refine TL.run (ai rfl rfl hst0) rfl (gw rfl rfl (by first | omega | decide) (by first | omega | decide) (by first | omega | decide) rfl (fun b29 => ?_))
 refine tZ ?_; refine no ?_; refine TL.run (ai rfl rfl ht0) rfl (gw rfl rfl (by first | omega | decide) (by first | omega | decide) (by first | omega | decide) rfl (fun b33 => ?_))
 refine iv ?_; refine gr ?_; refine kv ?_; refine TL.run (ai rfl rfl hst0) rfl ?_; refine zm8 ?_
 refine aV (V := fun (p : Int × List Int × List Int × List Bool) v ob H1 => [(37, .int .i64 p.1)]) (K := [(1, _), (4, _), (5, _), (6, _), (7, _), (8, _), (35, _), (36, _)]) (L := fun (p : Int × List Int × List Int × List Bool) v ob H1 => St [] w0 H H1 ((b33, (p.2.2.2).map Value.bool) :: (b29, (p.2.2.1).map (Value.int .i64)) :: (b25, (p.2.1).map (Value.int .i64)) :: (b5, q.cells) :: (b4, [.int .i64 0, .int .i64 0, .int .i64 0]) :: (b2, pg.cells) :: [])) (I := fun (p : Int × List Int × List Int × List Bool) v ob H1 => (0 ≤ p.1 ∧ p.1 ≤ q.steps.length) ∧ H.le H1 ∧ (p.2.1.length = q.steps.length ∧ p.2.2.1.length = q.steps.length ∧ p.2.2.2.length = q.terms.length) ∧ dR i q = bF q i (q.steps.drop p.1.toNat) p.1 p.2.1 p.2.2.1 p.2.2.2) (μ := fun (p : Int × List Int × List Int × List Bool) => (q.steps.length - p.1).toNat) ((0 : Int), List.replicate q.steps.length (0 : Int), List.replicate q.steps.length (0 : Int), List.replicate q.terms.length false) .nilFunc [] H ky ⟨⟨by omega, by omega⟩, Hp.le.refl _, ⟨by simp, by simp, by simp⟩, rfl⟩ (fun w hw => by simp only [oB, zl] at hw; exact hw) (fun p v ob H1 hI => ?_)
 obtain ⟨⟨k0, k1⟩, hle, ⟨hc1, hd1, hu1⟩, hS⟩ := hI
 obtain ⟨k, c, d, u⟩ := p
 dsimp only at *
 replace hQ := hQ.le hle
 refine zm6 ?_
 refine ag rfl (fun c38 => ?_) (fun c38 => ?_)
 ·
  obtain ⟨s, hx⟩ := ao (l := q.steps) k0 c38
  have hs := hQ.ss s (List.mem_of_getElem? hx)
  refine sK ?_; refine vK ?_; refine TL.run (bh hQ.s hx rfl rfl) rfl (TL.alloc rfl (fun b10 => ?_))
  refine zm0 ?_; refine o6 ?_; refine gu ?_; refine ay (ab rfl rfl rfl rfl) (may_ok s hs) rfl ?_; refine zm1 ?_
  refine TC.cond rfl (fun c44 => ?_) (fun c44 => ?_)
  ·
   refine eJ ?_; refine ay (ab rfl rfl rfl rfl) (dV 1500 i k) rfl ?_; refine lA ?_; refine km ?_
   exact ax (.inr rfl) (ae rfl (RVal.cellA rfl (.there _ (.there _ (.there _ (.there _ (.there _ (.here _)))))) rfl)) (by rw [sh_form k0 hx (by simpa using c44) hS]; rfl)
  have hm : eg s = true := by simpa using c44
  have hsz := gB hm
  refine iS ?_
  refine cf (decide (0 < k) && !decide (aJ c k = 1)) 56 [(1, _), (4, _), (5, _), (6, _), (7, _), (8, _), (9, _), (10, _), (35, _), (36, _), (37, _), (38, _), (39, _), (40, _), (41, _), (42, _), (43, _), (44, _)] ky ?_ ?_
  ·
   refine o3 ?_
   refine aj (s := 50) rfl (fun g50 => ?_) (fun g50 => ?_)
   ·
    have q50 := of_decide_eq_true g50
    refine ge ?_; refine aw rfl rfl (dT rfl rfl (by omega) (by omega)) rfl (aw rfl rfl (aD rfl (.there _ (.there _ (.there _ (.here _)))) (gN (by omega))) rfl ?_); refine ii ?_
    exact a8 rfl (by first | (simp_all; done) | (simp [*]; done) | (simp_all; omega)) ky
   have q50 := of_decide_eq_false g50
   refine rz ?_; refine dP ?_
   exact a8 rfl (by first | (simp_all; done) | (simp [*]; done) | (simp_all; omega)) ky
  refine TC.cond rfl (fun c56 => ?_) (fun c56 => ?_)
  ·
   refine eJ ?_; refine ay (ab rfl rfl rfl rfl) (dV 1502 i k) rfl ?_; refine lA ?_; refine km ?_
   exact ax (.inr rfl) (ae rfl (RVal.cellA rfl (.there _ (.there _ (.there _ (.there _ (.there _ (.here _)))))) rfl)) (by rw [sh_tree k0 hx hm c56 hS]; rfl)
  refine d3 ?_
  refine rm (V := fun dd => []) (K := [(1, _), (4, _), (5, _), (6, _), (7, _), (8, _), (9, _), (10, _), (35, _), (36, _), (37, _), (38, _), (39, _), (40, _), (41, _), (42, _), (43, _), (44, _), (56, _)]) ky (L := fun dd => St [] w0 H H1 ((b10, s.cells) :: (b33, (u).map Value.bool) :: (b29, (dd).map (Value.int .i64)) :: (b25, (c).map (Value.int .i64)) :: (b5, q.cells) :: (b4, [.int .i64 0, .int .i64 0, .int .i64 0]) :: (b2, pg.cells) :: [])) (I := fun dd => dd = dr s k d) ?_ ?_
  ·
   refine cf (decide (s.kind = 3) || decide (s.kind = 5)) 67 [(1, _), (4, _), (5, _), (6, _), (7, _), (8, _), (9, _), (10, _), (35, _), (36, _), (37, _), (38, _), (39, _), (40, _), (41, _), (42, _), (43, _), (44, _), (56, _)] ky ?_ ?_
   ·
    refine oX ?_; refine zm3 ?_
    refine aj (s := 63) rfl (fun g63 => ?_) (fun g63 => ?_)
    ·
     have q63 := of_decide_eq_true g63
     refine lf ?_
     exact a8 rfl (by simp_all) ky
    have q63 := of_decide_eq_false g63
    refine zm9 ?_; refine ii ?_
    exact a8 rfl (by simp_all) ky
   refine TC.cond rfl (fun c67 => ?_) (fun c67 => ?_)
   ·
    refine jh ?_; refine fS ?_; refine TL.run (aD rfl (.there _ (.there _ (.here _))) (gN (by omega))) rfl ?_; refine kJ ?_; refine fS ?_; refine yV ?_
    exact TL.nil (je (f9 d k) (deep_T c67) ky (fun w hw => by rw [uL] at hw; exact hw))
   exact TC.skip (je d (deep_F c67) ky (fun w hw => hw))
  intro dd hI
  have hdd : dd.length = q.steps.length := by rw [hI, Dx]; exact hd1
  refine TC.seq ?_; refine gu ?_
  refine cS (ab rfl rfl rfl rfl) (l7 s hs (by omega)) rfl (fun v75 H75 ob75 hle75 hp75 => ?_)
  obtain ⟨eH75, hO75⟩ := hp75
  subst H75
  obtain ⟨a75, c75, rfl⟩ := hO75.form
  refine TL.pubO hO75 (.skip _ (.skip _ (.skip _ (.skip _ (.skip _ (.skip _ (.skip _ .all))))))) (by simp) (fun HP75 leP75 hR75 => ?_)
  replace hQ := hQ.le leP75
  replace hle := hle.trans leP75
  replace hs := hs.le leP75
  have hR75m := hR75.max
  refine TL.run (ai rfl rfl hR75) rfl ?_; refine zm8 ?_
  refine TC.loop (V := fun (e : Int × List Int × List Int) => [(77, .int .i64 e.1)]) (K := [(1, _), (4, _), (5, _), (6, _), (7, _), (8, _), (9, _), (10, _), (35, _), (36, _), (37, _), (38, _), (39, _), (40, _), (41, _), (42, _), (43, _), (44, _), (56, _), (74, _), (75, _), (76, _)]) (L := fun (e : Int × List Int × List Int) => St [] w0 H HP75 ((b10, s.cells) :: (b33, (u).map Value.bool) :: (b29, (e.2.2).map (Value.int .i64)) :: (b25, (e.2.1).map (Value.int .i64)) :: (b5, q.cells) :: (b4, [.int .i64 0, .int .i64 0, .int .i64 0]) :: (b2, pg.cells) :: [])) (I := fun (e : Int × List Int × List Int) => (0 ≤ e.1 ∧ e.1 ≤ (aS s).length) ∧ (e.2.1.length = q.steps.length ∧ e.2.2.length = q.steps.length) ∧ co q.steps.length k (aS s) c (dr s k d) = co q.steps.length k ((aS s).drop e.1.toNat) e.2.1 e.2.2) (μ := fun (e : Int × List Int × List Int) => ((aS s).length - e.1).toNat) (i := ((0 : Int), c, dd)) ky ⟨⟨by omega, by omega⟩, ⟨hc1, hdd⟩, by rw [hI]; rfl⟩ (fun w hw => hw) (fun (e : Int × List Int × List Int) hI => ?_)
  obtain ⟨⟨j0, j1⟩, ⟨hc3, hd3⟩, hN⟩ := hI
  refine zm6 ?_
  refine ag rfl (fun c78 => ?_) (fun c78 => ?_)
  ·
   obtain ⟨y, hy⟩ := ao (l := aS s) j0 c78
   refine dC ?_; refine TL.run (af rfl hR75 rfl (by omega) (by omega)) rfl (TL.run (aM hR75 hy rfl rfl) rfl ?_); refine iv ?_
   refine cf (decide (y ≤ k) || decide ((q.steps.length : Int) ≤ y)) 90 [(1, _), (4, _), (5, _), (6, _), (7, _), (8, _), (9, _), (10, _), (12, _), (35, _), (36, _), (37, _), (38, _), (39, _), (40, _), (41, _), (42, _), (43, _), (44, _), (56, _), (74, _), (75, _), (76, _), (77, _), (78, _), (79, _), (80, _)] ky ?_ ?_
   ·
    refine pF ?_
    refine aj (s := 84) rfl (fun g84 => ?_) (fun g84 => ?_)
    ·
     have q84 := of_decide_eq_true g84
     refine rz ?_; refine dP ?_
     exact a8 rfl (by first | (simp_all; done) | (simp [*]; done) | (simp_all; omega)) ky
    have q84 := of_decide_eq_false g84
    refine cN ?_; refine jn ?_; refine aw rfl rfl (aD rfl (.there _ (.there _ (.there _ (.there _ (.here _))))) rfl) rfl (aw rfl rfl (ai rfl rfl hQ.s) rfl ?_); refine ii ?_
    exact a8 rfl (by first | (simp_all; done) | (simp [*]; done) | (simp_all; omega)) ky
   refine TC.cond rfl (fun c90 => ?_) (fun c90 => ?_)
   ·
    refine eJ ?_; refine ay (ab rfl rfl rfl rfl) (dV 1502 i k) rfl ?_; refine lA ?_; refine km ?_; refine it ?_
    exact ax (.inr rfl) (ae rfl (RVal.cellA rfl (.there _ (.there _ (.there _ (.there _ (.there _ (.here _)))))) rfl)) (by rw [sh_n k0 hx hm c56 (ng_bad j0 hy c90 hN) hS]; rfl)
   have hyb : k < y ∧ y < q.steps.length := by simp at c90; omega
   refine vE ?_; refine fS ?_; refine BN ?_; refine kJ ?_; refine fS ?_; refine bz rfl rfl rfl (.there _ (.there _ (.there _ (.here _)))) (by simp; omega) rfl (TL.nil (ad ?_)); refine pF ?_; refine fS ?_
   refine TL.run (aD rfl (.there _ (.there _ (.here _))) (gN (by omega))) rfl ?_; refine fS ?_; refine yV ?_; refine o5 ?_
   exact aR (e.1 + 1, f9 e.2.1 y, e.2.2.set y.toNat (aJ e.2.2 k)) ⟨⟨by omega, by omega⟩, ⟨by rw [mn]; exact hc3, by rw [List.length_set]; exact hd3⟩, ng_next j0 hy c90 hN⟩ ky (fun w hw => by have hw2 := hw; simp only [uL] at hw2; exact hw2) (by omega)
  have hng := ng_end j0 c78 hN
  obtain ⟨j, c2, d2⟩ := e
  dsimp only at *
  have hc2 := hc3
  have hd2 := hd3
  refine fL ?_; refine f4 ?_; refine fS ?_; refine TL.run (aD rfl (.there _ (.there _ (.here _))) (gN (by omega))) rfl ?_; refine zm1 ?_
  refine ag rfl (fun c112 => ?_) (fun c112 => ?_)
  ·
   refine eJ ?_; refine ay (ab rfl rfl rfl rfl) (dV 1502 i k) rfl ?_; refine lA ?_; refine km ?_
   exact ax (.inr rfl) (ae rfl (RVal.cellA rfl (.there _ (.there _ (.there _ (.there _ (.there _ (.here _)))))) rfl)) (by rw [sh_d k0 hx hm c56 hng c112 hS]; rfl)
  refine d3 ?_; refine gu ?_
  refine cS (ab rfl rfl rfl rfl) (wt s hs hsz.2) rfl (fun v117 H117 ob117 hle117 hp117 => ?_)
  obtain ⟨eH117, hO117⟩ := hp117
  subst H117
  obtain ⟨a117, c117, rfl⟩ := hO117.form
  refine TL.pubO hO117 (.skip _ (.skip _ (.skip _ (.skip _ (.skip _ (.skip _ (.skip _ .all))))))) (by simp) (fun HP117 leP117 hR117 => ?_)
  replace hQ := hQ.le leP117
  replace hle := hle.trans leP117
  have hR117m := hR117.max
  refine TL.run (ai rfl rfl hR117) rfl ?_; refine zm8 ?_
  refine aV (V := fun (f : Int × List Bool) v2 ob2 H2 => [(119, .int .i64 f.1)]) (K := [(1, _), (4, _), (5, _), (6, _), (7, _), (8, _), (9, _), (10, _), (35, _), (36, _), (37, _), (38, _), (39, _), (40, _), (41, _), (42, _), (43, _), (44, _), (56, _), (74, _), (75, _), (76, _), (77, _), (78, _), (108, _), (109, _), (110, _), (111, _), (112, _), (116, _), (117, _), (118, _)]) (L := fun (f : Int × List Bool) v2 ob2 H2 => St [] w0 H H2 ((b10, s.cells) :: (b33, (f.2).map Value.bool) :: (b29, (d2).map (Value.int .i64)) :: (b25, (c2).map (Value.int .i64)) :: (b5, q.cells) :: (b4, [.int .i64 0, .int .i64 0, .int .i64 0]) :: (b2, pg.cells) :: [])) (I := fun (f : Int × List Bool) v2 ob2 H2 => (0 ≤ f.1 ∧ f.1 ≤ (bD s).length) ∧ HP117.le H2 ∧ f.2.length = q.terms.length ∧ bT q.terms (bD s) u = bT q.terms ((bD s).drop f.1.toNat) f.2) (μ := fun (f : Int × List Bool) => ((bD s).length - f.1).toNat) ((0 : Int), u) .nilFunc [] HP117 ky ⟨⟨by omega, by omega⟩, Hp.le.refl _, hu1, rfl⟩ (fun w hw => hw) (fun f v2 ob2 H2 hI => ?_)
  obtain ⟨⟨f0, f1⟩, hle2, hu4, hR⟩ := hI
  replace hQ := hQ.le hle2
  replace hle := hle.trans hle2
  replace hR117 := hR117.le hle2
  refine zm6 ?_
  refine ag rfl (fun c120 => ?_) (fun c120 => ?_)
  ·
   obtain ⟨r, hr⟩ := ao (l := bD s) f0 c120
   refine dC ?_; refine TL.run (af rfl hR117 rfl (by omega) (by omega)) rfl (TL.run (aM hR117 hr rfl rfl) rfl ?_); refine iv ?_; refine gr ?_
   refine TL.run (aD rfl (.there _ (.there _ (.there _ (.there _ (.here _))))) rfl) rfl ?_; refine zm0 ?_; refine ay (ab rfl rfl rfl rfl) (DT r hQ.t hQ.tn) rfl ?_; refine zm1 ?_
   refine TC.cond rfl (fun c127 => ?_) (fun c127 => ?_)
   ·
    refine eJ ?_; refine ay (ab rfl rfl rfl rfl) (dV 1503 i k) rfl ?_; refine lA ?_; refine al (aN (al (al ?_))); refine aN ?_; refine it ?_
    exact ax (.inr rfl) (ae rfl (RVal.cellA rfl (.there _ (.there _ (.there _ (.there _ (.there _ (.here _)))))) rfl)) (by rw [sh_t k0 hx hm c56 hng c112 (rg_may f0 hr (by simpa using c127) hR) hS]; rfl)
   have hmr : cA q.terms r = true := by simpa using c127
   refine d3 ?_; refine gr ?_; refine TL.run (aD rfl (.there _ (.there _ (.there _ (.there _ (.here _))))) rfl) rfl ?_; refine zm0 ?_
   refine cS (ab rfl rfl rfl rfl) (wA r hQ.t hmr) rfl (fun v134 H134 ob134 hle134 hp134 => ?_)
   have hO134 : OwnSl 1 I64.cells v134 (bH q.terms r) ob134 := hp134
   obtain ⟨a134, c134, rfl⟩ := hO134.form
   replace hle2 := hle2.trans hle134
   refine TL.pubO hO134 (.skip _ (.skip _ (.skip _ (.skip _ (.skip _ (.skip _ (.skip _ .all))))))) (by simp) (fun HP134 leP134 hR134 => ?_)
   replace hle2 := hle2.trans leP134
   have hR134m := hR134.max
   refine TL.run (ai rfl rfl hR134) rfl ?_; refine zm8 ?_
   refine TC.loop (V := fun (e : Int × List Bool) => [(136, .int .i64 e.1)]) (K := [(1, _), (4, _), (5, _), (6, _), (7, _), (8, _), (9, _), (10, _), (14, _), (35, _), (36, _), (37, _), (38, _), (39, _), (40, _), (41, _), (42, _), (43, _), (44, _), (56, _), (74, _), (75, _), (76, _), (77, _), (78, _), (108, _), (109, _), (110, _), (111, _), (112, _), (116, _), (117, _), (118, _), (119, _), (120, _), (121, _), (122, _), (123, _), (124, _), (125, _), (126, _), (127, _), (131, _), (132, _), (133, _), (134, _), (135, _)]) (L := fun (e : Int × List Bool) => St [] w0 H HP134 ((b10, s.cells) :: (b33, (e.2).map Value.bool) :: (b29, (d2).map (Value.int .i64)) :: (b25, (c2).map (Value.int .i64)) :: (b5, q.cells) :: (b4, [.int .i64 0, .int .i64 0, .int .i64 0]) :: (b2, pg.cells) :: [])) (I := fun (e : Int × List Bool) => (0 ≤ e.1 ∧ e.1 ≤ (bH q.terms r).length) ∧ e.2.length = q.terms.length ∧ fj (bH q.terms r) f.2 = fj ((bH q.terms r).drop e.1.toNat) e.2) (μ := fun (e : Int × List Bool) => ((bH q.terms r).length - e.1).toNat) (i := ((0 : Int), f.2)) ky ⟨⟨by omega, by omega⟩, hu4, rfl⟩ (fun w hw => hw) (fun (e : Int × List Bool) hI => ?_)
   obtain ⟨⟨e0, e1⟩, hu5, hU⟩ := hI
   refine zm6 ?_
   refine ag rfl (fun c137 => ?_) (fun c137 => ?_)
   ·
    obtain ⟨z, hz⟩ := ao (l := bH q.terms r) e0 c137
    have hzb := j3 _ _ z (List.mem_of_getElem? hz)
    refine dC ?_; refine TL.run (af rfl hR134 rfl (by omega) (by omega)) rfl (TL.run (aM hR134 hz rfl rfl) rfl ?_); refine iv ?_; refine eJ ?_; refine fS ?_
    refine TL.run (aD rfl (.there _ (.here _)) (bs_get (by omega))) rfl (TL.nil (ad (TC.cond rfl (fun c143 => ?_) (fun c143 => ?_))))
    ·
     refine eJ ?_; refine ay (ab rfl rfl rfl rfl) (dV 1503 i k) rfl ?_; refine lA ?_; refine al (aN (al (al ?_))); refine aN ?_; refine vD ?_
     exact ax (.inr rfl) (ae rfl (RVal.cellA rfl (.there _ (.there _ (.there _ (.there _ (.there _ (.here _)))))) rfl)) (by rw [sh_t k0 hx hm c56 hng c112 (rg_bad f0 hr hmr (ug_bad e0 hz c143 hU) hR) hS]; rfl)
    refine d3 ?_; refine jh ?_; refine zm339 ?_; refine o5 ?_
    exact aR (e.1 + 1, e.2.set z.toNat true) ⟨⟨by omega, by omega⟩, by rw [List.length_set]; exact hu5, ug_next e0 hz c143 hU⟩ ky (fun w hw => by have hw2 := hw; simp only [bs_set] at hw2; exact hw2) (by omega)
   have hug := ug_end e0 c137 hU
   refine vC ?_
   exact aF (f.1 + 1, e.2) .nilFunc [] HP134 ⟨⟨by omega, by omega⟩, hle2, hu5, rg_next f0 hr hmr hug hR⟩ ky (fun w hw => hw) (by omega)
  have hrg := rg_end f0 c120 hR
  refine vC ?_
  exact aF (i := (k, c, d, u)) (k + 1, c2, d2, f.2) .nilFunc [] H2 ⟨⟨by omega, by omega⟩, hle, ⟨hc2, hd2, hu4⟩, sh_next k0 hx hm c56 hng c112 hrg hS⟩ ky (fun w hw => hw.drop) (by omega)
 refine sr ?_; refine cF rfl rfl rfl rfl rfl (.there _ (.there _ (.there _ (.there _ (.here _))))) rfl rfl (TL.nil (ad (TC.ret ?_)))
 exact ax (.inr rfl) (ae rfl (RVal.cellA rfl (.there _ (.there _ (.there _ (.there _ (.here _))))) rfl)) (by rw [sh_end k0 c38 hS]; rfl)
end Go.Sx
namespace Go.Sx
open Go Go.Proofs
theorem Cx {H : Hp} {pg : SProg} {q : SProc} (i : Int) (hP : ProgOk H pg) (h0 : 0 ≤ i) (hq : pg.procs[i.toNat]? = some q) (hsh : bU q) (hz0 : 1 ≤ q.steps.length) (hz1 : q.steps.length ≤ 80) (hz2 : q.terms.length ≤ 160) :
  FnS Tryz.prog 42 [.agg pg.cells.toArray, .int .i64 i] H (.agg (dS pg i q).cells.toArray) := by
 have hPq := hP.q
 have hmax := hPq.max
 have hlt := il hq
 have hQ := hP.qs q (List.mem_of_getElem? hq)
 have hst0 := hQ.s
 have hpa0 := hQ.pa
 have hpl := hQ.pl
 refine FnS.enter Tryz.func42 Tryz.ntmps42 rfl rfl (fun w0 => ?_)
 refine zm2 ?_
 refine TL.box rfl rfl (fun b2 => ?_)
 refine TL.alloc rfl (fun b4 => ?_)
 refine TL.nil (ad ?_); refine gS ?_; refine zm0 ?_; refine TL.run (af rfl hPq rfl (by omega) (by omega)) rfl (TL.run (bh hPq hq rfl rfl) rfl (TL.alloc rfl (fun b5 => ?_)))
 refine nN ?_; refine TL.run (ai rfl rfl hst0) rfl (gw rfl rfl (by first | omega | decide) (by first | omega | decide) (by first | omega | decide) rfl (fun b23 => ?_))
 refine pL ?_; refine TL.run (ai rfl rfl hpa0) rfl ?_; refine zm8 ?_
 refine aV (V := fun k v ob H1 => [(27, .int .i64 k)]) (K := [(1, _), (2, _), (4, _), (5, _), (6, _), (25, _), (26, _)]) (L := fun k v ob H1 => St [] w0 H H ((b23, (List.replicate q.steps.length nilV).set 0 v) :: (b5, q.cells) :: (b4, [.int .i64 0, .int .i64 0, .int .i64 0]) :: (b2, pg.cells) :: ob)) (I := fun k v ob H1 => (0 ≤ k ∧ k ≤ q.params.length) ∧ OwnSl 1 Str.cells v ((q.params.take k.toNat).map (·.name)) ob) (μ := fun k => (q.params.length - k).toNat) 0 nilV [] H ky ⟨⟨by omega, by omega⟩, OwnSl.nil⟩ (fun w hw => by rw [CF]; rw [wJ] at hw; exact hw) (fun k v ob H1 hI => ?_)
 obtain ⟨⟨k0, k1⟩, hO⟩ := hI
 obtain ⟨va, vc, rfl⟩ := hO.form
 refine zm6 ?_
 refine ag rfl (fun c28 => ?_) (fun c28 => ?_)
 ·
  obtain ⟨x, hx⟩ := ao (l := q.params) k0 c28
  refine dC ?_; refine TL.run (af rfl hpa0 rfl (by omega) (by omega)) rfl (TL.run (bh hpa0 hx rfl rfl) rfl (TL.alloc rfl (fun b8 => ?_)))
  refine fu ?_; refine eP ?_; refine bZ [(0, 1), (1, 1), (2, 1), (3, 2), (4, 1), (5, 2), (6, 3), (7, 0), (8, 1), (9, 0)] (by kernel_rfl) (by kernel_rfl) ?_; refine gk ?_; refine su ?_
  refine a7 (aD rfl (.there _ (.here _)) (Cw (by simp; omega))) rfl ?_; refine nr ?_
  refine aE rfl rfl rfl rfl (fun b37 => ?_)
  refine bj (TL.append (enc := Str.cells) rfl rfl rfl hO (Src.own [x.name] (.here _) rfl rfl) (by simp; omega) rfl (.skip _ (.skip _ (.skip _ (.skip _ (.skip _ (.skip _ .all)))))) rfl (fun a38 c38 ob38 hO38 => ?_))
  refine TF.back ?_; refine su ?_; refine bj ?_; refine yV ?_; refine lD ?_
  exact aF (k + 1) _ ob38 H ⟨⟨by omega, by omega⟩, hO38.cast (by rw [bX k0 hx])⟩ ky (fun w hw => by have hw2 := hw.drop.drop; rw [Cu] at hw2; rw [← List.set_set]; exact hw2) (by omega)
 refine pH ?_
 refine TL.pubO hO (.skip _ (.skip _ (.skip _ (.skip _ .all)))) (by simp) (fun HJ leJ hJ => ?_)
 replace hP := hP.le leJ
 replace hQ := hQ.le leJ
 have hJ2 := hJ.cast (show _ = q.params.map (·.name) by rw [bB c28 k0])
 refine iz ?_; refine TL.run (ai rfl rfl hQ.s) rfl ?_; refine zm8 ?_
 refine aV (V := fun (p : xH) v ob H1 => [(44, .int .i64 p.1)]) (K := [(1, _), (2, _), (4, _), (5, _), (6, _), (42, _), (43, _)]) (L := fun (p : xH) v ob H1 => St [] w0 H H1 ((b23, p.2.1) :: (b5, q.cells) :: (b4, [.int .i64 0, .int .i64 0, .int .i64 0]) :: (b2, pg.cells) :: [])) (I := fun (p : xH) v ob H1 => (0 ≤ p.1 ∧ p.1 ≤ q.steps.length) ∧ HJ.le H1 ∧ BRow H1 p.2.1 p.2.2 ∧ p.2.2.length = q.steps.length ∧ dS pg i q = du pg q i (q.steps.drop p.1.toNat) p.1 p.2.2) (μ := fun (p : xH) => (q.steps.length - p.1).toNat) ((0 : Int), (List.replicate q.steps.length nilV).set 0 _, gj q) .nilFunc [] HJ ky ⟨⟨by omega, by omega⟩, Hp.le.refl _, brow0 hJ2 hpl, yu q, rfl⟩ (fun w hw => hw) (fun p v ob H1 hI => ?_)
 obtain ⟨⟨k0, k1⟩, hle, hB, hbl, hS⟩ := hI
 obtain ⟨k, vs, b⟩ := p
 dsimp only at *
 replace hP := hP.le hle
 replace hQ := hQ.le hle
 refine zm6 ?_
 refine ag rfl (fun c45 => ?_) (fun c45 => ?_)
 ·
  obtain ⟨s, hx⟩ := ao (l := q.steps) k0 c45
  have hs := hQ.ss s (List.mem_of_getElem? hx)
  obtain ⟨hm0, hin⟩ := hsh k.toNat s hx
  have hsz := gB hm0
  obtain ⟨vk, bk, hvk, hbk, hBk⟩ := hB.at_ (k := k) (by omega)
  have hvl := hB.1
  refine sK ?_; refine vK ?_; refine TL.run (bh hQ.s hx rfl rfl) rfl (TL.alloc rfl (fun b10 => ?_))
  refine zm0 ?_; refine o6 ?_; refine nn ?_
  refine TQ.run (bu rfl (.there _ (.there _ (.there _ (.there _ (.here _))))) rfl) rfl (TQ.run (bu rfl (.there _ (.there _ (.here _))) rfl) rfl (TQ.run (bu rfl (.here _) rfl) rfl ?_)); refine iB ?_
  refine TQ.run (dT rfl rfl (by omega) (by omega)) rfl (TQ.run (aD rfl (.there _ (.here _)) (get_k hvk)) rfl (gR (ab rfl rfl rfl rfl) (step_ok s hP hQ hs hBk hsz.2 (by omega)) rfl ?_)); refine kL ?_
  refine dN ?_
  refine aW rfl (fun c58 => ?_) (fun c58 => ?_)
  ·
   refine gU ?_; refine ay (ab rfl rfl rfl rfl) (dV _ i k) rfl ?_; refine BM ?_; refine TL.nil (ad (TC.ret ?_)); refine km ?_
   exact ax (.inr rfl) (ae rfl (RVal.cellA rfl (.there _ (.there _ (.there _ (.here _)))) rfl)) (by rw [sn_bad k0 hx hbk c58 hS]; rfl)
  have he0 := c58
  refine d3 ?_; refine gu ?_
  refine cS (ab rfl rfl rfl rfl) (rf s hs (by omega)) rfl (fun v64 H64 ob64 hle64 hp64 => ?_)
  obtain ⟨eH64, hO64⟩ := hp64
  subst H64
  obtain ⟨a64, c64, rfl⟩ := hO64.form
  refine TL.pubO hO64 (.skip _ (.skip _ (.skip _ (.skip _ (.skip _ .all))))) (by simp) (fun HP64 leP64 hR64 => ?_)
  replace hle := hle.trans leP64
  replace hs := hs.le leP64
  replace hB := hB.le leP64
  have hR64m := hR64.max
  refine zm1 ?_; refine gu ?_
  refine cS (ab rfl rfl rfl rfl) (l7 s hs (by omega)) rfl (fun v66 H66 ob66 hle66 hp66 => ?_)
  obtain ⟨eH66, hO66⟩ := hp66
  subst H66
  obtain ⟨a66, c66, rfl⟩ := hO66.form
  refine TL.pubO hO66 (.skip _ (.skip _ (.skip _ (.skip _ (.skip _ .all))))) (by simp) (fun HP66 leP66 hR66 => ?_)
  replace hle := hle.trans leP66
  replace hB := hB.le leP66
  replace hR64 := hR64.le leP66
  have hR66m := hR66.max
  refine TL.run (ai rfl rfl hR66) rfl ?_; refine zm8 ?_
  refine aV (V := fun (e : xH) v2 ob2 H2 => [(68, .int .i64 e.1)]) (K := [(1, _), (2, _), (4, _), (5, _), (6, _), (9, _), (10, _), (11, _), (12, _), (42, _), (43, _), (44, _), (45, _), (46, _), (47, _), (48, _), (49, _), (50, _), (51, _), (52, _), (53, _), (54, _), (55, _), (56, _), (57, _), (58, _), (63, _), (64, _), (65, _), (66, _), (67, _)]) (L := fun (e : xH) v2 ob2 H2 => St [] w0 H H2 ((b10, s.cells) :: (b23, e.2.1) :: (b5, q.cells) :: (b4, [.int .i64 0, .int .i64 0, .int .i64 0]) :: (b2, pg.cells) :: [])) (I := fun (e : xH) v2 ob2 H2 => (0 ≤ e.1 ∧ e.1 ≤ (aS s).length) ∧ HP66.le H2 ∧ BRow H2 e.2.1 e.2.2 ∧ e.2.2.length = q.steps.length ∧ (e.2.1[k.toNat]? = some vk ∧ e.2.2[k.toNat]? = some bk) ∧ fe k (aS s) (cd s) b = fe k ((aS s).drop e.1.toNat) ((cd s).drop e.1.toNat) e.2.2) (μ := fun (e : xH) => ((aS s).length - e.1).toNat) ((0 : Int), vs, b) .nilFunc [] HP66 ky ⟨⟨by omega, by omega⟩, Hp.le.refl _, hB, hbl, ⟨hvk, hbk⟩, rfl⟩ (fun w hw => hw) (fun e v2 ob2 H2 hI => ?_)
  obtain ⟨⟨j0, j1⟩, hle2, hB2, hbl2, ⟨hvk2, hbk2⟩, hG⟩ := hI
  replace hle := hle.trans hle2
  replace hR64 := hR64.le hle2
  replace hR66 := hR66.le hle2
  have hBk2 := hB2.2.1 _ _ _ hvk2 hbk2
  have hBk2m := hB2.2.2 _ _ hbk2
  have hvl2 := hB2.1
  refine zm6 ?_
  refine ag rfl (fun c69 => ?_) (fun c69 => ?_)
  ·
   obtain ⟨t, ht⟩ := ao (l := aS s) j0 c69
   obtain ⟨m, hm⟩ := DI j0 c69
   have htb := hin t (List.mem_of_getElem? ht)
   have hbn := tU s
   have hk3 : ((k.toNat : Nat) : Int) = k := by omega
   refine sK ?_; refine TL.run (af rfl hR66 rfl (by omega) (by omega)) rfl (TL.run (aM hR66 ht rfl rfl) rfl ?_); refine kK ?_; refine eJ ?_
   refine aB rfl rfl rfl rfl (fun b75 => ?_)
   refine zm3 ?_; refine fS ?_
   refine TL.run (aD rfl (.there _ (.there _ (.here _))) (get_k hvk2)) rfl (TL.append (enc := Str.cells) rfl rfl rfl (OwnSl.blk (enc := Str.cells) [] rfl rfl (by decide)) (Src.sl hBk2) (by simp; omega) rfl (.take (.here _) rfl) rfl (fun a80 c80 ob80 hO80 => ?_))
   refine vI ?_; refine eJ ?_; refine TL.run (af rfl hR64 rfl (by omega) (by omega)) rfl (TL.run (aM hR64 hm rfl rfl) rfl (TL.run (bV rfl rfl rfl) rfl (TL.nil ?_)))
   refine ad (aW rfl (fun c86 => ?_) (fun c86 => ?_))
   ·
    refine eP ?_; refine bZ [(0, 1), (1, 1), (2, 1), (3, 1), (4, 1), (5, 2), (6, 1), (7, 1), (8, 1), (9, 2), (10, 3), (11, 0), (12, 1), (13, 0)] (by kernel_rfl) (by kernel_rfl) ?_; refine vB ?_; refine su ?_
    refine a7 (aD rfl (.there _ (.here _)) (Cv (by omega))) rfl ?_; refine gk ?_
    refine az (af rfl hR64 rfl (by omega) (by omega)) rfl (a7 (aM hR64 hm rfl rfl) rfl (aE rfl rfl rfl rfl (fun b97 => ?_)))
    refine bj (TL.append (enc := Str.cells) rfl rfl rfl hO80 (Src.own [m] (.here _) rfl rfl) (by simp; omega) rfl (.skip _ (.skip _ (.skip _ (.skip _ (.skip _ (.skip _ .all)))))) rfl (fun a98 c98 ob98 hO98 => ?_))
    refine TF.back ?_; refine su ?_; refine bj ?_; refine yV ?_; refine TF.back (TF.nil (bA (ad ?_)))
    refine TC.region (TL.pubO hO98 (.skip _ (.skip _ (.skip _ (.skip _ (.skip _ (.skip _ .all)))))) (by simp) (fun HPb lePb hPb => ?_))
    replace hle2 := hle2.trans lePb
    replace hB2 := hB2.le lePb
    refine TL.run ((by first | exact dc rfl rfl (by omega) (by omega) | exact ah rfl)) rfl (TL.run (ah rfl) rfl (TL.nil (aF (e.1 + 1, e.2.1.set t.toNat _, e.2.2.set t.toNat (bk ++ [m])) .nilFunc [] HPb ⟨⟨by omega, by omega⟩, hle2, (hB2.set hPb (by first | omega | (simp; omega))), by rw [List.length_set]; exact hbl2, ⟨by rw [List.getElem?_set, if_neg (by omega)]; exact hvk2, by rw [List.getElem?_set, if_neg (by omega)]; exact hbk2⟩, by rw [← putAt_T hbk2 c86]; exact zV j0 ht hm hG⟩ ky (fun w hw => by have hw2 := hw.drop; simp only [Cu, List.set_set] at hw2; exact hw2) (by omega))))
   refine TC.skip (bA (ad (TC.region ?_)))
   refine TL.pubO hO80 (.skip _ (.skip _ (.skip _ (.skip _ (.skip _ .all))))) (by simp) (fun HPb lePb hPb => ?_)
   replace hle2 := hle2.trans lePb
   replace hB2 := hB2.le lePb
   refine TL.run ((by first | exact dc rfl rfl (by omega) (by omega) | exact ah rfl)) rfl (TL.run (ah rfl) rfl (TL.nil (aF (e.1 + 1, e.2.1.set t.toNat _, e.2.2.set t.toNat bk) .nilFunc [] HPb ⟨⟨by omega, by omega⟩, hle2, (hB2.set hPb (by first | omega | (simp; omega))), by rw [List.length_set]; exact hbl2, ⟨by rw [List.getElem?_set, if_neg (by omega)]; exact hvk2, by rw [List.getElem?_set, if_neg (by omega)]; exact hbk2⟩, by rw [← putAt_F hbk2 c86]; exact zV j0 ht hm hG⟩ ky (fun w hw => by have hw2 := hw; simp only [Cu, List.set_set] at hw2; exact hw2) (by omega))))
  refine vC ?_
  exact aF (i := (k, vs, b)) (k + 1, e.2.1, e.2.2) .nilFunc [] H2 ⟨⟨by omega, by omega⟩, hle, hB2, hbl2, (bg_end j0 c69 hG) ▸ sn_next k0 hx hbk he0 hS⟩ ky (fun w hw => hw.drop) (by omega)
 refine sr ?_; refine vA ?_
 exact ax (.inr rfl) (ae rfl (RVal.cellA rfl (.there _ (.there _ (.here _))) rfl)) (by rw [sn_end k0 c45 hS]; rfl)
end Go.Sx
namespace Go.Sx
open Go Go.Proofs
theorem chk2_ok {H : Hp} {pg : SProg} {b1 : Nat} (hP : ProgOk H pg) (hM : MaxG H) (hb : PgAt H b1 pg) :
  FnS Tryz.prog 36 [.pointer (some ⟨b1, 0, none⟩)] H (.agg (gb pg).cells.toArray) := by
 refine FnS.enter Tryz.func36 Tryz.ntmps36 rfl rfl (fun w0 => ?_)
 refine zm2 ?_
 refine TL.alloc rfl (fun b1 => ?_)
 refine gV ?_; refine TL.run (jH rfl rfl hb.add) rfl (ay (ab rfl rfl rfl rfl) (all_ok hP hM) rfl ?_); refine iU ?_
 exact ax (.inr rfl) (ae rfl (RVal.cellA rfl (.here _) rfl)) rfl
theorem chk3_ok {H : Hp} {pg : SProg} {b1 : Nat} (hP : ProgOk H pg) (hb : PgAt H b1 pg) :
  FnS Tryz.prog 40 [.pointer (some ⟨b1, 0, none⟩)] H (.agg (fP pg.procs).cells.toArray) := by
 have hq := hP.q
 have hmax := hq.max
 refine FnS.enter Tryz.func40 Tryz.ntmps40 rfl rfl (fun w0 => ?_)
 refine zm2 ?_
 refine TL.alloc rfl (fun b1 => ?_)
 refine TL.nil (ad (TC.seq ?_)); refine zm2 ?_; refine TL.run (jH rfl rfl hb.add) rfl (ay (ab rfl rfl rfl rfl) (jB di hP) rfl ?_); refine zm1 ?_
 refine cf (decide (dq pg.procs di < 0) || decide (0 < ((kX pg.procs (dq pg.procs di)).params.length : Int))) 16 [(1, _)] ⟨rfl, trivial⟩ ?_ ?_
 ·
  refine o3 ?_
  refine aj (s := 7) rfl (fun g7 => ?_) (fun g7 => ?_)
  ·
   have q7 := of_decide_eq_true g7
   refine eB ?_; refine mE ?_
   exact a8 rfl (by first | (rw [hgp]; simp_all; done) | (simp_all; done) | (simp [*]; done) | (simp_all; omega)) ⟨rfl, trivial⟩
  have q7 := of_decide_eq_false g7
  have hfr := qZ pg.procs di
  obtain ⟨x, hx⟩ := ao (l := pg.procs) (i := dq pg.procs di) (by omega) (by omega)
  have hxp := (hP.qs x (List.mem_of_getElem? hx)).pa.max
  have hgp : kX pg.procs (dq pg.procs di) = x := by unfold kX; rw [hx]; rfl
  refine jn ?_; refine aw rfl rfl (bI rfl (hb 2 _ rfl)) rfl ?_; refine cN ?_; refine aw rfl rfl (af rfl hq rfl (by omega) (by omega)) rfl ?_; refine jn ?_
  refine aw rfl rfl (br hq hx rfl rfl) rfl (aw rfl rfl (ai rfl rfl (hP.qs x (List.mem_of_getElem? hx)).pa) rfl ?_); refine ii ?_
  exact a8 rfl (by first | (rw [hgp]; simp_all; done) | (simp_all; done) | (simp [*]; done) | (simp_all; omega)) ⟨rfl, trivial⟩
 refine TC.cond rfl (fun c16 => ?_) (fun c16 => ?_)
 ·
  refine zm2 ?_; refine ay (ab rfl rfl rfl rfl) (dV 1504 (-1) (-1)) rfl ?_; refine iU ?_
  exact al (ax (.inr rfl) (ae rfl (RVal.cellA rfl (.here _) rfl)) (by first | (rw [Dg c16]; rfl) | (rw [Df c16]; rfl)))
 refine d3 ?_; refine kq ?_; refine iU ?_
 exact ax (.inr rfl) (ae rfl (RVal.cellA rfl (.here _) rfl)) (by first | (rw [Dg c16]; rfl) | (rw [Df c16]; rfl))
theorem zQ {H : Hp} {b1 : Nat} {a : Option Addr} {n c : Nat} :
  Fn Tryz.prog 34 [.slice a n c, .pointer (some ⟨b1, 0, none⟩)] H (fun v H1 => ∃ b2, v = .func (.func 35) #[] #[.pointer (some ⟨b1, 0, none⟩), .pointer (some ⟨b2, 0, none⟩)] ∧ CellAt H1 b2 (.slice a n c)) := by
 refine Fn.enter Tryz.func34 Tryz.ntmps34 rfl rfl (fun w0 => ?_)
 refine zm2 ?_
 refine oU rfl rfl (fun b2 => ?_)
 refine vN ?_
 refine dK (by simp) (fun H_b2 le_b2 rd_b2 => ?_)
 refine ff ?_
 exact aQ (.inr rfl) (ae rfl (RVal.tmp rfl)) ⟨b2, rfl, rd_b2 0 _ rfl⟩
end Go.Sx
namespace Go.Sx
open Go Go.Proofs
theorem Du {H : Hp} {pg : SProg} {b1 b2 : Nat} {lv : Value} (hP : ProgOk H pg) (hM : MaxG H) (hb : PgAt H b1 pg) (hc : CellAt H b2 lv) (hL : RdSl H 1 Fc.cells lv [38, 39]) :
  FnS Tryz.prog 35 [.pointer (some ⟨b1, 0, none⟩), .pointer (some ⟨b2, 0, none⟩)] H (.agg (cb (aX pg.procs) pg.procs 0).cells.toArray) := by
 have hq := hP.q
 have hmax := hq.max
 have one0 := hL.isOne
 obtain ⟨va, vc, rfl⟩ := hL.len
 refine FnS.enter Tryz.func35 Tryz.ntmps35 rfl rfl (fun w0 => ?_)
 refine zm2 ?_
 refine TL.alloc rfl (fun b2 => ?_)
 refine TL.nil (ad (TC.seq ?_)); refine gr ?_; refine TL.run (bI rfl (hb 2 _ rfl)) rfl (TL.run (ai rfl rfl hq) rfl ?_); refine zm8 ?_
 refine TC.loop (V := fun k => [(10, .int .i64 k)]) (K := [(0, _), (1, _), (2, _), (9, _)]) (L := fun k => _) (I := fun k => (0 ≤ k ∧ k ≤ pg.procs.length) ∧ cb (aX pg.procs) pg.procs 0 = cb (aX pg.procs) (pg.procs.drop k.toNat) k) (μ := fun k => (pg.procs.length - k).toNat) (i := (0 : Int)) ky ⟨⟨by omega, by omega⟩, rfl⟩ (fun w hw => hw) (fun k hI => ?_)
 obtain ⟨⟨k0, k1⟩, hE⟩ := hI
 refine zm6 ?_
 refine ag rfl (fun c11 => ?_) (fun c11 => ?_)
 ·
  obtain ⟨q, hx⟩ := ao (l := pg.procs) k0 c11
  refine nK ?_; refine zm2 ?_; refine TL.run (bI rfl hc) rfl (TL.run (ai rfl rfl hL) rfl ?_); refine zm8 ?_; refine TC.rounds 3 (eA ?_); refine zm6 ?_
  refine ag rfl (fun c16_0 => ?_) (fun c16_0 => ?_)
  ·
   refine dC ?_; refine nL ?_; refine TL.run (aM hL (show ([38, 39] : List FuncId)[0]? = some _ from rfl) rfl rfl) rfl ?_; refine kM ?_; refine TL.run (jH rfl rfl hb.add) rfl ?_; refine zm0 ?_
   refine ay (ab rfl rfl rfl rfl) (head_ok k hP hM k0 hx) rfl (TL.alloc rfl (fun b6 => ?_))
   refine nG ?_
   refine aW rfl (fun c25_0 => ?_) (fun c25_0 => ?_)
   ·
    refine pi ?_; refine vD ?_
    exact ax (.inr rfl) (ae rfl (RVal.cellA rfl (.there _ (.here _)) rfl)) (by rw [q4 (f := (aX pg.procs)) k0 hx (by rw [hs_1 c25_0]; exact c25_0) hE, hs_1 c25_0]; rfl)
   have hz := kW c25_0
   refine pE ?_
   refine ag rfl (fun c16_1 => ?_) (fun c16_1 => ?_)
   ·
    refine dC ?_; refine nL ?_; refine TL.run (aM hL (show ([38, 39] : List FuncId)[1]? = some _ from rfl) rfl rfl) rfl ?_; refine kM ?_; refine TL.run (jH rfl rfl hb.add) rfl ?_; refine zm0 ?_
    refine ay (ab rfl rfl rfl rfl) (Cp k hP k0 hx hz.2.1 hz.2.2) rfl (TL.alloc rfl (fun b6x => ?_))
    refine nG ?_
    refine aW rfl (fun c25_1 => ?_) (fun c25_1 => ?_)
    ·
     refine gu ?_; refine vA ?_; refine vD ?_
     exact ax (.inr rfl) (ae rfl (RVal.cellA rfl (.there _ (.there _ (.here _))) rfl)) (by rw [q4 (f := (aX pg.procs)) k0 hx (by rw [hs_2 c25_0]; exact c25_1) hE, hs_2 c25_0]; rfl)
    refine pE ?_
    refine ag rfl (fun c16_2 => ?_) (fun c16_2 => ?_)
    · exact absurd c16_2 (by decide)
    refine vC ?_
    exact aR (k + 1) ⟨⟨by omega, by omega⟩, tO k0 hx (by rw [hs_2 c25_0]; exact c25_1) hE⟩ ky (fun w hw => hw.drop.drop) (by omega)
   exact absurd (by decide) c16_1
  exact absurd (by decide) c16_0
 refine sr ?_; refine iU ?_
 exact ax (.inr rfl) (ae rfl (RVal.cellA rfl (.here _) rfl)) (by rw [xn k0 c11 hE]; rfl)
theorem Dv {H : Hp} {pg : SProg} {b1 b2 : Nat} {lv : Value} (hP : ProgOk H pg) (hM : MaxG H) (hb : PgAt H b1 pg) (hc : CellAt H b2 lv) (hL : RdSl H 1 Fc.cells lv [42]) (hgood : ∀ q ∈ pg.procs, xI q) :
  FnS Tryz.prog 35 [.pointer (some ⟨b1, 0, none⟩), .pointer (some ⟨b2, 0, none⟩)] H (.agg (cb (dS pg) pg.procs 0).cells.toArray) := by
 have hq := hP.q
 have hmax := hq.max
 have one0 := hL.isOne
 obtain ⟨va, vc, rfl⟩ := hL.len
 refine FnS.enter Tryz.func35 Tryz.ntmps35 rfl rfl (fun w0 => ?_)
 refine zm2 ?_
 refine TL.alloc rfl (fun b2 => ?_)
 refine TL.nil (ad (TC.seq ?_)); refine gr ?_; refine TL.run (bI rfl (hb 2 _ rfl)) rfl (TL.run (ai rfl rfl hq) rfl ?_); refine zm8 ?_
 refine TC.loop (V := fun k => [(10, .int .i64 k)]) (K := [(0, _), (1, _), (2, _), (9, _)]) (L := fun k => _) (I := fun k => (0 ≤ k ∧ k ≤ pg.procs.length) ∧ cb (dS pg) pg.procs 0 = cb (dS pg) (pg.procs.drop k.toNat) k) (μ := fun k => (pg.procs.length - k).toNat) (i := (0 : Int)) ky ⟨⟨by omega, by omega⟩, rfl⟩ (fun w hw => hw) (fun k hI => ?_)
 obtain ⟨⟨k0, k1⟩, hE⟩ := hI
 refine zm6 ?_
 refine ag rfl (fun c11 => ?_) (fun c11 => ?_)
 ·
  obtain ⟨q, hx⟩ := ao (l := pg.procs) k0 c11
  have hg := hgood q (List.mem_of_getElem? hx)
  refine nK ?_; refine zm2 ?_; refine TL.run (bI rfl hc) rfl (TL.run (ai rfl rfl hL) rfl ?_); refine zm8 ?_; refine TC.rounds 2 (eA ?_); refine zm6 ?_
  refine ag rfl (fun c16_0 => ?_) (fun c16_0 => ?_)
  ·
   refine dC ?_; refine nL ?_; refine TL.run (aM hL (show ([42] : List FuncId)[0]? = some _ from rfl) rfl rfl) rfl ?_; refine kM ?_; refine TL.run (jH rfl rfl hb.add) rfl ?_; refine zm0 ?_
   refine ay (ab rfl rfl rfl rfl) (Cx k hP k0 hx hg.1 hg.2.1 hg.2.2.1 hg.2.2.2) rfl (TL.alloc rfl (fun b6 => ?_))
   refine nG ?_
   refine aW rfl (fun c25_0 => ?_) (fun c25_0 => ?_)
   ·
    refine pi ?_; refine vD ?_
    exact ax (.inr rfl) (ae rfl (RVal.cellA rfl (.there _ (.here _)) rfl)) (by rw [q4 (f := (dS pg)) k0 hx c25_0 hE]; rfl)
   refine pE ?_
   refine ag rfl (fun c16_1 => ?_) (fun c16_1 => ?_)
   · exact absurd c16_1 (by decide)
   refine vC ?_
   exact aR (k + 1) ⟨⟨by omega, by omega⟩, tO k0 hx c25_0 hE⟩ ky (fun w hw => hw.drop) (by omega)
  exact absurd (by decide) c16_0
 refine sr ?_; refine iU ?_
 exact ax (.inr rfl) (ae rfl (RVal.cellA rfl (.here _) rfl)) (by rw [xn k0 c11 hE]; rfl)
end Go.Sx
namespace Go.Sx
open Go Go.Proofs
theorem ek {H : Hp} {pg : SProg} (hP : ProgOk H pg) (hM : MaxG H) :
  Fn Tryz.prog 13 [.agg pg.cells.toArray] H (fun v H1 => v = .agg (bW pg).cells.toArray) := by
 refine Fn.enter Tryz.func13 Tryz.ntmps13 rfl rfl (fun w0 => ?_)
 refine zm2 ?_
 refine TL.box rfl rfl (fun b1 => ?_)
 refine TL.alloc rfl (fun b2 => ?_)
 refine gV ?_; refine eI (.there _ (.here _)) (dK (by simp) (fun H_b1 le_b1 rd_b1 => ?_))
 replace hP := hP.le le_b1
 replace hM := hM.le le_b1
 have hb : PgAt H_b1 b1 pg := rd_b1
 refine kK ?_; refine eJ ?_
 refine aB rfl rfl rfl rfl (fun b11 => ?_)
 refine dK (by simp) (fun H_b11 le_b11 rd_b11 => ?_)
 replace hP := hP.le le_b11
 replace hM := hM.le le_b11
 replace hb := hb.le le_b11
 have hL11 : RdSl H_b11 1 Fc.cells _ ([38, 39]) := RdSl.blk (cap := 2) rd_b11 (by intro x hx; rfl) (by kernel_rfl) (by show 2 ≤ 9223372036854775807; decide)
 refine TL.call (ab rfl rfl rfl rfl) (zQ) rfl (fun v12 H12 hle12 hp12 => ?_)
 obtain ⟨bx12, rfl, hC12⟩ := hp12
 replace hP := hP.le hle12
 replace hM := hM.le hle12
 replace hb := hb.le hle12
 replace hL11 := hL11.le hle12
 refine zm3 ?_
 refine aB rfl rfl rfl rfl (fun b15 => ?_)
 refine dK (by simp) (fun H_b15 le_b15 rd_b15 => ?_)
 replace hP := hP.le le_b15
 replace hM := hM.le le_b15
 replace hb := hb.le le_b15
 replace hL11 := hL11.le le_b15
 replace hC12 := hC12.le le_b15
 have hL15 : RdSl H_b15 1 Fc.cells _ ([42]) := RdSl.blk (cap := 1) rd_b15 (by intro x hx; rfl) (by kernel_rfl) (by show 1 ≤ 9223372036854775807; decide)
 refine TL.call (ab rfl rfl rfl rfl) (zQ) rfl (fun v16 H16 hle16 hp16 => ?_)
 obtain ⟨bx16, rfl, hC16⟩ := hp16
 replace hP := hP.le hle16
 replace hM := hM.le hle16
 replace hb := hb.le hle16
 replace hL11 := hL11.le hle16
 replace hC12 := hC12.le hle16
 replace hL15 := hL15.le hle16
 refine aB rfl rfl rfl rfl (fun b17 => ?_)
 refine sC ?_; refine TL.run (dv rfl rfl) rfl ?_; refine zm8 ?_; refine TC.rounds 5 (eA ?_); refine zm6 ?_; refine bO rfl ?_; refine dC ?_; refine fS ?_; refine k7 ?_; refine kM ?_
 refine ay (ab rfl rfl rfl rfl) (chk2_ok hP hM hb) rfl (TL.alloc rfl (fun b7 => ?_))
 refine nG ?_
 refine aW rfl (fun c28_0 => ?_) (fun c28_0 => ?_)
 ·
  refine gu ?_; refine vA ?_; refine it ?_
  exact aQ (.inr rfl) (ae rfl (RVal.cellA rfl (.there _ (.there _ (.here _))) rfl)) (by rw [chk_0 c28_0]; rfl)
 refine pE ?_; refine bO rfl ?_; refine dC ?_; refine fS ?_; refine oZ ?_; refine kM ?_; refine ay (ab rfl rfl rfl rfl) (Du hP hM hb hC12 hL11) rfl (TL.alloc rfl (fun b7x => ?_))
 refine nG ?_
 refine aW rfl (fun c28_1 => ?_) (fun c28_1 => ?_)
 ·
  refine gu ?_; refine BM ?_; refine TL.nil (ad (TC.ret ?_)); refine it ?_
  exact aQ (.inr rfl) (ae rfl (RVal.cellA rfl (.there _ (.there _ (.there _ (.here _)))) rfl)) (by rw [chk_1 c28_0 c28_1]; rfl)
 refine pE ?_; refine bO rfl ?_; refine dC ?_; refine fS ?_; refine no ?_; refine kM ?_; refine ay (ab rfl rfl rfl rfl) (chk3_ok hP hb) rfl (TL.alloc rfl (fun b7xx => ?_))
 refine nG ?_
 refine aW rfl (fun c28_2 => ?_) (fun c28_2 => ?_)
 ·
  refine gu ?_; refine cF rfl rfl rfl rfl rfl (.there _ (.there _ (.there _ (.there _ (.here _))))) rfl rfl (TL.nil (ad (TC.ret ?_))); refine it ?_
  exact aQ (.inr rfl) (ae rfl (RVal.cellA rfl (.there _ (.there _ (.there _ (.there _ (.here _))))) rfl)) (by rw [chk_2 c28_0 c28_1 c28_2]; rfl)
 refine pE ?_; refine bO rfl ?_; refine dC ?_; refine fS ?_; refine kv ?_; refine kM ?_
 refine ay (ab rfl rfl rfl rfl) (Dv hP hM hb hC16 hL15 (tP _ _ c28_1)) rfl (TL.alloc rfl (fun b7xxx => ?_))
 refine nG ?_
 refine aW rfl (fun c28_3 => ?_) (fun c28_3 => ?_)
 ·
  refine gu ?_; refine lA ?_; refine it ?_
  exact aQ (.inr rfl) (ae rfl (RVal.cellA rfl (.there _ (.there _ (.there _ (.there _ (.there _ (.here _)))))) rfl)) (by rw [chk_3 c28_0 c28_1 c28_2]; rfl)
 refine pE ?_; refine dG rfl ?_; refine sr ?_; refine lA ?_
 exact aQ (.inr rfl) (ae rfl (RVal.cellA rfl (.there _ (.there _ (.there _ (.there _ (.there _ (.here _)))))) rfl)) (by rw [chk_ok c28_3 c28_0 c28_1 c28_2]; rfl)
end Go.Sx
