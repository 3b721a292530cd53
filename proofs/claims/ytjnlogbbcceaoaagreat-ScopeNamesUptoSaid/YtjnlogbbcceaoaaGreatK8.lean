import Derived.Test.YtjnlogbbcceaoaaGreatK7
set_option linter.all false
set_option maxRecDepth 100000
namespace Go.Sx
open Go Go.Proofs
set_option maxHeartbeats 8000000 in
theorem step_ok {H : Hp} {pg : SProg} {vb : Value} {q : SProc} {bound : List Str} (s : SStep) (hP : ProgOk H pg) (hQ : ProcOk H q) (hs : StepOk H s) (hB : RdSl H 1 Str.cells vb bound) (hl : s.args.length ≤ 6 ∧ s.casts.length ≤ 4 ∧ ∀ c ∈ s.casts, c.args.length ≤ 6) (hw7 : s.ways.length ≤ 1000) :
  FnS Tryz.prog 86 [.agg pg.cells.toArray, .agg q.cells.toArray, .agg s.cells.toArray, vb] H (.int .i64 (stepE pg q.terms s bound)) := by
 have oneB := hB.isOne
 have hTl := terms_len hl
 refine FnS.enter Tryz.func86 Tryz.ntmps86 rfl rfl (fun w0 => ?_)
 refine zm4 ?_
 refine TL.box rfl rfl (fun b4 => ?_)
 refine TL.box rfl rfl (fun b5 => ?_)
 refine TL.box rfl rfl (fun b6 => ?_)
 refine zm2 ?_; refine zm142 ?_; refine zm88 ?_; refine zm19 ?_
 refine TL.callO (enters rfl rfl rfl rfl) (terms_ok s hs hl) rfl (fun v19 H19 ob19 hle19 hp19 => ?_)
 obtain ⟨eH19, hO19⟩ := hp19
 subst H19
 obtain ⟨a19, c19, rfl⟩ := hO19.form
 refine TL.pubO hO19 (.skip _ (.skip _ (.skip _ .all))) (by simp) (fun HP19 leP19 hR19 => ?_)
 replace hP := hP.le leP19
 replace hQ := hQ.le leP19
 replace hs := hs.le leP19
 replace hB := hB.le leP19
 refine TL.run (pr_lenSl rfl rfl hR19) rfl ?_; refine zm10 ?_
 refine TC.loop4 (V := fun k v ob H1 => [(9, v), (21, .int .i64 k)]) (K := [(3, _), (4, _), (5, _), (6, _), (8, _), (19, _), (20, _)]) (L := fun k v ob H1 => St [] w0 H H1 ((b6, _) :: (b5, _) :: (b4, _) :: ob)) (I := fun k v ob H1 => (0 ≤ k ∧ k ≤ (termsS s).length) ∧ HP19.le H1 ∧ OwnSl 1 Str.cells v (((termsS s).take k.toNat).flatMap (varsS q.terms)) ob) (μ := fun k => ((termsS s).length - k).toNat) 0 (.slice none 0 0) [] HP19 ⟨rfl, rfl, rfl, rfl, rfl, rfl, rfl, rfl, rfl, trivial⟩ ⟨⟨by omega, by omega⟩, Hp.le.refl _, OwnSl.nil⟩ (fun w hw => hw) (fun k v ob H1 hI => ?_)
 obtain ⟨⟨k0, k1⟩, hle, hO⟩ := hI
 obtain ⟨va, vc, rfl⟩ := hO.form
 have hfl := vars_fl (ts := q.terms) ((termsS s).take k.toNat)
 rw [List.length_take] at hfl
 replace hP := hP.le hle
 replace hQ := hQ.le hle
 replace hs := hs.le hle
 replace hB := hB.le hle
 replace hR19 := hR19.le hle
 refine zm11 ?_
 refine TC.condD rfl (fun c22 => ?_) (fun c22 => ?_)
 ·
  obtain ⟨x, hx⟩ := getSome (l := termsS s) k0 c22
  refine zm15 ?_; refine TL.run (pr_indexSl rfl hR19 rfl (by omega) (by omega)) rfl (TL.run (pr_el0 hR19 hx rfl rfl) rfl ?_); refine zm2 ?_; refine zm66 ?_; refine zm89 ?_
  refine TL.call (enters rfl rfl rfl rfl) (Vars_ok x hQ.t hQ.tn) rfl (fun v29 H29 hle29 hp29 => ?_)
  replace hle := hle.trans hle29
  have hV29 : RdSl H29 1 Str.cells v29 (varsS q.terms x) := hp29
  have hvl29 := varsS_len q.terms x
  obtain ⟨la29, lc29, rfl⟩ := hV29.len
  refine TL.append (enc := Str.cells) rfl rfl rfl hO (Src.sl hV29) (by first | omega | (simp only [List.length_append]; omega)) rfl (.skip _ (.skip _ (.skip _ .all))) rfl (fun a30 c30 ob30 hO30 => ?_)
  refine zm136 ?_
  exact TX.round4 (k + 1) _ ob30 H29 ⟨⟨by omega, by omega⟩, hle, hO30.cast (by rw [take_snoc k0 hx, List.flatMap_append]; simp)⟩ ⟨rfl, rfl, rfl, rfl, rfl, rfl, rfl, rfl, rfl, trivial⟩ (fun w hw => hw) (by omega)
 ·
  refine zm141 ?_
  refine TC.sw (decide (s.kind = 4) || (decide (s.kind = 5) || decide (s.kind = 9))) 44 [(3, _), (4, _), (6, _), (8, _), (9, _)] ⟨rfl, rfl, rfl, rfl, rfl, trivial⟩ ?_ ?_
  ·
   refine zm86 ?_; refine zm9 ?_
   refine TL.split (s := 35) rfl (fun g35 => ?_) (fun g35 => ?_)
   ·
    have q35 := of_decide_eq_true g35
    refine zm46 ?_
    exact zq905
   ·
    have q35 := of_decide_eq_false g35
    refine zm130 ?_
    refine TL.split (s := 40) rfl (fun g40 => ?_) (fun g40 => ?_)
    ·
     have q40 := of_decide_eq_true g40
     exact zq905
    ·
     have q40 := of_decide_eq_false g40
     refine zm13 ?_; refine zm85 ?_
     exact TX.sw rfl (by simp_all) ⟨rfl, rfl, rfl, rfl, rfl, trivial⟩
  refine TC.cond rfl (fun c44 => ?_) (fun c44 => ?_)
  ·
   have h44 : s.kind = 4 ∨ s.kind = 5 ∨ s.kind = 9 := by simp_all
   refine zm52 ?_
   refine TL.bslice rfl rfl rfl rfl (fun b48 => ?_)
   refine TL.append (enc := Str.cells) rfl rfl rfl hO (Src.own [s.name] (.here _) rfl rfl) (by simp only [List.length_append, List.length_cons, List.length_nil]; omega) rfl (.skip _ (.skip _ (.skip _ (.skip _ .all)))) rfl (fun a49 c49 ob49 hO49 => ?_)
   refine zm226 ?_
   refine TL.pubO hO49 (.skip _ (.skip _ (.skip _ (.skip _ .all)))) (by simp) (fun HA leA hA => ?_)
   replace hP := hP.le leA
   replace hs := hs.le leA
   replace hB := hB.le leA
   have hA2 := hA.cast (show _ = askedS q.terms s by unfold askedS; rw [if_pos (by first | exact h44 | omega), take_all c22 k0])
   clear hA
   have hAm := hA2.max
   refine TL.run (pr_lenSl rfl rfl hA2) rfl ?_; refine zm10 ?_
   refine TC.loop (V := fun k => [(52, .int .i64 k)]) (K := [(3, _), (4, _), (6, _), (8, _), (50, _), (51, _)]) (L := fun k => _) (I := fun k => (0 ≤ k ∧ k ≤ (askedS q.terms s).length) ∧ (askedS q.terms s).all (fun n => hasS bound n) = ((askedS q.terms s).drop k.toNat).all (fun n => hasS bound n)) (μ := fun k => ((askedS q.terms s).length - k).toNat) (i := (0 : Int)) ⟨rfl, rfl, rfl, rfl, rfl, rfl, rfl, trivial⟩ ⟨⟨by omega, by omega⟩, rfl⟩ (fun w hw => hw) (fun k hI => ?_)
   obtain ⟨⟨k0, k1⟩, hal⟩ := hI
   refine zm11 ?_
   refine TC.condD rfl (fun c53 => ?_) (fun c53 => ?_)
   · exact zq906
   ·
    have h1 := all_end (p := (fun n => hasS bound n)) k0 c53 hal
    refine zm90 ?_; refine zm70 ?_
    refine TL.callO (enters rfl rfl rfl rfl) (binds_ok s hs hw7) rfl (fun v62 H62 ob62 hle62 hp62 => ?_)
    obtain ⟨eH62, hO62⟩ := hp62
    subst H62
    obtain ⟨a62, c62, rfl⟩ := hO62.form
    refine TL.pubO hO62 (.skip _ (.skip _ (.skip _ (.skip _ .all)))) (by simp) (fun HP62 leP62 hR62 => ?_)
    replace hP := hP.le leP62
    replace hs := hs.le leP62
    replace hB := hB.le leP62
    have hBm := RdSl.max hR62
    have hCm := hs.c.max
    refine TL.run (pr_lenSl rfl rfl hR62) rfl ?_; refine zm10 ?_
    refine TC.loop (V := fun k => [(64, .int .i64 k)]) (K := [(3, _), (4, _), (6, _), (8, _), (62, _), (63, _)]) (L := fun k => _) (I := fun k => (0 ≤ k ∧ k ≤ (bindsS s).length) ∧ (bindsS s).all (fun n => !(!decide (n = []) && hasS bound n)) = ((bindsS s).drop k.toNat).all (fun n => !(!decide (n = []) && hasS bound n))) (μ := fun k => ((bindsS s).length - k).toNat) (i := (0 : Int)) ⟨rfl, rfl, rfl, rfl, rfl, rfl, rfl, trivial⟩ ⟨⟨by omega, by omega⟩, rfl⟩ (fun w hw => hw) (fun k hI => ?_)
    obtain ⟨⟨k0, k1⟩, hal⟩ := hI
    refine zm11 ?_
    refine TC.condD rfl (fun c65 => ?_) (fun c65 => ?_)
    · exact zq948
    ·
     have h2 := all_end (p := (fun n => !(!decide (n = []) && hasS bound n))) k0 c65 hal
     refine zm141 ?_
     refine TC.sw (!decide (s.proc = []) && !callsB pg.procs s.proc s.args.length) 88 [(4, _), (6, _), (8, _)] ⟨rfl, rfl, rfl, trivial⟩ ?_ ?_
     ·
      refine zm146 ?_; refine zm232 ?_
      refine TL.split (s := 79) rfl (fun g79 => ?_) (fun g79 => ?_)
      ·
       have q79 := of_ndec_true g79
       refine zm369 ?_; refine zm36 ?_; refine zm36 ?_
       exact zq971
      · exact zq973
     refine TC.cond rfl (fun c88 => ?_) (fun c88 => ?_)
     · exact zq980
     ·
      refine zm12 ?_; refine zm224 ?_; refine TL.run (pr_lenSl rfl rfl hs.c) rfl ?_; refine zm10 ?_
      refine TC.loop (V := fun k => [(92, .int .i64 k)]) (K := [(4, _), (6, _), (8, _), (90, _), (91, _)]) (L := fun k => _) (I := fun k => (0 ≤ k ∧ k ≤ s.casts.length) ∧ s.casts.all (fun c => callsB pg.procs c.proc (c.args.length + 1)) = (s.casts.drop k.toNat).all (fun c => callsB pg.procs c.proc (c.args.length + 1))) (μ := fun k => (s.casts.length - k).toNat) (i := (0 : Int)) ⟨rfl, rfl, rfl, rfl, rfl, rfl, trivial⟩ ⟨⟨by omega, by omega⟩, rfl⟩ (fun w hw => hw) (fun k hI => ?_)
      obtain ⟨⟨k0, k1⟩, hal⟩ := hI
      refine zm11 ?_
      refine TC.condD rfl (fun c93 => ?_) (fun c93 => ?_)
      ·
       obtain ⟨xC, hxC⟩ := getSome (l := s.casts) k0 c93
       have hxl := hl.2.2 xC (List.mem_of_getElem? hxC)
       refine zm15 ?_; refine TL.run (pr_indexSl rfl hs.c rfl (by omega) (by omega)) rfl (TL.run (pr_elA hs.c hxC rfl rfl) rfl (TL.alloc rfl (fun b17 => ?_)))
       refine zm122 ?_; refine zm370 ?_
       exact zq986
      ·
       have h4 := all_end (p := (fun c => callsB pg.procs c.proc (c.args.length + 1))) k0 c93 hal
       refine zm141 ?_
       refine TC.sw (decide (s.kind = 8) && !opensB pg s) 114 [(8, _)] ⟨rfl, trivial⟩ ?_ ?_
       ·
        refine zm146 ?_; refine zm9 ?_
        refine TL.split (s := 109) rfl (fun g109 => ?_) (fun g109 => ?_)
        ·
         have q109 := of_decide_eq_true g109
         refine zm369 ?_; refine TL.gdY rfl rfl (pr_ownA rfl (.there _ (.here _)) rfl) rfl ?_; refine zm371 ?_; refine zm85 ?_
         exact TX.sw rfl (by simp_all) ⟨rfl, trivial⟩
        ·
         have q109 := of_decide_eq_false g109
         refine zm44 ?_; refine zm37 ?_
         exact TX.sw rfl (by simp_all) ⟨rfl, trivial⟩
       exact zq1006
  ·
   have h44 : ¬ (s.kind = 4 ∨ s.kind = 5 ∨ s.kind = 9) := by simp_all
   refine zm12 ?_; refine zm101 ?_
   refine TL.pubO hO (.skip _ (.skip _ (.skip _ .all))) (by simp) (fun HA leA hA => ?_)
   replace hP := hP.le leA
   replace hs := hs.le leA
   replace hB := hB.le leA
   have hA2 := hA.cast (show _ = askedS q.terms s by unfold askedS; rw [if_neg (by first | exact h44 | omega), take_all c22 k0, List.append_nil])
   clear hA
   have hAm := hA2.max
   refine TL.run (pr_lenSl rfl rfl hA2) rfl ?_; refine zm10 ?_
   refine TC.loop (V := fun k => [(52, .int .i64 k)]) (K := [(3, _), (4, _), (6, _), (8, _), (50, _), (51, _)]) (L := fun k => _) (I := fun k => (0 ≤ k ∧ k ≤ (askedS q.terms s).length) ∧ (askedS q.terms s).all (fun n => hasS bound n) = ((askedS q.terms s).drop k.toNat).all (fun n => hasS bound n)) (μ := fun k => ((askedS q.terms s).length - k).toNat) (i := (0 : Int)) ⟨rfl, rfl, rfl, rfl, rfl, rfl, rfl, trivial⟩ ⟨⟨by omega, by omega⟩, rfl⟩ (fun w hw => hw) (fun k hI => ?_)
   obtain ⟨⟨k0, k1⟩, hal⟩ := hI
   refine zm11 ?_
   refine TC.condD rfl (fun c53 => ?_) (fun c53 => ?_)
   · exact zq906
   ·
    have h1 := all_end (p := (fun n => hasS bound n)) k0 c53 hal
    refine zm90 ?_; refine zm19 ?_
    refine TL.callO (enters rfl rfl rfl rfl) (binds_ok s hs hw7) rfl (fun v62 H62 ob62 hle62 hp62 => ?_)
    obtain ⟨eH62, hO62⟩ := hp62
    subst H62
    obtain ⟨a62, c62, rfl⟩ := hO62.form
    refine TL.pubO hO62 (.skip _ (.skip _ (.skip _ .all))) (by simp) (fun HP62 leP62 hR62 => ?_)
    replace hP := hP.le leP62
    replace hs := hs.le leP62
    replace hB := hB.le leP62
    have hBm := RdSl.max hR62
    have hCm := hs.c.max
    refine TL.run (pr_lenSl rfl rfl hR62) rfl ?_; refine zm10 ?_
    refine TC.loop (V := fun k => [(64, .int .i64 k)]) (K := [(3, _), (4, _), (6, _), (8, _), (62, _), (63, _)]) (L := fun k => _) (I := fun k => (0 ≤ k ∧ k ≤ (bindsS s).length) ∧ (bindsS s).all (fun n => !(!decide (n = []) && hasS bound n)) = ((bindsS s).drop k.toNat).all (fun n => !(!decide (n = []) && hasS bound n))) (μ := fun k => ((bindsS s).length - k).toNat) (i := (0 : Int)) ⟨rfl, rfl, rfl, rfl, rfl, rfl, rfl, trivial⟩ ⟨⟨by omega, by omega⟩, rfl⟩ (fun w hw => hw) (fun k hI => ?_)
    obtain ⟨⟨k0, k1⟩, hal⟩ := hI
    refine zm11 ?_
    refine TC.condD rfl (fun c65 => ?_) (fun c65 => ?_)
    · exact zq948
    ·
     have h2 := all_end (p := (fun n => !(!decide (n = []) && hasS bound n))) k0 c65 hal
     refine zm141 ?_
     refine TC.sw (!decide (s.proc = []) && !callsB pg.procs s.proc s.args.length) 88 [(4, _), (6, _), (8, _)] ⟨rfl, rfl, rfl, trivial⟩ ?_ ?_
     ·
      refine zm221 ?_
      refine TL.split (s := 79) rfl (fun g79 => ?_) (fun g79 => ?_)
      ·
       have q79 := of_ndec_true g79
       refine zm372 ?_; refine zm13 ?_; refine zm13 ?_
       exact zq971
      · exact zq973
     refine TC.cond rfl (fun c88 => ?_) (fun c88 => ?_)
     · exact zq980
     ·
      refine zm12 ?_; refine zm118 ?_; refine TL.run (pr_lenSl rfl rfl hs.c) rfl ?_; refine zm10 ?_
      refine TC.loop (V := fun k => [(92, .int .i64 k)]) (K := [(4, _), (6, _), (8, _), (90, _), (91, _)]) (L := fun k => _) (I := fun k => (0 ≤ k ∧ k ≤ s.casts.length) ∧ s.casts.all (fun c => callsB pg.procs c.proc (c.args.length + 1)) = (s.casts.drop k.toNat).all (fun c => callsB pg.procs c.proc (c.args.length + 1))) (μ := fun k => (s.casts.length - k).toNat) (i := (0 : Int)) ⟨rfl, rfl, rfl, rfl, rfl, rfl, trivial⟩ ⟨⟨by omega, by omega⟩, rfl⟩ (fun w hw => hw) (fun k hI => ?_)
      obtain ⟨⟨k0, k1⟩, hal⟩ := hI
      refine zm11 ?_
      refine TC.condD rfl (fun c93 => ?_) (fun c93 => ?_)
      ·
       obtain ⟨xC, hxC⟩ := getSome (l := s.casts) k0 c93
       have hxl := hl.2.2 xC (List.mem_of_getElem? hxC)
       refine zm15 ?_; refine TL.run (pr_indexSl rfl hs.c rfl (by omega) (by omega)) rfl (TL.run (pr_elA hs.c hxC rfl rfl) rfl (TL.alloc rfl (fun b17 => ?_)))
       refine zm122 ?_; exact TL.run (pr_ownA rfl (.there _ (.there _ (.there _ (.here _)))) rfl) rfl (zq986)
      ·
       have h4 := all_end (p := (fun c => callsB pg.procs c.proc (c.args.length + 1))) k0 c93 hal
       refine zm141 ?_
       refine TC.sw (decide (s.kind = 8) && !opensB pg s) 114 [(8, _)] ⟨rfl, trivial⟩ ?_ ?_
       ·
        refine zm86 ?_; refine zm9 ?_
        refine TL.split (s := 109) rfl (fun g109 => ?_) (fun g109 => ?_)
        ·
         have q109 := of_decide_eq_true g109
         refine zm372 ?_; refine TL.gdY rfl rfl (pr_ownA rfl (.here _) rfl) rfl ?_; refine zm371 ?_; refine zm85 ?_
         exact TX.sw rfl (by simp_all) ⟨rfl, trivial⟩
        ·
         have q109 := of_decide_eq_false g109
         refine zm44 ?_; refine zm37 ?_
         exact TX.sw rfl (by simp_all) ⟨rfl, trivial⟩
       exact zq1006
end Go.Sx
namespace Go.Sx
open Go Go.Proofs
set_option maxHeartbeats 8000000 in
theorem head_ok {H : Hp} {pg : SProg} {q : SProc} (i : Int) (hP : ProgOk H pg) (hM : MaxG H) (h0 : 0 ≤ i) (hq : pg.procs[i.toNat]? = some q) :
  FnS Tryz.prog 38 [.agg pg.cells.toArray, .int .i64 i] H (.agg (headF pg.procs i q).cells.toArray) := by
 have hPq := hP.q
 have hmax := hPq.max
 have hlt := ix_lt2 hq
 have hQ := hP.qs q (List.mem_of_getElem? hq)
 have hpa := hQ.pa
 have ht := hQ.t
 have hst := hQ.s
 have hpm := hpa.max
 have htm := ht.max
 have hsm := hst.max
 refine FnS.enter Tryz.func38 Tryz.ntmps38 rfl rfl (fun w0 => ?_)
 refine zm4 ?_
 refine TL.box rfl rfl (fun b2 => ?_)
 refine TL.alloc rfl (fun b4 => ?_)
 refine zm27 ?_; refine zm89 ?_; refine zm316 ?_; refine TL.run (pr_elA hPq hq rfl rfl) rfl (TL.alloc rfl (fun b5 => ?_))
 refine zm26 ?_
 refine TC.sw (headGood q) 6 [(1, _), (2, _), (4, _), (5, _)] ⟨rfl, rfl, rfl, rfl, trivial⟩ ?_ ?_
 ·
  refine zm86 ?_; refine TL.callS (enters rfl rfl rfl rfl) (n_MayU_ok q.name) rfl ?_; refine zm0 ?_
  refine TL.split (s := 18) rfl (fun g18 => ?_) (fun g18 => ?_)
  ·
   refine zm13 ?_; refine TL.gdY rfl rfl (pr_lenSl rfl rfl hpa) rfl ?_; refine zm17 ?_
   refine TL.split (s := 24) rfl (fun g24 => ?_) (fun g24 => ?_)
   ·
    have q24 := of_decide_eq_true g24
    refine zm13 ?_; refine TL.gdY rfl rfl (pr_lenSl rfl rfl hst) rfl ?_; refine zm17 ?_
    refine TL.split (s := 30) rfl (fun g30 => ?_) (fun g30 => ?_)
    ·
     have q30 := of_decide_eq_true g30
     refine zm13 ?_; refine TL.gdY rfl rfl (pr_lenSl rfl rfl hst) rfl ?_; refine zm17 ?_
     refine TL.split (s := 36) rfl (fun g36 => ?_) (fun g36 => ?_)
     ·
      have q36 := of_decide_eq_true g36
      refine zm13 ?_; refine TL.gdY rfl rfl (pr_lenSl rfl rfl ht) rfl ?_; refine zm8 ?_
      exact zq1015
     ·
      have q36 := of_decide_eq_false g36
      exact zq1019
    ·
     have q30 := of_decide_eq_false g30
     exact zq1023
   ·
    have q24 := of_decide_eq_false g24
    exact zq1029
  ·
   refine zm119 ?_
   exact zq1029
 refine zm220 ?_; refine TL.run (pr_lenSl rfl rfl hpa) rfl ?_; refine zm10 ?_
 refine TC.loop4 (V := fun (p : Int × Bool) v ob H1 => [(6, .bool p.2), (7, v), (45, .int .i64 p.1)]) (K := [(1, _), (2, _), (4, _), (5, _), (43, _), (44, _)]) (L := fun (p : Int × Bool) v ob H1 => St [] w0 H H ((b5, _) :: (b4, _) :: (b2, _) :: ob)) (I := fun (p : Int × Bool) v ob H1 => (0 ≤ p.1 ∧ p.1 ≤ q.params.length) ∧ OwnSl 1 Str.cells v ((q.params.take p.1.toNat).map (·.name)) ob ∧ p.2 = (headGood q && (q.params.take p.1.toNat).all paramB)) (μ := fun (p : Int × Bool) => (q.params.length - p.1).toNat) ((0 : Int), headGood q) (.slice none 0 0) [] H ⟨rfl, rfl, rfl, rfl, rfl, rfl, rfl, rfl, rfl, trivial⟩ ⟨⟨by omega, by omega⟩, OwnSl.nil, by simp⟩ (fun w hw => hw) (fun p v ob H1 hI => ?_)
 obtain ⟨⟨k0, k1⟩, hO, hg⟩ := hI
 obtain ⟨va, vc, rfl⟩ := hO.form
 have hpl := hQ.pl
 refine zm11 ?_
 refine TC.condD rfl (fun c46 => ?_) (fun c46 => ?_)
 ·
  obtain ⟨x, hx⟩ := getSome (l := q.params) k0 c46
  refine zm15 ?_; refine TL.run (pr_indexSl rfl hpa rfl (by omega) (by omega)) rfl (TL.run (pr_elA hpa hx rfl rfl) rfl (TL.alloc rfl (fun b9 => ?_)))
  refine zm26 ?_
  refine TC.sw (p.2 && paramB x) 6 [(1, _), (2, _), (4, _), (5, _), (7, _), (9, _), (43, _), (44, _), (45, _), (46, _), (47, _), (48, _)] ⟨rfl, rfl, rfl, rfl, rfl, rfl, rfl, rfl, rfl, rfl, rfl, rfl, trivial⟩ ?_ ?_
  ·
   refine zm121 ?_
   refine TL.split (s := 50) rfl (fun g50 => ?_) (fun g50 => ?_)
   ·
    refine zm13 ?_; refine TL.callSY rfl rfl (enters rfl rfl rfl rfl) (n_MayU_ok x.name) rfl ?_; refine zm9 ?_
    refine TL.split (s := 55) rfl (fun g55 => ?_) (fun g55 => ?_)
    · refine zm43 ?_; exact TL.gdY rfl rfl (pr_ownQ rfl (.here _) rfl) rfl (TL.callSY rfl rfl (enters rfl rfl rfl rfl) (sCarries_ok x.ck x.cn (hQ.pz x (List.mem_of_getElem? hx)) hM) rfl (zq1035))
    · exact zq1039
   ·
    refine zm46 ?_
    exact zq1039
  refine zm52 ?_
  refine TL.bslice rfl rfl rfl rfl (fun b63 => ?_)
  refine TL.append (enc := Str.cells) rfl rfl rfl hO (Src.own [x.name] (.here _) rfl rfl) (by simp; omega) rfl (.skip _ (.skip _ (.skip _ (.skip _ (.skip _ .all))))) rfl (fun a64 c64 ob64 hO64 => ?_)
  refine zm136 ?_
  exact TX.round4 (p.1 + 1, _) _ ob64 H ⟨⟨by omega, by omega⟩, hO64.cast (by rw [map_take_snoc k0 hx]), head_par k0 hx hg rfl⟩ ⟨rfl, rfl, rfl, rfl, rfl, rfl, rfl, rfl, rfl, trivial⟩ (fun w hw => hw.drop.drop) (by omega)
 ·
  have hg2 := hg
  rw [take_all c46 k0] at hg2
  refine zm141 ?_; refine TC.block ?_; refine zm24 ?_; refine zm2 ?_
  refine TC.cond rfl (fun c66 => ?_) (fun c66 => ?_)
  · refine zm30 ?_; exact TL.callS (enters rfl rfl rfl rfl) (fault_ok 1500 i (-1)) rfl (zq1042)
  ·
   refine TC.pubO hO (.skip _ (.skip _ (.skip _ .all))) (by simp) (fun HJ leJ hJ => ?_)
   replace hP := hP.le leJ
   have hJ2 := hJ.cast (show _ = q.params.map (·.name) by rw [take_all c46 k0])
   refine TC.sw (decide (findS pg.procs q.name < i) || !onceS (q.params.map (·.name))) 71 [(1, _), (4, _)] ⟨rfl, rfl, trivial⟩ ?_ ?_
   ·
    refine TC.region (TL.run (pr_ownA rfl (.there _ (.there _ (.here _))) rfl) rfl ?_); refine zm51 ?_; refine TL.callS (enters rfl rfl rfl rfl) (sFind_ok q.name hP) rfl ?_; refine zm9 ?_; refine zm0 ?_
    refine TL.split (s := 78) rfl (fun g78 => ?_) (fun g78 => ?_)
    ·
     have q78 := of_decide_eq_true g78
     refine zm46 ?_; exact TL.nil (TX.sw rfl (by first | (simp_all; done) | (simp_all; omega)) ⟨rfl, rfl, trivial⟩)
    ·
     have q78 := of_decide_eq_false g78
     refine zm8 ?_; refine TL.callSY rfl rfl (enters rfl rfl rfl rfl) (n_Once_ok hJ2) rfl ?_; refine zm17 ?_; exact TL.nil (TX.sw rfl (by first | (simp_all; done) | (simp_all; omega)) ⟨rfl, rfl, trivial⟩)
   refine TC.cond rfl (fun c71 => ?_) (fun c71 => ?_)
   · refine zm30 ?_; exact TL.callS (enters rfl rfl rfl rfl) (fault_ok 1501 i (-1)) rfl (zq1042)
   ·
    refine zm81 ?_; refine zm147 ?_; refine zm145 ?_
    exact zq1048
set_option maxHeartbeats 4000000 in
theorem all_ok {H : Hp} {pg : SProg} (hP : ProgOk H pg) (hM : MaxG H) :
  FnS Tryz.prog 37 [.agg pg.cells.toArray] H (.agg (allF pg).cells.toArray) := by
 have hr := hP.r
 have hl := hP.l
 have hq := hP.q
 have hrm := hr.max
 have hlm := hl.max
 have hqm := hq.max
 refine FnS.enter Tryz.func37 Tryz.ntmps37 rfl rfl (fun w0 => ?_)
 refine zm4 ?_
 refine TL.box rfl rfl (fun b1 => ?_)
 refine TL.alloc rfl (fun b2 => ?_)
 refine zm33 ?_; refine TC.seq (TC.sw (decide (6 < (pg.protos.length : Int)) || (decide (12 < (pg.locals.length : Int)) || decide (24 < (pg.procs.length : Int)))) 22 [(1, _), (2, _)] ⟨rfl, rfl, trivial⟩ ?_ ?_)
 ·
  refine zm146 ?_; refine TL.run (pr_lenSl rfl rfl hr) rfl ?_; refine zm9 ?_
  refine TL.split (s := 11) rfl (fun g11 => ?_) (fun g11 => ?_)
  ·
   have q11 := of_decide_eq_true g11
   refine zm119 ?_
   exact zq1049
  ·
   have q11 := of_decide_eq_false g11
   refine zm36 ?_; refine TL.gdY rfl rfl (pr_lenSl rfl rfl hl) rfl ?_; refine zm17 ?_
   refine TL.split (s := 17) rfl (fun g17 => ?_) (fun g17 => ?_)
   ·
    have q17 := of_decide_eq_true g17
    exact zq1049
   ·
    have q17 := of_decide_eq_false g17
    refine zm36 ?_; refine TL.gdY rfl rfl (pr_lenSl rfl rfl hq) rfl ?_; refine zm8 ?_
    exact zq1052
 refine TC.cond rfl (fun c22 => ?_) (fun c22 => ?_)
 · refine zm4 ?_; refine TL.callS (enters rfl rfl rfl rfl) (fault_ok 1500 (-1) (-1)) rfl ?_; refine zm67 ?_; exact TX.thenR (zq1054)
 ·
  refine zm12 ?_; refine zm224 ?_; refine TL.run (pr_lenSl rfl rfl hr) rfl ?_; refine zm10 ?_
  refine TC.loop (V := fun k => [(27, .int .i64 k)]) (K := [(1, _), (2, _), (25, _), (26, _)]) (L := fun k => _) (I := fun k => (0 ≤ k ∧ k ≤ pg.protos.length) ∧ pg.protos.all protoB = (pg.protos.drop k.toNat).all protoB) (μ := fun k => (pg.protos.length - k).toNat) (i := (0 : Int)) ⟨rfl, rfl, rfl, rfl, rfl, trivial⟩ ⟨⟨by omega, by omega⟩, rfl⟩ (fun w hw => hw) (fun k hI => ?_)
  obtain ⟨⟨k0, k1⟩, hal⟩ := hI
  refine zm11 ?_
  refine TC.condD rfl (fun c28 => ?_) (fun c28 => ?_)
  ·
   obtain ⟨x, hx⟩ := getSome (l := pg.protos) k0 c28
   refine zm15 ?_; refine zm275 ?_; refine TL.run (pr_elA hr hx rfl rfl) rfl (TL.alloc rfl (fun b4 => ?_))
   refine zm26 ?_; refine zm34 ?_; refine TL.callS (enters rfl rfl rfl rfl) (gMay_ok x (hP.rs x (List.mem_of_getElem? hx)) hM) rfl ?_; refine zm2 ?_
   refine TC.cond rfl (fun c33 => ?_) (fun c33 => ?_)
   ·
    have hr1 := all_bad (p := protoB) k0 hx (by simpa using c33) hal
    exact zq1055
   ·
    refine zm116 ?_
    exact TX.round (k + 1) ⟨⟨by omega, by omega⟩, all_next (p := protoB) k0 hx (by simpa using c33) hal⟩ ⟨rfl, rfl, rfl, rfl, rfl, trivial⟩ (fun w hw => hw.drop) (by omega)
  ·
   have hr1 := all_end (p := protoB) k0 c28 hal
   refine zm90 ?_; refine zm20 ?_; refine TL.run (pr_lenSl rfl rfl hl) rfl ?_; refine zm10 ?_
   refine TC.loop (V := fun k => [(39, .int .i64 k)]) (K := [(2, _), (37, _), (38, _)]) (L := fun k => _) (I := fun k => (0 ≤ k ∧ k ≤ pg.locals.length) ∧ pg.locals.all (fun l => localB l && nameMay l.name) = (pg.locals.drop k.toNat).all (fun l => localB l && nameMay l.name)) (μ := fun k => (pg.locals.length - k).toNat) (i := (0 : Int)) ⟨rfl, rfl, rfl, rfl, trivial⟩ ⟨⟨by omega, by omega⟩, rfl⟩ (fun w hw => hw) (fun k hI => ?_)
   obtain ⟨⟨k0, k1⟩, hal⟩ := hI
   refine zm11 ?_
   refine TC.condD rfl (fun c40 => ?_) (fun c40 => ?_)
   ·
    obtain ⟨y, hy⟩ := getSome (l := pg.locals) k0 c40
    refine zm15 ?_; refine zm311 ?_; refine TL.run (pr_elA hl hy rfl rfl) rfl (TL.alloc rfl (fun b6 => ?_))
    refine zm26 ?_
    refine TC.sw (!(localB y && nameMay y.name)) 51 [(2, _), (6, _), (37, _), (38, _), (39, _), (40, _), (41, _), (42, _)] ⟨rfl, rfl, rfl, rfl, rfl, rfl, rfl, rfl, trivial⟩ ?_ ?_
    ·
     refine TC.region ?_; refine zm19 ?_; refine TL.callS (enters rfl rfl rfl rfl) (tMay_ok y (hP.ls y (List.mem_of_getElem? hy)) hM) rfl ?_; refine zm9 ?_
     refine TL.split (s := 46) rfl (fun g46 => ?_) (fun g46 => ?_)
     ·
      refine zm44 ?_; refine zm37 ?_
      exact TX.sw rfl (by simp_all) ⟨rfl, rfl, rfl, rfl, rfl, rfl, rfl, rfl, trivial⟩
     ·
      refine zm13 ?_; refine TL.callSY rfl rfl (enters rfl rfl rfl rfl) (n_MayU_ok y.name) rfl ?_; refine zm85 ?_
      exact TX.sw rfl (by simp_all) ⟨rfl, rfl, rfl, rfl, rfl, rfl, rfl, rfl, trivial⟩
    refine TC.cond rfl (fun c51 => ?_) (fun c51 => ?_)
    ·
     have hl1 := all_bad (p := fun l => localB l && nameMay l.name) k0 hy (nb_T c51) hal
     exact zq1055
    ·
     refine zm116 ?_
     exact TX.round (k + 1) ⟨⟨by omega, by omega⟩, all_next (p := (fun l => localB l && nameMay l.name)) k0 hy (nb_F c51) hal⟩ ⟨rfl, rfl, rfl, rfl, trivial⟩ (fun w hw => hw.drop) (by omega)
   ·
    have hl1 := all_end (p := fun l => localB l && nameMay l.name) k0 c40 hal
    refine zm84 ?_; refine zm14 ?_; refine zm67 ?_
    exact zq1054
end Go.Sx
namespace Go.Sx
open Go Go.Proofs
set_option maxHeartbeats 16000000 in
theorem shape_ok {H : Hp} {pg : SProg} {q : SProc} (i : Int) (hP : ProgOk H pg) (h0 : 0 ≤ i) (hq : pg.procs[i.toNat]? = some q) (hz1 : q.steps.length ≤ 80) (hz2 : q.terms.length ≤ 160) :
  FnS Tryz.prog 39 [.agg pg.cells.toArray, .int .i64 i] H (.agg (shapeF i q).cells.toArray) := by
 have hPq := hP.q
 have hmax := hPq.max
 have hlt := ix_lt2 hq
 have hQ := hP.qs q (List.mem_of_getElem? hq)
 have hst0 := hQ.s
 have ht0 := hQ.t
 refine FnS.enter Tryz.func39 Tryz.ntmps39 rfl rfl (fun w0 => ?_)
 refine zm4 ?_
 refine TL.box rfl rfl (fun b2 => ?_)
 refine TL.alloc rfl (fun b4 => ?_)
 refine zm27 ?_; refine zm89 ?_; refine zm316 ?_; refine TL.run (pr_elA hPq hq rfl rfl) rfl (TL.alloc rfl (fun b5 => ?_))
 refine zm98 ?_; refine TL.run (pr_lenSl rfl rfl hst0) rfl (TL.make rfl rfl (by first | omega | decide) (by first | omega | decide) (by first | omega | decide) rfl (fun b25 => ?_))
 refine zm100 ?_; refine zm20 ?_; refine TL.run (pr_lenSl rfl rfl hst0) rfl (TL.make rfl rfl (by first | omega | decide) (by first | omega | decide) (by first | omega | decide) rfl (fun b29 => ?_))
 refine zm102 ?_; refine zm233 ?_; refine TL.run (pr_lenSl rfl rfl ht0) rfl (TL.make rfl rfl (by first | omega | decide) (by first | omega | decide) (by first | omega | decide) rfl (fun b33 => ?_))
 refine zm59 ?_; refine zm6 ?_; refine zm91 ?_; refine TL.run (pr_lenSl rfl rfl hst0) rfl ?_; refine zm10 ?_
 refine TC.loop4 (V := fun (p : Int × List Int × List Int × List Bool) v ob H1 => [(37, .int .i64 p.1)]) (K := [(1, _), (4, _), (5, _), (6, _), (7, _), (8, _), (35, _), (36, _)]) (L := fun (p : Int × List Int × List Int × List Bool) v ob H1 => St [] w0 H H1 ((b33, (p.2.2.2).map Value.bool) :: (b29, (p.2.2.1).map (Value.int .i64)) :: (b25, (p.2.1).map (Value.int .i64)) :: (b5, q.cells) :: (b4, [.int .i64 0, .int .i64 0, .int .i64 0]) :: (b2, pg.cells) :: [])) (I := fun (p : Int × List Int × List Int × List Bool) v ob H1 => (0 ≤ p.1 ∧ p.1 ≤ q.steps.length) ∧ H.le H1 ∧ (p.2.1.length = q.steps.length ∧ p.2.2.1.length = q.steps.length ∧ p.2.2.2.length = q.terms.length) ∧ shapeF i q = shapeGo q i (q.steps.drop p.1.toNat) p.1 p.2.1 p.2.2.1 p.2.2.2) (μ := fun (p : Int × List Int × List Int × List Bool) => (q.steps.length - p.1).toNat) ((0 : Int), List.replicate q.steps.length (0 : Int), List.replicate q.steps.length (0 : Int), List.replicate q.terms.length false) .nilFunc [] H ⟨rfl, rfl, rfl, rfl, rfl, rfl, rfl, rfl, rfl, trivial⟩ ⟨⟨by omega, by omega⟩, Hp.le.refl _, ⟨by simp, by simp, by simp⟩, rfl⟩ (fun w hw => by simp only [reps_i0, reps_b0] at hw; exact hw) (fun p v ob H1 hI => ?_)
 obtain ⟨⟨k0, k1⟩, hle, ⟨hc1, hd1, hu1⟩, hS⟩ := hI
 obtain ⟨k, c, d, u⟩ := p
 dsimp only at *
 replace hQ := hQ.le hle
 refine zm11 ?_
 refine TC.condD rfl (fun c38 => ?_) (fun c38 => ?_)
 ·
  obtain ⟨s, hx⟩ := getSome (l := q.steps) k0 c38
  have hs := hQ.ss s (List.mem_of_getElem? hx)
  refine zm114 ?_; refine zm228 ?_; refine TL.run (pr_elA hQ.s hx rfl rfl) rfl (TL.alloc rfl (fun b10 => ?_))
  refine zm0 ?_; refine zm26 ?_; refine zm88 ?_; refine zm19 ?_; refine TL.callS (enters rfl rfl rfl rfl) (may_ok s hs) rfl ?_; refine zm2 ?_
  refine TC.cond rfl (fun c44 => ?_) (fun c44 => ?_)
  ·
   refine zm24 ?_; refine TL.callS (enters rfl rfl rfl rfl) (fault_ok 1500 i k) rfl ?_; refine zm182 ?_; refine zm50 ?_
   exact TX.finS (.inr rfl) (results1 rfl (RVal.cellA rfl (.there _ (.there _ (.there _ (.there _ (.there _ (.here _)))))) rfl)) (by rw [sh_form k0 hx (by simpa using c44) hS]; rfl)
  ·
   have hm : mayS s = true := by simpa using c44
   have hsz := may_sizes hm
   refine zm12 ?_
   refine TC.seq (TC.sw (decide (0 < k) && !decide (getI c k = 1)) 56 [(1, _), (4, _), (5, _), (6, _), (7, _), (8, _), (9, _), (10, _), (35, _), (36, _), (37, _), (38, _), (39, _), (40, _), (41, _), (42, _), (43, _), (44, _)] ⟨rfl, rfl, rfl, rfl, rfl, rfl, rfl, rfl, rfl, rfl, rfl, rfl, rfl, rfl, rfl, rfl, rfl, rfl, trivial⟩ ?_ ?_)
   ·
    refine zm104 ?_
    refine TL.split (s := 50) rfl (fun g50 => ?_) (fun g50 => ?_)
    ·
     have q50 := of_decide_eq_true g50
     refine zm23 ?_; refine TL.gdY rfl rfl (pr_index rfl rfl (by omega) (by omega)) rfl (TL.gdY rfl rfl (pr_own1 rfl (.there _ (.there _ (.there _ (.here _)))) (is_get (by omega))) rfl ?_); refine zm8 ?_
     exact zq1068
    ·
     have q50 := of_decide_eq_false g50
     refine zm227 ?_
     exact zq1068
   refine TC.cond rfl (fun c56 => ?_) (fun c56 => ?_)
   ·
    refine zm24 ?_; refine zm317 ?_; refine zm182 ?_; refine zm50 ?_
    exact TX.finS (.inr rfl) (results1 rfl (RVal.cellA rfl (.there _ (.there _ (.there _ (.there _ (.there _ (.here _)))))) rfl)) (by rw [sh_tree k0 hx hm c56 hS]; rfl)
   ·
    refine zm12 ?_
    refine TC.mid (V := fun dd => []) (K := [(1, _), (4, _), (5, _), (6, _), (7, _), (8, _), (9, _), (10, _), (35, _), (36, _), (37, _), (38, _), (39, _), (40, _), (41, _), (42, _), (43, _), (44, _), (56, _)]) ⟨rfl, rfl, rfl, rfl, rfl, rfl, rfl, rfl, rfl, rfl, rfl, rfl, rfl, rfl, rfl, rfl, rfl, rfl, rfl, trivial⟩ (L := fun dd => St [] w0 H H1 ((b10, s.cells) :: (b33, (u).map Value.bool) :: (b29, (dd).map (Value.int .i64)) :: (b25, (c).map (Value.int .i64)) :: (b5, q.cells) :: (b4, [.int .i64 0, .int .i64 0, .int .i64 0]) :: (b2, pg.cells) :: [])) (I := fun dd => dd = deepGo s k d) ?_ ?_
    ·
     refine TC.sw (decide (s.kind = 3) || decide (s.kind = 5)) 67 [(1, _), (4, _), (5, _), (6, _), (7, _), (8, _), (9, _), (10, _), (35, _), (36, _), (37, _), (38, _), (39, _), (40, _), (41, _), (42, _), (43, _), (44, _), (56, _)] ⟨rfl, rfl, rfl, rfl, rfl, rfl, rfl, rfl, rfl, rfl, rfl, rfl, rfl, rfl, rfl, rfl, rfl, rfl, rfl, trivial⟩ ?_ ?_
     ·
      refine zm86 ?_; refine zm9 ?_
      refine TL.split (s := 63) rfl (fun g63 => ?_) (fun g63 => ?_)
      ·
       have q63 := of_decide_eq_true g63
       refine zm234 ?_
       exact TX.sw rfl (by simp_all) ⟨rfl, rfl, rfl, rfl, rfl, rfl, rfl, rfl, rfl, rfl, rfl, rfl, rfl, rfl, rfl, rfl, rfl, rfl, rfl, trivial⟩
      ·
       have q63 := of_decide_eq_false g63
       refine zm13 ?_; refine zm85 ?_
       exact TX.sw rfl (by simp_all) ⟨rfl, rfl, rfl, rfl, rfl, rfl, rfl, rfl, rfl, rfl, rfl, rfl, rfl, rfl, rfl, rfl, rfl, rfl, rfl, trivial⟩
     refine TC.cond rfl (fun c67 => ?_) (fun c67 => ?_)
     ·
      refine zm121 ?_; refine zm21 ?_; refine zm318 ?_; refine zm16 ?_; refine zm21 ?_; refine zm183 ?_
      exact TL.nil (TX.mid (incI d k) (deep_T c67) ⟨rfl, rfl, rfl, rfl, rfl, rfl, rfl, rfl, rfl, rfl, rfl, rfl, rfl, rfl, rfl, rfl, rfl, rfl, rfl, trivial⟩ (fun w hw => by rw [is_set] at hw; exact hw))
     · exact TC.skip (TX.mid d (deep_F c67) ⟨rfl, rfl, rfl, rfl, rfl, rfl, rfl, rfl, rfl, rfl, rfl, rfl, rfl, rfl, rfl, rfl, rfl, rfl, rfl, trivial⟩ (fun w hw => hw))
    ·
     intro dd hI
     have hdd : dd.length = q.steps.length := by rw [hI, dp_len]; exact hd1
     refine zm88 ?_; refine zm19 ?_
     refine TL.callO (enters rfl rfl rfl rfl) (nexts_ok s hs (by omega)) rfl (fun v75 H75 ob75 hle75 hp75 => ?_)
     obtain ⟨eH75, hO75⟩ := hp75
     subst H75
     obtain ⟨a75, c75, rfl⟩ := hO75.form
     refine TL.pubO hO75 (.skip _ (.skip _ (.skip _ (.skip _ (.skip _ (.skip _ (.skip _ .all))))))) (by simp) (fun HP75 leP75 hR75 => ?_)
     replace hQ := hQ.le leP75
     replace hle := hle.trans leP75
     replace hs := hs.le leP75
     have hR75m := hR75.max
     refine TL.run (pr_lenSl rfl rfl hR75) rfl ?_; refine zm10 ?_
     refine TC.loop (V := fun (e : Int × List Int × List Int) => [(77, .int .i64 e.1)]) (K := [(1, _), (4, _), (5, _), (6, _), (7, _), (8, _), (9, _), (10, _), (35, _), (36, _), (37, _), (38, _), (39, _), (40, _), (41, _), (42, _), (43, _), (44, _), (56, _), (74, _), (75, _), (76, _)]) (L := fun (e : Int × List Int × List Int) => St [] w0 H HP75 ((b10, s.cells) :: (b33, (u).map Value.bool) :: (b29, (e.2.2).map (Value.int .i64)) :: (b25, (e.2.1).map (Value.int .i64)) :: (b5, q.cells) :: (b4, [.int .i64 0, .int .i64 0, .int .i64 0]) :: (b2, pg.cells) :: [])) (I := fun (e : Int × List Int × List Int) => (0 ≤ e.1 ∧ e.1 ≤ (nextsS s).length) ∧ (e.2.1.length = q.steps.length ∧ e.2.2.length = q.steps.length) ∧ nextsGo q.steps.length k (nextsS s) c (deepGo s k d) = nextsGo q.steps.length k ((nextsS s).drop e.1.toNat) e.2.1 e.2.2) (μ := fun (e : Int × List Int × List Int) => ((nextsS s).length - e.1).toNat) (i := ((0 : Int), c, dd)) ⟨rfl, rfl, rfl, rfl, rfl, rfl, rfl, rfl, rfl, rfl, rfl, rfl, rfl, rfl, rfl, rfl, rfl, rfl, rfl, rfl, rfl, rfl, rfl, trivial⟩ ⟨⟨by omega, by omega⟩, ⟨hc1, hdd⟩, by rw [hI]; rfl⟩ (fun w hw => hw) (fun (e : Int × List Int × List Int) hI => ?_)
     obtain ⟨⟨j0, j1⟩, ⟨hc3, hd3⟩, hN⟩ := hI
     refine zm11 ?_
     refine TC.condD rfl (fun c78 => ?_) (fun c78 => ?_)
     ·
      obtain ⟨y, hy⟩ := getSome (l := nextsS s) j0 c78
      refine zm15 ?_; refine TL.run (pr_indexSl rfl hR75 rfl (by omega) (by omega)) rfl (TL.run (pr_el0 hR75 hy rfl rfl) rfl ?_); refine zm2 ?_
      refine TC.seq (TC.sw (decide (y ≤ k) || decide ((q.steps.length : Int) ≤ y)) 90 [(1, _), (4, _), (5, _), (6, _), (7, _), (8, _), (9, _), (10, _), (12, _), (35, _), (36, _), (37, _), (38, _), (39, _), (40, _), (41, _), (42, _), (43, _), (44, _), (56, _), (74, _), (75, _), (76, _), (77, _), (78, _), (79, _), (80, _)] ⟨rfl, rfl, rfl, rfl, rfl, rfl, rfl, rfl, rfl, rfl, rfl, rfl, rfl, rfl, rfl, rfl, rfl, rfl, rfl, rfl, rfl, rfl, rfl, rfl, rfl, rfl, rfl, trivial⟩ ?_ ?_)
      ·
       refine zm184 ?_
       refine TL.split (s := 84) rfl (fun g84 => ?_) (fun g84 => ?_)
       ·
        have q84 := of_decide_eq_true g84
        refine zm227 ?_
        exact zq1071
       ·
        have q84 := of_decide_eq_false g84
        refine zm8 ?_; refine zm43 ?_; refine TL.gdY rfl rfl (pr_own1 rfl (.there _ (.there _ (.there _ (.there _ (.here _))))) rfl) rfl (TL.gdY rfl rfl (pr_lenSl rfl rfl hQ.s) rfl ?_); refine zm8 ?_
        exact zq1071
      refine TC.cond rfl (fun c90 => ?_) (fun c90 => ?_)
      ·
       refine zm24 ?_; refine zm317 ?_; refine zm182 ?_; refine zm50 ?_; refine zm50 ?_
       exact TX.finS (.inr rfl) (results1 rfl (RVal.cellA rfl (.there _ (.there _ (.there _ (.there _ (.there _ (.here _)))))) rfl)) (by rw [sh_n k0 hx hm c56 (ng_bad j0 hy c90 hN) hS]; rfl)
      ·
       have hyb : k < y ∧ y < q.steps.length := by simp at c90; omega
       refine zm235 ?_; refine zm21 ?_; refine zm313 ?_; refine zm16 ?_; refine zm21 ?_; refine TL.store1 rfl rfl rfl (.there _ (.there _ (.there _ (.here _)))) (by simp; omega) rfl ?_; refine zm33 ?_; refine zm184 ?_; refine zm21 ?_
       refine zm318 ?_; refine zm21 ?_; refine zm183 ?_; refine zm99 ?_
       exact TX.round (e.1 + 1, incI e.2.1 y, e.2.2.set y.toNat (getI e.2.2 k)) ⟨⟨by omega, by omega⟩, ⟨by rw [inc_len]; exact hc3, by rw [List.length_set]; exact hd3⟩, ng_next j0 hy c90 hN⟩ ⟨rfl, rfl, rfl, rfl, rfl, rfl, rfl, rfl, rfl, rfl, rfl, rfl, rfl, rfl, rfl, rfl, rfl, rfl, rfl, rfl, rfl, rfl, rfl, trivial⟩ (fun w hw => by have hw2 := hw; simp only [is_set] at hw2; exact hw2) (by omega)
     ·
      have hng := ng_end j0 c78 hN
      obtain ⟨j, c2, d2⟩ := e
      dsimp only at *
      have hc2 := hc3
      have hd2 := hd3
      refine zm38 ?_; refine zm32 ?_; refine zm21 ?_; refine zm318 ?_; refine zm2 ?_
      refine TC.condD rfl (fun c112 => ?_) (fun c112 => ?_)
      ·
       refine zm24 ?_; refine zm317 ?_; refine zm182 ?_; refine zm50 ?_
       exact TX.finS (.inr rfl) (results1 rfl (RVal.cellA rfl (.there _ (.there _ (.there _ (.there _ (.there _ (.here _)))))) rfl)) (by rw [sh_d k0 hx hm c56 hng c112 hS]; rfl)
      ·
       refine zm12 ?_; refine zm34 ?_
       refine TL.callO (enters rfl rfl rfl rfl) (terms_ok s hs hsz.2) rfl (fun v117 H117 ob117 hle117 hp117 => ?_)
       obtain ⟨eH117, hO117⟩ := hp117
       subst H117
       obtain ⟨a117, c117, rfl⟩ := hO117.form
       refine TL.pubO hO117 (.skip _ (.skip _ (.skip _ (.skip _ (.skip _ (.skip _ (.skip _ .all))))))) (by simp) (fun HP117 leP117 hR117 => ?_)
       replace hQ := hQ.le leP117
       replace hle := hle.trans leP117
       have hR117m := hR117.max
       refine TL.run (pr_lenSl rfl rfl hR117) rfl ?_; refine zm10 ?_
       refine TC.loop4 (V := fun (f : Int × List Bool) v2 ob2 H2 => [(119, .int .i64 f.1)]) (K := [(1, _), (4, _), (5, _), (6, _), (7, _), (8, _), (9, _), (10, _), (35, _), (36, _), (37, _), (38, _), (39, _), (40, _), (41, _), (42, _), (43, _), (44, _), (56, _), (74, _), (75, _), (76, _), (77, _), (78, _), (108, _), (109, _), (110, _), (111, _), (112, _), (116, _), (117, _), (118, _)]) (L := fun (f : Int × List Bool) v2 ob2 H2 => St [] w0 H H2 ((b10, s.cells) :: (b33, (f.2).map Value.bool) :: (b29, (d2).map (Value.int .i64)) :: (b25, (c2).map (Value.int .i64)) :: (b5, q.cells) :: (b4, [.int .i64 0, .int .i64 0, .int .i64 0]) :: (b2, pg.cells) :: [])) (I := fun (f : Int × List Bool) v2 ob2 H2 => (0 ≤ f.1 ∧ f.1 ≤ (termsS s).length) ∧ HP117.le H2 ∧ f.2.length = q.terms.length ∧ rootsGo q.terms (termsS s) u = rootsGo q.terms ((termsS s).drop f.1.toNat) f.2) (μ := fun (f : Int × List Bool) => ((termsS s).length - f.1).toNat) ((0 : Int), u) .nilFunc [] HP117 ⟨rfl, rfl, rfl, rfl, rfl, rfl, rfl, rfl, rfl, rfl, rfl, rfl, rfl, rfl, rfl, rfl, rfl, rfl, rfl, rfl, rfl, rfl, rfl, rfl, rfl, rfl, rfl, rfl, rfl, rfl, rfl, rfl, rfl, trivial⟩ ⟨⟨by omega, by omega⟩, Hp.le.refl _, hu1, rfl⟩ (fun w hw => hw) (fun f v2 ob2 H2 hI => ?_)
       obtain ⟨⟨f0, f1⟩, hle2, hu4, hR⟩ := hI
       replace hQ := hQ.le hle2
       replace hle := hle.trans hle2
       replace hR117 := hR117.le hle2
       refine zm11 ?_
       refine TC.condD rfl (fun c120 => ?_) (fun c120 => ?_)
       ·
        obtain ⟨r, hr⟩ := getSome (l := termsS s) f0 c120
        refine zm15 ?_; refine TL.run (pr_indexSl rfl hR117 rfl (by omega) (by omega)) rfl (TL.run (pr_el0 hR117 hr rfl rfl) rfl ?_); refine zm59 ?_; refine zm6 ?_; refine zm373 ?_; refine zm0 ?_
        refine TL.callS (enters rfl rfl rfl rfl) (May_ok r hQ.t hQ.tn) rfl ?_; refine zm2 ?_
        refine TC.cond rfl (fun c127 => ?_) (fun c127 => ?_)
        ·
         refine zm24 ?_; refine TL.callS (enters rfl rfl rfl rfl) (fault_ok 1503 i k) rfl ?_; refine zm182 ?_; refine zm148 ?_
         exact TX.finS (.inr rfl) (results1 rfl (RVal.cellA rfl (.there _ (.there _ (.there _ (.there _ (.there _ (.here _)))))) rfl)) (by rw [sh_t k0 hx hm c56 hng c112 (rg_may f0 hr (by simpa using c127) hR) hS]; rfl)
        ·
         have hmr : mayB q.terms r = true := by simpa using c127
         refine zm12 ?_; refine zm149 ?_; refine zm373 ?_; refine zm0 ?_
         refine TL.callO (enters rfl rfl rfl rfl) (sTree_ok r hQ.t hmr) rfl (fun v134 H134 ob134 hle134 hp134 => ?_)
         have hO134 : OwnSl 1 I64.cells v134 (postS q.terms r) ob134 := hp134
         obtain ⟨a134, c134, rfl⟩ := hO134.form
         replace hle2 := hle2.trans hle134
         refine TL.pubO hO134 (.skip _ (.skip _ (.skip _ (.skip _ (.skip _ (.skip _ (.skip _ .all))))))) (by simp) (fun HP134 leP134 hR134 => ?_)
         replace hle2 := hle2.trans leP134
         have hR134m := hR134.max
         refine TL.run (pr_lenSl rfl rfl hR134) rfl ?_; refine zm10 ?_
         refine TC.loop (V := fun (e : Int × List Bool) => [(136, .int .i64 e.1)]) (K := [(1, _), (4, _), (5, _), (6, _), (7, _), (8, _), (9, _), (10, _), (14, _), (35, _), (36, _), (37, _), (38, _), (39, _), (40, _), (41, _), (42, _), (43, _), (44, _), (56, _), (74, _), (75, _), (76, _), (77, _), (78, _), (108, _), (109, _), (110, _), (111, _), (112, _), (116, _), (117, _), (118, _), (119, _), (120, _), (121, _), (122, _), (123, _), (124, _), (125, _), (126, _), (127, _), (131, _), (132, _), (133, _), (134, _), (135, _)]) (L := fun (e : Int × List Bool) => St [] w0 H HP134 ((b10, s.cells) :: (b33, (e.2).map Value.bool) :: (b29, (d2).map (Value.int .i64)) :: (b25, (c2).map (Value.int .i64)) :: (b5, q.cells) :: (b4, [.int .i64 0, .int .i64 0, .int .i64 0]) :: (b2, pg.cells) :: [])) (I := fun (e : Int × List Bool) => (0 ≤ e.1 ∧ e.1 ≤ (postS q.terms r).length) ∧ e.2.length = q.terms.length ∧ useGo (postS q.terms r) f.2 = useGo ((postS q.terms r).drop e.1.toNat) e.2) (μ := fun (e : Int × List Bool) => ((postS q.terms r).length - e.1).toNat) (i := ((0 : Int), f.2)) ⟨rfl, rfl, rfl, rfl, rfl, rfl, rfl, rfl, rfl, rfl, rfl, rfl, rfl, rfl, rfl, rfl, rfl, rfl, rfl, rfl, rfl, rfl, rfl, rfl, rfl, rfl, rfl, rfl, rfl, rfl, rfl, rfl, rfl, rfl, rfl, rfl, rfl, rfl, rfl, rfl, rfl, rfl, rfl, rfl, rfl, rfl, rfl, rfl, trivial⟩ ⟨⟨by omega, by omega⟩, hu4, rfl⟩ (fun w hw => hw) (fun (e : Int × List Bool) hI => ?_)
         obtain ⟨⟨e0, e1⟩, hu5, hU⟩ := hI
         refine zm11 ?_
         refine TC.condD rfl (fun c137 => ?_) (fun c137 => ?_)
         ·
          obtain ⟨z, hz⟩ := getSome (l := postS q.terms r) e0 c137
          have hzb := post_in _ _ z (List.mem_of_getElem? hz)
          refine zm15 ?_; refine TL.run (pr_indexSl rfl hR134 rfl (by omega) (by omega)) rfl (TL.run (pr_el0 hR134 hz rfl rfl) rfl ?_); refine zm2 ?_; refine zm32 ?_; refine zm21 ?_
          refine TL.run (pr_own1 rfl (.there _ (.here _)) (bs_get (by omega))) rfl ?_; refine zm33 ?_
          refine TC.cond rfl (fun c143 => ?_) (fun c143 => ?_)
          ·
           refine zm24 ?_; refine TL.callS (enters rfl rfl rfl rfl) (fault_ok 1503 i k) rfl ?_; refine zm182 ?_; refine zm223 ?_; refine zm148 ?_
           exact TX.finS (.inr rfl) (results1 rfl (RVal.cellA rfl (.there _ (.there _ (.there _ (.there _ (.there _ (.here _)))))) rfl)) (by rw [sh_t k0 hx hm c56 hng c112 (rg_bad f0 hr hmr (ug_bad e0 hz c143 hU) hR) hS]; rfl)
          ·
           refine zm12 ?_; refine zm121 ?_; refine zm21 ?_; refine zm266 ?_; refine zm99 ?_
           exact TX.round (e.1 + 1, e.2.set z.toNat true) ⟨⟨by omega, by omega⟩, by rw [List.length_set]; exact hu5, ug_next e0 hz c143 hU⟩ ⟨rfl, rfl, rfl, rfl, rfl, rfl, rfl, rfl, rfl, rfl, rfl, rfl, rfl, rfl, rfl, rfl, rfl, rfl, rfl, rfl, rfl, rfl, rfl, rfl, rfl, rfl, rfl, rfl, rfl, rfl, rfl, rfl, rfl, rfl, rfl, rfl, rfl, rfl, rfl, rfl, rfl, rfl, rfl, rfl, rfl, rfl, rfl, rfl, trivial⟩ (fun w hw => by have hw2 := hw; simp only [bs_set] at hw2; exact hw2) (by omega)
         ·
          have hug := ug_end e0 c137 hU
          refine zm236 ?_
          exact TX.round4 (f.1 + 1, e.2) .nilFunc [] HP134 ⟨⟨by omega, by omega⟩, hle2, hu5, rg_next f0 hr hmr hug hR⟩ ⟨rfl, rfl, rfl, rfl, rfl, rfl, rfl, rfl, rfl, rfl, rfl, rfl, rfl, rfl, rfl, rfl, rfl, rfl, rfl, rfl, rfl, rfl, rfl, rfl, rfl, rfl, rfl, rfl, rfl, rfl, rfl, rfl, rfl, trivial⟩ (fun w hw => hw) (by omega)
       ·
        have hrg := rg_end f0 c120 hR
        refine zm236 ?_
        exact TX.round4 (i := (k, c, d, u)) (k + 1, c2, d2, f.2) .nilFunc [] H2 ⟨⟨by omega, by omega⟩, hle, ⟨hc2, hd2, hu4⟩, sh_next k0 hx hm c56 hng c112 hrg hS⟩ ⟨rfl, rfl, rfl, rfl, rfl, rfl, rfl, rfl, rfl, trivial⟩ (fun w hw => hw.drop) (by omega)
 ·
  refine zm84 ?_; refine zm14 ?_; refine zm374 ?_; refine zm77 ?_
  exact TX.finS (.inr rfl) (results1 rfl (RVal.cellA rfl (.there _ (.there _ (.there _ (.there _ (.here _))))) rfl)) (by rw [sh_end k0 c38 hS]; rfl)
end Go.Sx
namespace Go.Sx
open Go Go.Proofs
set_option maxHeartbeats 16000000 in
theorem sense_ok {H : Hp} {pg : SProg} {q : SProc} (i : Int) (hP : ProgOk H pg) (h0 : 0 ≤ i) (hq : pg.procs[i.toNat]? = some q) (hsh : ShapeOk q) (hz0 : 1 ≤ q.steps.length) (hz1 : q.steps.length ≤ 80) (hz2 : q.terms.length ≤ 160) :
  FnS Tryz.prog 42 [.agg pg.cells.toArray, .int .i64 i] H (.agg (senseF pg i q).cells.toArray) := by
 have hPq := hP.q
 have hmax := hPq.max
 have hlt := ix_lt2 hq
 have hQ := hP.qs q (List.mem_of_getElem? hq)
 have hst0 := hQ.s
 have hpa0 := hQ.pa
 have hpl := hQ.pl
 refine FnS.enter Tryz.func42 Tryz.ntmps42 rfl rfl (fun w0 => ?_)
 refine zm4 ?_
 refine TL.box rfl rfl (fun b2 => ?_)
 refine TL.alloc rfl (fun b4 => ?_)
 refine zm27 ?_; refine zm89 ?_; refine zm316 ?_; refine TL.run (pr_elA hPq hq rfl rfl) rfl (TL.alloc rfl (fun b5 => ?_))
 refine zm98 ?_; refine TL.run (pr_lenSl rfl rfl hst0) rfl (TL.make rfl rfl (by first | omega | decide) (by first | omega | decide) (by first | omega | decide) rfl (fun b23 => ?_))
 refine zm59 ?_; refine zm20 ?_; refine TL.run (pr_lenSl rfl rfl hpa0) rfl ?_; refine zm10 ?_
 refine TC.loop4 (V := fun k v ob H1 => [(27, .int .i64 k)]) (K := [(1, _), (2, _), (4, _), (5, _), (6, _), (25, _), (26, _)]) (L := fun k v ob H1 => St [] w0 H H ((b23, (List.replicate q.steps.length nilV).set 0 v) :: (b5, q.cells) :: (b4, [.int .i64 0, .int .i64 0, .int .i64 0]) :: (b2, pg.cells) :: ob)) (I := fun k v ob H1 => (0 ≤ k ∧ k ≤ q.params.length) ∧ OwnSl 1 Str.cells v ((q.params.take k.toNat).map (·.name)) ob) (μ := fun k => (q.params.length - k).toNat) 0 nilV [] H ⟨rfl, rfl, rfl, rfl, rfl, rfl, rfl, rfl, trivial⟩ ⟨⟨by omega, by omega⟩, OwnSl.nil⟩ (fun w hw => by rw [rep_set0]; rw [reps_one] at hw; exact hw) (fun k v ob H1 hI => ?_)
 obtain ⟨⟨k0, k1⟩, hO⟩ := hI
 obtain ⟨va, vc, rfl⟩ := hO.form
 refine zm11 ?_
 refine TC.condD rfl (fun c28 => ?_) (fun c28 => ?_)
 ·
  obtain ⟨x, hx⟩ := getSome (l := q.params) k0 c28
  refine zm15 ?_; refine TL.run (pr_indexSl rfl hpa0 rfl (by omega) (by omega)) rfl (TL.run (pr_elA hpa0 hx rfl rfl) rfl (TL.alloc rfl (fun b8 => ?_)))
  refine zm26 ?_; refine zm25 ?_; refine TD.leaf [(0, 1), (1, 1), (2, 1), (3, 2), (4, 1), (5, 2), (6, 3), (7, 0), (8, 1), (9, 0)] (by kernel_rfl) (by kernel_rfl) ?_; refine zm72 ?_; refine zm71 ?_
  refine TF.still (pr_own1 rfl (.there _ (.here _)) (set_get0 (by simp; omega))) rfl ?_; refine zm231 ?_
  refine TF.bslice rfl rfl rfl rfl (fun b37 => ?_)
  refine TF.loud (TL.append (enc := Str.cells) rfl rfl rfl hO (Src.own [x.name] (.here _) rfl rfl) (by simp; omega) rfl (.skip _ (.skip _ (.skip _ (.skip _ (.skip _ (.skip _ .all)))))) rfl (fun a38 c38 ob38 hO38 => ?_))
  refine TF.back ?_; refine zm71 ?_; refine TF.loud ?_; refine zm183 ?_; refine TF.back (TF.nil ?_); refine zm312 ?_
  exact TX.round4 (k + 1) _ ob38 H ⟨⟨by omega, by omega⟩, hO38.cast (by rw [map_take_snoc k0 hx])⟩ ⟨rfl, rfl, rfl, rfl, rfl, rfl, rfl, rfl, trivial⟩ (fun w hw => by have hw2 := hw.drop.drop; rw [set_k] at hw2; rw [← List.set_set]; exact hw2) (by omega)
 ·
  refine zm90 ?_
  refine TL.pubO hO (.skip _ (.skip _ (.skip _ (.skip _ .all)))) (by simp) (fun HJ leJ hJ => ?_)
  replace hP := hP.le leJ
  replace hQ := hQ.le leJ
  have hJ2 := hJ.cast (show _ = q.params.map (·.name) by rw [take_all c28 k0])
  refine zm20 ?_; refine TL.run (pr_lenSl rfl rfl hQ.s) rfl ?_; refine zm10 ?_
  refine TC.loop4 (V := fun (p : SnIx) v ob H1 => [(44, .int .i64 p.1)]) (K := [(1, _), (2, _), (4, _), (5, _), (6, _), (42, _), (43, _)]) (L := fun (p : SnIx) v ob H1 => St [] w0 H H1 ((b23, p.2.1) :: (b5, q.cells) :: (b4, [.int .i64 0, .int .i64 0, .int .i64 0]) :: (b2, pg.cells) :: [])) (I := fun (p : SnIx) v ob H1 => (0 ≤ p.1 ∧ p.1 ≤ q.steps.length) ∧ HJ.le H1 ∧ BRow H1 p.2.1 p.2.2 ∧ p.2.2.length = q.steps.length ∧ senseF pg i q = senseGo pg q i (q.steps.drop p.1.toNat) p.1 p.2.2) (μ := fun (p : SnIx) => (q.steps.length - p.1).toNat) ((0 : Int), (List.replicate q.steps.length nilV).set 0 _, bound0 q) .nilFunc [] HJ ⟨rfl, rfl, rfl, rfl, rfl, rfl, rfl, rfl, trivial⟩ ⟨⟨by omega, by omega⟩, Hp.le.refl _, brow0 hJ2 hpl, bound0_len q, rfl⟩ (fun w hw => hw) (fun p v ob H1 hI => ?_)
  obtain ⟨⟨k0, k1⟩, hle, hB, hbl, hS⟩ := hI
  obtain ⟨k, vs, b⟩ := p
  dsimp only at *
  replace hP := hP.le hle
  replace hQ := hQ.le hle
  refine zm11 ?_
  refine TC.condD rfl (fun c45 => ?_) (fun c45 => ?_)
  ·
   obtain ⟨s, hx⟩ := getSome (l := q.steps) k0 c45
   have hs := hQ.ss s (List.mem_of_getElem? hx)
   obtain ⟨hm0, hin⟩ := hsh k.toNat s hx
   have hsz := may_sizes hm0
   obtain ⟨vk, bk, hvk, hbk, hBk⟩ := hB.at_ (k := k) (by omega)
   have hvl := hB.1
   refine zm114 ?_; refine zm228 ?_; refine TL.run (pr_elA hQ.s hx rfl rfl) rfl (TL.alloc rfl (fun b10 => ?_))
   refine zm0 ?_; refine zm175 ?_; refine zm150 ?_
   refine TQ.run (pr_ownA rfl (.there _ (.there _ (.there _ (.there _ (.here _))))) rfl) rfl (TQ.run (pr_ownA rfl (.there _ (.there _ (.here _))) rfl) rfl (TQ.run (pr_ownA rfl (.here _) rfl) rfl ?_)); refine zm78 ?_
   refine TQ.run (pr_index rfl rfl (by omega) (by omega)) rfl (TQ.run (pr_own1 rfl (.there _ (.here _)) (get_k hvk)) rfl (TQ.callS (enters rfl rfl rfl rfl) (step_ok s hP hQ hs hBk hsz.2 (by omega)) rfl ?_)); refine zm79 ?_
   refine zm28 ?_
   refine TC.condND rfl (fun c58 => ?_) (fun c58 => ?_)
   ·
    refine zm40 ?_; refine TL.callS (enters rfl rfl rfl rfl) (fault_ok _ i k) rfl ?_; refine zm314 ?_; refine zm237 ?_; refine zm50 ?_
    exact TX.finS (.inr rfl) (results1 rfl (RVal.cellA rfl (.there _ (.there _ (.there _ (.here _)))) rfl)) (by rw [sn_bad k0 hx hbk c58 hS]; rfl)
   ·
    have he0 := c58
    refine zm12 ?_; refine zm34 ?_
    refine TL.callO (enters rfl rfl rfl rfl) (binds_ok s hs (by omega)) rfl (fun v64 H64 ob64 hle64 hp64 => ?_)
    obtain ⟨eH64, hO64⟩ := hp64
    subst H64
    obtain ⟨a64, c64, rfl⟩ := hO64.form
    refine TL.pubO hO64 (.skip _ (.skip _ (.skip _ (.skip _ (.skip _ .all))))) (by simp) (fun HP64 leP64 hR64 => ?_)
    replace hle := hle.trans leP64
    replace hs := hs.le leP64
    replace hB := hB.le leP64
    have hR64m := hR64.max
    refine zm2 ?_; refine zm34 ?_
    refine TL.callO (enters rfl rfl rfl rfl) (nexts_ok s hs (by omega)) rfl (fun v66 H66 ob66 hle66 hp66 => ?_)
    obtain ⟨eH66, hO66⟩ := hp66
    subst H66
    obtain ⟨a66, c66, rfl⟩ := hO66.form
    refine TL.pubO hO66 (.skip _ (.skip _ (.skip _ (.skip _ (.skip _ .all))))) (by simp) (fun HP66 leP66 hR66 => ?_)
    replace hle := hle.trans leP66
    replace hB := hB.le leP66
    replace hR64 := hR64.le leP66
    have hR66m := hR66.max
    refine TL.run (pr_lenSl rfl rfl hR66) rfl ?_; refine zm10 ?_
    refine TC.loop4 (V := fun (e : SnIx) v2 ob2 H2 => [(68, .int .i64 e.1)]) (K := [(1, _), (2, _), (4, _), (5, _), (6, _), (9, _), (10, _), (11, _), (12, _), (42, _), (43, _), (44, _), (45, _), (46, _), (47, _), (48, _), (49, _), (50, _), (51, _), (52, _), (53, _), (54, _), (55, _), (56, _), (57, _), (58, _), (63, _), (64, _), (65, _), (66, _), (67, _)]) (L := fun (e : SnIx) v2 ob2 H2 => St [] w0 H H2 ((b10, s.cells) :: (b23, e.2.1) :: (b5, q.cells) :: (b4, [.int .i64 0, .int .i64 0, .int .i64 0]) :: (b2, pg.cells) :: [])) (I := fun (e : SnIx) v2 ob2 H2 => (0 ≤ e.1 ∧ e.1 ≤ (nextsS s).length) ∧ HP66.le H2 ∧ BRow H2 e.2.1 e.2.2 ∧ e.2.2.length = q.steps.length ∧ (e.2.1[k.toNat]? = some vk ∧ e.2.2[k.toNat]? = some bk) ∧ boundGo k (nextsS s) (bindsS s) b = boundGo k ((nextsS s).drop e.1.toNat) ((bindsS s).drop e.1.toNat) e.2.2) (μ := fun (e : SnIx) => ((nextsS s).length - e.1).toNat) ((0 : Int), vs, b) .nilFunc [] HP66 ⟨rfl, rfl, rfl, rfl, rfl, rfl, rfl, rfl, rfl, rfl, rfl, rfl, rfl, rfl, rfl, rfl, rfl, rfl, rfl, rfl, rfl, rfl, rfl, rfl, rfl, rfl, rfl, rfl, rfl, rfl, rfl, rfl, trivial⟩ ⟨⟨by omega, by omega⟩, Hp.le.refl _, hB, hbl, ⟨hvk, hbk⟩, rfl⟩ (fun w hw => hw) (fun e v2 ob2 H2 hI => ?_)
    obtain ⟨⟨j0, j1⟩, hle2, hB2, hbl2, ⟨hvk2, hbk2⟩, hG⟩ := hI
    replace hle := hle.trans hle2
    replace hR64 := hR64.le hle2
    replace hR66 := hR66.le hle2
    have hBk2 := hB2.2.1 _ _ _ hvk2 hbk2
    have hBk2m := hB2.2.2 _ _ hbk2
    have hvl2 := hB2.1
    refine zm11 ?_
    refine TC.condD rfl (fun c69 => ?_) (fun c69 => ?_)
    ·
     obtain ⟨t, ht⟩ := getSome (l := nextsS s) j0 c69
     obtain ⟨m, hm⟩ := binds_of j0 c69
     have htb := hin t (List.mem_of_getElem? ht)
     have hbn := binds_len s
     have hk3 : ((k.toNat : Nat) : Int) = k := by omega
     refine zm114 ?_; refine TL.run (pr_indexSl rfl hR66 rfl (by omega) (by omega)) rfl (TL.run (pr_el0 hR66 ht rfl rfl) rfl ?_); refine zm60 ?_; refine zm24 ?_
     refine TL.bslice rfl rfl rfl rfl (fun b75 => ?_)
     refine zm9 ?_; refine zm21 ?_
     refine TL.run (pr_own1 rfl (.there _ (.there _ (.here _))) (get_k hvk2)) rfl (TL.append (enc := Str.cells) rfl rfl rfl (OwnSl.blk (enc := Str.cells) [] rfl rfl (by decide)) (Src.sl hBk2) (by simp; omega) rfl (.take (.here _) rfl) rfl (fun a80 c80 ob80 hO80 => ?_))
     refine zm229 ?_; refine zm24 ?_; refine TL.run (pr_indexSl rfl hR64 rfl (by omega) (by omega)) rfl (TL.run (pr_el0 hR64 hm rfl rfl) rfl (TL.run (pr_str rfl rfl rfl) rfl ?_)); refine zm33 ?_
     refine TC.condND rfl (fun c86 => ?_) (fun c86 => ?_)
     ·
      refine zm25 ?_; refine zm418 ?_; refine zm238 ?_; refine zm71 ?_; refine zm288 ?_; refine zm72 ?_
      refine TF.pure (pr_indexSl rfl hR64 rfl (by omega) (by omega)) rfl (TF.still (pr_el0 hR64 hm rfl rfl) rfl (TF.bslice rfl rfl rfl rfl (fun b97 => ?_)))
      refine TF.loud (TL.append (enc := Str.cells) rfl rfl rfl hO80 (Src.own [m] (.here _) rfl rfl) (by simp; omega) rfl (.skip _ (.skip _ (.skip _ (.skip _ (.skip _ (.skip _ .all)))))) rfl (fun a98 c98 ob98 hO98 => ?_))
      refine TF.back ?_; refine zm71 ?_; refine TF.loud ?_; refine zm183 ?_; refine TF.back (TF.nil (TX.blkN (TX.seqN ?_)))
      refine TC.region (TL.pubO hO98 (.skip _ (.skip _ (.skip _ (.skip _ (.skip _ (.skip _ .all)))))) (by simp) (fun HPb lePb hPb => ?_))
      replace hle2 := hle2.trans lePb
      replace hB2 := hB2.le lePb
      refine TL.run ((by first | exact pr_add rfl rfl (by omega) (by omega) | exact pr_pure rfl)) rfl (TL.run (pr_pure rfl) rfl (TL.nil (TX.round4 (e.1 + 1, e.2.1.set t.toNat _, e.2.2.set t.toNat (bk ++ [m])) .nilFunc [] HPb ⟨⟨by omega, by omega⟩, hle2, (hB2.set hPb (by first | omega | (simp; omega))), by rw [List.length_set]; exact hbl2, ⟨by rw [List.getElem?_set, if_neg (by omega)]; exact hvk2, by rw [List.getElem?_set, if_neg (by omega)]; exact hbk2⟩, by rw [← putAt_T hbk2 c86]; exact bg_next j0 ht hm hG⟩ ⟨rfl, rfl, rfl, rfl, rfl, rfl, rfl, rfl, rfl, rfl, rfl, rfl, rfl, rfl, rfl, rfl, rfl, rfl, rfl, rfl, rfl, rfl, rfl, rfl, rfl, rfl, rfl, rfl, rfl, rfl, rfl, rfl, trivial⟩ (fun w hw => by have hw2 := hw.drop; simp only [set_k, List.set_set] at hw2; exact hw2) (by omega))))
     ·
      refine zm269 ?_
      refine TL.pubO hO80 (.skip _ (.skip _ (.skip _ (.skip _ (.skip _ .all))))) (by simp) (fun HPb lePb hPb => ?_)
      replace hle2 := hle2.trans lePb
      replace hB2 := hB2.le lePb
      refine TL.run ((by first | exact pr_add rfl rfl (by omega) (by omega) | exact pr_pure rfl)) rfl (TL.run (pr_pure rfl) rfl (TL.nil (TX.round4 (e.1 + 1, e.2.1.set t.toNat _, e.2.2.set t.toNat bk) .nilFunc [] HPb ⟨⟨by omega, by omega⟩, hle2, (hB2.set hPb (by first | omega | (simp; omega))), by rw [List.length_set]; exact hbl2, ⟨by rw [List.getElem?_set, if_neg (by omega)]; exact hvk2, by rw [List.getElem?_set, if_neg (by omega)]; exact hbk2⟩, by rw [← putAt_F hbk2 c86]; exact bg_next j0 ht hm hG⟩ ⟨rfl, rfl, rfl, rfl, rfl, rfl, rfl, rfl, rfl, rfl, rfl, rfl, rfl, rfl, rfl, rfl, rfl, rfl, rfl, rfl, rfl, rfl, rfl, rfl, rfl, rfl, rfl, rfl, rfl, rfl, rfl, rfl, trivial⟩ (fun w hw => by have hw2 := hw; simp only [set_k, List.set_set] at hw2; exact hw2) (by omega))))
    ·
     refine zm236 ?_
     exact TX.round4 (i := (k, vs, b)) (k + 1, e.2.1, e.2.2) .nilFunc [] H2 ⟨⟨by omega, by omega⟩, hle, hB2, hbl2, (bg_end j0 c69 hG) ▸ sn_next k0 hx hbk he0 hS⟩ ⟨rfl, rfl, rfl, rfl, rfl, rfl, rfl, rfl, trivial⟩ (fun w hw => hw.drop) (by omega)
  ·
   refine zm84 ?_; refine zm14 ?_; refine zm239 ?_
   exact TX.finS (.inr rfl) (results1 rfl (RVal.cellA rfl (.there _ (.there _ (.here _))) rfl)) (by rw [sn_end k0 c45 hS]; rfl)
end Go.Sx
namespace Go.Sx
open Go Go.Proofs
set_option maxHeartbeats 1000000 in
theorem chk2_ok {H : Hp} {pg : SProg} {b1 : Nat} (hP : ProgOk H pg) (hM : MaxG H) (hb : PgAt H b1 pg) :
  FnS Tryz.prog 36 [.pointer (some ⟨b1, 0, none⟩)] H (.agg (allF pg).cells.toArray) := by
 refine FnS.enter Tryz.func36 Tryz.ntmps36 rfl rfl (fun w0 => ?_)
 refine zm4 ?_
 refine TL.alloc rfl (fun b1 => ?_)
 refine zm27 ?_; refine zm185 ?_; exact TL.callS (enters rfl rfl rfl rfl) (all_ok hP hM) rfl (zq353)
set_option maxHeartbeats 1000000 in
theorem chk3_ok {H : Hp} {pg : SProg} {b1 : Nat} (hP : ProgOk H pg) (hb : PgAt H b1 pg) :
  FnS Tryz.prog 40 [.pointer (some ⟨b1, 0, none⟩)] H (.agg (mainF pg.procs).cells.toArray) := by
 have hq := hP.q
 have hmax := hq.max
 refine FnS.enter Tryz.func40 Tryz.ntmps40 rfl rfl (fun w0 => ?_)
 refine zm4 ?_
 refine TL.alloc rfl (fun b1 => ?_)
 refine zm135 ?_; refine zm185 ?_; refine TL.callS (enters rfl rfl rfl rfl) (sFind_ok sMain hP) rfl ?_; refine zm2 ?_
 refine TC.sw (decide (findS pg.procs sMain < 0) || decide (0 < ((getP pg.procs (findS pg.procs sMain)).params.length : Int))) 16 [(1, _)] ⟨rfl, trivial⟩ ?_ ?_
 ·
  refine zm104 ?_
  refine TL.split (s := 7) rfl (fun g7 => ?_) (fun g7 => ?_)
  ·
   have q7 := of_decide_eq_true g7
   refine zm44 ?_; refine zm44 ?_; refine zm37 ?_
   exact TX.sw rfl (by first | (rw [hgp]; simp_all; done) | (simp_all; done) | (simp [*]; done) | (simp_all; omega)) ⟨rfl, trivial⟩
  ·
   have q7 := of_decide_eq_false g7
   have hfr := find_range pg.procs sMain
   obtain ⟨x, hx⟩ := getSome (l := pg.procs) (i := findS pg.procs sMain) (by omega) (by omega)
   have hxp := (hP.qs x (List.mem_of_getElem? hx)).pa.max
   have hgp : getP pg.procs (findS pg.procs sMain) = x := by unfold getP; rw [hx]; rfl
   refine zm43 ?_; refine TL.gdY rfl rfl (pr_hp1 rfl (hb 2 _ rfl)) rfl ?_; refine zm8 ?_; refine TL.gdY rfl rfl (pr_indexSl rfl hq rfl (by omega) (by omega)) rfl ?_; refine zm43 ?_; refine TL.gdY rfl rfl (pr_el1 hq hx rfl rfl) rfl ?_
   refine zm355 ?_; refine zm85 ?_
   exact TX.sw rfl (by first | (rw [hgp]; simp_all; done) | (simp_all; done) | (simp [*]; done) | (simp_all; omega)) ⟨rfl, trivial⟩
 refine TC.cond rfl (fun c16 => ?_) (fun c16 => ?_)
 ·
  refine zm4 ?_; refine TL.callS (enters rfl rfl rfl rfl) (fault_ok 1504 (-1) (-1)) rfl ?_; refine zm67 ?_
  exact TX.thenR (TX.finS (.inr rfl) (results1 rfl (RVal.cellA rfl (.here _) rfl)) (by first | (rw [main_1 c16]; rfl) | (rw [main_2 c16]; rfl)))
 ·
  refine zm69 ?_; refine zm14 ?_; refine zm67 ?_
  exact TX.finS (.inr rfl) (results1 rfl (RVal.cellA rfl (.here _) rfl)) (by first | (rw [main_1 c16]; rfl) | (rw [main_2 c16]; rfl))
set_option maxHeartbeats 1000000 in
theorem chk1_ok {H : Hp} {b1 : Nat} {a : Option Addr} {n c : Nat} :
  Fn Tryz.prog 34 [.slice a n c, .pointer (some ⟨b1, 0, none⟩)] H (fun v H1 => ∃ b2, v = .func (.func 35) #[] #[.pointer (some ⟨b1, 0, none⟩), .pointer (some ⟨b2, 0, none⟩)] ∧ CellAt H1 b2 (.slice a n c)) := by
 refine Fn.enter Tryz.func34 Tryz.ntmps34 rfl rfl (fun w0 => ?_)
 refine zm4 ?_
 refine TL.box1 rfl rfl (fun b2 => ?_)
 refine zm100 ?_
 refine TL.pub (by simp) (fun H_b2 le_b2 rd_b2 => ?_)
 refine zm0 ?_; refine zm22 ?_
 exact TX.fin0 (.inr rfl) (results1 rfl (RVal.tmp rfl)) ⟨b2, rfl, rd_b2 0 _ rfl⟩
end Go.Sx
namespace Go.Sx
open Go Go.Proofs
set_option maxHeartbeats 4000000 in
theorem each2_ok {H : Hp} {pg : SProg} {b1 b2 : Nat} {lv : Value} (hP : ProgOk H pg) (hM : MaxG H) (hb : PgAt H b1 pg) (hc : CellAt H b2 lv) (hL : RdSl H 1 Fc.cells lv [38, 39]) :
  FnS Tryz.prog 35 [.pointer (some ⟨b1, 0, none⟩), .pointer (some ⟨b2, 0, none⟩)] H (.agg (eachF (headShape pg.procs) pg.procs 0).cells.toArray) := by
 have hq := hP.q
 have hmax := hq.max
 have one0 := hL.isOne
 obtain ⟨va, vc, rfl⟩ := hL.len
 refine FnS.enter Tryz.func35 Tryz.ntmps35 rfl rfl (fun w0 => ?_)
 refine zm4 ?_
 refine TL.alloc rfl (fun b2 => ?_)
 refine zm135 ?_; refine zm6 ?_; refine TL.run (pr_hp1 rfl (hb 2 _ rfl)) rfl (TL.run (pr_lenSl rfl rfl hq) rfl ?_); refine zm10 ?_
 refine TC.loop (V := fun k => [(10, .int .i64 k)]) (K := [(0, _), (1, _), (2, _), (9, _)]) (L := fun k => _) (I := fun k => (0 ≤ k ∧ k ≤ pg.procs.length) ∧ eachF (headShape pg.procs) pg.procs 0 = eachF (headShape pg.procs) (pg.procs.drop k.toNat) k) (μ := fun k => (pg.procs.length - k).toNat) (i := (0 : Int)) ⟨rfl, rfl, rfl, rfl, rfl, trivial⟩ ⟨⟨by omega, by omega⟩, rfl⟩ (fun w hw => hw) (fun k hI => ?_)
 obtain ⟨⟨k0, k1⟩, hE⟩ := hI
 refine zm11 ?_
 refine TC.condD rfl (fun c11 => ?_) (fun c11 => ?_)
 ·
  obtain ⟨q, hx⟩ := getSome (l := pg.procs) k0 c11
  refine zm117 ?_; refine zm4 ?_; refine TL.run (pr_hp1 rfl hc) rfl (TL.run (pr_lenSl rfl rfl hL) rfl ?_); refine zm10 ?_; refine TC.rounds 3 (TR.succ ?_); refine zm11 ?_
  refine TC.condD rfl (fun c16_0 => ?_) (fun c16_0 => ?_)
  ·
   refine zm15 ?_; refine zm115 ?_; refine TL.run (pr_el0 hL (show ([38, 39] : List FuncId)[0]? = some _ from rfl) rfl rfl) rfl ?_; refine zm53 ?_; refine zm185 ?_; refine zm0 ?_
   refine TL.callS (enters rfl rfl rfl rfl) (head_ok k hP hM k0 hx) rfl (TL.alloc rfl (fun b6 => ?_))
   refine zm151 ?_
   refine TC.condND rfl (fun c25_0 => ?_) (fun c25_0 => ?_)
   ·
    refine zm34 ?_; refine zm145 ?_; refine zm148 ?_
    exact TX.finS (.inr rfl) (results1 rfl (RVal.cellA rfl (.there _ (.here _)) rfl)) (by rw [each_bad (f := (headShape pg.procs)) k0 hx (by rw [hs_1 c25_0]; exact c25_0) hE, hs_1 c25_0]; rfl)
   ·
    have hz := head_sizes c25_0
    refine zm152 ?_
    refine TC.condD rfl (fun c16_1 => ?_) (fun c16_1 => ?_)
    ·
     refine zm15 ?_; refine zm115 ?_; refine TL.run (pr_el0 hL (show ([38, 39] : List FuncId)[1]? = some _ from rfl) rfl rfl) rfl ?_; refine zm53 ?_; refine zm185 ?_; refine zm0 ?_
     refine TL.callS (enters rfl rfl rfl rfl) (shape_ok k hP k0 hx hz.2.1 hz.2.2) rfl (TL.alloc rfl (fun b6x => ?_))
     refine zm151 ?_
     refine TC.condND rfl (fun c25_1 => ?_) (fun c25_1 => ?_)
     ·
      refine zm34 ?_; refine zm239 ?_; refine zm148 ?_
      exact TX.finS (.inr rfl) (results1 rfl (RVal.cellA rfl (.there _ (.there _ (.here _))) rfl)) (by rw [each_bad (f := (headShape pg.procs)) k0 hx (by rw [hs_2 c25_0]; exact c25_1) hE, hs_2 c25_0]; rfl)
     ·
      refine zm152 ?_
      refine TC.condD rfl (fun c16_2 => ?_) (fun c16_2 => ?_)
      · exact absurd c16_2 (by decide)
      ·
       refine zm236 ?_
       exact TX.round (k + 1) ⟨⟨by omega, by omega⟩, each_next k0 hx (by rw [hs_2 c25_0]; exact c25_1) hE⟩ ⟨rfl, rfl, rfl, rfl, rfl, trivial⟩ (fun w hw => hw.drop.drop) (by omega)
    · exact absurd (by decide) c16_1
  · exact absurd (by decide) c16_0
 · exact zq1074
set_option maxHeartbeats 4000000 in
theorem each1_ok {H : Hp} {pg : SProg} {b1 b2 : Nat} {lv : Value} (hP : ProgOk H pg) (hM : MaxG H) (hb : PgAt H b1 pg) (hc : CellAt H b2 lv) (hL : RdSl H 1 Fc.cells lv [42]) (hgood : ∀ q ∈ pg.procs, ProcGood q) :
  FnS Tryz.prog 35 [.pointer (some ⟨b1, 0, none⟩), .pointer (some ⟨b2, 0, none⟩)] H (.agg (eachF (senseF pg) pg.procs 0).cells.toArray) := by
 have hq := hP.q
 have hmax := hq.max
 have one0 := hL.isOne
 obtain ⟨va, vc, rfl⟩ := hL.len
 refine FnS.enter Tryz.func35 Tryz.ntmps35 rfl rfl (fun w0 => ?_)
 refine zm4 ?_
 refine TL.alloc rfl (fun b2 => ?_)
 refine zm135 ?_; refine zm6 ?_; refine TL.run (pr_hp1 rfl (hb 2 _ rfl)) rfl (TL.run (pr_lenSl rfl rfl hq) rfl ?_); refine zm10 ?_
 refine TC.loop (V := fun k => [(10, .int .i64 k)]) (K := [(0, _), (1, _), (2, _), (9, _)]) (L := fun k => _) (I := fun k => (0 ≤ k ∧ k ≤ pg.procs.length) ∧ eachF (senseF pg) pg.procs 0 = eachF (senseF pg) (pg.procs.drop k.toNat) k) (μ := fun k => (pg.procs.length - k).toNat) (i := (0 : Int)) ⟨rfl, rfl, rfl, rfl, rfl, trivial⟩ ⟨⟨by omega, by omega⟩, rfl⟩ (fun w hw => hw) (fun k hI => ?_)
 obtain ⟨⟨k0, k1⟩, hE⟩ := hI
 refine zm11 ?_
 refine TC.condD rfl (fun c11 => ?_) (fun c11 => ?_)
 ·
  obtain ⟨q, hx⟩ := getSome (l := pg.procs) k0 c11
  have hg := hgood q (List.mem_of_getElem? hx)
  refine zm117 ?_; refine zm4 ?_; refine TL.run (pr_hp1 rfl hc) rfl (TL.run (pr_lenSl rfl rfl hL) rfl ?_); refine zm10 ?_; refine TC.rounds 2 (TR.succ ?_); refine zm11 ?_
  refine TC.condD rfl (fun c16_0 => ?_) (fun c16_0 => ?_)
  ·
   refine zm15 ?_; refine zm115 ?_; refine TL.run (pr_el0 hL (show ([42] : List FuncId)[0]? = some _ from rfl) rfl rfl) rfl ?_; refine zm53 ?_; refine zm185 ?_; refine zm0 ?_
   refine TL.callS (enters rfl rfl rfl rfl) (sense_ok k hP k0 hx hg.1 hg.2.1 hg.2.2.1 hg.2.2.2) rfl (TL.alloc rfl (fun b6 => ?_))
   refine zm151 ?_
   refine TC.condND rfl (fun c25_0 => ?_) (fun c25_0 => ?_)
   ·
    refine zm34 ?_; refine zm145 ?_; refine zm148 ?_
    exact TX.finS (.inr rfl) (results1 rfl (RVal.cellA rfl (.there _ (.here _)) rfl)) (by rw [each_bad (f := (senseF pg)) k0 hx c25_0 hE]; rfl)
   ·
    refine zm152 ?_
    refine TC.condD rfl (fun c16_1 => ?_) (fun c16_1 => ?_)
    · exact absurd c16_1 (by decide)
    ·
     refine zm236 ?_
     exact TX.round (k + 1) ⟨⟨by omega, by omega⟩, each_next k0 hx c25_0 hE⟩ ⟨rfl, rfl, rfl, rfl, rfl, trivial⟩ (fun w hw => hw.drop) (by omega)
  · exact absurd (by decide) c16_0
 · exact zq1074
end Go.Sx
namespace Go.Sx
open Go Go.Proofs
set_option maxHeartbeats 4000000 in
theorem check_ok {H : Hp} {pg : SProg} (hP : ProgOk H pg) (hM : MaxG H) :
  Fn Tryz.prog 13 [.agg pg.cells.toArray] H (fun v H1 => v = .agg (checkS pg).cells.toArray) := by
 refine Fn.enter Tryz.func13 Tryz.ntmps13 rfl rfl (fun w0 => ?_)
 refine zm4 ?_
 refine TL.box rfl rfl (fun b1 => ?_)
 refine TL.alloc rfl (fun b2 => ?_)
 refine zm27 ?_; refine TL.front (.there _ (.here _)) (TL.pub (by simp) (fun H_b1 le_b1 rd_b1 => ?_))
 replace hP := hP.le le_b1
 replace hM := hM.le le_b1
 have hb : PgAt H_b1 b1 pg := rd_b1
 refine zm60 ?_; refine zm24 ?_
 refine TL.bslice rfl rfl rfl rfl (fun b11 => ?_)
 refine TL.pub (by simp) (fun H_b11 le_b11 rd_b11 => ?_)
 replace hP := hP.le le_b11
 replace hM := hM.le le_b11
 replace hb := hb.le le_b11
 have hL11 : RdSl H_b11 1 Fc.cells _ ([38, 39]) := RdSl.blk (cap := 2) rd_b11 (by intro x hx; rfl) (by kernel_rfl) (by show 2 ≤ 9223372036854775807; decide)
 refine TL.call (enters rfl rfl rfl rfl) (chk1_ok) rfl (fun v12 H12 hle12 hp12 => ?_)
 obtain ⟨bx12, rfl, hC12⟩ := hp12
 replace hP := hP.le hle12
 replace hM := hM.le hle12
 replace hb := hb.le hle12
 replace hL11 := hL11.le hle12
 refine zm9 ?_
 refine TL.bslice rfl rfl rfl rfl (fun b15 => ?_)
 refine TL.pub (by simp) (fun H_b15 le_b15 rd_b15 => ?_)
 replace hP := hP.le le_b15
 replace hM := hM.le le_b15
 replace hb := hb.le le_b15
 replace hL11 := hL11.le le_b15
 replace hC12 := hC12.le le_b15
 have hL15 : RdSl H_b15 1 Fc.cells _ ([42]) := RdSl.blk (cap := 1) rd_b15 (by intro x hx; rfl) (by kernel_rfl) (by show 1 ≤ 9223372036854775807; decide)
 refine TL.call (enters rfl rfl rfl rfl) (chk1_ok) rfl (fun v16 H16 hle16 hp16 => ?_)
 obtain ⟨bx16, rfl, hC16⟩ := hp16
 replace hP := hP.le hle16
 replace hM := hM.le hle16
 replace hb := hb.le hle16
 replace hL11 := hL11.le hle16
 replace hC12 := hC12.le hle16
 replace hL15 := hL15.le hle16
 refine TL.bslice rfl rfl rfl rfl (fun b17 => ?_)
 refine zm226 ?_; refine zm113 ?_; refine zm10 ?_; refine TC.rounds 5 (TR.succ ?_); refine zm11 ?_; refine TC.condT rfl ?_; refine zm15 ?_; refine zm21 ?_; refine zm29 ?_; refine zm53 ?_
 refine TL.callS (enters rfl rfl rfl rfl) (chk2_ok hP hM hb) rfl (TL.alloc rfl (fun b7 => ?_))
 refine zm151 ?_
 refine TC.condND rfl (fun c28_0 => ?_) (fun c28_0 => ?_)
 ·
  refine zm34 ?_; refine zm239 ?_; refine zm50 ?_
  exact TX.fin0 (.inr rfl) (results1 rfl (RVal.cellA rfl (.there _ (.there _ (.here _))) rfl)) (by rw [chk_0 c28_0]; rfl)
 ·
  refine zm152 ?_; refine TC.condT rfl ?_; refine zm15 ?_; refine zm21 ?_; refine zm170 ?_; refine zm53 ?_; refine TL.callS (enters rfl rfl rfl rfl) (each2_ok hP hM hb hC12 hL11) rfl (TL.alloc rfl (fun b7x => ?_))
  refine zm151 ?_
  refine TC.condND rfl (fun c28_1 => ?_) (fun c28_1 => ?_)
  ·
   refine zm34 ?_; refine zm314 ?_; refine zm77 ?_; refine zm50 ?_
   exact TX.fin0 (.inr rfl) (results1 rfl (RVal.cellA rfl (.there _ (.there _ (.there _ (.here _)))) rfl)) (by rw [chk_1 c28_0 c28_1]; rfl)
  ·
   refine zm152 ?_; refine TC.condT rfl ?_; refine zm15 ?_; refine zm21 ?_; refine zm233 ?_; refine zm53 ?_; refine TL.callS (enters rfl rfl rfl rfl) (chk3_ok hP hb) rfl (TL.alloc rfl (fun b7xx => ?_))
   refine zm151 ?_
   refine TC.condND rfl (fun c28_2 => ?_) (fun c28_2 => ?_)
   ·
    refine zm34 ?_; refine zm374 ?_; refine zm77 ?_; refine zm50 ?_
    exact TX.fin0 (.inr rfl) (results1 rfl (RVal.cellA rfl (.there _ (.there _ (.there _ (.there _ (.here _))))) rfl)) (by rw [chk_2 c28_0 c28_1 c28_2]; rfl)
   ·
    refine zm152 ?_; refine TC.condT rfl ?_; refine zm15 ?_; refine zm21 ?_; refine zm91 ?_; refine zm53 ?_
    refine TL.callS (enters rfl rfl rfl rfl) (each1_ok hP hM hb hC16 hL15 (each_good _ _ c28_1)) rfl (TL.alloc rfl (fun b7xxx => ?_))
    refine zm151 ?_
    refine TC.condND rfl (fun c28_3 => ?_) (fun c28_3 => ?_)
    ·
     refine zm34 ?_; refine zm319 ?_; refine zm77 ?_; refine zm50 ?_
     exact TX.fin0 (.inr rfl) (results1 rfl (RVal.cellA rfl (.there _ (.there _ (.there _ (.there _ (.there _ (.here _)))))) rfl)) (by rw [chk_3 c28_0 c28_1 c28_2]; rfl)
    ·
     refine zm152 ?_; refine TC.condF rfl ?_; refine zm84 ?_; refine zm14 ?_; refine zm319 ?_; refine zm77 ?_
     exact TX.fin0 (.inr rfl) (results1 rfl (RVal.cellA rfl (.there _ (.there _ (.there _ (.there _ (.there _ (.here _)))))) rfl)) (by rw [chk_ok c28_3 c28_0 c28_1 c28_2]; rfl)
end Go.Sx
namespace Go.Sx
open Go Go.Proofs
set_option maxHeartbeats 32000000 in
theorem rise_ok {H : Hp} {pg : SProg} (hP : ProgOk H pg) (hM : MaxG H) :
  Fn Tryz.prog 15 [.agg pg.cells.toArray] H (fun v H9 => ∃ pg2 : SProg, v = .agg pg2.cells.toArray ∧ ProgOk H9 pg2 ∧ pg2.bare = riseS pg) := by
 have hmr := hP.r.max
 have hml := hP.l.max
 have hmq := hP.q.max
 refine Fn.enter Tryz.func15 Tryz.ntmps15 rfl rfl (fun w0 => ?_)
 refine zm4 ?_
 refine TL.box rfl rfl (fun b1 => ?_)
 refine TL.alloc rfl (fun b2 => ?_)
 refine zm135 ?_; refine TL.front (.there _ (.here _)) (TL.pub (by simp) (fun H_b1 le_b1 rd_b1 => ?_))
 replace hP := hP.le le_b1
 replace hM := hM.le le_b1
 have hb : PgAt H_b1 b1 pg := rd_b1
 refine zm185 ?_
 refine TL.call (enters rfl rfl rfl rfl) (check_ok hP hM) rfl (fun v17 H17 hle17 hp17 => ?_)
 replace hP := hP.le hle17
 replace hb := hb.le hle17
 subst hp17
 refine TL.run (pr_fieldV (off := 0) rfl (by kernel_rfl) rfl) rfl ?_; refine zm2 ?_
 refine TC.condND rfl (fun c19 => ?_) (fun c19 => ?_)
 · refine zm147 ?_; refine zm67 ?_; exact TX.thenR (TX.fin0 (.inr rfl) (results1 rfl (RVal.cellA rfl (.here _) rfl)) ⟨nilPg, rfl, nil_ok _, rise_bad c19⟩)
 ·
  have hck := check_ok0 c19
  have hn1 := hck.r.1
  have hn2 := hck.l.1
  have hn3 := hck.q.1
  refine zm69 ?_
  refine TL.alloc rfl (fun b3 => ?_)
  refine zm135 ?_; refine zm6 ?_; refine TL.run (pr_hp1 rfl (hb 0 _ rfl)) rfl (TL.run (pr_lenSl rfl rfl hP.r) rfl ?_); refine zm10 ?_
  refine TC.loop4 (V := fun (p : Int × List SProto) v1 ob1 H1 => [(24, .int .i64 p.1)]) (K := [(1, _), (2, _), (3, _), (22, _), (23, _)]) (L := fun (p : Int × List SProto) v1 ob1 H1 => St [] w0 H H1 ((b3, [v1, .slice none 0 0, .slice none 0 0]) :: (b2, [.slice none 0 0, .slice none 0 0, .slice none 0 0]) :: ob1)) (I := fun (p : Int × List SProto) v1 ob1 H1 => (0 ≤ p.1 ∧ p.1 ≤ pg.protos.length) ∧ H17.le H1 ∧ OwnSl 3 SProto.cells v1 p.2 ob1 ∧ p.2.length = p.1 ∧ PrAll H1 p.2 ∧ p.2.map SProto.bare = (pg.protos.take p.1.toNat).map SProto.bare) (μ := fun (p : Int × List SProto) => (pg.protos.length - p.1).toNat) ((0 : Int), []) (.slice none 0 0) [] H17 ⟨rfl, rfl, rfl, rfl, rfl, rfl, trivial⟩ ⟨⟨by omega, by omega⟩, Hp.le.refl _, OwnSl.nil, rfl, (fun _ h => by cases h), rfl⟩ (fun w hw => hw) (fun p v1 ob1 H1 hI => ?_)
  obtain ⟨⟨k01, k11⟩, hle1, hO1, hPl1, hPA1, hPm1⟩ := hI
  obtain ⟨k1, P1⟩ := p
  dsimp only at *
  obtain ⟨va1, vc1, rfl⟩ := hO1.form
  replace hP := hP.le hle1
  replace hb := hb.le hle1
  refine zm11 ?_
  refine TC.condD rfl (fun c25 => ?_) (fun c25 => ?_)
  ·
   obtain ⟨x, hk1⟩ := getSome (l := pg.protos) k01 c25
   have hxP := hP.rs x (List.mem_of_getElem? hk1)
   have hxz := proto_le (hck.r.2 x (List.mem_of_getElem? hk1))
   refine zm15 ?_; refine TL.run (pr_indexSl rfl hP.r rfl (by omega) (by omega)) rfl (TL.run (pr_elA hP.r hk1 rfl rfl) rfl (TL.alloc rfl (fun b5 => ?_)))
   refine zm122 ?_
   refine TL.bslice rfl rfl rfl rfl (fun b28 => ?_)
   refine zm20 ?_
   refine TL.append (enc := Str.cells) rfl rfl rfl (OwnSl.blk (enc := Str.cells) [] rfl rfl (by decide)) (Src.sl hxP.r) (by simp; omega) rfl (.take (.here _) rfl) rfl (fun a31 c31 ob31 hO31 => ?_)
   refine zm179 ?_
   refine TX.pubO hO31 (.skip _ (.skip _ (.skip _ (.past _ .all)))) (by simp) (fun HPob31 lePob31 hRr => ?_)
   replace hle1 := hle1.trans lePob31
   replace hxP := hxP.le lePob31
   replace hPA1 := hPA1.le lePob31
   replace hRr := hRr.cast (List.nil_append _)
   refine TX.permL (L' := (b5, _) :: ((b3, _) :: ((b2, _) :: (ob1)))) (perm_end1 [(b5, _), (b3, _), (b2, _)] (A := ob1)) (TX.seqN ?_); refine zm58 ?_; refine zm100 ?_; refine zm63 ?_; refine zm101 ?_
   refine TL.run (pr_lenSl rfl rfl hxP.pt) rfl ?_; refine zm10 ?_
   refine TC.loop4 (V := fun (p : Int × List SPoint) v11 ob11 H11 => [(38, .int .i64 p.1)]) (K := [(1, _), (2, _), (3, _), (5, _), (6, _), (22, _), (23, _), (24, _), (25, _), (26, _), (27, _), (28, _), (29, _), (30, _), (31, _), (32, _), (33, _), (34, _), (35, _), (36, _), (37, _)]) (L := fun (p : Int × List SPoint) v11 ob11 H11 => St [] w0 H H11 ((b5, [gs x.name, .slice a31 ([] ++ x.roles).length c31, v11]) :: (b3, _) :: (b2, _) :: (ob1 ++ ob11))) (I := fun (p : Int × List SPoint) v11 ob11 H11 => (0 ≤ p.1 ∧ p.1 ≤ x.points.length) ∧ HPob31.le H11 ∧ OwnSl 3 SPoint.cells v11 p.2 ob11 ∧ p.2.length = p.1 ∧ PtAll H11 p.2 ∧ p.2.map SPoint.bare = (x.points.take p.1.toNat).map SPoint.bare) (μ := fun (p : Int × List SPoint) => (x.points.length - p.1).toNat) ((0 : Int), []) (.slice none 0 0) [] HPob31 ⟨rfl, rfl, rfl, rfl, rfl, rfl, rfl, rfl, rfl, rfl, rfl, rfl, rfl, rfl, rfl, rfl, rfl, rfl, rfl, rfl, rfl, rfl, trivial⟩ ⟨⟨by omega, by omega⟩, Hp.le.refl _, OwnSl.nil, rfl, (fun _ h => by cases h), rfl⟩ (fun w hw => by rw [List.append_nil]; exact hw) (fun p v11 ob11 H11 hI => ?_)
   obtain ⟨⟨k011, k111⟩, hle11, hO11, hPl11, hPA11, hPm11⟩ := hI
   obtain ⟨k11, P11⟩ := p
   dsimp only at *
   obtain ⟨va11, vc11, rfl⟩ := hO11.form
   replace hle1 := hle1.trans hle11
   replace hxP := hxP.le hle11
   replace hPA1 := hPA1.le hle11
   replace hRr := hRr.le hle11
   refine zm11 ?_
   refine TC.condD rfl (fun c39 => ?_) (fun c39 => ?_)
   ·
    obtain ⟨y, hk11⟩ := getSome (l := x.points) k011 c39
    have hyO := hxP.ps y (List.mem_of_getElem? hk11)
    have hyz := hxz.2.2 y (List.mem_of_getElem? hk11)
    refine zm15 ?_; refine TL.run (pr_indexSl rfl hxP.pt rfl (by omega) (by omega)) rfl (TL.run (pr_elA hxP.pt hk11 rfl rfl) rfl (TL.alloc rfl (fun b8 => ?_)))
    refine zm98 ?_
    refine TL.callO (enters rfl rfl rfl rfl) (arms_ok hyO.a (by omega)) rfl (fun v44 H44 ob44 hle44 hp44 => ?_)
    obtain ⟨eH44, hO44⟩ := hp44
    subst H44
    obtain ⟨a44, c44, rfl⟩ := hO44.form
    refine TL.pubO hO44 (.skip _ (.skip _ (.skip _ (.skip _ (.past _ .all))))) (by simp) (fun HP44 leP44 hR44 => ?_)
    refine zm419 ?_
    replace hle11 := hle11.trans leP44
    replace hPA11 := hPA11.le leP44
    replace hyO := hyO.le leP44
    refine zm63 ?_; refine zm146 ?_; refine zm19 ?_
    refine TL.bslice rfl rfl rfl rfl (fun b49 => ?_)
    refine TL.append (enc := SPoint.cells) rfl rfl rfl hO11 (Src.own [⟨y.frm, y.to, y.arms, (a44, c44)⟩] (.here _) rfl rfl) (by simp; omega) rfl (.skip _ (.skip _ (.skip _ (.skip _ (.skip _ (.past _ .all)))))) rfl (fun a50 c50 ob50 hO50 => ?_)
    refine zm240 ?_; refine zm99 ?_
    exact TX.round4 (i := (k11, P11)) (k11 + 1, P11 ++ [⟨y.frm, y.to, y.arms, (a44, c44)⟩]) _ ob50 HP44 ⟨⟨by omega, by omega⟩, hle11, hO50, by simp only [List.length_append, List.length_cons, List.length_nil]; omega, all_snocR hPA11 ⟨hR44, hyO.z⟩, map_snoc k011 hk11 hPm11 rfl⟩ ⟨rfl, rfl, rfl, rfl, rfl, rfl, rfl, rfl, rfl, rfl, rfl, rfl, rfl, rfl, rfl, rfl, rfl, rfl, rfl, rfl, rfl, rfl, trivial⟩ (fun w hw => hw.drop.drop) (by omega)
   ·
    refine zm38 ?_; refine TC.region ?_
    have hQe := hPm11
    rw [take_all c39 k011] at hQe
    have hQl : P11.length = x.points.length := by have := congrArg List.length hQe; simpa using this
    refine TL.pubO hO11 (.skip _ (.skip _ (.skip _ (.past _ .all)))) (by simp) (fun HPob11 lePob11 hRp => ?_)
    replace hle1 := hle1.trans lePob11
    replace hPA1 := hPA1.le lePob11
    replace hRr := hRr.le lePob11
    replace hPA11 := hPA11.le lePob11
    refine TL.permL (L' := (b5, _) :: ((b3, _) :: ((b2, _) :: (ob1)))) (perm_end1 [(b5, _), (b3, _), (b2, _)] (A := ob1)) ?_; refine zm20 ?_; refine zm19 ?_
    refine TL.bslice rfl rfl rfl rfl (fun b56 => ?_)
    refine TL.append (enc := SProto.cells) rfl rfl rfl hO1 (Src.own [⟨x.name, x.roles, (a31, c31), P11, (va11, vc11)⟩] (.here _) rfl rfl) (by simp; omega) rfl (.skip _ (.skip _ (.skip _ (.skip _ .all)))) rfl (fun a57 c57 ob57 hO57 => ?_)
    refine zm240 ?_; refine zm99 ?_
    exact TX.round4 (i := (k1, P1)) (k1 + 1, P1 ++ [(⟨x.name, x.roles, (a31, c31), P11, (va11, vc11)⟩ : SProto)]) _ ob57 HPob11 ⟨⟨by omega, by omega⟩, hle1, hO57, by simp only [List.length_append, List.length_cons, List.length_nil]; omega, all_snocR hPA1 ⟨hRr, hRp, hPA11⟩, map_snoc k01 hk1 hPm1 (by unfold SProto.bare; simp only [hQe])⟩ ⟨rfl, rfl, rfl, rfl, rfl, rfl, trivial⟩ (fun w hw => hw.drop.drop) (by omega)
  ·
   refine zm90 ?_
   have hE1 := hPm1
   rw [take_all c25 k01] at hE1
   refine TL.pubO hO1 (.skip _ (.skip _ .all)) (by simp) (fun HPob1 lePob1 hRP => ?_)
   replace hP := hP.le lePob1
   replace hb := hb.le lePob1
   replace hPA1 := hPA1.le lePob1
   refine zm320 ?_; refine zm6 ?_; refine TL.run (pr_hp1 rfl (hb 1 _ rfl)) rfl (TL.run (pr_lenSl rfl rfl hP.l) rfl ?_); refine zm10 ?_
   refine TC.loop4 (V := fun (p : Int × List SLocal) v2 ob2 H2 => [(63, .int .i64 p.1)]) (K := [(1, _), (2, _), (3, _), (61, _), (62, _)]) (L := fun (p : Int × List SLocal) v2 ob2 H2 => St [] w0 H H2 ((b3, [.slice va1 P1.length vc1, v2, .slice none 0 0]) :: (b2, [.slice none 0 0, .slice none 0 0, .slice none 0 0]) :: ob2)) (I := fun (p : Int × List SLocal) v2 ob2 H2 => (0 ≤ p.1 ∧ p.1 ≤ pg.locals.length) ∧ HPob1.le H2 ∧ OwnSl 2 SLocal.cells v2 p.2 ob2 ∧ p.2.length = p.1 ∧ LoAll H2 p.2 ∧ p.2.map SLocal.bare = (pg.locals.take p.1.toNat).map SLocal.bare) (μ := fun (p : Int × List SLocal) => (pg.locals.length - p.1).toNat) ((0 : Int), []) (.slice none 0 0) [] HPob1 ⟨rfl, rfl, rfl, rfl, rfl, rfl, trivial⟩ ⟨⟨by omega, by omega⟩, Hp.le.refl _, OwnSl.nil, rfl, (fun _ h => by cases h), rfl⟩ (fun w hw => hw) (fun p v2 ob2 H2 hI => ?_)
   obtain ⟨⟨k02, k12⟩, hle2, hO2, hPl2, hPA2, hPm2⟩ := hI
   obtain ⟨k2, P2⟩ := p
   dsimp only at *
   obtain ⟨va2, vc2, rfl⟩ := hO2.form
   replace hP := hP.le hle2
   replace hb := hb.le hle2
   replace hPA1 := hPA1.le hle2
   replace hRP := hRP.le hle2
   refine zm11 ?_
   refine TC.condD rfl (fun c64 => ?_) (fun c64 => ?_)
   ·
    obtain ⟨x, hk2⟩ := getSome (l := pg.locals) k02 c64
    have hxL := hP.ls x (List.mem_of_getElem? hk2)
    have hxz := local_le (hck.l.2 x (List.mem_of_getElem? hk2)).1
    refine zm15 ?_; refine TL.run (pr_indexSl rfl hP.l rfl (by omega) (by omega)) rfl (TL.run (pr_elA hP.l hk2 rfl rfl) rfl (TL.alloc rfl (fun b10 => ?_)))
    refine zm98 ?_; refine zm100 ?_; refine zm63 ?_; refine zm101 ?_; refine TL.run (pr_lenSl rfl rfl hxL.t) rfl ?_; refine zm10 ?_
    refine TC.loop4 (V := fun (p : Int × List STurn) v12 ob12 H12 => [(72, .int .i64 p.1)]) (K := [(1, _), (2, _), (3, _), (10, _), (11, _), (61, _), (62, _), (63, _), (64, _), (65, _), (66, _), (67, _), (68, _), (69, _), (70, _), (71, _)]) (L := fun (p : Int × List STurn) v12 ob12 H12 => St [] w0 H H12 ((b10, [gs x.name, v12]) :: (b3, _) :: (b2, _) :: (ob2 ++ ob12))) (I := fun (p : Int × List STurn) v12 ob12 H12 => (0 ≤ p.1 ∧ p.1 ≤ x.turns.length) ∧ H2.le H12 ∧ OwnSl 3 STurn.cells v12 p.2 ob12 ∧ p.2.length = p.1 ∧ TuAll H12 p.2 ∧ p.2.map SArms.bare = (x.turns.take p.1.toNat).map SArms.bare) (μ := fun (p : Int × List STurn) => (x.turns.length - p.1).toNat) ((0 : Int), []) (.slice none 0 0) [] H2 ⟨rfl, rfl, rfl, rfl, rfl, rfl, rfl, rfl, rfl, rfl, rfl, rfl, rfl, rfl, rfl, rfl, rfl, trivial⟩ ⟨⟨by omega, by omega⟩, Hp.le.refl _, OwnSl.nil, rfl, (fun _ h => by cases h), rfl⟩ (fun w hw => by rw [List.append_nil]; exact hw) (fun p v12 ob12 H12 hI => ?_)
    obtain ⟨⟨k012, k112⟩, hle12, hO12, hPl12, hPA12, hPm12⟩ := hI
    obtain ⟨k12, P12⟩ := p
    dsimp only at *
    obtain ⟨va12, vc12, rfl⟩ := hO12.form
    replace hle2 := hle2.trans hle12
    replace hxL := hxL.le hle12
    replace hPA2 := hPA2.le hle12
    refine zm11 ?_
    refine TC.condD rfl (fun c73 => ?_) (fun c73 => ?_)
    ·
     obtain ⟨y, hk12⟩ := getSome (l := x.turns) k012 c73
     have hyO := hxL.ts y (List.mem_of_getElem? hk12)
     have hyz := hxz.2 y (List.mem_of_getElem? hk12)
     refine zm15 ?_; refine TL.run (pr_indexSl rfl hxL.t rfl (by omega) (by omega)) rfl (TL.run (pr_elA hxL.t hk12 rfl rfl) rfl (TL.alloc rfl (fun b13 => ?_)))
     refine zm98 ?_
     refine TL.callO (enters rfl rfl rfl rfl) (arms_ok hyO.a (by omega)) rfl (fun v78 H78 ob78 hle78 hp78 => ?_)
     obtain ⟨eH78, hO78⟩ := hp78
     subst H78
     obtain ⟨a78, c78, rfl⟩ := hO78.form
     refine TL.pubO hO78 (.skip _ (.skip _ (.skip _ (.skip _ (.past _ .all))))) (by simp) (fun HP78 leP78 hR78 => ?_)
     refine zm420 ?_
     replace hle12 := hle12.trans leP78
     replace hPA12 := hPA12.le leP78
     replace hyO := hyO.le leP78
     refine zm63 ?_; refine zm146 ?_; refine zm19 ?_
     refine TL.bslice rfl rfl rfl rfl (fun b83 => ?_)
     refine TL.append (enc := STurn.cells) rfl rfl rfl hO12 (Src.own [⟨y.kind, y.peer, y.arms, (a78, c78)⟩] (.here _) rfl rfl) (by simp; omega) rfl (.skip _ (.skip _ (.skip _ (.skip _ (.skip _ (.past _ .all)))))) rfl (fun a84 c84 ob84 hO84 => ?_)
     refine zm240 ?_; refine zm99 ?_
     exact TX.round4 (i := (k12, P12)) (k12 + 1, P12 ++ [⟨y.kind, y.peer, y.arms, (a78, c78)⟩]) _ ob84 HP78 ⟨⟨by omega, by omega⟩, hle12, hO84, by simp only [List.length_append, List.length_cons, List.length_nil]; omega, all_snocR hPA12 ⟨hR78, hyO.z⟩, map_snoc k012 hk12 hPm12 rfl⟩ ⟨rfl, rfl, rfl, rfl, rfl, rfl, rfl, rfl, rfl, rfl, rfl, rfl, rfl, rfl, rfl, rfl, rfl, trivial⟩ (fun w hw => hw.drop.drop) (by omega)
    ·
     refine zm38 ?_; refine TC.region ?_
     have hQe := hPm12
     rw [take_all c73 k012] at hQe
     have hQl : P12.length = x.turns.length := by have := congrArg List.length hQe; simpa using this
     refine TL.pubO hO12 (.skip _ (.skip _ (.skip _ (.past _ .all)))) (by simp) (fun HPob12 lePob12 hRp => ?_)
     replace hle2 := hle2.trans lePob12
     replace hPA2 := hPA2.le lePob12
     replace hPA12 := hPA12.le lePob12
     refine TL.permL (L' := (b10, _) :: ((b3, _) :: ((b2, _) :: (ob2)))) (perm_end1 [(b10, _), (b3, _), (b2, _)] (A := ob2)) ?_; refine zm20 ?_; refine zm19 ?_
     refine TL.bslice rfl rfl rfl rfl (fun b90 => ?_)
     refine TL.append (enc := SLocal.cells) rfl rfl rfl hO2 (Src.own [⟨x.name, P12, (va12, vc12)⟩] (.here _) rfl rfl) (by simp; omega) rfl (.skip _ (.skip _ (.skip _ (.skip _ .all)))) rfl (fun a91 c91 ob91 hO91 => ?_)
     refine zm240 ?_; refine zm99 ?_
     exact TX.round4 (i := (k2, P2)) (k2 + 1, P2 ++ [(⟨x.name, P12, (va12, vc12)⟩ : SLocal)]) _ ob91 HPob12 ⟨⟨by omega, by omega⟩, hle2, hO91, by simp only [List.length_append, List.length_cons, List.length_nil]; omega, all_snocR hPA2 ⟨hRp, hPA12⟩, map_snoc k02 hk2 hPm2 (by unfold SLocal.bare; simp only [hQe])⟩ ⟨rfl, rfl, rfl, rfl, rfl, rfl, trivial⟩ (fun w hw => hw.drop.drop) (by omega)
   ·
    refine zm90 ?_
    have hE2 := hPm2
    rw [take_all c64 k02] at hE2
    refine TL.pubO hO2 (.skip _ (.skip _ .all)) (by simp) (fun HPob2 lePob2 hRL => ?_)
    replace hP := hP.le lePob2
    replace hb := hb.le lePob2
    replace hPA1 := hPA1.le lePob2
    replace hRP := hRP.le lePob2
    replace hPA2 := hPA2.le lePob2
    refine zm320 ?_; refine zm6 ?_; refine TL.run (pr_hp1 rfl (hb 2 _ rfl)) rfl (TL.run (pr_lenSl rfl rfl hP.q) rfl ?_); refine zm10 ?_
    refine TC.loop4 (V := fun (p : Int × List SProc) v3 ob3 H3 => [(97, .int .i64 p.1)]) (K := [(2, _), (3, _), (95, _), (96, _)]) (L := fun (p : Int × List SProc) v3 ob3 H3 => St [] w0 H H3 ((b3, [.slice va1 P1.length vc1, .slice va2 P2.length vc2, v3]) :: (b2, [.slice none 0 0, .slice none 0 0, .slice none 0 0]) :: ob3)) (I := fun (p : Int × List SProc) v3 ob3 H3 => (0 ≤ p.1 ∧ p.1 ≤ pg.procs.length) ∧ HPob2.le H3 ∧ OwnSl 4 SProc.cells v3 p.2 ob3 ∧ p.2.length = p.1 ∧ PcAll H3 p.2 ∧ p.2.map SProc.bare = (pg.procs.take p.1.toNat).map raisedS) (μ := fun (p : Int × List SProc) => (pg.procs.length - p.1).toNat) ((0 : Int), []) (.slice none 0 0) [] HPob2 ⟨rfl, rfl, rfl, rfl, rfl, trivial⟩ ⟨⟨by omega, by omega⟩, Hp.le.refl _, OwnSl.nil, rfl, (fun _ h => by cases h), rfl⟩ (fun w hw => hw) (fun p v3 ob3 H3 hI => ?_)
    obtain ⟨⟨k03, k13⟩, hle3, hO3, hPl3, hPA3, hPm3⟩ := hI
    obtain ⟨k3, P3⟩ := p
    dsimp only at *
    obtain ⟨va3, vc3, rfl⟩ := hO3.form
    replace hP := hP.le hle3
    replace hPA1 := hPA1.le hle3
    replace hRP := hRP.le hle3
    replace hPA2 := hPA2.le hle3
    replace hRL := hRL.le hle3
    refine zm11 ?_
    refine TC.condD rfl (fun c98 => ?_) (fun c98 => ?_)
    ·
     obtain ⟨q, hk3⟩ := getSome (l := pg.procs) k03 c98
     have hqO := hP.qs q (List.mem_of_getElem? hk3)
     have hxR := hck.q.2 q (List.mem_of_getElem? hk3)
     refine zm15 ?_; refine TL.run (pr_indexSl rfl hP.q rfl (by omega) (by omega)) rfl (TL.run (pr_elA hP.q hk3 rfl rfl) rfl (TL.alloc rfl (fun b15 => ?_)))
     refine zm26 ?_; refine zm25 ?_
     refine TD.part 1 3 rfl rfl rfl ?_ ?_
     ·
      refine TD.leaf [(0, 1), (1, 2), (2, 2), (3, 0), (4, 3), (5, 0), (6, 1), (7, 0)] (by kernel_rfl) (by kernel_rfl) ?_; refine zm76 ?_; refine zm289 ?_
      refine TF.loud (TL.call (enters rfl rfl rfl rfl) (raised_ok hqO hxR) rfl (fun v104 H104 hle104 hp104 => ?_))
      obtain ⟨q104, rfl, hq104, hb104⟩ := hp104
      replace hle3 := hle3.trans hle104
      replace hPA3 := hPA3.le hle104
      exact TF.back (zq1083)
     ·
      refine TD.leaf [(0, 1), (2, 2), (3, 0), (1, 2), (4, 3), (5, 0), (6, 1), (7, 0)] (by kernel_rfl) (by kernel_rfl) ?_; refine zm3 ?_; refine zm289 ?_
      refine TF.loud (TL.call (enters rfl rfl rfl rfl) (raised_ok hqO hxR) rfl (fun v104 H104 hle104 hp104 => ?_))
      obtain ⟨q104, rfl, hq104, hb104⟩ := hp104
      replace hle3 := hle3.trans hle104
      replace hPA3 := hPA3.le hle104
      refine TF.back ?_; refine zm278 ?_
      exact zq1083
    ·
     refine zm84 ?_
     have hE3 := hPm3
     rw [take_all c98 k03] at hE3
     refine TL.pubO hO3 (.skip _ (.skip _ .all)) (by simp) (fun HPob3 lePob3 hRQ => ?_)
     replace hPA1 := hPA1.le lePob3
     replace hRP := hRP.le lePob3
     replace hPA2 := hPA2.le lePob3
     replace hRL := hRL.le lePob3
     replace hPA3 := hPA3.le lePob3
     refine zm320 ?_; refine zm19 ?_; refine zm145 ?_
     exact TX.fin0 (.inr rfl) (results1 rfl (RVal.cellA rfl (.there _ (.here _)) rfl)) ⟨⟨P1, (va1, vc1), P2, (va2, vc2), P3, (va3, vc3)⟩, rfl, ⟨hRP, hPA1, hRL, hPA2, hRQ, hPA3⟩, by rw [rise_good c19]; unfold SProg.bare; simp only [hE1, hE2, hE3]⟩
end Go.Sx
