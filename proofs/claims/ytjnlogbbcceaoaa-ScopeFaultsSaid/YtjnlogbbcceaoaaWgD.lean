import Derived.Test.YtjnlogbbcceaoaaWgB
import Derived.Test.YtjnlogbbcceaoaaWgC
import Derived.Test.YtjnlogbbcceaoaaPuS
set_option linter.unusedVariables false
set_option linter.unusedSimpArgs false
namespace Go.Sx
open Go Go.Proofs
set_option maxRecDepth 100000 in
set_option maxHeartbeats 8000000 in
theorem step_ok {H : Hp} {pg : SProg} {vb : Value} {q : SProc} {bound : List Str} (s : SStep) (hP : ProgOk H pg) (hQ : ProcOk H q) (hs : StepOk H s) (hB : RdSl H 1 Str.cells vb bound) (hl : s.args.length ≤ 6 ∧ s.casts.length ≤ 4 ∧ ∀ c ∈ s.casts, c.args.length ≤ 6) (hw7 : s.ways.length ≤ 1000) :
  FnS Try.prog 33 [.agg pg.cells.toArray, .agg q.cells.toArray, .agg s.cells.toArray, vb] H (.int .i64 (stepE pg q.terms s bound)) := by
 have oneB := hB.isOne
 have hTl := terms_len hl
 refine FnS.enter Try.func33 Try.ntmps33 rfl rfl (fun w0 => ?_)
 refine TC.seq (TC.region ?_)
 refine TL.box rfl rfl (fun b4 => ?_)
 refine TL.box rfl rfl (fun b5 => ?_)
 refine TL.box rfl rfl (fun b6 => ?_)
 refine TL.run (pr_pure rfl) rfl (TL.nil (TX.seqN (TC.seq (TC.region (TL.run (pr_pure rfl) rfl (TL.nil (TX.seqN ?_)))))))
 refine TC.seq (TC.seq (TC.region (TL.run (pr_ownA rfl (.here _) rfl) rfl ?_)))
 refine TL.callO (enters rfl rfl rfl rfl) (terms_ok s hs hl) rfl (fun v19 H19 ob19 hle19 hp19 => ?_)
 obtain ⟨eH19, hO19⟩ := hp19
 subst H19
 obtain ⟨a19, c19, rfl⟩ := hO19.form
 refine TL.pubO hO19 (.skip _ (.skip _ (.skip _ .all))) (by simp) (fun HP19 leP19 hR19 => ?_)
 replace hP := hP.le leP19
 replace hQ := hQ.le leP19
 replace hs := hs.le leP19
 replace hB := hB.le leP19
 refine TL.run (pr_lenSl rfl rfl hR19) rfl (TL.run (pr_pure rfl) rfl (TL.nil (TX.seqN (TC.block ?_))))
 refine TC.loop4 (V := fun k v ob H1 => [(9, v), (21, .int .i64 k)]) (K := [(3, _), (4, _), (5, _), (6, _), (8, _), (19, _), (20, _)]) (L := fun k v ob H1 => St [] w0 H H1 ((b6, _) :: (b5, _) :: (b4, _) :: ob)) (I := fun k v ob H1 => (0 ≤ k ∧ k ≤ (termsS s).length) ∧ HP19.le H1 ∧ OwnSl 1 Str.cells v (((termsS s).take k.toNat).flatMap (varsS q.terms)) ob) (μ := fun k => ((termsS s).length - k).toNat) 0 (.slice none 0 0) [] HP19 ⟨rfl, rfl, rfl, rfl, rfl, rfl, rfl, rfl, rfl, trivial⟩ ⟨⟨by omega, by omega⟩, Hp.le.refl _, OwnSl.nil⟩ (fun w hw => hw) (fun k v ob H1 hI => ?_)
 obtain ⟨⟨k0, k1⟩, hle, hO⟩ := hI
 obtain ⟨va, vc, rfl⟩ := hO.form
 have hfl := vars_fl (ts := q.terms) ((termsS s).take k.toNat)
 rw [List.length_take] at hfl
 replace hP := hP.le hle
 replace hQ := hQ.le hle
 replace hs := hs.le hle
 replace hB := hB.le hle
 replace hR19 := hR19.le hle
 refine TC.seq (TC.region (TL.run (pr_pure rfl) rfl (TL.nil (TX.seqN (TC.seq ?_)))))
 refine TC.condD rfl (fun c22 => ?_) (fun c22 => ?_)
 ·
  obtain ⟨x, hx⟩ := getSome (l := termsS s) k0 c22
  refine TC.skip (TX.seqN (TC.seq (TC.block (TC.seq (TC.region (TL.run (pr_indexSl rfl hR19 rfl (by omega) (by omega)) rfl (TL.run (pr_el0 hR19 hx rfl rfl) rfl ?_)))))))
  refine TL.run (pr_pure rfl) rfl (TL.nil (TX.seqN (TC.region (TL.run (pr_pure rfl) rfl (TL.run (pr_field rfl) rfl (TL.run (pr_own1 rfl (.there _ (.here _)) rfl) rfl (TL.run (pr_pure rfl) rfl ?_)))))))
  refine TL.call (enters rfl rfl rfl rfl) (Vars_ok x hQ.t hQ.tn) rfl (fun v29 H29 hle29 hp29 => ?_)
  replace hP := hP.le hle29
  replace hQ := hQ.le hle29
  replace hs := hs.le hle29
  replace hB := hB.le hle29
  replace hR19 := hR19.le hle29
  replace hle := hle.trans hle29
  have hV29 : RdSl H29 1 Str.cells v29 (varsS q.terms x) := hp29
  have hvl29 := varsS_len q.terms x
  obtain ⟨la29, lc29, rfl⟩ := hV29.len
  refine TL.append (enc := Str.cells) rfl rfl rfl hO (Src.sl hV29) (by first | omega | (simp only [List.length_append]; omega)) rfl (.skip _ (.skip _ (.skip _ .all))) rfl (fun a30 c30 ob30 hO30 => ?_)
  refine TL.run (pr_pure rfl) rfl (TL.nil (TX.blkN (TX.seqN (TC.region (TL.run ((by first | exact pr_add rfl rfl (by omega) (by omega) | exact pr_pure rfl)) rfl (TL.run (pr_pure rfl) rfl (TL.nil ?_)))))))
  exact TX.round4 (k + 1) _ ob30 H29 ⟨⟨by omega, by omega⟩, hle, hO30.cast (by rw [take_snoc k0 hx, List.flatMap_append]; simp)⟩ ⟨rfl, rfl, rfl, rfl, rfl, rfl, rfl, rfl, rfl, trivial⟩ (fun w hw => hw) (by omega)
 ·
  refine TC.exit (TX.thenE (TX.thenE (TX.blkHit (TX.seqN (TC.seq ?_)))))
  refine TC.sw (decide (s.kind = 4) || (decide (s.kind = 5) || decide (s.kind = 9))) 44 [(3, _), (4, _), (6, _), (8, _), (9, _)] ⟨rfl, rfl, rfl, rfl, rfl, trivial⟩ ?_ ?_
  ·
   refine TC.region (TL.run (pr_field rfl) rfl (TL.run (pr_own1 rfl (.here _) rfl) rfl (TL.run (pr_pure rfl) rfl (TL.run (pr_pure rfl) rfl ?_))))
   refine TL.split (s := 35) rfl (fun g35 => ?_) (fun g35 => ?_)
   ·
    have q35 := of_decide_eq_true g35
    refine TL.gdN rfl rfl rfl rfl (TL.gdN rfl rfl rfl rfl (TL.gdN rfl rfl rfl rfl (TL.run (pr_pure rfl) rfl (TL.run (pr_pure rfl) rfl (TL.gdN rfl rfl rfl rfl (TL.gdN rfl rfl rfl rfl (TL.gdN rfl rfl rfl rfl ?_)))))))
    refine TL.run (pr_pure rfl) rfl (TL.nil (TX.sw rfl (by simp_all) ⟨rfl, rfl, rfl, rfl, rfl, trivial⟩))
   ·
    have q35 := of_decide_eq_false g35
    refine TL.gdY rfl rfl (pr_field rfl) rfl (TL.gdY rfl rfl (pr_own1 rfl (.here _) rfl) rfl (TL.gdY rfl rfl (pr_pure rfl) rfl (TL.run (pr_pure rfl) rfl (TL.run (pr_pure rfl) rfl ?_))))
    refine TL.split (s := 40) rfl (fun g40 => ?_) (fun g40 => ?_)
    ·
     have q40 := of_decide_eq_true g40
     refine TL.gdN rfl rfl rfl rfl (TL.gdN rfl rfl rfl rfl (TL.gdN rfl rfl rfl rfl (TL.run (pr_pure rfl) rfl (TL.nil (TX.sw rfl (by simp_all) ⟨rfl, rfl, rfl, rfl, rfl, trivial⟩)))))
    ·
     have q40 := of_decide_eq_false g40
     refine TL.gdY rfl rfl (pr_field rfl) rfl (TL.gdY rfl rfl (pr_own1 rfl (.here _) rfl) rfl (TL.gdY rfl rfl (pr_pure rfl) rfl (TL.run (pr_pure rfl) rfl (TL.nil (TX.sw rfl (by simp_all) ⟨rfl, rfl, rfl, rfl, rfl, trivial⟩)))))
  refine TC.cond rfl (fun c44 => ?_) (fun c44 => ?_)
  ·
   have h44 : s.kind = 4 ∨ s.kind = 5 ∨ s.kind = 9 := by simp_all
   refine TC.region (TL.run (pr_pure rfl) rfl (TL.run (pr_field rfl) rfl (TL.run (pr_own1 rfl (.here _) rfl) rfl ?_)))
   refine TL.bslice rfl rfl rfl rfl (fun b48 => ?_)
   refine TL.append (enc := Str.cells) rfl rfl rfl hO (Src.own [s.name] (.here _) rfl rfl) (by simp only [List.length_append, List.length_cons, List.length_nil]; omega) rfl (.skip _ (.skip _ (.skip _ (.skip _ .all)))) rfl (fun a49 c49 ob49 hO49 => ?_)
   refine TL.run (pr_pure rfl) rfl (TL.nil (TX.seqN (TC.seq (TC.seq (TC.region (TL.run (pr_pure rfl) rfl ?_))))))
   refine TL.pubO hO49 (.skip _ (.skip _ (.skip _ (.skip _ .all)))) (by simp) (fun HA leA hA => ?_)
   replace hP := hP.le leA
   replace hQ := hQ.le leA
   replace hs := hs.le leA
   replace hB := hB.le leA
   replace hR19 := hR19.le leA
   replace hle := hle.trans leA
   have hA2 := hA.cast (show _ = askedS q.terms s by unfold askedS; rw [if_pos (by first | exact h44 | omega), take_all c22 k0])
   clear hA
   have hAm := hA2.max
   refine TL.run (pr_lenSl rfl rfl hA2) rfl (TL.run (pr_pure rfl) rfl (TL.nil (TX.seqN (TC.block ?_))))
   refine TC.loop (V := fun k => [(52, .int .i64 k)]) (K := [(3, _), (4, _), (6, _), (8, _), (50, _), (51, _)]) (L := fun k => _) (I := fun k => (0 ≤ k ∧ k ≤ (askedS q.terms s).length) ∧ (askedS q.terms s).all (fun n => hasS bound n) = ((askedS q.terms s).drop k.toNat).all (fun n => hasS bound n)) (μ := fun k => ((askedS q.terms s).length - k).toNat) (i := (0 : Int)) ⟨rfl, rfl, rfl, rfl, rfl, rfl, rfl, trivial⟩ ⟨⟨by omega, by omega⟩, rfl⟩ (fun w hw => hw) (fun k hI => ?_)
   obtain ⟨⟨k0, k1⟩, hal⟩ := hI
   refine TC.seq (TC.region (TL.run (pr_pure rfl) rfl (TL.nil (TX.seqN (TC.seq ?_)))))
   refine TC.condD rfl (fun c53 => ?_) (fun c53 => ?_)
   ·
    obtain ⟨xA, hxA⟩ := getSome (l := askedS q.terms s) k0 c53
    refine TC.skip (TX.seqN (TC.seq (TC.block (TC.seq (TC.region (TL.run (pr_indexSl rfl hA2 rfl (by omega) (by omega)) rfl (TL.run (pr_el0 hA2 hxA rfl rfl) rfl ?_)))))))
    refine TL.run (pr_pure rfl) rfl (TL.nil (TX.seqN (TC.seq (TC.region (TL.run (pr_pure rfl) rfl (TL.run (pr_pure rfl) rfl ?_))))))
    refine TL.callS (enters rfl rfl rfl rfl) (n_Has_ok xA hB) rfl ?_
    refine TL.run (pr_pure rfl) rfl (TL.nil (TX.seqN ?_))
    refine TC.cond rfl (fun c59 => ?_) (fun c59 => ?_)
    ·
     have h1 := all_bad (p := (fun n => hasS bound n)) k0 hxA (by simpa using c59) hal
     refine TC.seq (TC.region (TL.run (pr_pure rfl) rfl (TL.nil (TX.seqN (TC.ret (TX.blkR (TX.thenR ?_)))))))
     refine TX.thenR (TX.blkR (TX.thenR (TX.finS (.inr rfl) (results1 rfl (RVal.tmp rfl)) (congrArg (Value.int .i64) (by first | exact (step_1 h1).symm | exact (step_2 h1 h2).symm | exact (step_3 h1 h2 c88).symm | exact (step_4 h1 h2 c88 h4).symm | exact (step_5 h1 h2 c88 h4 c114).symm | exact (step_6 h1 h2 c88 h4 c114).symm)))))
    ·
     refine TC.skip (TX.blkN (TX.seqN (TC.region (TL.run ((by first | exact pr_add rfl rfl (by omega) (by omega) | exact pr_pure rfl)) rfl (TL.run (pr_pure rfl) rfl (TL.nil (TX.round (k + 1) ⟨⟨by omega, by omega⟩, all_next (p := (fun n => hasS bound n)) k0 hxA (by simpa using c59) hal⟩ ⟨rfl, rfl, rfl, rfl, rfl, rfl, rfl, trivial⟩ (fun w hw => hw) (by omega))))))))
   ·
    have h1 := all_end (p := (fun n => hasS bound n)) k0 c53 hal
    refine TC.exit (TX.thenE (TX.thenE (TX.blkHit (TX.seqN (TC.seq (TC.seq (TC.region ?_)))))))
    refine TL.run (pr_ownA rfl (.there _ (.here _)) rfl) rfl ?_
    refine TL.callO (enters rfl rfl rfl rfl) (binds_ok s hs hw7) rfl (fun v62 H62 ob62 hle62 hp62 => ?_)
    obtain ⟨eH62, hO62⟩ := hp62
    subst H62
    obtain ⟨a62, c62, rfl⟩ := hO62.form
    refine TL.pubO hO62 (.skip _ (.skip _ (.skip _ (.skip _ .all)))) (by simp) (fun HP62 leP62 hR62 => ?_)
    replace hP := hP.le leP62
    replace hQ := hQ.le leP62
    replace hs := hs.le leP62
    replace hB := hB.le leP62
    replace hR19 := hR19.le leP62
    replace hle := hle.trans leP62
    replace hA2 := hA2.le leP62
    have hBm := RdSl.max hR62
    have hCm := hs.c.max
    refine TL.run (pr_lenSl rfl rfl hR62) rfl (TL.run (pr_pure rfl) rfl (TL.nil (TX.seqN (TC.block ?_))))
    refine TC.loop (V := fun k => [(64, .int .i64 k)]) (K := [(3, _), (4, _), (6, _), (8, _), (62, _), (63, _)]) (L := fun k => _) (I := fun k => (0 ≤ k ∧ k ≤ (bindsS s).length) ∧ (bindsS s).all (fun n => !(!decide (n = []) && hasS bound n)) = ((bindsS s).drop k.toNat).all (fun n => !(!decide (n = []) && hasS bound n))) (μ := fun k => ((bindsS s).length - k).toNat) (i := (0 : Int)) ⟨rfl, rfl, rfl, rfl, rfl, rfl, rfl, trivial⟩ ⟨⟨by omega, by omega⟩, rfl⟩ (fun w hw => hw) (fun k hI => ?_)
    obtain ⟨⟨k0, k1⟩, hal⟩ := hI
    refine TC.seq (TC.region (TL.run (pr_pure rfl) rfl (TL.nil (TX.seqN (TC.seq ?_)))))
    refine TC.condD rfl (fun c65 => ?_) (fun c65 => ?_)
    ·
     obtain ⟨xB, hxB⟩ := getSome (l := bindsS s) k0 c65
     refine TC.skip (TX.seqN (TC.seq (TC.block (TC.seq (TC.region (TL.run (pr_indexSl rfl hR62 rfl (by omega) (by omega)) rfl (TL.run (pr_el0 hR62 hxB rfl rfl) rfl ?_)))))))
     refine TL.run (pr_pure rfl) rfl (TL.nil (TX.seqN ?_))
     refine TC.sw (!decide (xB = []) && hasS bound xB) 74 [(3, _), (4, _), (6, _), (8, _), (15, _), (62, _), (63, _), (64, _), (65, _), (66, _), (67, _)] ⟨rfl, rfl, rfl, rfl, rfl, rfl, rfl, rfl, rfl, rfl, rfl, trivial⟩ ?_ ?_
     ·
      refine TC.region (TL.run (pr_pure rfl) rfl (TL.run (pr_str rfl rfl rfl) rfl (TL.run (pr_pure rfl) rfl ?_)))
      refine TL.split (s := 70) rfl (fun g70 => ?_) (fun g70 => ?_)
      ·
       have q70 := of_ndec_true g70
       refine TL.gdY rfl rfl (pr_pure rfl) rfl (TL.gdY rfl rfl (pr_pure rfl) rfl ?_)
       refine TL.callSY rfl rfl (enters rfl rfl rfl rfl) (n_Has_ok xB hB) rfl ?_
       refine TL.run (pr_pure rfl) rfl (TL.nil (TX.sw rfl (by simp_all) ⟨rfl, rfl, rfl, rfl, rfl, rfl, rfl, rfl, rfl, rfl, rfl, trivial⟩))
      ·
       have q70 := of_ndec_false g70
       refine TL.gdN rfl rfl rfl rfl (TL.gdN rfl rfl rfl rfl (TL.gdN rfl rfl rfl rfl (TL.run (pr_pure rfl) rfl (TL.nil (TX.sw rfl (by simp_all) ⟨rfl, rfl, rfl, rfl, rfl, rfl, rfl, rfl, rfl, rfl, rfl, trivial⟩)))))
     refine TC.cond rfl (fun c74 => ?_) (fun c74 => ?_)
     ·
      have h2 := all_bad (p := (fun n => !(!decide (n = []) && hasS bound n))) k0 hxB (by rw [c74]; rfl) hal
      refine TC.seq (TC.region (TL.run (pr_pure rfl) rfl (TL.nil (TX.seqN (TC.ret (TX.blkR (TX.thenR ?_)))))))
      refine TX.thenR (TX.blkR (TX.thenR (TX.finS (.inr rfl) (results1 rfl (RVal.tmp rfl)) (congrArg (Value.int .i64) (by first | exact (step_1 h1).symm | exact (step_2 h1 h2).symm | exact (step_3 h1 h2 c88).symm | exact (step_4 h1 h2 c88 h4).symm | exact (step_5 h1 h2 c88 h4 c114).symm | exact (step_6 h1 h2 c88 h4 c114).symm)))))
     ·
      refine TC.skip (TX.blkN (TX.seqN (TC.region (TL.run ((by first | exact pr_add rfl rfl (by omega) (by omega) | exact pr_pure rfl)) rfl (TL.run (pr_pure rfl) rfl (TL.nil (TX.round (k + 1) ⟨⟨by omega, by omega⟩, all_next (p := (fun n => !(!decide (n = []) && hasS bound n))) k0 hxB (by rw [c74]; rfl) hal⟩ ⟨rfl, rfl, rfl, rfl, rfl, rfl, rfl, trivial⟩ (fun w hw => hw) (by omega))))))))
    ·
     have h2 := all_end (p := (fun n => !(!decide (n = []) && hasS bound n))) k0 c65 hal
     refine TC.exit (TX.thenE (TX.thenE (TX.blkHit (TX.seqN (TC.seq ?_)))))
     refine TC.sw (!decide (s.proc = []) && !callsB pg.procs s.proc s.args.length) 88 [(4, _), (6, _), (8, _)] ⟨rfl, rfl, rfl, trivial⟩ ?_ ?_
     ·
      refine TC.region (TL.run (pr_field rfl) rfl (TL.run (pr_own1 rfl (.there _ (.here _)) rfl) rfl (TL.run (pr_str rfl rfl rfl) rfl (TL.run (pr_pure rfl) rfl ?_))))
      refine TL.split (s := 79) rfl (fun g79 => ?_) (fun g79 => ?_)
      ·
       have q79 := of_ndec_true g79
       refine TL.gdY rfl rfl (pr_ownA rfl (.there _ (.there _ (.there _ (.here _)))) rfl) rfl (TL.gdY rfl rfl (pr_field rfl) rfl (TL.gdY rfl rfl (pr_own1 rfl (.there _ (.here _)) rfl) rfl (TL.gdY rfl rfl (pr_field rfl) rfl (TL.gdY rfl rfl (pr_own1 rfl (.there _ (.here _)) rfl) rfl (TL.gdY rfl rfl (pr_lenSl rfl rfl hs.a) rfl ?_)))))
       refine TL.callSY rfl rfl (enters rfl rfl rfl rfl) (calls_ok s.proc s.args.length hP) rfl ?_
       refine TL.gdY rfl rfl (pr_pure rfl) rfl (TL.run (pr_pure rfl) rfl (TL.nil (TX.sw rfl (by simp_all) ⟨rfl, rfl, rfl, trivial⟩)))
      ·
       have q79 := of_ndec_false g79
       refine TL.gdN rfl rfl rfl rfl (TL.gdN rfl rfl rfl rfl (TL.gdN rfl rfl rfl rfl (TL.gdN rfl rfl rfl rfl (TL.gdN rfl rfl rfl rfl (TL.gdN rfl rfl rfl rfl (TL.gdN rfl rfl rfl rfl (TL.gdN rfl rfl rfl rfl ?_)))))))
       refine TL.run (pr_pure rfl) rfl (TL.nil (TX.sw rfl (by simp_all) ⟨rfl, rfl, rfl, trivial⟩))
     refine TC.cond rfl (fun c88 => ?_) (fun c88 => ?_)
     ·
      refine TC.seq (TC.region (TL.run (pr_pure rfl) rfl (TL.nil (TX.seqN (TC.ret (TX.thenR (TX.finS (.inr rfl) (results1 rfl (RVal.tmp rfl)) (congrArg (Value.int .i64) (by first | exact (step_1 h1).symm | exact (step_2 h1 h2).symm | exact (step_3 h1 h2 c88).symm | exact (step_4 h1 h2 c88 h4).symm | exact (step_5 h1 h2 c88 h4 c114).symm | exact (step_6 h1 h2 c88 h4 c114).symm)))))))))
     ·
      refine TC.skip (TX.seqN (TC.seq (TC.seq (TC.region (TL.run (pr_field rfl) rfl (TL.run (pr_own1 rfl (.there _ (.here _)) rfl) rfl (TL.run (pr_lenSl rfl rfl hs.c) rfl ?_)))))))
      refine TL.run (pr_pure rfl) rfl (TL.nil (TX.seqN (TC.block ?_)))
      refine TC.loop (V := fun k => [(92, .int .i64 k)]) (K := [(4, _), (6, _), (8, _), (90, _), (91, _)]) (L := fun k => _) (I := fun k => (0 ≤ k ∧ k ≤ s.casts.length) ∧ s.casts.all (fun c => callsB pg.procs c.proc (c.args.length + 1)) = (s.casts.drop k.toNat).all (fun c => callsB pg.procs c.proc (c.args.length + 1))) (μ := fun k => (s.casts.length - k).toNat) (i := (0 : Int)) ⟨rfl, rfl, rfl, rfl, rfl, rfl, trivial⟩ ⟨⟨by omega, by omega⟩, rfl⟩ (fun w hw => hw) (fun k hI => ?_)
      obtain ⟨⟨k0, k1⟩, hal⟩ := hI
      refine TC.seq (TC.region (TL.run (pr_pure rfl) rfl (TL.nil (TX.seqN (TC.seq ?_)))))
      refine TC.condD rfl (fun c93 => ?_) (fun c93 => ?_)
      ·
       obtain ⟨xC, hxC⟩ := getSome (l := s.casts) k0 c93
       have hxl := hl.2.2 xC (List.mem_of_getElem? hxC)
       refine TC.skip (TX.seqN (TC.seq (TC.block (TC.seq (TC.region (TL.run (pr_indexSl rfl hs.c rfl (by omega) (by omega)) rfl (TL.run (pr_elA hs.c hxC rfl rfl) rfl ?_)))))))
       refine TL.alloc rfl (fun b17 => ?_)
       refine TL.storeA rfl rfl rfl rfl rfl (.here _) rfl rfl ?_
       refine TL.nil (TX.seqN (TC.seq (TC.region (TL.run (pr_ownA rfl (.there _ (.there _ (.there _ (.there _ (.here _))))) rfl) rfl (TL.run (pr_field rfl) rfl (TL.run (pr_own1 rfl (.here _) rfl) rfl (TL.run (pr_field rfl) rfl ?_)))))))
       refine TL.run (pr_own1 rfl (.here _) rfl) rfl (TL.run (pr_lenSl rfl rfl (hs.cs xC (List.mem_of_getElem? hxC))) rfl (TL.run ((by first | exact pr_add rfl rfl (by omega) (by omega) | exact pr_pure rfl)) rfl ?_))
       refine TL.callS (enters rfl rfl rfl rfl) (calls_ok xC.proc (xC.args.length + 1) hP) rfl ?_
       refine TL.run (pr_pure rfl) rfl (TL.nil (TX.seqN ?_))
       refine TC.cond rfl (fun c104 => ?_) (fun c104 => ?_)
       ·
        have h4 := all_bad (p := (fun c => callsB pg.procs c.proc (c.args.length + 1))) k0 hxC (by simpa using c104) hal
        refine TC.seq (TC.region (TL.run (pr_pure rfl) rfl (TL.nil (TX.seqN (TC.ret (TX.blkR (TX.thenR ?_)))))))
        refine TX.thenR (TX.blkR (TX.thenR (TX.finS (.inr rfl) (results1 rfl (RVal.tmp rfl)) (congrArg (Value.int .i64) (by first | exact (step_1 h1).symm | exact (step_2 h1 h2).symm | exact (step_3 h1 h2 c88).symm | exact (step_4 h1 h2 c88 h4).symm | exact (step_5 h1 h2 c88 h4 c114).symm | exact (step_6 h1 h2 c88 h4 c114).symm)))))
       ·
        refine TC.skip (TX.blkN (TX.seqN (TC.region (TL.run ((by first | exact pr_add rfl rfl (by omega) (by omega) | exact pr_pure rfl)) rfl (TL.run (pr_pure rfl) rfl (TL.nil (TX.round (k + 1) ⟨⟨by omega, by omega⟩, all_next (p := (fun c => callsB pg.procs c.proc (c.args.length + 1))) k0 hxC (by simpa using c104) hal⟩ ⟨rfl, rfl, rfl, rfl, rfl, rfl, trivial⟩ (fun w hw => hw.drop) (by omega))))))))
      ·
       have h4 := all_end (p := (fun c => callsB pg.procs c.proc (c.args.length + 1))) k0 c93 hal
       refine TC.exit (TX.thenE (TX.thenE (TX.blkHit (TX.seqN (TC.seq ?_)))))
       refine TC.sw (decide (s.kind = 8) && !opensB pg s) 114 [(8, _)] ⟨rfl, trivial⟩ ?_ ?_
       ·
        refine TC.region (TL.run (pr_field rfl) rfl (TL.run (pr_own1 rfl (.there _ (.here _)) rfl) rfl (TL.run (pr_pure rfl) rfl (TL.run (pr_pure rfl) rfl ?_))))
        refine TL.split (s := 109) rfl (fun g109 => ?_) (fun g109 => ?_)
        ·
         have q109 := of_decide_eq_true g109
         refine TL.gdY rfl rfl (pr_ownA rfl (.there _ (.there _ (.there _ (.here _)))) rfl) rfl (TL.gdY rfl rfl (pr_ownA rfl (.there _ (.here _)) rfl) rfl ?_)
         refine TL.callSY rfl rfl (enters rfl rfl rfl rfl) (opens_ok s hP hs hl.2.1) rfl ?_
         refine TL.gdY rfl rfl (pr_pure rfl) rfl (TL.run (pr_pure rfl) rfl (TL.nil (TX.sw rfl (by simp_all) ⟨rfl, trivial⟩)))
        ·
         have q109 := of_decide_eq_false g109
         refine TL.gdN rfl rfl rfl rfl (TL.gdN rfl rfl rfl rfl (TL.gdN rfl rfl rfl rfl (TL.gdN rfl rfl rfl rfl (TL.run (pr_pure rfl) rfl (TL.nil (TX.sw rfl (by simp_all) ⟨rfl, trivial⟩))))))
       refine TC.cond rfl (fun c114 => ?_) (fun c114 => ?_)
       ·
        refine TC.seq (TC.region (TL.run (pr_pure rfl) rfl (TL.nil (TX.seqN (TC.ret (TX.thenR (TX.finS (.inr rfl) (results1 rfl (RVal.tmp rfl)) (congrArg (Value.int .i64) (by first | exact (step_1 h1).symm | exact (step_2 h1 h2).symm | exact (step_3 h1 h2 c88).symm | exact (step_4 h1 h2 c88 h4).symm | exact (step_5 h1 h2 c88 h4 c114).symm | exact (step_6 h1 h2 c88 h4 c114).symm)))))))))
       ·
        refine TC.skip (TX.seqN (TC.seq (TC.region (TL.run (pr_pure rfl) rfl (TL.nil (TX.seqN (TC.ret ?_)))))))
        exact TX.finS (.inr rfl) (results1 rfl (RVal.tmp rfl)) (congrArg (Value.int .i64) (by first | exact (step_1 h1).symm | exact (step_2 h1 h2).symm | exact (step_3 h1 h2 c88).symm | exact (step_4 h1 h2 c88 h4).symm | exact (step_5 h1 h2 c88 h4 c114).symm | exact (step_6 h1 h2 c88 h4 c114).symm))
  ·
   have h44 : ¬ (s.kind = 4 ∨ s.kind = 5 ∨ s.kind = 9) := by simp_all
   refine TC.skip (TX.seqN (TC.seq (TC.seq (TC.region (TL.run (pr_pure rfl) rfl ?_)))))
   refine TL.pubO hO (.skip _ (.skip _ (.skip _ .all))) (by simp) (fun HA leA hA => ?_)
   replace hP := hP.le leA
   replace hQ := hQ.le leA
   replace hs := hs.le leA
   replace hB := hB.le leA
   replace hR19 := hR19.le leA
   replace hle := hle.trans leA
   have hA2 := hA.cast (show _ = askedS q.terms s by unfold askedS; rw [if_neg (by first | exact h44 | omega), take_all c22 k0, List.append_nil])
   clear hA
   have hAm := hA2.max
   refine TL.run (pr_lenSl rfl rfl hA2) rfl (TL.run (pr_pure rfl) rfl (TL.nil (TX.seqN (TC.block ?_))))
   refine TC.loop (V := fun k => [(52, .int .i64 k)]) (K := [(3, _), (4, _), (6, _), (8, _), (50, _), (51, _)]) (L := fun k => _) (I := fun k => (0 ≤ k ∧ k ≤ (askedS q.terms s).length) ∧ (askedS q.terms s).all (fun n => hasS bound n) = ((askedS q.terms s).drop k.toNat).all (fun n => hasS bound n)) (μ := fun k => ((askedS q.terms s).length - k).toNat) (i := (0 : Int)) ⟨rfl, rfl, rfl, rfl, rfl, rfl, rfl, trivial⟩ ⟨⟨by omega, by omega⟩, rfl⟩ (fun w hw => hw) (fun k hI => ?_)
   obtain ⟨⟨k0, k1⟩, hal⟩ := hI
   refine TC.seq (TC.region (TL.run (pr_pure rfl) rfl (TL.nil (TX.seqN (TC.seq ?_)))))
   refine TC.condD rfl (fun c53 => ?_) (fun c53 => ?_)
   ·
    obtain ⟨xA, hxA⟩ := getSome (l := askedS q.terms s) k0 c53
    refine TC.skip (TX.seqN (TC.seq (TC.block (TC.seq (TC.region (TL.run (pr_indexSl rfl hA2 rfl (by omega) (by omega)) rfl (TL.run (pr_el0 hA2 hxA rfl rfl) rfl ?_)))))))
    refine TL.run (pr_pure rfl) rfl (TL.nil (TX.seqN (TC.seq (TC.region (TL.run (pr_pure rfl) rfl (TL.run (pr_pure rfl) rfl ?_))))))
    refine TL.callS (enters rfl rfl rfl rfl) (n_Has_ok xA hB) rfl ?_
    refine TL.run (pr_pure rfl) rfl (TL.nil (TX.seqN ?_))
    refine TC.cond rfl (fun c59 => ?_) (fun c59 => ?_)
    ·
     have h1 := all_bad (p := (fun n => hasS bound n)) k0 hxA (by simpa using c59) hal
     refine TC.seq (TC.region (TL.run (pr_pure rfl) rfl (TL.nil (TX.seqN (TC.ret (TX.blkR (TX.thenR ?_)))))))
     refine TX.thenR (TX.blkR (TX.thenR (TX.finS (.inr rfl) (results1 rfl (RVal.tmp rfl)) (congrArg (Value.int .i64) (by first | exact (step_1 h1).symm | exact (step_2 h1 h2).symm | exact (step_3 h1 h2 c88).symm | exact (step_4 h1 h2 c88 h4).symm | exact (step_5 h1 h2 c88 h4 c114).symm | exact (step_6 h1 h2 c88 h4 c114).symm)))))
    ·
     refine TC.skip (TX.blkN (TX.seqN (TC.region (TL.run ((by first | exact pr_add rfl rfl (by omega) (by omega) | exact pr_pure rfl)) rfl (TL.run (pr_pure rfl) rfl (TL.nil (TX.round (k + 1) ⟨⟨by omega, by omega⟩, all_next (p := (fun n => hasS bound n)) k0 hxA (by simpa using c59) hal⟩ ⟨rfl, rfl, rfl, rfl, rfl, rfl, rfl, trivial⟩ (fun w hw => hw) (by omega))))))))
   ·
    have h1 := all_end (p := (fun n => hasS bound n)) k0 c53 hal
    refine TC.exit (TX.thenE (TX.thenE (TX.blkHit (TX.seqN (TC.seq (TC.seq (TC.region ?_)))))))
    refine TL.run (pr_ownA rfl (.here _) rfl) rfl ?_
    refine TL.callO (enters rfl rfl rfl rfl) (binds_ok s hs hw7) rfl (fun v62 H62 ob62 hle62 hp62 => ?_)
    obtain ⟨eH62, hO62⟩ := hp62
    subst H62
    obtain ⟨a62, c62, rfl⟩ := hO62.form
    refine TL.pubO hO62 (.skip _ (.skip _ (.skip _ .all))) (by simp) (fun HP62 leP62 hR62 => ?_)
    replace hP := hP.le leP62
    replace hQ := hQ.le leP62
    replace hs := hs.le leP62
    replace hB := hB.le leP62
    replace hR19 := hR19.le leP62
    replace hle := hle.trans leP62
    replace hA2 := hA2.le leP62
    have hBm := RdSl.max hR62
    have hCm := hs.c.max
    refine TL.run (pr_lenSl rfl rfl hR62) rfl (TL.run (pr_pure rfl) rfl (TL.nil (TX.seqN (TC.block ?_))))
    refine TC.loop (V := fun k => [(64, .int .i64 k)]) (K := [(3, _), (4, _), (6, _), (8, _), (62, _), (63, _)]) (L := fun k => _) (I := fun k => (0 ≤ k ∧ k ≤ (bindsS s).length) ∧ (bindsS s).all (fun n => !(!decide (n = []) && hasS bound n)) = ((bindsS s).drop k.toNat).all (fun n => !(!decide (n = []) && hasS bound n))) (μ := fun k => ((bindsS s).length - k).toNat) (i := (0 : Int)) ⟨rfl, rfl, rfl, rfl, rfl, rfl, rfl, trivial⟩ ⟨⟨by omega, by omega⟩, rfl⟩ (fun w hw => hw) (fun k hI => ?_)
    obtain ⟨⟨k0, k1⟩, hal⟩ := hI
    refine TC.seq (TC.region (TL.run (pr_pure rfl) rfl (TL.nil (TX.seqN (TC.seq ?_)))))
    refine TC.condD rfl (fun c65 => ?_) (fun c65 => ?_)
    ·
     obtain ⟨xB, hxB⟩ := getSome (l := bindsS s) k0 c65
     refine TC.skip (TX.seqN (TC.seq (TC.block (TC.seq (TC.region (TL.run (pr_indexSl rfl hR62 rfl (by omega) (by omega)) rfl (TL.run (pr_el0 hR62 hxB rfl rfl) rfl ?_)))))))
     refine TL.run (pr_pure rfl) rfl (TL.nil (TX.seqN ?_))
     refine TC.sw (!decide (xB = []) && hasS bound xB) 74 [(3, _), (4, _), (6, _), (8, _), (15, _), (62, _), (63, _), (64, _), (65, _), (66, _), (67, _)] ⟨rfl, rfl, rfl, rfl, rfl, rfl, rfl, rfl, rfl, rfl, rfl, trivial⟩ ?_ ?_
     ·
      refine TC.region (TL.run (pr_pure rfl) rfl (TL.run (pr_str rfl rfl rfl) rfl (TL.run (pr_pure rfl) rfl ?_)))
      refine TL.split (s := 70) rfl (fun g70 => ?_) (fun g70 => ?_)
      ·
       have q70 := of_ndec_true g70
       refine TL.gdY rfl rfl (pr_pure rfl) rfl (TL.gdY rfl rfl (pr_pure rfl) rfl ?_)
       refine TL.callSY rfl rfl (enters rfl rfl rfl rfl) (n_Has_ok xB hB) rfl ?_
       refine TL.run (pr_pure rfl) rfl (TL.nil (TX.sw rfl (by simp_all) ⟨rfl, rfl, rfl, rfl, rfl, rfl, rfl, rfl, rfl, rfl, rfl, trivial⟩))
      ·
       have q70 := of_ndec_false g70
       refine TL.gdN rfl rfl rfl rfl (TL.gdN rfl rfl rfl rfl (TL.gdN rfl rfl rfl rfl (TL.run (pr_pure rfl) rfl (TL.nil (TX.sw rfl (by simp_all) ⟨rfl, rfl, rfl, rfl, rfl, rfl, rfl, rfl, rfl, rfl, rfl, trivial⟩)))))
     refine TC.cond rfl (fun c74 => ?_) (fun c74 => ?_)
     ·
      have h2 := all_bad (p := (fun n => !(!decide (n = []) && hasS bound n))) k0 hxB (by rw [c74]; rfl) hal
      refine TC.seq (TC.region (TL.run (pr_pure rfl) rfl (TL.nil (TX.seqN (TC.ret (TX.blkR (TX.thenR ?_)))))))
      refine TX.thenR (TX.blkR (TX.thenR (TX.finS (.inr rfl) (results1 rfl (RVal.tmp rfl)) (congrArg (Value.int .i64) (by first | exact (step_1 h1).symm | exact (step_2 h1 h2).symm | exact (step_3 h1 h2 c88).symm | exact (step_4 h1 h2 c88 h4).symm | exact (step_5 h1 h2 c88 h4 c114).symm | exact (step_6 h1 h2 c88 h4 c114).symm)))))
     ·
      refine TC.skip (TX.blkN (TX.seqN (TC.region (TL.run ((by first | exact pr_add rfl rfl (by omega) (by omega) | exact pr_pure rfl)) rfl (TL.run (pr_pure rfl) rfl (TL.nil (TX.round (k + 1) ⟨⟨by omega, by omega⟩, all_next (p := (fun n => !(!decide (n = []) && hasS bound n))) k0 hxB (by rw [c74]; rfl) hal⟩ ⟨rfl, rfl, rfl, rfl, rfl, rfl, rfl, trivial⟩ (fun w hw => hw) (by omega))))))))
    ·
     have h2 := all_end (p := (fun n => !(!decide (n = []) && hasS bound n))) k0 c65 hal
     refine TC.exit (TX.thenE (TX.thenE (TX.blkHit (TX.seqN (TC.seq ?_)))))
     refine TC.sw (!decide (s.proc = []) && !callsB pg.procs s.proc s.args.length) 88 [(4, _), (6, _), (8, _)] ⟨rfl, rfl, rfl, trivial⟩ ?_ ?_
     ·
      refine TC.region (TL.run (pr_field rfl) rfl (TL.run (pr_own1 rfl (.here _) rfl) rfl (TL.run (pr_str rfl rfl rfl) rfl (TL.run (pr_pure rfl) rfl ?_))))
      refine TL.split (s := 79) rfl (fun g79 => ?_) (fun g79 => ?_)
      ·
       have q79 := of_ndec_true g79
       refine TL.gdY rfl rfl (pr_ownA rfl (.there _ (.there _ (.here _))) rfl) rfl (TL.gdY rfl rfl (pr_field rfl) rfl (TL.gdY rfl rfl (pr_own1 rfl (.here _) rfl) rfl (TL.gdY rfl rfl (pr_field rfl) rfl (TL.gdY rfl rfl (pr_own1 rfl (.here _) rfl) rfl (TL.gdY rfl rfl (pr_lenSl rfl rfl hs.a) rfl ?_)))))
       refine TL.callSY rfl rfl (enters rfl rfl rfl rfl) (calls_ok s.proc s.args.length hP) rfl ?_
       refine TL.gdY rfl rfl (pr_pure rfl) rfl (TL.run (pr_pure rfl) rfl (TL.nil (TX.sw rfl (by simp_all) ⟨rfl, rfl, rfl, trivial⟩)))
      ·
       have q79 := of_ndec_false g79
       refine TL.gdN rfl rfl rfl rfl (TL.gdN rfl rfl rfl rfl (TL.gdN rfl rfl rfl rfl (TL.gdN rfl rfl rfl rfl (TL.gdN rfl rfl rfl rfl (TL.gdN rfl rfl rfl rfl (TL.gdN rfl rfl rfl rfl (TL.gdN rfl rfl rfl rfl ?_)))))))
       refine TL.run (pr_pure rfl) rfl (TL.nil (TX.sw rfl (by simp_all) ⟨rfl, rfl, rfl, trivial⟩))
     refine TC.cond rfl (fun c88 => ?_) (fun c88 => ?_)
     ·
      refine TC.seq (TC.region (TL.run (pr_pure rfl) rfl (TL.nil (TX.seqN (TC.ret (TX.thenR (TX.finS (.inr rfl) (results1 rfl (RVal.tmp rfl)) (congrArg (Value.int .i64) (by first | exact (step_1 h1).symm | exact (step_2 h1 h2).symm | exact (step_3 h1 h2 c88).symm | exact (step_4 h1 h2 c88 h4).symm | exact (step_5 h1 h2 c88 h4 c114).symm | exact (step_6 h1 h2 c88 h4 c114).symm)))))))))
     ·
      refine TC.skip (TX.seqN (TC.seq (TC.seq (TC.region (TL.run (pr_field rfl) rfl (TL.run (pr_own1 rfl (.here _) rfl) rfl (TL.run (pr_lenSl rfl rfl hs.c) rfl ?_)))))))
      refine TL.run (pr_pure rfl) rfl (TL.nil (TX.seqN (TC.block ?_)))
      refine TC.loop (V := fun k => [(92, .int .i64 k)]) (K := [(4, _), (6, _), (8, _), (90, _), (91, _)]) (L := fun k => _) (I := fun k => (0 ≤ k ∧ k ≤ s.casts.length) ∧ s.casts.all (fun c => callsB pg.procs c.proc (c.args.length + 1)) = (s.casts.drop k.toNat).all (fun c => callsB pg.procs c.proc (c.args.length + 1))) (μ := fun k => (s.casts.length - k).toNat) (i := (0 : Int)) ⟨rfl, rfl, rfl, rfl, rfl, rfl, trivial⟩ ⟨⟨by omega, by omega⟩, rfl⟩ (fun w hw => hw) (fun k hI => ?_)
      obtain ⟨⟨k0, k1⟩, hal⟩ := hI
      refine TC.seq (TC.region (TL.run (pr_pure rfl) rfl (TL.nil (TX.seqN (TC.seq ?_)))))
      refine TC.condD rfl (fun c93 => ?_) (fun c93 => ?_)
      ·
       obtain ⟨xC, hxC⟩ := getSome (l := s.casts) k0 c93
       have hxl := hl.2.2 xC (List.mem_of_getElem? hxC)
       refine TC.skip (TX.seqN (TC.seq (TC.block (TC.seq (TC.region (TL.run (pr_indexSl rfl hs.c rfl (by omega) (by omega)) rfl (TL.run (pr_elA hs.c hxC rfl rfl) rfl ?_)))))))
       refine TL.alloc rfl (fun b17 => ?_)
       refine TL.storeA rfl rfl rfl rfl rfl (.here _) rfl rfl ?_
       refine TL.nil (TX.seqN (TC.seq (TC.region (TL.run (pr_ownA rfl (.there _ (.there _ (.there _ (.here _)))) rfl) rfl (TL.run (pr_field rfl) rfl (TL.run (pr_own1 rfl (.here _) rfl) rfl (TL.run (pr_field rfl) rfl ?_)))))))
       refine TL.run (pr_own1 rfl (.here _) rfl) rfl (TL.run (pr_lenSl rfl rfl (hs.cs xC (List.mem_of_getElem? hxC))) rfl (TL.run ((by first | exact pr_add rfl rfl (by omega) (by omega) | exact pr_pure rfl)) rfl ?_))
       refine TL.callS (enters rfl rfl rfl rfl) (calls_ok xC.proc (xC.args.length + 1) hP) rfl ?_
       refine TL.run (pr_pure rfl) rfl (TL.nil (TX.seqN ?_))
       refine TC.cond rfl (fun c104 => ?_) (fun c104 => ?_)
       ·
        have h4 := all_bad (p := (fun c => callsB pg.procs c.proc (c.args.length + 1))) k0 hxC (by simpa using c104) hal
        refine TC.seq (TC.region (TL.run (pr_pure rfl) rfl (TL.nil (TX.seqN (TC.ret (TX.blkR (TX.thenR ?_)))))))
        refine TX.thenR (TX.blkR (TX.thenR (TX.finS (.inr rfl) (results1 rfl (RVal.tmp rfl)) (congrArg (Value.int .i64) (by first | exact (step_1 h1).symm | exact (step_2 h1 h2).symm | exact (step_3 h1 h2 c88).symm | exact (step_4 h1 h2 c88 h4).symm | exact (step_5 h1 h2 c88 h4 c114).symm | exact (step_6 h1 h2 c88 h4 c114).symm)))))
       ·
        refine TC.skip (TX.blkN (TX.seqN (TC.region (TL.run ((by first | exact pr_add rfl rfl (by omega) (by omega) | exact pr_pure rfl)) rfl (TL.run (pr_pure rfl) rfl (TL.nil (TX.round (k + 1) ⟨⟨by omega, by omega⟩, all_next (p := (fun c => callsB pg.procs c.proc (c.args.length + 1))) k0 hxC (by simpa using c104) hal⟩ ⟨rfl, rfl, rfl, rfl, rfl, rfl, trivial⟩ (fun w hw => hw.drop) (by omega))))))))
      ·
       have h4 := all_end (p := (fun c => callsB pg.procs c.proc (c.args.length + 1))) k0 c93 hal
       refine TC.exit (TX.thenE (TX.thenE (TX.blkHit (TX.seqN (TC.seq ?_)))))
       refine TC.sw (decide (s.kind = 8) && !opensB pg s) 114 [(8, _)] ⟨rfl, trivial⟩ ?_ ?_
       ·
        refine TC.region (TL.run (pr_field rfl) rfl (TL.run (pr_own1 rfl (.here _) rfl) rfl (TL.run (pr_pure rfl) rfl (TL.run (pr_pure rfl) rfl ?_))))
        refine TL.split (s := 109) rfl (fun g109 => ?_) (fun g109 => ?_)
        ·
         have q109 := of_decide_eq_true g109
         refine TL.gdY rfl rfl (pr_ownA rfl (.there _ (.there _ (.here _))) rfl) rfl (TL.gdY rfl rfl (pr_ownA rfl (.here _) rfl) rfl ?_)
         refine TL.callSY rfl rfl (enters rfl rfl rfl rfl) (opens_ok s hP hs hl.2.1) rfl ?_
         refine TL.gdY rfl rfl (pr_pure rfl) rfl (TL.run (pr_pure rfl) rfl (TL.nil (TX.sw rfl (by simp_all) ⟨rfl, trivial⟩)))
        ·
         have q109 := of_decide_eq_false g109
         refine TL.gdN rfl rfl rfl rfl (TL.gdN rfl rfl rfl rfl (TL.gdN rfl rfl rfl rfl (TL.gdN rfl rfl rfl rfl (TL.run (pr_pure rfl) rfl (TL.nil (TX.sw rfl (by simp_all) ⟨rfl, trivial⟩))))))
       refine TC.cond rfl (fun c114 => ?_) (fun c114 => ?_)
       ·
        refine TC.seq (TC.region (TL.run (pr_pure rfl) rfl (TL.nil (TX.seqN (TC.ret (TX.thenR (TX.finS (.inr rfl) (results1 rfl (RVal.tmp rfl)) (congrArg (Value.int .i64) (by first | exact (step_1 h1).symm | exact (step_2 h1 h2).symm | exact (step_3 h1 h2 c88).symm | exact (step_4 h1 h2 c88 h4).symm | exact (step_5 h1 h2 c88 h4 c114).symm | exact (step_6 h1 h2 c88 h4 c114).symm)))))))))
       ·
        refine TC.skip (TX.seqN (TC.seq (TC.region (TL.run (pr_pure rfl) rfl (TL.nil (TX.seqN (TC.ret ?_)))))))
        exact TX.finS (.inr rfl) (results1 rfl (RVal.tmp rfl)) (congrArg (Value.int .i64) (by first | exact (step_1 h1).symm | exact (step_2 h1 h2).symm | exact (step_3 h1 h2 c88).symm | exact (step_4 h1 h2 c88 h4).symm | exact (step_5 h1 h2 c88 h4 c114).symm | exact (step_6 h1 h2 c88 h4 c114).symm))
end Go.Sx

set_option linter.unusedVariables false
set_option linter.unusedSimpArgs false
namespace Go.Sx
open Go Go.Proofs
set_option maxRecDepth 100000 in
set_option maxHeartbeats 8000000 in
theorem head_ok {H : Hp} {pg : SProg} {q : SProc} (i : Int) (hP : ProgOk H pg) (hM : MaxG H) (h0 : 0 ≤ i) (hq : pg.procs[i.toNat]? = some q) :
  FnS Try.prog 17 [.agg pg.cells.toArray, .int .i64 i] H (.agg (headF pg.procs i q).cells.toArray) := by
 have hPq := hP.q
 have hmax := hPq.max
 have hlt := ix_lt2 hq
 have hQ := hP.qs q (List.mem_of_getElem? hq)
 have hpa := hQ.pa
 have ht := hQ.t
 have hst := hQ.s
 have hpm := hpa.max
 have htm := ht.max
 have hsm := hst.max
 refine FnS.enter Try.func17 Try.ntmps17 rfl rfl (fun w0 => ?_)
 refine TC.seq (TC.region ?_)
 refine TL.box rfl rfl (fun b2 => ?_)
 refine TL.alloc rfl (fun b4 => ?_)
 refine TL.nil (TX.seqN (TC.seq (TC.region (TL.run (pr_field rfl) rfl (TL.run (pr_own1 rfl (.there _ (.here _)) rfl) rfl (TL.run (pr_pure rfl) rfl (TL.run (pr_indexSl rfl hPq rfl (by omega) (by omega)) rfl ?_)))))))
 refine TL.run (pr_elA hPq hq rfl rfl) rfl ?_
 refine TL.alloc rfl (fun b5 => ?_)
 refine TL.storeA rfl rfl rfl rfl rfl (.here _) rfl rfl ?_
 refine TL.nil (TX.seqN ?_)
 refine TC.sw (headGood q) 6 [(1, _), (2, _), (4, _), (5, _)] ⟨rfl, rfl, rfl, rfl, trivial⟩ ?_ ?_
 ·
  refine TC.region (TL.run (pr_field rfl) rfl (TL.run (pr_own1 rfl (.here _) rfl) rfl ?_))
  refine TL.callS (enters rfl rfl rfl rfl) (n_MayU_ok q.name) rfl ?_
  refine TL.run (pr_pure rfl) rfl ?_
  refine TL.split (s := 18) rfl (fun g18 => ?_) (fun g18 => ?_)
  ·
   refine TL.gdY rfl rfl (pr_field rfl) rfl (TL.gdY rfl rfl (pr_own1 rfl (.here _) rfl) rfl (TL.gdY rfl rfl (pr_lenSl rfl rfl hpa) rfl (TL.gdY rfl rfl (pr_pure rfl) rfl (TL.run (pr_pure rfl) rfl (TL.run (pr_pure rfl) rfl ?_)))))
   refine TL.split (s := 24) rfl (fun g24 => ?_) (fun g24 => ?_)
   ·
    have q24 := of_decide_eq_true g24
    refine TL.gdY rfl rfl (pr_field rfl) rfl (TL.gdY rfl rfl (pr_own1 rfl (.here _) rfl) rfl (TL.gdY rfl rfl (pr_lenSl rfl rfl hst) rfl (TL.gdY rfl rfl (pr_pure rfl) rfl (TL.run (pr_pure rfl) rfl (TL.run (pr_pure rfl) rfl ?_)))))
    refine TL.split (s := 30) rfl (fun g30 => ?_) (fun g30 => ?_)
    ·
     have q30 := of_decide_eq_true g30
     refine TL.gdY rfl rfl (pr_field rfl) rfl (TL.gdY rfl rfl (pr_own1 rfl (.here _) rfl) rfl (TL.gdY rfl rfl (pr_lenSl rfl rfl hst) rfl (TL.gdY rfl rfl (pr_pure rfl) rfl (TL.run (pr_pure rfl) rfl (TL.run (pr_pure rfl) rfl ?_)))))
     refine TL.split (s := 36) rfl (fun g36 => ?_) (fun g36 => ?_)
     ·
      have q36 := of_decide_eq_true g36
      refine TL.gdY rfl rfl (pr_field rfl) rfl (TL.gdY rfl rfl (pr_own1 rfl (.here _) rfl) rfl (TL.gdY rfl rfl (pr_lenSl rfl rfl ht) rfl (TL.gdY rfl rfl (pr_pure rfl) rfl (TL.run (pr_pure rfl) rfl (TL.run (pr_pure rfl) rfl (TL.nil (TX.sw rfl (by unfold headGood; first | (simp_all; done) | (simp [*]; done) | (simp_all; omega)) ⟨rfl, rfl, rfl, rfl, trivial⟩)))))))
     ·
      have q36 := of_decide_eq_false g36
      refine TL.gdN rfl rfl rfl rfl (TL.gdN rfl rfl rfl rfl (TL.gdN rfl rfl rfl rfl (TL.gdN rfl rfl rfl rfl (TL.run (pr_pure rfl) rfl (TL.run (pr_pure rfl) rfl (TL.nil (TX.sw rfl (by unfold headGood; first | (simp_all; done) | (simp [*]; done) | (simp_all; omega)) ⟨rfl, rfl, rfl, rfl, trivial⟩)))))))
    ·
     have q30 := of_decide_eq_false g30
     refine TL.gdN rfl rfl rfl rfl (TL.gdN rfl rfl rfl rfl (TL.gdN rfl rfl rfl rfl (TL.gdN rfl rfl rfl rfl (TL.run (pr_pure rfl) rfl (TL.run (pr_pure rfl) rfl (TL.gdN rfl rfl rfl rfl (TL.gdN rfl rfl rfl rfl ?_)))))))
     refine TL.gdN rfl rfl rfl rfl (TL.gdN rfl rfl rfl rfl (TL.run (pr_pure rfl) rfl (TL.run (pr_pure rfl) rfl (TL.nil (TX.sw rfl (by unfold headGood; first | (simp_all; done) | (simp [*]; done) | (simp_all; omega)) ⟨rfl, rfl, rfl, rfl, trivial⟩)))))
   ·
    have q24 := of_decide_eq_false g24
    refine TL.gdN rfl rfl rfl rfl (TL.gdN rfl rfl rfl rfl (TL.gdN rfl rfl rfl rfl (TL.gdN rfl rfl rfl rfl (TL.run (pr_pure rfl) rfl (TL.run (pr_pure rfl) rfl (TL.gdN rfl rfl rfl rfl (TL.gdN rfl rfl rfl rfl ?_)))))))
    refine TL.gdN rfl rfl rfl rfl (TL.gdN rfl rfl rfl rfl (TL.run (pr_pure rfl) rfl (TL.run (pr_pure rfl) rfl (TL.gdN rfl rfl rfl rfl (TL.gdN rfl rfl rfl rfl (TL.gdN rfl rfl rfl rfl (TL.gdN rfl rfl rfl rfl ?_)))))))
    refine TL.run (pr_pure rfl) rfl (TL.run (pr_pure rfl) rfl (TL.nil (TX.sw rfl (by unfold headGood; first | (simp_all; done) | (simp [*]; done) | (simp_all; omega)) ⟨rfl, rfl, rfl, rfl, trivial⟩)))
  ·
   refine TL.gdN rfl rfl rfl rfl (TL.gdN rfl rfl rfl rfl (TL.gdN rfl rfl rfl rfl (TL.gdN rfl rfl rfl rfl (TL.run (pr_pure rfl) rfl (TL.run (pr_pure rfl) rfl (TL.gdN rfl rfl rfl rfl (TL.gdN rfl rfl rfl rfl ?_)))))))
   refine TL.gdN rfl rfl rfl rfl (TL.gdN rfl rfl rfl rfl (TL.run (pr_pure rfl) rfl (TL.run (pr_pure rfl) rfl (TL.gdN rfl rfl rfl rfl (TL.gdN rfl rfl rfl rfl (TL.gdN rfl rfl rfl rfl (TL.gdN rfl rfl rfl rfl ?_)))))))
   refine TL.run (pr_pure rfl) rfl (TL.run (pr_pure rfl) rfl (TL.gdN rfl rfl rfl rfl (TL.gdN rfl rfl rfl rfl (TL.gdN rfl rfl rfl rfl (TL.gdN rfl rfl rfl rfl (TL.run (pr_pure rfl) rfl (TL.run (pr_pure rfl) rfl ?_)))))))
   refine TL.nil (TX.sw rfl (by unfold headGood; first | (simp_all; done) | (simp [*]; done) | (simp_all; omega)) ⟨rfl, rfl, rfl, rfl, trivial⟩)
 refine TC.seq (TC.region (TL.run (pr_pure rfl) rfl (TL.nil (TX.seqN (TC.seq (TC.seq (TC.region ?_)))))))
 refine TL.run (pr_field rfl) rfl (TL.run (pr_own1 rfl (.here _) rfl) rfl (TL.run (pr_lenSl rfl rfl hpa) rfl (TL.run (pr_pure rfl) rfl (TL.nil (TX.seqN (TC.block ?_))))))
 refine TC.loop4 (V := fun (p : Int × Bool) v ob H1 => [(6, .bool p.2), (7, v), (45, .int .i64 p.1)]) (K := [(1, _), (2, _), (4, _), (5, _), (43, _), (44, _)]) (L := fun (p : Int × Bool) v ob H1 => St [] w0 H H ((b5, _) :: (b4, _) :: (b2, _) :: ob)) (I := fun (p : Int × Bool) v ob H1 => (0 ≤ p.1 ∧ p.1 ≤ q.params.length) ∧ OwnSl 1 Str.cells v ((q.params.take p.1.toNat).map (·.name)) ob ∧ p.2 = (headGood q && (q.params.take p.1.toNat).all paramB)) (μ := fun (p : Int × Bool) => (q.params.length - p.1).toNat) ((0 : Int), headGood q) (.slice none 0 0) [] H ⟨rfl, rfl, rfl, rfl, rfl, rfl, rfl, rfl, rfl, trivial⟩ ⟨⟨by omega, by omega⟩, OwnSl.nil, by simp⟩ (fun w hw => hw) (fun p v ob H1 hI => ?_)
 obtain ⟨⟨k0, k1⟩, hO, hg⟩ := hI
 obtain ⟨va, vc, rfl⟩ := hO.form
 have hpl := hQ.pl
 refine TC.seq (TC.region (TL.run (pr_pure rfl) rfl (TL.nil (TX.seqN (TC.seq ?_)))))
 refine TC.condD rfl (fun c46 => ?_) (fun c46 => ?_)
 ·
  obtain ⟨x, hx⟩ := getSome (l := q.params) k0 c46
  refine TC.skip (TX.seqN (TC.seq (TC.block (TC.seq (TC.region (TL.run (pr_indexSl rfl hpa rfl (by omega) (by omega)) rfl (TL.run (pr_elA hpa hx rfl rfl) rfl ?_)))))))
  refine TL.alloc rfl (fun b9 => ?_)
  refine TL.storeA rfl rfl rfl rfl rfl (.here _) rfl rfl ?_
  refine TL.nil (TX.seqN ?_)
  refine TC.sw (p.2 && paramB x) 6 [(1, _), (2, _), (4, _), (5, _), (7, _), (9, _), (43, _), (44, _), (45, _), (46, _), (47, _), (48, _)] ⟨rfl, rfl, rfl, rfl, rfl, rfl, rfl, rfl, rfl, rfl, rfl, rfl, trivial⟩ ?_ ?_
  ·
   refine TC.region (TL.run (pr_pure rfl) rfl (TL.run (pr_pure rfl) rfl ?_))
   refine TL.split (s := 50) rfl (fun g50 => ?_) (fun g50 => ?_)
   ·
    refine TL.gdY rfl rfl (pr_field rfl) rfl (TL.gdY rfl rfl (pr_own1 rfl (.here _) rfl) rfl ?_)
    refine TL.callSY rfl rfl (enters rfl rfl rfl rfl) (n_MayU_ok x.name) rfl ?_
    refine TL.run (pr_pure rfl) rfl (TL.run (pr_pure rfl) rfl ?_)
    refine TL.split (s := 55) rfl (fun g55 => ?_) (fun g55 => ?_)
    ·
     refine TL.gdY rfl rfl (pr_field rfl) rfl (TL.gdY rfl rfl (pr_ownQ rfl (.here _) rfl) rfl ?_)
     refine TL.callSY rfl rfl (enters rfl rfl rfl rfl) (sCarries_ok x.ck x.cn (hQ.pz x (List.mem_of_getElem? hx)) hM) rfl ?_
     refine TL.run (pr_pure rfl) rfl (TL.run (pr_pure rfl) rfl (TL.nil (TX.sw rfl (by unfold paramB; simp_all) ⟨rfl, rfl, rfl, rfl, rfl, rfl, rfl, rfl, rfl, rfl, rfl, rfl, trivial⟩)))
    ·
     refine TL.gdN rfl rfl rfl rfl (TL.gdN rfl rfl rfl rfl (TL.gdN rfl rfl rfl rfl (TL.run (pr_pure rfl) rfl (TL.run (pr_pure rfl) rfl (TL.nil (TX.sw rfl (by unfold paramB; simp_all) ⟨rfl, rfl, rfl, rfl, rfl, rfl, rfl, rfl, rfl, rfl, rfl, rfl, trivial⟩))))))
   ·
    refine TL.gdN rfl rfl rfl rfl (TL.gdN rfl rfl rfl rfl (TL.gdN rfl rfl rfl rfl (TL.run (pr_pure rfl) rfl (TL.run (pr_pure rfl) rfl (TL.gdN rfl rfl rfl rfl (TL.gdN rfl rfl rfl rfl (TL.gdN rfl rfl rfl rfl ?_)))))))
    refine TL.run (pr_pure rfl) rfl (TL.run (pr_pure rfl) rfl (TL.nil (TX.sw rfl (by unfold paramB; simp_all) ⟨rfl, rfl, rfl, rfl, rfl, rfl, rfl, rfl, rfl, rfl, rfl, rfl, trivial⟩)))
  refine TC.region (TL.run (pr_pure rfl) rfl (TL.run (pr_field rfl) rfl (TL.run (pr_own1 rfl (.here _) rfl) rfl ?_)))
  refine TL.bslice rfl rfl rfl rfl (fun b63 => ?_)
  refine TL.append (enc := Str.cells) rfl rfl rfl hO (Src.own [x.name] (.here _) rfl rfl) (by simp; omega) rfl (.skip _ (.skip _ (.skip _ (.skip _ (.skip _ .all))))) rfl (fun a64 c64 ob64 hO64 => ?_)
  refine TL.run (pr_pure rfl) rfl (TL.nil (TX.blkN (TX.seqN (TC.region (TL.run ((by first | exact pr_add rfl rfl (by omega) (by omega) | exact pr_pure rfl)) rfl (TL.run (pr_pure rfl) rfl (TL.nil ?_)))))))
  exact TX.round4 (p.1 + 1, _) _ ob64 H ⟨⟨by omega, by omega⟩, hO64.cast (by rw [map_take_snoc k0 hx]), head_par k0 hx hg rfl⟩ ⟨rfl, rfl, rfl, rfl, rfl, rfl, rfl, rfl, rfl, trivial⟩ (fun w hw => hw.drop.drop) (by omega)
 ·
  have hg2 := hg
  rw [take_all c46 k0] at hg2
  refine TC.exit (TX.thenE (TX.thenE (TX.blkHit (TX.seqN (TC.seq (TC.block (TC.seq ?_)))))))
  refine TC.region (TL.run (pr_pure rfl) rfl (TL.run (pr_pure rfl) rfl (TL.run (pr_pure rfl) rfl (TL.nil (TX.seqN ?_)))))
  refine TC.cond rfl (fun c66 => ?_) (fun c66 => ?_)
  ·
   refine TC.seq (TC.region (TL.run (pr_pure rfl) rfl ?_))
   refine TL.callS (enters rfl rfl rfl rfl) (fault_ok 1500 i (-1)) rfl ?_
   refine TL.storeA rfl rfl rfl rfl rfl (.there _ (.here _)) rfl rfl ?_
   refine TL.nil (TX.seqN (TC.ret (TX.blkR (TX.thenR (TX.finS (.inr rfl) (results1 rfl (RVal.cellA rfl (.there _ (.here _)) rfl)) (by first | (rw [head_1 (by rw [← hg2]; simpa using c66)]; rfl) | (rw [head_2 (by rw [← hg2]; simpa using c66) c71]; rfl) | (rw [head_3 (by rw [← hg2]; simpa using c66) c71]; rfl)))))))
  ·
   refine TC.pubO hO (.skip _ (.skip _ (.skip _ .all))) (by simp) (fun HJ leJ hJ => ?_)
   replace hP := hP.le leJ
   replace hM := hM.le leJ
   have hJ2 := hJ.cast (show _ = q.params.map (·.name) by rw [take_all c46 k0])
   refine TC.sw (decide (findS pg.procs q.name < i) || !onceS (q.params.map (·.name))) 71 [(1, _), (4, _)] ⟨rfl, rfl, trivial⟩ ?_ ?_
   ·
    refine TC.region (TL.run (pr_ownA rfl (.there _ (.there _ (.here _))) rfl) rfl (TL.run (pr_field rfl) rfl (TL.run (pr_own1 rfl (.here _) rfl) rfl ?_)))
    refine TL.callS (enters rfl rfl rfl rfl) (sFind_ok q.name hP) rfl ?_
    refine TL.run (pr_pure rfl) rfl (TL.run (pr_pure rfl) rfl (TL.run (pr_pure rfl) rfl ?_))
    refine TL.split (s := 78) rfl (fun g78 => ?_) (fun g78 => ?_)
    ·
     have q78 := of_decide_eq_true g78
     refine TL.gdN rfl rfl rfl rfl (TL.gdN rfl rfl rfl rfl (TL.gdN rfl rfl rfl rfl (TL.run (pr_pure rfl) rfl (TL.run (pr_pure rfl) rfl (TL.nil (TX.sw rfl (by first | (simp_all; done) | (simp_all; omega)) ⟨rfl, rfl, trivial⟩))))))
    ·
     have q78 := of_decide_eq_false g78
     refine TL.gdY rfl rfl (pr_pure rfl) rfl ?_
     refine TL.callSY rfl rfl (enters rfl rfl rfl rfl) (n_Once_ok hJ2) rfl ?_
     refine TL.gdY rfl rfl (pr_pure rfl) rfl (TL.run (pr_pure rfl) rfl (TL.run (pr_pure rfl) rfl (TL.nil (TX.sw rfl (by first | (simp_all; done) | (simp_all; omega)) ⟨rfl, rfl, trivial⟩))))
   refine TC.cond rfl (fun c71 => ?_) (fun c71 => ?_)
   ·
    refine TC.seq (TC.region (TL.run (pr_pure rfl) rfl ?_))
    refine TL.callS (enters rfl rfl rfl rfl) (fault_ok 1501 i (-1)) rfl ?_
    refine TL.storeA rfl rfl rfl rfl rfl (.there _ (.here _)) rfl rfl ?_
    refine TL.nil (TX.seqN (TC.ret (TX.blkR (TX.thenR (TX.finS (.inr rfl) (results1 rfl (RVal.cellA rfl (.there _ (.here _)) rfl)) (by first | (rw [head_1 (by rw [← hg2]; simpa using c66)]; rfl) | (rw [head_2 (by rw [← hg2]; simpa using c66) c71]; rfl) | (rw [head_3 (by rw [← hg2]; simpa using c66) c71]; rfl)))))))
   ·
    refine TC.skip (TX.blkN (TX.seqN (TC.seq (TC.region (TL.run (pr_build rfl rfl) rfl ?_)))))
    refine TL.storeA rfl rfl rfl rfl rfl (.there _ (.here _)) rfl rfl ?_
    refine TL.nil (TX.seqN (TC.ret (TX.finS (.inr rfl) (results1 rfl (RVal.cellA rfl (.there _ (.here _)) rfl)) (by first | (rw [head_1 (by rw [← hg2]; simpa using c66)]; rfl) | (rw [head_2 (by rw [← hg2]; simpa using c66) c71]; rfl) | (rw [head_3 (by rw [← hg2]; simpa using c66) c71]; rfl)))))

set_option maxRecDepth 100000 in
set_option maxHeartbeats 4000000 in
theorem all_ok {H : Hp} {pg : SProg} (hP : ProgOk H pg) (hM : MaxG H) :
  FnS Try.prog 16 [.agg pg.cells.toArray] H (.agg (allF pg).cells.toArray) := by
 have hr := hP.r
 have hl := hP.l
 have hq := hP.q
 have hrm := hr.max
 have hlm := hl.max
 have hqm := hq.max
 refine FnS.enter Try.func16 Try.ntmps16 rfl rfl (fun w0 => ?_)
 refine TC.seq (TC.region ?_)
 refine TL.box rfl rfl (fun b1 => ?_)
 refine TL.alloc rfl (fun b2 => ?_)
 refine TL.nil (TX.seqN (TC.seq ?_))
 refine TC.sw (decide (6 < (pg.protos.length : Int)) || (decide (12 < (pg.locals.length : Int)) || decide (24 < (pg.procs.length : Int)))) 22 [(1, _), (2, _)] ⟨rfl, rfl, trivial⟩ ?_ ?_
 ·
  refine TC.region (TL.run (pr_field rfl) rfl (TL.run (pr_own1 rfl (.there _ (.here _)) rfl) rfl (TL.run (pr_lenSl rfl rfl hr) rfl (TL.run (pr_pure rfl) rfl (TL.run (pr_pure rfl) rfl ?_)))))
  refine TL.split (s := 11) rfl (fun g11 => ?_) (fun g11 => ?_)
  ·
   have q11 := of_decide_eq_true g11
   refine TL.gdN rfl rfl rfl rfl (TL.gdN rfl rfl rfl rfl (TL.gdN rfl rfl rfl rfl (TL.gdN rfl rfl rfl rfl (TL.run (pr_pure rfl) rfl (TL.run (pr_pure rfl) rfl (TL.gdN rfl rfl rfl rfl (TL.gdN rfl rfl rfl rfl ?_)))))))
   refine TL.gdN rfl rfl rfl rfl (TL.gdN rfl rfl rfl rfl (TL.run (pr_pure rfl) rfl (TL.nil (TX.sw rfl (by first | (simp [*]; done) | (simp_all; done) | (simp_all; omega)) ⟨rfl, rfl, trivial⟩))))
  ·
   have q11 := of_decide_eq_false g11
   refine TL.gdY rfl rfl (pr_field rfl) rfl (TL.gdY rfl rfl (pr_own1 rfl (.there _ (.here _)) rfl) rfl (TL.gdY rfl rfl (pr_lenSl rfl rfl hl) rfl (TL.gdY rfl rfl (pr_pure rfl) rfl (TL.run (pr_pure rfl) rfl (TL.run (pr_pure rfl) rfl ?_)))))
   refine TL.split (s := 17) rfl (fun g17 => ?_) (fun g17 => ?_)
   ·
    have q17 := of_decide_eq_true g17
    refine TL.gdN rfl rfl rfl rfl (TL.gdN rfl rfl rfl rfl (TL.gdN rfl rfl rfl rfl (TL.gdN rfl rfl rfl rfl (TL.run (pr_pure rfl) rfl (TL.nil (TX.sw rfl (by first | (simp [*]; done) | (simp_all; done) | (simp_all; omega)) ⟨rfl, rfl, trivial⟩))))))
   ·
    have q17 := of_decide_eq_false g17
    refine TL.gdY rfl rfl (pr_field rfl) rfl (TL.gdY rfl rfl (pr_own1 rfl (.there _ (.here _)) rfl) rfl (TL.gdY rfl rfl (pr_lenSl rfl rfl hq) rfl (TL.gdY rfl rfl (pr_pure rfl) rfl (TL.run (pr_pure rfl) rfl (TL.nil (TX.sw rfl (by first | (simp [*]; done) | (simp_all; done) | (simp_all; omega)) ⟨rfl, rfl, trivial⟩))))))
 refine TC.cond rfl (fun c22 => ?_) (fun c22 => ?_)
 ·
  refine TC.seq (TC.region ?_)
  refine TL.callS (enters rfl rfl rfl rfl) (fault_ok 1500 (-1) (-1)) rfl ?_
  refine TL.storeA rfl rfl rfl rfl rfl (.here _) rfl rfl ?_
  refine TL.nil (TX.seqN (TC.ret (TX.thenR (TX.finS (.inr rfl) (results1 rfl (RVal.cellA rfl (.here _) rfl)) (by first | (rw [all_1 c22]; rfl) | (rw [all_2 c22 hr1]; rfl) | (rw [all_3 c22 hr1 hl1]; rfl) | (rw [all_4 c22 hr1 hl1]; rfl))))))
 ·
  refine TC.skip (TX.seqN (TC.seq (TC.seq (TC.region (TL.run (pr_field rfl) rfl (TL.run (pr_own1 rfl (.there _ (.here _)) rfl) rfl (TL.run (pr_lenSl rfl rfl hr) rfl ?_)))))))
  refine TL.run (pr_pure rfl) rfl (TL.nil (TX.seqN (TC.block ?_)))
  refine TC.loop (V := fun k => [(27, .int .i64 k)]) (K := [(1, _), (2, _), (25, _), (26, _)]) (L := fun k => _) (I := fun k => (0 ≤ k ∧ k ≤ pg.protos.length) ∧ pg.protos.all protoB = (pg.protos.drop k.toNat).all protoB) (μ := fun k => (pg.protos.length - k).toNat) (i := (0 : Int)) ⟨rfl, rfl, rfl, rfl, rfl, trivial⟩ ⟨⟨by omega, by omega⟩, rfl⟩ (fun w hw => hw) (fun k hI => ?_)
  obtain ⟨⟨k0, k1⟩, hal⟩ := hI
  refine TC.seq (TC.region (TL.run (pr_pure rfl) rfl (TL.nil (TX.seqN (TC.seq ?_)))))
  refine TC.condD rfl (fun c28 => ?_) (fun c28 => ?_)
  ·
   obtain ⟨x, hx⟩ := getSome (l := pg.protos) k0 c28
   refine TC.skip (TX.seqN (TC.seq (TC.block (TC.seq (TC.region (TL.run (pr_indexSl rfl hr rfl (by omega) (by omega)) rfl (TL.run (pr_elA hr hx rfl rfl) rfl ?_)))))))
   refine TL.alloc rfl (fun b4 => ?_)
   refine TL.storeA rfl rfl rfl rfl rfl (.here _) rfl rfl ?_
   refine TL.nil (TX.seqN (TC.seq (TC.region (TL.run (pr_ownA rfl (.here _) rfl) rfl ?_))))
   refine TL.callS (enters rfl rfl rfl rfl) (gMay_ok x (hP.rs x (List.mem_of_getElem? hx)) hM) rfl ?_
   refine TL.run (pr_pure rfl) rfl (TL.nil (TX.seqN ?_))
   refine TC.cond rfl (fun c33 => ?_) (fun c33 => ?_)
   ·
    have hr1 := all_bad (p := protoB) k0 hx (by simpa using c33) hal
    refine TC.seq (TC.region ?_)
    refine TL.callS (enters rfl rfl rfl rfl) (fault_ok 1500 (-1) (-1)) rfl ?_
    refine TL.storeA rfl rfl rfl rfl rfl (.there _ (.here _)) rfl rfl ?_
    refine TL.nil (TX.seqN (TC.ret (TX.blkR (TX.thenR (TX.thenR (TX.blkR (TX.thenR ?_)))))))
    exact TX.finS (.inr rfl) (results1 rfl (RVal.cellA rfl (.there _ (.here _)) rfl)) (by first | (rw [all_1 c22]; rfl) | (rw [all_2 c22 hr1]; rfl) | (rw [all_3 c22 hr1 hl1]; rfl) | (rw [all_4 c22 hr1 hl1]; rfl))
   ·
    refine TC.skip (TX.blkN (TX.seqN (TC.region (TL.run ((by first | exact pr_add rfl rfl (by omega) (by omega) | exact pr_pure rfl)) rfl (TL.run (pr_pure rfl) rfl (TL.nil (TX.round (k + 1) ⟨⟨by omega, by omega⟩, all_next (p := protoB) k0 hx (by simpa using c33) hal⟩ ⟨rfl, rfl, rfl, rfl, rfl, trivial⟩ (fun w hw => hw.drop) (by omega))))))))
  ·
   have hr1 := all_end (p := protoB) k0 c28 hal
   refine TC.exit (TX.thenE (TX.thenE (TX.blkHit (TX.seqN (TC.seq (TC.seq (TC.region ?_)))))))
   refine TL.run (pr_field rfl) rfl (TL.run (pr_own1 rfl (.there _ (.here _)) rfl) rfl (TL.run (pr_lenSl rfl rfl hl) rfl (TL.run (pr_pure rfl) rfl (TL.nil (TX.seqN (TC.block ?_))))))
   refine TC.loop (V := fun k => [(39, .int .i64 k)]) (K := [(2, _), (37, _), (38, _)]) (L := fun k => _) (I := fun k => (0 ≤ k ∧ k ≤ pg.locals.length) ∧ pg.locals.all (fun l => localB l && nameMay l.name) = (pg.locals.drop k.toNat).all (fun l => localB l && nameMay l.name)) (μ := fun k => (pg.locals.length - k).toNat) (i := (0 : Int)) ⟨rfl, rfl, rfl, rfl, trivial⟩ ⟨⟨by omega, by omega⟩, rfl⟩ (fun w hw => hw) (fun k hI => ?_)
   obtain ⟨⟨k0, k1⟩, hal⟩ := hI
   refine TC.seq (TC.region (TL.run (pr_pure rfl) rfl (TL.nil (TX.seqN (TC.seq ?_)))))
   refine TC.condD rfl (fun c40 => ?_) (fun c40 => ?_)
   ·
    obtain ⟨y, hy⟩ := getSome (l := pg.locals) k0 c40
    refine TC.skip (TX.seqN (TC.seq (TC.block (TC.seq (TC.region (TL.run (pr_indexSl rfl hl rfl (by omega) (by omega)) rfl (TL.run (pr_elA hl hy rfl rfl) rfl ?_)))))))
    refine TL.alloc rfl (fun b6 => ?_)
    refine TL.storeA rfl rfl rfl rfl rfl (.here _) rfl rfl ?_
    refine TL.nil (TX.seqN ?_)
    refine TC.sw (!(localB y && nameMay y.name)) 51 [(2, _), (6, _), (37, _), (38, _), (39, _), (40, _), (41, _), (42, _)] ⟨rfl, rfl, rfl, rfl, rfl, rfl, rfl, rfl, trivial⟩ ?_ ?_
    ·
     refine TC.region (TL.run (pr_ownA rfl (.here _) rfl) rfl ?_)
     refine TL.callS (enters rfl rfl rfl rfl) (tMay_ok y (hP.ls y (List.mem_of_getElem? hy)) hM) rfl ?_
     refine TL.run (pr_pure rfl) rfl (TL.run (pr_pure rfl) rfl ?_)
     refine TL.split (s := 46) rfl (fun g46 => ?_) (fun g46 => ?_)
     ·
      refine TL.gdN rfl rfl rfl rfl (TL.gdN rfl rfl rfl rfl (TL.gdN rfl rfl rfl rfl (TL.gdN rfl rfl rfl rfl (TL.run (pr_pure rfl) rfl (TL.nil (TX.sw rfl (by simp_all) ⟨rfl, rfl, rfl, rfl, rfl, rfl, rfl, rfl, trivial⟩))))))
     ·
      refine TL.gdY rfl rfl (pr_field rfl) rfl (TL.gdY rfl rfl (pr_own1 rfl (.here _) rfl) rfl ?_)
      refine TL.callSY rfl rfl (enters rfl rfl rfl rfl) (n_MayU_ok y.name) rfl ?_
      refine TL.gdY rfl rfl (pr_pure rfl) rfl (TL.run (pr_pure rfl) rfl (TL.nil (TX.sw rfl (by simp_all) ⟨rfl, rfl, rfl, rfl, rfl, rfl, rfl, rfl, trivial⟩)))
    refine TC.cond rfl (fun c51 => ?_) (fun c51 => ?_)
    ·
     have hl1 := all_bad (p := fun l => localB l && nameMay l.name) k0 hy (nb_T c51) hal
     refine TC.seq (TC.region ?_)
     refine TL.callS (enters rfl rfl rfl rfl) (fault_ok 1500 (-1) (-1)) rfl ?_
     refine TL.storeA rfl rfl rfl rfl rfl (.there _ (.here _)) rfl rfl ?_
     refine TL.nil (TX.seqN (TC.ret (TX.blkR (TX.thenR (TX.thenR (TX.blkR (TX.thenR ?_)))))))
     exact TX.finS (.inr rfl) (results1 rfl (RVal.cellA rfl (.there _ (.here _)) rfl)) (by first | (rw [all_1 c22]; rfl) | (rw [all_2 c22 hr1]; rfl) | (rw [all_3 c22 hr1 hl1]; rfl) | (rw [all_4 c22 hr1 hl1]; rfl))
    ·
     refine TC.skip (TX.blkN (TX.seqN (TC.region (TL.run ((by first | exact pr_add rfl rfl (by omega) (by omega) | exact pr_pure rfl)) rfl (TL.run (pr_pure rfl) rfl (TL.nil (TX.round (k + 1) ⟨⟨by omega, by omega⟩, all_next (p := (fun l => localB l && nameMay l.name)) k0 hy (nb_F c51) hal⟩ ⟨rfl, rfl, rfl, rfl, trivial⟩ (fun w hw => hw.drop) (by omega))))))))
   ·
    have hl1 := all_end (p := fun l => localB l && nameMay l.name) k0 c40 hal
    refine TC.exit (TX.thenE (TX.thenE (TX.blkHit (TX.seqN (TC.seq (TC.region (TL.run (pr_build rfl rfl) rfl ?_)))))))
    refine TL.storeA rfl rfl rfl rfl rfl (.here _) rfl rfl ?_
    refine TL.nil (TX.seqN (TC.ret (TX.finS (.inr rfl) (results1 rfl (RVal.cellA rfl (.here _) rfl)) (by first | (rw [all_1 c22]; rfl) | (rw [all_2 c22 hr1]; rfl) | (rw [all_3 c22 hr1 hl1]; rfl) | (rw [all_4 c22 hr1 hl1]; rfl)))))
end Go.Sx

set_option linter.unusedVariables false
set_option linter.unusedSimpArgs false
namespace Go.Sx
open Go Go.Proofs
set_option maxRecDepth 100000 in
set_option maxHeartbeats 16000000 in
theorem shape_ok {H : Hp} {pg : SProg} {q : SProc} (i : Int) (hP : ProgOk H pg) (h0 : 0 ≤ i) (hq : pg.procs[i.toNat]? = some q) (hz1 : q.steps.length ≤ 80) (hz2 : q.terms.length ≤ 160) :
  FnS Try.prog 18 [.agg pg.cells.toArray, .int .i64 i] H (.agg (shapeF i q).cells.toArray) := by
 have hPq := hP.q
 have hmax := hPq.max
 have hlt := ix_lt2 hq
 have hQ := hP.qs q (List.mem_of_getElem? hq)
 have hst0 := hQ.s
 have ht0 := hQ.t
 refine FnS.enter Try.func18 Try.ntmps18 rfl rfl (fun w0 => ?_)
 refine TC.seq (TC.region ?_)
 refine TL.box rfl rfl (fun b2 => ?_)
 refine TL.alloc rfl (fun b4 => ?_)
 refine TL.nil (TX.seqN (TC.seq (TC.region (TL.run (pr_field rfl) rfl (TL.run (pr_own1 rfl (.there _ (.here _)) rfl) rfl (TL.run (pr_pure rfl) rfl (TL.run (pr_indexSl rfl hPq rfl (by omega) (by omega)) rfl ?_)))))))
 refine TL.run (pr_elA hPq hq rfl rfl) rfl ?_
 refine TL.alloc rfl (fun b5 => ?_)
 refine TL.storeA rfl rfl rfl rfl rfl (.here _) rfl rfl ?_
 refine TL.nil (TX.seqN (TC.seq (TC.region (TL.run (pr_field rfl) rfl (TL.run (pr_own1 rfl (.here _) rfl) rfl (TL.run (pr_lenSl rfl rfl hst0) rfl ?_))))))
 refine TL.make rfl rfl (by first | omega | decide) (by first | omega | decide) (by first | omega | decide) rfl (fun b25 => ?_)
 refine TL.run (pr_pure rfl) rfl (TL.nil (TX.seqN (TC.seq (TC.region (TL.run (pr_field rfl) rfl (TL.run (pr_own1 rfl (.there _ (.here _)) rfl) rfl (TL.run (pr_lenSl rfl rfl hst0) rfl ?_)))))))
 refine TL.make rfl rfl (by first | omega | decide) (by first | omega | decide) (by first | omega | decide) rfl (fun b29 => ?_)
 refine TL.run (pr_pure rfl) rfl (TL.nil (TX.seqN (TC.seq (TC.region (TL.run (pr_field rfl) rfl (TL.run (pr_own1 rfl (.there _ (.there _ (.here _))) rfl) rfl (TL.run (pr_lenSl rfl rfl ht0) rfl ?_)))))))
 refine TL.make rfl rfl (by first | omega | decide) (by first | omega | decide) (by first | omega | decide) rfl (fun b33 => ?_)
 refine TL.run (pr_pure rfl) rfl (TL.nil (TX.seqN (TC.seq (TC.seq (TC.region (TL.run (pr_field rfl) rfl (TL.run (pr_own1 rfl (.there _ (.there _ (.there _ (.here _)))) rfl) rfl ?_)))))))
 refine TL.run (pr_lenSl rfl rfl hst0) rfl (TL.run (pr_pure rfl) rfl (TL.nil (TX.seqN (TC.block ?_))))
 refine TC.loop4 (V := fun (p : Int × List Int × List Int × List Bool) v ob H1 => [(37, .int .i64 p.1)]) (K := [(1, _), (4, _), (5, _), (6, _), (7, _), (8, _), (35, _), (36, _)]) (L := fun (p : Int × List Int × List Int × List Bool) v ob H1 => St [] w0 H H1 ((b33, (p.2.2.2).map Value.bool) :: (b29, (p.2.2.1).map (Value.int .i64)) :: (b25, (p.2.1).map (Value.int .i64)) :: (b5, q.cells) :: (b4, [.int .i64 0, .int .i64 0, .int .i64 0]) :: (b2, pg.cells) :: [])) (I := fun (p : Int × List Int × List Int × List Bool) v ob H1 => (0 ≤ p.1 ∧ p.1 ≤ q.steps.length) ∧ H.le H1 ∧ (p.2.1.length = q.steps.length ∧ p.2.2.1.length = q.steps.length ∧ p.2.2.2.length = q.terms.length) ∧ shapeF i q = shapeGo q i (q.steps.drop p.1.toNat) p.1 p.2.1 p.2.2.1 p.2.2.2) (μ := fun (p : Int × List Int × List Int × List Bool) => (q.steps.length - p.1).toNat) ((0 : Int), List.replicate q.steps.length (0 : Int), List.replicate q.steps.length (0 : Int), List.replicate q.terms.length false) .nilFunc [] H ⟨rfl, rfl, rfl, rfl, rfl, rfl, rfl, rfl, rfl, trivial⟩ ⟨⟨by omega, by omega⟩, Hp.le.refl _, ⟨by simp, by simp, by simp⟩, rfl⟩ (fun w hw => by simp only [reps_i0, reps_b0] at hw; exact hw) (fun p v ob H1 hI => ?_)
 obtain ⟨⟨k0, k1⟩, hle, ⟨hc1, hd1, hu1⟩, hS⟩ := hI
 obtain ⟨k, c, d, u⟩ := p
 dsimp only at *
 replace hQ := hQ.le hle
 refine TC.seq (TC.region (TL.run (pr_pure rfl) rfl (TL.nil (TX.seqN (TC.seq ?_)))))
 refine TC.condD rfl (fun c38 => ?_) (fun c38 => ?_)
 ·
  obtain ⟨s, hx⟩ := getSome (l := q.steps) k0 c38
  have hs := hQ.ss s (List.mem_of_getElem? hx)
  refine TC.skip (TX.seqN (TC.seq (TC.block (TC.seq (TC.region (TL.run (pr_pure rfl) rfl (TL.run (pr_indexSl rfl hQ.s rfl (by omega) (by omega)) rfl ?_)))))))
  refine TL.run (pr_elA hQ.s hx rfl rfl) rfl ?_
  refine TL.alloc rfl (fun b10 => ?_)
  refine TL.run (pr_pure rfl) rfl ?_
  refine TL.storeA rfl rfl rfl rfl rfl (.here _) rfl rfl ?_
  refine TL.nil (TX.seqN (TC.seq (TC.seq (TC.region (TL.run (pr_ownA rfl (.here _) rfl) rfl ?_)))))
  refine TL.callS (enters rfl rfl rfl rfl) (may_ok s hs) rfl ?_
  refine TL.run (pr_pure rfl) rfl (TL.nil (TX.seqN ?_))
  refine TC.cond rfl (fun c44 => ?_) (fun c44 => ?_)
  ·
   refine TC.seq (TC.region (TL.run (pr_pure rfl) rfl (TL.run (pr_pure rfl) rfl ?_)))
   refine TL.callS (enters rfl rfl rfl rfl) (fault_ok 1500 i k) rfl ?_
   refine TL.storeA rfl rfl rfl rfl rfl (.there _ (.there _ (.there _ (.there _ (.there _ (.here _)))))) rfl rfl ?_
   refine TL.nil (TX.seqN (TC.ret (TX.thenR (TX.blkR (TX.thenR (TX.thenR (TX.blkR ?_)))))))
   refine TX.thenR (TX.finS (.inr rfl) (results1 rfl (RVal.cellA rfl (.there _ (.there _ (.there _ (.there _ (.there _ (.here _)))))) rfl)) (by rw [sh_form k0 hx (by simpa using c44) hS]; rfl))
  ·
   have hm : mayS s = true := by simpa using c44
   have hsz := may_sizes hm
   refine TC.skip (TX.seqN (TC.seq ?_))
   refine TC.sw (decide (0 < k) && !decide (getI c k = 1)) 56 [(1, _), (4, _), (5, _), (6, _), (7, _), (8, _), (9, _), (10, _), (35, _), (36, _), (37, _), (38, _), (39, _), (40, _), (41, _), (42, _), (43, _), (44, _)] ⟨rfl, rfl, rfl, rfl, rfl, rfl, rfl, rfl, rfl, rfl, rfl, rfl, rfl, rfl, rfl, rfl, rfl, rfl, trivial⟩ ?_ ?_
   ·
    refine TC.region (TL.run (pr_pure rfl) rfl (TL.run (pr_pure rfl) rfl (TL.run (pr_pure rfl) rfl ?_)))
    refine TL.split (s := 50) rfl (fun g50 => ?_) (fun g50 => ?_)
    ·
     have q50 := of_decide_eq_true g50
     refine TL.gdY rfl rfl (pr_pure rfl) rfl (TL.gdY rfl rfl (pr_pure rfl) rfl (TL.gdY rfl rfl (pr_index rfl rfl (by omega) (by omega)) rfl (TL.gdY rfl rfl (pr_own1 rfl (.there _ (.there _ (.there _ (.here _)))) (is_get (by omega))) rfl (TL.gdY rfl rfl (pr_pure rfl) rfl (TL.run (pr_pure rfl) rfl (TL.nil (TX.sw rfl (by first | (simp_all; done) | (simp [*]; done) | (simp_all; omega)) ⟨rfl, rfl, rfl, rfl, rfl, rfl, rfl, rfl, rfl, rfl, rfl, rfl, rfl, rfl, rfl, rfl, rfl, rfl, trivial⟩)))))))
    ·
     have q50 := of_decide_eq_false g50
     refine TL.gdN rfl rfl rfl rfl (TL.gdN rfl rfl rfl rfl (TL.gdN rfl rfl rfl rfl (TL.gdN rfl rfl rfl rfl (TL.gdN rfl rfl rfl rfl (TL.run (pr_pure rfl) rfl (TL.nil (TX.sw rfl (by first | (simp_all; done) | (simp [*]; done) | (simp_all; omega)) ⟨rfl, rfl, rfl, rfl, rfl, rfl, rfl, rfl, rfl, rfl, rfl, rfl, rfl, rfl, rfl, rfl, rfl, rfl, trivial⟩)))))))
   refine TC.cond rfl (fun c56 => ?_) (fun c56 => ?_)
   ·
    refine TC.seq (TC.region (TL.run (pr_pure rfl) rfl (TL.run (pr_pure rfl) rfl ?_)))
    refine TL.callS (enters rfl rfl rfl rfl) (fault_ok 1502 i k) rfl ?_
    refine TL.storeA rfl rfl rfl rfl rfl (.there _ (.there _ (.there _ (.there _ (.there _ (.here _)))))) rfl rfl ?_
    refine TL.nil (TX.seqN (TC.ret (TX.thenR (TX.blkR (TX.thenR (TX.thenR (TX.blkR ?_)))))))
    refine TX.thenR (TX.finS (.inr rfl) (results1 rfl (RVal.cellA rfl (.there _ (.there _ (.there _ (.there _ (.there _ (.here _)))))) rfl)) (by rw [sh_tree k0 hx hm c56 hS]; rfl))
   ·
    refine TC.skip (TX.seqN ?_)
    refine TC.mid (V := fun dd => []) (K := [(1, _), (4, _), (5, _), (6, _), (7, _), (8, _), (9, _), (10, _), (35, _), (36, _), (37, _), (38, _), (39, _), (40, _), (41, _), (42, _), (43, _), (44, _), (56, _)]) ⟨rfl, rfl, rfl, rfl, rfl, rfl, rfl, rfl, rfl, rfl, rfl, rfl, rfl, rfl, rfl, rfl, rfl, rfl, rfl, trivial⟩ (L := fun dd => St [] w0 H H1 ((b10, s.cells) :: (b33, (u).map Value.bool) :: (b29, (dd).map (Value.int .i64)) :: (b25, (c).map (Value.int .i64)) :: (b5, q.cells) :: (b4, [.int .i64 0, .int .i64 0, .int .i64 0]) :: (b2, pg.cells) :: [])) (I := fun dd => dd = deepGo s k d) ?_ ?_
    ·
     refine TC.sw (decide (s.kind = 3) || decide (s.kind = 5)) 67 [(1, _), (4, _), (5, _), (6, _), (7, _), (8, _), (9, _), (10, _), (35, _), (36, _), (37, _), (38, _), (39, _), (40, _), (41, _), (42, _), (43, _), (44, _), (56, _)] ⟨rfl, rfl, rfl, rfl, rfl, rfl, rfl, rfl, rfl, rfl, rfl, rfl, rfl, rfl, rfl, rfl, rfl, rfl, rfl, trivial⟩ ?_ ?_
     ·
      refine TC.region (TL.run (pr_field rfl) rfl (TL.run (pr_own1 rfl (.here _) rfl) rfl (TL.run (pr_pure rfl) rfl (TL.run (pr_pure rfl) rfl ?_))))
      refine TL.split (s := 63) rfl (fun g63 => ?_) (fun g63 => ?_)
      ·
       have q63 := of_decide_eq_true g63
       refine TL.gdN rfl rfl rfl rfl (TL.gdN rfl rfl rfl rfl (TL.gdN rfl rfl rfl rfl (TL.run (pr_pure rfl) rfl (TL.nil (TX.sw rfl (by simp_all) ⟨rfl, rfl, rfl, rfl, rfl, rfl, rfl, rfl, rfl, rfl, rfl, rfl, rfl, rfl, rfl, rfl, rfl, rfl, rfl, trivial⟩)))))
      ·
       have q63 := of_decide_eq_false g63
       refine TL.gdY rfl rfl (pr_field rfl) rfl (TL.gdY rfl rfl (pr_own1 rfl (.here _) rfl) rfl (TL.gdY rfl rfl (pr_pure rfl) rfl (TL.run (pr_pure rfl) rfl (TL.nil (TX.sw rfl (by simp_all) ⟨rfl, rfl, rfl, rfl, rfl, rfl, rfl, rfl, rfl, rfl, rfl, rfl, rfl, rfl, rfl, rfl, rfl, rfl, rfl, trivial⟩)))))
     refine TC.cond rfl (fun c67 => ?_) (fun c67 => ?_)
     ·
      refine TC.region (TL.run (pr_pure rfl) rfl (TL.run (pr_pure rfl) rfl (TL.run (pr_index rfl rfl (by omega) (by omega)) rfl (TL.run (pr_own1 rfl (.there _ (.there _ (.here _))) (is_get (by omega))) rfl (TL.run ((by first | exact pr_add rfl rfl (by omega) (by omega) | exact pr_pure rfl)) rfl (TL.run (pr_index rfl rfl (by omega) (by omega)) rfl ?_))))))
      refine TL.store1 rfl rfl rfl (.there _ (.there _ (.here _))) (by simp; omega) rfl ?_
      refine TL.nil (TX.mid (incI d k) (deep_T c67) ⟨rfl, rfl, rfl, rfl, rfl, rfl, rfl, rfl, rfl, rfl, rfl, rfl, rfl, rfl, rfl, rfl, rfl, rfl, rfl, trivial⟩ (fun w hw => by rw [is_set] at hw; exact hw))
     ·
      refine TC.skip (TX.mid d (deep_F c67) ⟨rfl, rfl, rfl, rfl, rfl, rfl, rfl, rfl, rfl, rfl, rfl, rfl, rfl, rfl, rfl, rfl, rfl, rfl, rfl, trivial⟩ (fun w hw => hw))
    ·
     intro dd hI
     have hdd : dd.length = q.steps.length := by rw [hI, dp_len]; exact hd1
     refine TC.seq (TC.seq (TC.region (TL.run (pr_ownA rfl (.here _) rfl) rfl ?_)))
     refine TL.callO (enters rfl rfl rfl rfl) (nexts_ok s hs (by omega)) rfl (fun v75 H75 ob75 hle75 hp75 => ?_)
     obtain ⟨eH75, hO75⟩ := hp75
     subst H75
     obtain ⟨a75, c75, rfl⟩ := hO75.form
     refine TL.pubO hO75 (.skip _ (.skip _ (.skip _ (.skip _ (.skip _ (.skip _ (.skip _ .all))))))) (by simp) (fun HP75 leP75 hR75 => ?_)
     replace hQ := hQ.le leP75
     replace hle := hle.trans leP75
     replace hs := hs.le leP75
     have hR75m := hR75.max
     refine TL.run (pr_lenSl rfl rfl hR75) rfl (TL.run (pr_pure rfl) rfl (TL.nil (TX.seqN (TC.block ?_))))
     refine TC.loop (V := fun (e : Int × List Int × List Int) => [(77, .int .i64 e.1)]) (K := [(1, _), (4, _), (5, _), (6, _), (7, _), (8, _), (9, _), (10, _), (35, _), (36, _), (37, _), (38, _), (39, _), (40, _), (41, _), (42, _), (43, _), (44, _), (56, _), (74, _), (75, _), (76, _)]) (L := fun (e : Int × List Int × List Int) => St [] w0 H HP75 ((b10, s.cells) :: (b33, (u).map Value.bool) :: (b29, (e.2.2).map (Value.int .i64)) :: (b25, (e.2.1).map (Value.int .i64)) :: (b5, q.cells) :: (b4, [.int .i64 0, .int .i64 0, .int .i64 0]) :: (b2, pg.cells) :: [])) (I := fun (e : Int × List Int × List Int) => (0 ≤ e.1 ∧ e.1 ≤ (nextsS s).length) ∧ (e.2.1.length = q.steps.length ∧ e.2.2.length = q.steps.length) ∧ nextsGo q.steps.length k (nextsS s) c (deepGo s k d) = nextsGo q.steps.length k ((nextsS s).drop e.1.toNat) e.2.1 e.2.2) (μ := fun (e : Int × List Int × List Int) => ((nextsS s).length - e.1).toNat) (i := ((0 : Int), c, dd)) ⟨rfl, rfl, rfl, rfl, rfl, rfl, rfl, rfl, rfl, rfl, rfl, rfl, rfl, rfl, rfl, rfl, rfl, rfl, rfl, rfl, rfl, rfl, rfl, trivial⟩ ⟨⟨by omega, by omega⟩, ⟨hc1, hdd⟩, by rw [hI]; rfl⟩ (fun w hw => hw) (fun (e : Int × List Int × List Int) hI => ?_)
     obtain ⟨⟨j0, j1⟩, ⟨hc3, hd3⟩, hN⟩ := hI
     refine TC.seq (TC.region (TL.run (pr_pure rfl) rfl (TL.nil (TX.seqN (TC.seq ?_)))))
     refine TC.condD rfl (fun c78 => ?_) (fun c78 => ?_)
     ·
      obtain ⟨y, hy⟩ := getSome (l := nextsS s) j0 c78
      refine TC.skip (TX.seqN (TC.seq (TC.block (TC.seq (TC.region (TL.run (pr_indexSl rfl hR75 rfl (by omega) (by omega)) rfl (TL.run (pr_el0 hR75 hy rfl rfl) rfl ?_)))))))
      refine TL.run (pr_pure rfl) rfl (TL.nil (TX.seqN (TC.seq ?_)))
      refine TC.sw (decide (y ≤ k) || decide ((q.steps.length : Int) ≤ y)) 90 [(1, _), (4, _), (5, _), (6, _), (7, _), (8, _), (9, _), (10, _), (12, _), (35, _), (36, _), (37, _), (38, _), (39, _), (40, _), (41, _), (42, _), (43, _), (44, _), (56, _), (74, _), (75, _), (76, _), (77, _), (78, _), (79, _), (80, _)] ⟨rfl, rfl, rfl, rfl, rfl, rfl, rfl, rfl, rfl, rfl, rfl, rfl, rfl, rfl, rfl, rfl, rfl, rfl, rfl, rfl, rfl, rfl, rfl, rfl, rfl, rfl, rfl, trivial⟩ ?_ ?_
      ·
       refine TC.region (TL.run (pr_pure rfl) rfl (TL.run (pr_pure rfl) rfl (TL.run (pr_pure rfl) rfl (TL.run (pr_pure rfl) rfl ?_))))
       refine TL.split (s := 84) rfl (fun g84 => ?_) (fun g84 => ?_)
       ·
        have q84 := of_decide_eq_true g84
        refine TL.gdN rfl rfl rfl rfl (TL.gdN rfl rfl rfl rfl (TL.gdN rfl rfl rfl rfl (TL.gdN rfl rfl rfl rfl (TL.gdN rfl rfl rfl rfl (TL.run (pr_pure rfl) rfl (TL.nil (TX.sw rfl (by first | (simp_all; done) | (simp [*]; done) | (simp_all; omega)) ⟨rfl, rfl, rfl, rfl, rfl, rfl, rfl, rfl, rfl, rfl, rfl, rfl, rfl, rfl, rfl, rfl, rfl, rfl, rfl, rfl, rfl, rfl, rfl, rfl, rfl, rfl, rfl, trivial⟩)))))))
       ·
        have q84 := of_decide_eq_false g84
        refine TL.gdY rfl rfl (pr_pure rfl) rfl (TL.gdY rfl rfl (pr_field rfl) rfl (TL.gdY rfl rfl (pr_own1 rfl (.there _ (.there _ (.there _ (.there _ (.here _))))) rfl) rfl (TL.gdY rfl rfl (pr_lenSl rfl rfl hQ.s) rfl (TL.gdY rfl rfl (pr_pure rfl) rfl (TL.run (pr_pure rfl) rfl (TL.nil (TX.sw rfl (by first | (simp_all; done) | (simp [*]; done) | (simp_all; omega)) ⟨rfl, rfl, rfl, rfl, rfl, rfl, rfl, rfl, rfl, rfl, rfl, rfl, rfl, rfl, rfl, rfl, rfl, rfl, rfl, rfl, rfl, rfl, rfl, rfl, rfl, rfl, rfl, trivial⟩)))))))
      refine TC.cond rfl (fun c90 => ?_) (fun c90 => ?_)
      ·
       refine TC.seq (TC.region (TL.run (pr_pure rfl) rfl (TL.run (pr_pure rfl) rfl ?_)))
       refine TL.callS (enters rfl rfl rfl rfl) (fault_ok 1502 i k) rfl ?_
       refine TL.storeA rfl rfl rfl rfl rfl (.there _ (.there _ (.there _ (.there _ (.there _ (.here _)))))) rfl rfl ?_
       refine TL.nil (TX.seqN (TC.ret (TX.thenR (TX.blkR (TX.thenR (TX.thenR (TX.blkR ?_)))))))
       refine TX.thenR (TX.blkR (TX.thenR (TX.thenR (TX.blkR (TX.thenR (TX.finS (.inr rfl) (results1 rfl (RVal.cellA rfl (.there _ (.there _ (.there _ (.there _ (.there _ (.here _)))))) rfl)) (by rw [sh_n k0 hx hm c56 (ng_bad j0 hy c90 hN) hS]; rfl)))))))
      ·
       have hyb : k < y ∧ y < q.steps.length := by simp at c90; omega
       refine TC.skip (TX.seqN (TC.seq (TC.region (TL.run (pr_pure rfl) rfl (TL.run (pr_pure rfl) rfl (TL.run (pr_index rfl rfl (by omega) (by omega)) rfl (TL.run (pr_own1 rfl (.there _ (.there _ (.there _ (.here _)))) (is_get (by omega))) rfl ?_)))))))
       refine TL.run ((by first | exact pr_add rfl rfl (by omega) (by omega) | exact pr_pure rfl)) rfl (TL.run (pr_index rfl rfl (by omega) (by omega)) rfl ?_)
       refine TL.store1 rfl rfl rfl (.there _ (.there _ (.there _ (.here _)))) (by simp; omega) rfl ?_
       refine TL.nil (TX.seqN (TC.region (TL.run (pr_pure rfl) rfl (TL.run (pr_pure rfl) rfl (TL.run (pr_pure rfl) rfl (TL.run (pr_pure rfl) rfl (TL.run (pr_index rfl rfl (by omega) (by omega)) rfl ?_)))))))
       refine TL.run (pr_own1 rfl (.there _ (.there _ (.here _))) (is_get (by omega))) rfl (TL.run (pr_index rfl rfl (by omega) (by omega)) rfl ?_)
       refine TL.store1 rfl rfl rfl (.there _ (.there _ (.here _))) (by simp; omega) rfl ?_
       refine TL.nil (TX.blkN (TX.seqN (TC.region (TL.run ((by first | exact pr_add rfl rfl (by omega) (by omega) | exact pr_pure rfl)) rfl (TL.run (pr_pure rfl) rfl (TL.nil (TX.round (e.1 + 1, incI e.2.1 y, e.2.2.set y.toNat (getI e.2.2 k)) ⟨⟨by omega, by omega⟩, ⟨by rw [inc_len]; exact hc3, by rw [List.length_set]; exact hd3⟩, ng_next j0 hy c90 hN⟩ ⟨rfl, rfl, rfl, rfl, rfl, rfl, rfl, rfl, rfl, rfl, rfl, rfl, rfl, rfl, rfl, rfl, rfl, rfl, rfl, rfl, rfl, rfl, rfl, trivial⟩ (fun w hw => by have hw2 := hw; simp only [is_set] at hw2; exact hw2) (by omega))))))))
     ·
      have hng := ng_end j0 c78 hN
      obtain ⟨j, c2, d2⟩ := e
      dsimp only at *
      have hc2 := hc3
      have hd2 := hd3
      refine TC.exit (TX.thenE (TX.thenE (TX.blkHit (TX.seqN (TC.seq (TC.seq (TC.region ?_)))))))
      refine TL.run (pr_pure rfl) rfl (TL.run (pr_pure rfl) rfl (TL.run (pr_index rfl rfl (by omega) (by omega)) rfl (TL.run (pr_own1 rfl (.there _ (.there _ (.here _))) (is_get (by omega))) rfl (TL.run (pr_pure rfl) rfl (TL.nil (TX.seqN ?_))))))
      refine TC.condD rfl (fun c112 => ?_) (fun c112 => ?_)
      ·
       refine TC.seq (TC.region (TL.run (pr_pure rfl) rfl (TL.run (pr_pure rfl) rfl ?_)))
       refine TL.callS (enters rfl rfl rfl rfl) (fault_ok 1502 i k) rfl ?_
       refine TL.storeA rfl rfl rfl rfl rfl (.there _ (.there _ (.there _ (.there _ (.there _ (.here _)))))) rfl rfl ?_
       refine TL.nil (TX.seqN (TC.ret (TX.thenR (TX.blkR (TX.thenR (TX.thenR (TX.blkR ?_)))))))
       refine TX.thenR (TX.finS (.inr rfl) (results1 rfl (RVal.cellA rfl (.there _ (.there _ (.there _ (.there _ (.there _ (.here _)))))) rfl)) (by rw [sh_d k0 hx hm c56 hng c112 hS]; rfl))
      ·
       refine TC.skip (TX.seqN (TC.seq (TC.region (TL.run (pr_ownA rfl (.here _) rfl) rfl ?_))))
       refine TL.callO (enters rfl rfl rfl rfl) (terms_ok s hs hsz.2) rfl (fun v117 H117 ob117 hle117 hp117 => ?_)
       obtain ⟨eH117, hO117⟩ := hp117
       subst H117
       obtain ⟨a117, c117, rfl⟩ := hO117.form
       refine TL.pubO hO117 (.skip _ (.skip _ (.skip _ (.skip _ (.skip _ (.skip _ (.skip _ .all))))))) (by simp) (fun HP117 leP117 hR117 => ?_)
       replace hQ := hQ.le leP117
       replace hle := hle.trans leP117
       replace hs := hs.le leP117
       replace hR75 := hR75.le leP117
       have hR117m := hR117.max
       refine TL.run (pr_lenSl rfl rfl hR117) rfl (TL.run (pr_pure rfl) rfl (TL.nil (TX.seqN (TC.block ?_))))
       refine TC.loop4 (V := fun (f : Int × List Bool) v2 ob2 H2 => [(119, .int .i64 f.1)]) (K := [(1, _), (4, _), (5, _), (6, _), (7, _), (8, _), (9, _), (10, _), (35, _), (36, _), (37, _), (38, _), (39, _), (40, _), (41, _), (42, _), (43, _), (44, _), (56, _), (74, _), (75, _), (76, _), (77, _), (78, _), (108, _), (109, _), (110, _), (111, _), (112, _), (116, _), (117, _), (118, _)]) (L := fun (f : Int × List Bool) v2 ob2 H2 => St [] w0 H H2 ((b10, s.cells) :: (b33, (f.2).map Value.bool) :: (b29, (d2).map (Value.int .i64)) :: (b25, (c2).map (Value.int .i64)) :: (b5, q.cells) :: (b4, [.int .i64 0, .int .i64 0, .int .i64 0]) :: (b2, pg.cells) :: [])) (I := fun (f : Int × List Bool) v2 ob2 H2 => (0 ≤ f.1 ∧ f.1 ≤ (termsS s).length) ∧ HP117.le H2 ∧ f.2.length = q.terms.length ∧ rootsGo q.terms (termsS s) u = rootsGo q.terms ((termsS s).drop f.1.toNat) f.2) (μ := fun (f : Int × List Bool) => ((termsS s).length - f.1).toNat) ((0 : Int), u) .nilFunc [] HP117 ⟨rfl, rfl, rfl, rfl, rfl, rfl, rfl, rfl, rfl, rfl, rfl, rfl, rfl, rfl, rfl, rfl, rfl, rfl, rfl, rfl, rfl, rfl, rfl, rfl, rfl, rfl, rfl, rfl, rfl, rfl, rfl, rfl, rfl, trivial⟩ ⟨⟨by omega, by omega⟩, Hp.le.refl _, hu1, rfl⟩ (fun w hw => hw) (fun f v2 ob2 H2 hI => ?_)
       obtain ⟨⟨f0, f1⟩, hle2, hu4, hR⟩ := hI
       replace hQ := hQ.le hle2
       replace hle := hle.trans hle2
       replace hs := hs.le hle2
       replace hR75 := hR75.le hle2
       replace hR117 := hR117.le hle2
       refine TC.seq (TC.region (TL.run (pr_pure rfl) rfl (TL.nil (TX.seqN (TC.seq ?_)))))
       refine TC.condD rfl (fun c120 => ?_) (fun c120 => ?_)
       ·
        obtain ⟨r, hr⟩ := getSome (l := termsS s) f0 c120
        refine TC.skip (TX.seqN (TC.seq (TC.block (TC.seq (TC.region (TL.run (pr_indexSl rfl hR117 rfl (by omega) (by omega)) rfl (TL.run (pr_el0 hR117 hr rfl rfl) rfl ?_)))))))
        refine TL.run (pr_pure rfl) rfl (TL.nil (TX.seqN (TC.seq (TC.seq (TC.region (TL.run (pr_field rfl) rfl (TL.run (pr_own1 rfl (.there _ (.there _ (.there _ (.there _ (.here _))))) rfl) rfl ?_)))))))
        refine TL.run (pr_pure rfl) rfl ?_
        refine TL.callS (enters rfl rfl rfl rfl) (May_ok r hQ.t hQ.tn) rfl ?_
        refine TL.run (pr_pure rfl) rfl (TL.nil (TX.seqN ?_))
        refine TC.cond rfl (fun c127 => ?_) (fun c127 => ?_)
        ·
         refine TC.seq (TC.region (TL.run (pr_pure rfl) rfl (TL.run (pr_pure rfl) rfl ?_)))
         refine TL.callS (enters rfl rfl rfl rfl) (fault_ok 1503 i k) rfl ?_
         refine TL.storeA rfl rfl rfl rfl rfl (.there _ (.there _ (.there _ (.there _ (.there _ (.here _)))))) rfl rfl ?_
         refine TL.nil (TX.seqN (TC.ret (TX.thenR (TX.blkR (TX.thenR (TX.thenR (TX.blkR ?_)))))))
         refine TX.blkR (TX.thenR (TX.thenR (TX.blkR (TX.thenR (TX.finS (.inr rfl) (results1 rfl (RVal.cellA rfl (.there _ (.there _ (.there _ (.there _ (.there _ (.here _)))))) rfl)) (by rw [sh_t k0 hx hm c56 hng c112 (rg_may f0 hr (by simpa using c127) hR) hS]; rfl))))))
        ·
         have hmr : mayB q.terms r = true := by simpa using c127
         refine TC.skip (TX.seqN (TC.seq (TC.region (TL.run (pr_field rfl) rfl (TL.run (pr_own1 rfl (.there _ (.there _ (.there _ (.there _ (.here _))))) rfl) rfl (TL.run (pr_pure rfl) rfl ?_))))))
         refine TL.callO (enters rfl rfl rfl rfl) (sTree_ok r hQ.t hmr) rfl (fun v134 H134 ob134 hle134 hp134 => ?_)
         have hO134 : OwnSl 1 I64.cells v134 (postS q.terms r) ob134 := hp134
         obtain ⟨a134, c134, rfl⟩ := hO134.form
         replace hQ := hQ.le hle134
         replace hle := hle.trans hle134
         replace hs := hs.le hle134
         replace hR75 := hR75.le hle134
         replace hR117 := hR117.le hle134
         replace hle2 := hle2.trans hle134
         refine TL.pubO hO134 (.skip _ (.skip _ (.skip _ (.skip _ (.skip _ (.skip _ (.skip _ .all))))))) (by simp) (fun HP134 leP134 hR134 => ?_)
         replace hQ := hQ.le leP134
         replace hle := hle.trans leP134
         replace hs := hs.le leP134
         replace hR75 := hR75.le leP134
         replace hR117 := hR117.le leP134
         replace hle2 := hle2.trans leP134
         have hR134m := hR134.max
         refine TL.run (pr_lenSl rfl rfl hR134) rfl (TL.run (pr_pure rfl) rfl (TL.nil (TX.seqN (TC.block ?_))))
         refine TC.loop (V := fun (e : Int × List Bool) => [(136, .int .i64 e.1)]) (K := [(1, _), (4, _), (5, _), (6, _), (7, _), (8, _), (9, _), (10, _), (14, _), (35, _), (36, _), (37, _), (38, _), (39, _), (40, _), (41, _), (42, _), (43, _), (44, _), (56, _), (74, _), (75, _), (76, _), (77, _), (78, _), (108, _), (109, _), (110, _), (111, _), (112, _), (116, _), (117, _), (118, _), (119, _), (120, _), (121, _), (122, _), (123, _), (124, _), (125, _), (126, _), (127, _), (131, _), (132, _), (133, _), (134, _), (135, _)]) (L := fun (e : Int × List Bool) => St [] w0 H HP134 ((b10, s.cells) :: (b33, (e.2).map Value.bool) :: (b29, (d2).map (Value.int .i64)) :: (b25, (c2).map (Value.int .i64)) :: (b5, q.cells) :: (b4, [.int .i64 0, .int .i64 0, .int .i64 0]) :: (b2, pg.cells) :: [])) (I := fun (e : Int × List Bool) => (0 ≤ e.1 ∧ e.1 ≤ (postS q.terms r).length) ∧ e.2.length = q.terms.length ∧ useGo (postS q.terms r) f.2 = useGo ((postS q.terms r).drop e.1.toNat) e.2) (μ := fun (e : Int × List Bool) => ((postS q.terms r).length - e.1).toNat) (i := ((0 : Int), f.2)) ⟨rfl, rfl, rfl, rfl, rfl, rfl, rfl, rfl, rfl, rfl, rfl, rfl, rfl, rfl, rfl, rfl, rfl, rfl, rfl, rfl, rfl, rfl, rfl, rfl, rfl, rfl, rfl, rfl, rfl, rfl, rfl, rfl, rfl, rfl, rfl, rfl, rfl, rfl, rfl, rfl, rfl, rfl, rfl, rfl, rfl, rfl, rfl, rfl, trivial⟩ ⟨⟨by omega, by omega⟩, hu4, rfl⟩ (fun w hw => hw) (fun (e : Int × List Bool) hI => ?_)
         obtain ⟨⟨e0, e1⟩, hu5, hU⟩ := hI
         refine TC.seq (TC.region (TL.run (pr_pure rfl) rfl (TL.nil (TX.seqN (TC.seq ?_)))))
         refine TC.condD rfl (fun c137 => ?_) (fun c137 => ?_)
         ·
          obtain ⟨z, hz⟩ := getSome (l := postS q.terms r) e0 c137
          have hzb := post_in _ _ z (List.mem_of_getElem? hz)
          refine TC.skip (TX.seqN (TC.seq (TC.block (TC.seq (TC.region (TL.run (pr_indexSl rfl hR134 rfl (by omega) (by omega)) rfl (TL.run (pr_el0 hR134 hz rfl rfl) rfl ?_)))))))
          refine TL.run (pr_pure rfl) rfl (TL.nil (TX.seqN (TC.seq (TC.seq (TC.region (TL.run (pr_pure rfl) rfl (TL.run (pr_pure rfl) rfl ?_)))))))
          refine TL.run (pr_index rfl rfl (by omega) (by omega)) rfl (TL.run (pr_own1 rfl (.there _ (.here _)) (bs_get (by omega))) rfl (TL.nil (TX.seqN ?_)))
          refine TC.cond rfl (fun c143 => ?_) (fun c143 => ?_)
          ·
           refine TC.seq (TC.region (TL.run (pr_pure rfl) rfl (TL.run (pr_pure rfl) rfl ?_)))
           refine TL.callS (enters rfl rfl rfl rfl) (fault_ok 1503 i k) rfl ?_
           refine TL.storeA rfl rfl rfl rfl rfl (.there _ (.there _ (.there _ (.there _ (.there _ (.here _)))))) rfl rfl ?_
           refine TL.nil (TX.seqN (TC.ret (TX.thenR (TX.blkR (TX.thenR (TX.thenR (TX.blkR ?_)))))))
           refine TX.blkR (TX.thenR (TX.thenR (TX.blkR (TX.blkR (TX.thenR (TX.thenR (TX.blkR ?_)))))))
           refine TX.thenR (TX.finS (.inr rfl) (results1 rfl (RVal.cellA rfl (.there _ (.there _ (.there _ (.there _ (.there _ (.here _)))))) rfl)) (by rw [sh_t k0 hx hm c56 hng c112 (rg_bad f0 hr hmr (ug_bad e0 hz c143 hU) hR) hS]; rfl))
          ·
           refine TC.skip (TX.seqN (TC.region (TL.run (pr_pure rfl) rfl (TL.run (pr_pure rfl) rfl (TL.run (pr_index rfl rfl (by omega) (by omega)) rfl ?_)))))
           refine TL.store1 rfl rfl rfl (.there _ (.here _)) (by simp; omega) rfl ?_
           refine TL.nil (TX.blkN (TX.seqN (TC.region (TL.run ((by first | exact pr_add rfl rfl (by omega) (by omega) | exact pr_pure rfl)) rfl (TL.run (pr_pure rfl) rfl (TL.nil (TX.round (e.1 + 1, e.2.set z.toNat true) ⟨⟨by omega, by omega⟩, by rw [List.length_set]; exact hu5, ug_next e0 hz c143 hU⟩ ⟨rfl, rfl, rfl, rfl, rfl, rfl, rfl, rfl, rfl, rfl, rfl, rfl, rfl, rfl, rfl, rfl, rfl, rfl, rfl, rfl, rfl, rfl, rfl, rfl, rfl, rfl, rfl, rfl, rfl, rfl, rfl, rfl, rfl, rfl, rfl, rfl, rfl, rfl, rfl, rfl, rfl, rfl, rfl, rfl, rfl, rfl, rfl, rfl, trivial⟩ (fun w hw => by have hw2 := hw; simp only [bs_set] at hw2; exact hw2) (by omega))))))))
         ·
          have hug := ug_end e0 c137 hU
          refine TC.exit (TX.thenE (TX.thenE (TX.blkHit (TX.blkN (TX.seqN (TC.region (TL.run ((by first | exact pr_add rfl rfl (by omega) (by omega) | exact pr_pure rfl)) rfl ?_)))))))
          refine TL.run (pr_pure rfl) rfl (TL.nil (TX.round4 (f.1 + 1, e.2) .nilFunc [] HP134 ⟨⟨by omega, by omega⟩, hle2, hu5, rg_next f0 hr hmr hug hR⟩ ⟨rfl, rfl, rfl, rfl, rfl, rfl, rfl, rfl, rfl, rfl, rfl, rfl, rfl, rfl, rfl, rfl, rfl, rfl, rfl, rfl, rfl, rfl, rfl, rfl, rfl, rfl, rfl, rfl, rfl, rfl, rfl, rfl, rfl, trivial⟩ (fun w hw => hw) (by omega)))
       ·
        have hrg := rg_end f0 c120 hR
        refine TC.exit (TX.thenE (TX.thenE (TX.blkHit (TX.blkN (TX.seqN (TC.region (TL.run ((by first | exact pr_add rfl rfl (by omega) (by omega) | exact pr_pure rfl)) rfl ?_)))))))
        refine TL.run (pr_pure rfl) rfl (TL.nil (TX.round4 (i := (k, c, d, u)) (k + 1, c2, d2, f.2) .nilFunc [] H2 ⟨⟨by omega, by omega⟩, hle, ⟨hc2, hd2, hu4⟩, sh_next k0 hx hm c56 hng c112 hrg hS⟩ ⟨rfl, rfl, rfl, rfl, rfl, rfl, rfl, rfl, rfl, trivial⟩ (fun w hw => hw.drop) (by omega)))
 ·
  refine TC.exit (TX.thenE (TX.thenE (TX.blkHit (TX.seqN (TC.seq (TC.region (TL.run (pr_build rfl rfl) rfl ?_)))))))
  refine TL.storeA rfl rfl rfl rfl rfl (.there _ (.there _ (.there _ (.there _ (.here _))))) rfl rfl ?_
  refine TL.nil (TX.seqN (TC.ret (TX.finS (.inr rfl) (results1 rfl (RVal.cellA rfl (.there _ (.there _ (.there _ (.there _ (.here _))))) rfl)) (by rw [sh_end k0 c38 hS]; rfl))))
end Go.Sx

set_option linter.unusedVariables false
set_option linter.unusedSimpArgs false
namespace Go.Sx
open Go Go.Proofs
set_option maxRecDepth 100000 in
set_option maxHeartbeats 16000000 in
theorem sense_ok {H : Hp} {pg : SProg} {q : SProc} (i : Int) (hP : ProgOk H pg) (h0 : 0 ≤ i) (hq : pg.procs[i.toNat]? = some q) (hsh : ShapeOk q) (hz0 : 1 ≤ q.steps.length) (hz1 : q.steps.length ≤ 80) (hz2 : q.terms.length ≤ 160) :
  FnS Try.prog 21 [.agg pg.cells.toArray, .int .i64 i] H (.agg (senseF pg i q).cells.toArray) := by
 have hPq := hP.q
 have hmax := hPq.max
 have hlt := ix_lt2 hq
 have hQ := hP.qs q (List.mem_of_getElem? hq)
 have hst0 := hQ.s
 have hpa0 := hQ.pa
 have hpl := hQ.pl
 refine FnS.enter Try.func21 Try.ntmps21 rfl rfl (fun w0 => ?_)
 refine TC.seq (TC.region ?_)
 refine TL.box rfl rfl (fun b2 => ?_)
 refine TL.alloc rfl (fun b4 => ?_)
 refine TL.nil (TX.seqN (TC.seq (TC.region (TL.run (pr_field rfl) rfl (TL.run (pr_own1 rfl (.there _ (.here _)) rfl) rfl (TL.run (pr_pure rfl) rfl (TL.run (pr_indexSl rfl hPq rfl (by omega) (by omega)) rfl ?_)))))))
 refine TL.run (pr_elA hPq hq rfl rfl) rfl ?_
 refine TL.alloc rfl (fun b5 => ?_)
 refine TL.storeA rfl rfl rfl rfl rfl (.here _) rfl rfl ?_
 refine TL.nil (TX.seqN (TC.seq (TC.region (TL.run (pr_field rfl) rfl (TL.run (pr_own1 rfl (.here _) rfl) rfl (TL.run (pr_lenSl rfl rfl hst0) rfl ?_))))))
 refine TL.make rfl rfl (by first | omega | decide) (by first | omega | decide) (by first | omega | decide) rfl (fun b23 => ?_)
 refine TL.run (pr_pure rfl) rfl (TL.nil (TX.seqN (TC.seq (TC.seq (TC.region (TL.run (pr_field rfl) rfl (TL.run (pr_own1 rfl (.there _ (.here _)) rfl) rfl ?_)))))))
 refine TL.run (pr_lenSl rfl rfl hpa0) rfl (TL.run (pr_pure rfl) rfl (TL.nil (TX.seqN (TC.block ?_))))
 refine TC.loop4 (V := fun k v ob H1 => [(27, .int .i64 k)]) (K := [(1, _), (2, _), (4, _), (5, _), (6, _), (25, _), (26, _)]) (L := fun k v ob H1 => St [] w0 H H ((b23, (List.replicate q.steps.length nilV).set 0 v) :: (b5, q.cells) :: (b4, [.int .i64 0, .int .i64 0, .int .i64 0]) :: (b2, pg.cells) :: ob)) (I := fun k v ob H1 => (0 ≤ k ∧ k ≤ q.params.length) ∧ OwnSl 1 Str.cells v ((q.params.take k.toNat).map (·.name)) ob) (μ := fun k => (q.params.length - k).toNat) 0 nilV [] H ⟨rfl, rfl, rfl, rfl, rfl, rfl, rfl, rfl, trivial⟩ ⟨⟨by omega, by omega⟩, OwnSl.nil⟩ (fun w hw => by rw [rep_set0]; rw [reps_one] at hw; exact hw) (fun k v ob H1 hI => ?_)
 obtain ⟨⟨k0, k1⟩, hO⟩ := hI
 obtain ⟨va, vc, rfl⟩ := hO.form
 refine TC.seq (TC.region (TL.run (pr_pure rfl) rfl (TL.nil (TX.seqN (TC.seq ?_)))))
 refine TC.condD rfl (fun c28 => ?_) (fun c28 => ?_)
 ·
  obtain ⟨x, hx⟩ := getSome (l := q.params) k0 c28
  refine TC.skip (TX.seqN (TC.seq (TC.block (TC.seq (TC.region (TL.run (pr_indexSl rfl hpa0 rfl (by omega) (by omega)) rfl (TL.run (pr_elA hpa0 hx rfl rfl) rfl ?_)))))))
  refine TL.alloc rfl (fun b8 => ?_)
  refine TL.storeA rfl rfl rfl rfl rfl (.here _) rfl rfl ?_
  refine TL.nil (TX.seqN ?_)
  refine TC.drawn (by kernel_rfl) (by kernel_rfl) ?_
  refine TD.leaf [(0, 1), (1, 1), (2, 1), (3, 2), (4, 1), (5, 2), (6, 3), (7, 0), (8, 1), (9, 0)] (by kernel_rfl) (by kernel_rfl) ?_
  refine TF.pure (pr_pure rfl) rfl (TF.pure (pr_pure rfl) rfl (TF.pure (pr_index rfl rfl (by omega) (by omega)) rfl (TF.still (pr_own1 rfl (.there _ (.here _)) (set_get0 (by simp; omega))) rfl (TF.pure (pr_field rfl) rfl (TF.still (pr_own1 rfl (.here _) rfl) rfl ?_)))))
  refine TF.bslice rfl rfl rfl rfl (fun b37 => ?_)
  refine TF.loud ?_
  refine TL.append (enc := Str.cells) rfl rfl rfl hO (Src.own [x.name] (.here _) rfl rfl) (by simp; omega) rfl (.skip _ (.skip _ (.skip _ (.skip _ (.skip _ (.skip _ .all)))))) rfl (fun a38 c38 ob38 hO38 => ?_)
  refine TF.back (TF.pure (pr_index rfl rfl (by omega) (by omega)) rfl (TF.loud ?_))
  refine TL.store1 rfl rfl rfl (.there _ (.there _ (.here _))) (by simp; omega) rfl ?_
  refine TF.back (TF.nil (TX.blkN (TX.seqN (TC.region (TL.run ((by first | exact pr_add rfl rfl (by omega) (by omega) | exact pr_pure rfl)) rfl (TL.run (pr_pure rfl) rfl (TL.nil ?_)))))))
  exact TX.round4 (k + 1) _ ob38 H ⟨⟨by omega, by omega⟩, hO38.cast (by rw [map_take_snoc k0 hx])⟩ ⟨rfl, rfl, rfl, rfl, rfl, rfl, rfl, rfl, trivial⟩ (fun w hw => by have hw2 := hw.drop.drop; rw [set_k] at hw2; rw [← List.set_set]; exact hw2) (by omega)
 ·
  refine TC.exit (TX.thenE (TX.thenE (TX.blkHit (TX.seqN (TC.seq (TC.seq (TC.region ?_)))))))
  refine TL.pubO hO (.skip _ (.skip _ (.skip _ (.skip _ .all)))) (by simp) (fun HJ leJ hJ => ?_)
  replace hP := hP.le leJ
  replace hQ := hQ.le leJ
  have hJ2 := hJ.cast (show _ = q.params.map (·.name) by rw [take_all c28 k0])
  refine TL.run (pr_field rfl) rfl (TL.run (pr_own1 rfl (.there _ (.here _)) rfl) rfl (TL.run (pr_lenSl rfl rfl hQ.s) rfl (TL.run (pr_pure rfl) rfl (TL.nil (TX.seqN (TC.block ?_))))))
  refine TC.loop4 (V := fun (p : SnIx) v ob H1 => [(44, .int .i64 p.1)]) (K := [(1, _), (2, _), (4, _), (5, _), (6, _), (42, _), (43, _)]) (L := fun (p : SnIx) v ob H1 => St [] w0 H H1 ((b23, p.2.1) :: (b5, q.cells) :: (b4, [.int .i64 0, .int .i64 0, .int .i64 0]) :: (b2, pg.cells) :: [])) (I := fun (p : SnIx) v ob H1 => (0 ≤ p.1 ∧ p.1 ≤ q.steps.length) ∧ HJ.le H1 ∧ BRow H1 p.2.1 p.2.2 ∧ p.2.2.length = q.steps.length ∧ senseF pg i q = senseGo pg q i (q.steps.drop p.1.toNat) p.1 p.2.2) (μ := fun (p : SnIx) => (q.steps.length - p.1).toNat) ((0 : Int), (List.replicate q.steps.length nilV).set 0 _, bound0 q) .nilFunc [] HJ ⟨rfl, rfl, rfl, rfl, rfl, rfl, rfl, rfl, trivial⟩ ⟨⟨by omega, by omega⟩, Hp.le.refl _, brow0 hJ2 hpl, bound0_len q, rfl⟩ (fun w hw => hw) (fun p v ob H1 hI => ?_)
  obtain ⟨⟨k0, k1⟩, hle, hB, hbl, hS⟩ := hI
  obtain ⟨k, vs, b⟩ := p
  dsimp only at *
  replace hP := hP.le hle
  replace hQ := hQ.le hle
  refine TC.seq (TC.region (TL.run (pr_pure rfl) rfl (TL.nil (TX.seqN (TC.seq ?_)))))
  refine TC.condD rfl (fun c45 => ?_) (fun c45 => ?_)
  ·
   obtain ⟨s, hx⟩ := getSome (l := q.steps) k0 c45
   have hs := hQ.ss s (List.mem_of_getElem? hx)
   obtain ⟨hm0, hin⟩ := hsh k.toNat s hx
   have hsz := may_sizes hm0
   obtain ⟨vk, bk, hvk, hbk, hBk⟩ := hB.at_ (k := k) (by omega)
   have hvl := hB.1
   refine TC.skip (TX.seqN (TC.seq (TC.block (TC.seq (TC.region (TL.run (pr_pure rfl) rfl (TL.run (pr_indexSl rfl hQ.s rfl (by omega) (by omega)) rfl ?_)))))))
   refine TL.run (pr_elA hQ.s hx rfl rfl) rfl ?_
   refine TL.alloc rfl (fun b10 => ?_)
   refine TL.run (pr_pure rfl) rfl ?_
   refine TL.storeA rfl rfl rfl rfl rfl (.here _) rfl rfl ?_
   refine TL.nil (TX.seqN (TC.seq (TC.seq (TC.quiet (by kernel_rfl) (by kernel_rfl) (TQ.run (pr_ownA rfl (.there _ (.there _ (.there _ (.there _ (.here _))))) rfl) rfl (TQ.run (pr_ownA rfl (.there _ (.there _ (.here _))) rfl) rfl (TQ.run (pr_ownA rfl (.here _) rfl) rfl ?_)))))))
   refine TQ.run (pr_pure rfl) rfl (TQ.run (pr_pure rfl) rfl (TQ.run (pr_index rfl rfl (by omega) (by omega)) rfl (TQ.run (pr_own1 rfl (.there _ (.here _)) (get_k hvk)) rfl ?_)))
   refine TQ.callS (enters rfl rfl rfl rfl) (step_ok s hP hQ hs hBk hsz.2 (by omega)) rfl ?_
   refine TQ.run (pr_pure rfl) rfl (TQ.nil (TX.seqN (TC.seq (TC.region (TL.run (pr_pure rfl) rfl (TL.run (pr_pure rfl) rfl (TL.nil ?_)))))))
   refine TX.seqN ?_
   refine TC.condND rfl (fun c58 => ?_) (fun c58 => ?_)
   ·
    refine TC.seq (TC.region (TL.run (pr_pure rfl) rfl (TL.run (pr_pure rfl) rfl (TL.run (pr_pure rfl) rfl ?_))))
    refine TL.callS (enters rfl rfl rfl rfl) (fault_ok _ i k) rfl ?_
    refine TL.storeA rfl rfl rfl rfl rfl (.there _ (.there _ (.there _ (.here _)))) rfl rfl ?_
    refine TL.nil (TX.seqN (TC.ret (TX.thenR (TX.blkR (TX.thenR (TX.thenR (TX.blkR ?_)))))))
    refine TX.thenR (TX.finS (.inr rfl) (results1 rfl (RVal.cellA rfl (.there _ (.there _ (.there _ (.here _)))) rfl)) (by rw [sn_bad k0 hx hbk c58 hS]; rfl))
   ·
    have he0 := c58
    refine TC.skip (TX.seqN (TC.seq (TC.region (TL.run (pr_ownA rfl (.here _) rfl) rfl ?_))))
    refine TL.callO (enters rfl rfl rfl rfl) (binds_ok s hs (by omega)) rfl (fun v64 H64 ob64 hle64 hp64 => ?_)
    obtain ⟨eH64, hO64⟩ := hp64
    subst H64
    obtain ⟨a64, c64, rfl⟩ := hO64.form
    refine TL.pubO hO64 (.skip _ (.skip _ (.skip _ (.skip _ (.skip _ .all))))) (by simp) (fun HP64 leP64 hR64 => ?_)
    replace hP := hP.le leP64
    replace hQ := hQ.le leP64
    replace hle := hle.trans leP64
    replace hs := hs.le leP64
    replace hB := hB.le leP64
    replace hBk := hBk.le leP64
    have hR64m := hR64.max
    refine TL.run (pr_pure rfl) rfl (TL.nil (TX.seqN (TC.seq (TC.region (TL.run (pr_ownA rfl (.here _) rfl) rfl ?_)))))
    refine TL.callO (enters rfl rfl rfl rfl) (nexts_ok s hs (by omega)) rfl (fun v66 H66 ob66 hle66 hp66 => ?_)
    obtain ⟨eH66, hO66⟩ := hp66
    subst H66
    obtain ⟨a66, c66, rfl⟩ := hO66.form
    refine TL.pubO hO66 (.skip _ (.skip _ (.skip _ (.skip _ (.skip _ .all))))) (by simp) (fun HP66 leP66 hR66 => ?_)
    replace hP := hP.le leP66
    replace hQ := hQ.le leP66
    replace hle := hle.trans leP66
    replace hs := hs.le leP66
    replace hB := hB.le leP66
    replace hBk := hBk.le leP66
    replace hR64 := hR64.le leP66
    have hR66m := hR66.max
    refine TL.run (pr_lenSl rfl rfl hR66) rfl (TL.run (pr_pure rfl) rfl (TL.nil (TX.seqN (TC.block ?_))))
    refine TC.loop4 (V := fun (e : SnIx) v2 ob2 H2 => [(68, .int .i64 e.1)]) (K := [(1, _), (2, _), (4, _), (5, _), (6, _), (9, _), (10, _), (11, _), (12, _), (42, _), (43, _), (44, _), (45, _), (46, _), (47, _), (48, _), (49, _), (50, _), (51, _), (52, _), (53, _), (54, _), (55, _), (56, _), (57, _), (58, _), (63, _), (64, _), (65, _), (66, _), (67, _)]) (L := fun (e : SnIx) v2 ob2 H2 => St [] w0 H H2 ((b10, s.cells) :: (b23, e.2.1) :: (b5, q.cells) :: (b4, [.int .i64 0, .int .i64 0, .int .i64 0]) :: (b2, pg.cells) :: [])) (I := fun (e : SnIx) v2 ob2 H2 => (0 ≤ e.1 ∧ e.1 ≤ (nextsS s).length) ∧ HP66.le H2 ∧ BRow H2 e.2.1 e.2.2 ∧ e.2.2.length = q.steps.length ∧ (e.2.1[k.toNat]? = some vk ∧ e.2.2[k.toNat]? = some bk) ∧ boundGo k (nextsS s) (bindsS s) b = boundGo k ((nextsS s).drop e.1.toNat) ((bindsS s).drop e.1.toNat) e.2.2) (μ := fun (e : SnIx) => ((nextsS s).length - e.1).toNat) ((0 : Int), vs, b) .nilFunc [] HP66 ⟨rfl, rfl, rfl, rfl, rfl, rfl, rfl, rfl, rfl, rfl, rfl, rfl, rfl, rfl, rfl, rfl, rfl, rfl, rfl, rfl, rfl, rfl, rfl, rfl, rfl, rfl, rfl, rfl, rfl, rfl, rfl, rfl, trivial⟩ ⟨⟨by omega, by omega⟩, Hp.le.refl _, hB, hbl, ⟨hvk, hbk⟩, rfl⟩ (fun w hw => hw) (fun e v2 ob2 H2 hI => ?_)
    obtain ⟨⟨j0, j1⟩, hle2, hB2, hbl2, ⟨hvk2, hbk2⟩, hG⟩ := hI
    replace hP := hP.le hle2
    replace hQ := hQ.le hle2
    replace hle := hle.trans hle2
    replace hs := hs.le hle2
    replace hB := hB.le hle2
    replace hBk := hBk.le hle2
    replace hR64 := hR64.le hle2
    replace hR66 := hR66.le hle2
    have hBk2 := hB2.2.1 _ _ _ hvk2 hbk2
    have hBk2m := hB2.2.2 _ _ hbk2
    have hvl2 := hB2.1
    refine TC.seq (TC.region (TL.run (pr_pure rfl) rfl (TL.nil (TX.seqN (TC.seq ?_)))))
    refine TC.condD rfl (fun c69 => ?_) (fun c69 => ?_)
    ·
     obtain ⟨t, ht⟩ := getSome (l := nextsS s) j0 c69
     obtain ⟨m, hm⟩ := binds_of j0 c69
     have htb := hin t (List.mem_of_getElem? ht)
     have hbn := binds_len s
     have hk3 : ((k.toNat : Nat) : Int) = k := by omega
     refine TC.skip (TX.seqN (TC.seq (TC.block (TC.seq (TC.region (TL.run (pr_pure rfl) rfl (TL.run (pr_indexSl rfl hR66 rfl (by omega) (by omega)) rfl ?_)))))))
     refine TL.run (pr_el0 hR66 ht rfl rfl) rfl (TL.run (pr_pure rfl) rfl (TL.run (pr_pure rfl) rfl (TL.nil (TX.seqN (TC.seq (TC.region (TL.run (pr_pure rfl) rfl ?_)))))))
     refine TL.run (pr_pure rfl) rfl ?_
     refine TL.bslice rfl rfl rfl rfl (fun b75 => ?_)
     refine TL.run (pr_pure rfl) rfl (TL.run (pr_pure rfl) rfl (TL.run (pr_index rfl rfl (by omega) (by omega)) rfl (TL.run (pr_own1 rfl (.there _ (.there _ (.here _))) (get_k hvk2)) rfl ?_)))
     refine TL.append (enc := Str.cells) rfl rfl rfl (OwnSl.blk (enc := Str.cells) [] rfl rfl (by decide)) (Src.sl hBk2) (by simp; omega) rfl (.take (.here _) rfl) rfl (fun a80 c80 ob80 hO80 => ?_)
     refine TL.run (pr_index rfl rfl (by omega) (by omega)) rfl ?_
     refine TL.store1 rfl rfl rfl (.there _ (.here _)) (by simp; omega) rfl ?_
     refine TL.nil (TX.seqN (TC.seq (TC.region (TL.run (pr_pure rfl) rfl (TL.run (pr_pure rfl) rfl (TL.run (pr_indexSl rfl hR64 rfl (by omega) (by omega)) rfl (TL.run (pr_el0 hR64 hm rfl rfl) rfl ?_)))))))
     refine TL.run (pr_str rfl rfl rfl) rfl (TL.nil (TX.seqN ?_))
     refine TC.condND rfl (fun c86 => ?_) (fun c86 => ?_)
     ·
      refine TC.drawn (by kernel_rfl) (by kernel_rfl) ?_
      refine TD.leaf [(0, 1), (1, 1), (2, 1), (3, 1), (4, 1), (5, 2), (6, 1), (7, 1), (8, 1), (9, 2), (10, 3), (11, 0), (12, 1), (13, 0)] (by kernel_rfl) (by kernel_rfl) ?_
      refine TF.pure (pr_pure rfl) rfl (TF.pure (pr_pure rfl) rfl (TF.pure (pr_pure rfl) rfl (TF.pure (pr_pure rfl) rfl (TF.pure (pr_index rfl rfl (by omega) (by omega)) rfl (TF.still (pr_own1 rfl (.there _ (.here _)) (set_getk (by omega))) rfl (TF.pure (pr_pure rfl) rfl (TF.pure (pr_pure rfl) rfl ?_)))))))
      refine TF.pure (pr_indexSl rfl hR64 rfl (by omega) (by omega)) rfl (TF.still (pr_el0 hR64 hm rfl rfl) rfl ?_)
      refine TF.bslice rfl rfl rfl rfl (fun b97 => ?_)
      refine TF.loud ?_
      refine TL.append (enc := Str.cells) rfl rfl rfl hO80 (Src.own [m] (.here _) rfl rfl) (by simp; omega) rfl (.skip _ (.skip _ (.skip _ (.skip _ (.skip _ (.skip _ .all)))))) rfl (fun a98 c98 ob98 hO98 => ?_)
      refine TF.back (TF.pure (pr_index rfl rfl (by omega) (by omega)) rfl (TF.loud ?_))
      refine TL.store1 rfl rfl rfl (.there _ (.there _ (.here _))) (by simp; omega) rfl ?_
      refine TF.back (TF.nil (TX.blkN (TX.seqN (TC.region ?_))))
      refine TL.pubO hO98 (.skip _ (.skip _ (.skip _ (.skip _ (.skip _ (.skip _ .all)))))) (by simp) (fun HPb lePb hPb => ?_)
      replace hP := hP.le lePb
      replace hQ := hQ.le lePb
      replace hle := hle.trans lePb
      replace hs := hs.le lePb
      replace hB := hB.le lePb
      replace hBk := hBk.le lePb
      replace hR64 := hR64.le lePb
      replace hR66 := hR66.le lePb
      replace hle2 := hle2.trans lePb
      replace hB2 := hB2.le lePb
      replace hBk2 := hBk2.le lePb
      refine TL.run ((by first | exact pr_add rfl rfl (by omega) (by omega) | exact pr_pure rfl)) rfl (TL.run (pr_pure rfl) rfl (TL.nil (TX.round4 (e.1 + 1, e.2.1.set t.toNat _, e.2.2.set t.toNat (bk ++ [m])) .nilFunc [] HPb ⟨⟨by omega, by omega⟩, hle2, (hB2.set hPb (by first | omega | (simp; omega))), by rw [List.length_set]; exact hbl2, ⟨by rw [List.getElem?_set, if_neg (by omega)]; exact hvk2, by rw [List.getElem?_set, if_neg (by omega)]; exact hbk2⟩, by rw [← putAt_T hbk2 c86]; exact bg_next j0 ht hm hG⟩ ⟨rfl, rfl, rfl, rfl, rfl, rfl, rfl, rfl, rfl, rfl, rfl, rfl, rfl, rfl, rfl, rfl, rfl, rfl, rfl, rfl, rfl, rfl, rfl, rfl, rfl, rfl, rfl, rfl, rfl, rfl, rfl, rfl, trivial⟩ (fun w hw => by have hw2 := hw.drop; simp only [set_k, List.set_set] at hw2; exact hw2) (by omega))))
     ·
      refine TC.skip (TX.blkN (TX.seqN (TC.region ?_)))
      refine TL.pubO hO80 (.skip _ (.skip _ (.skip _ (.skip _ (.skip _ .all))))) (by simp) (fun HPb lePb hPb => ?_)
      replace hP := hP.le lePb
      replace hQ := hQ.le lePb
      replace hle := hle.trans lePb
      replace hs := hs.le lePb
      replace hB := hB.le lePb
      replace hBk := hBk.le lePb
      replace hR64 := hR64.le lePb
      replace hR66 := hR66.le lePb
      replace hle2 := hle2.trans lePb
      replace hB2 := hB2.le lePb
      replace hBk2 := hBk2.le lePb
      refine TL.run ((by first | exact pr_add rfl rfl (by omega) (by omega) | exact pr_pure rfl)) rfl (TL.run (pr_pure rfl) rfl (TL.nil (TX.round4 (e.1 + 1, e.2.1.set t.toNat _, e.2.2.set t.toNat bk) .nilFunc [] HPb ⟨⟨by omega, by omega⟩, hle2, (hB2.set hPb (by first | omega | (simp; omega))), by rw [List.length_set]; exact hbl2, ⟨by rw [List.getElem?_set, if_neg (by omega)]; exact hvk2, by rw [List.getElem?_set, if_neg (by omega)]; exact hbk2⟩, by rw [← putAt_F hbk2 c86]; exact bg_next j0 ht hm hG⟩ ⟨rfl, rfl, rfl, rfl, rfl, rfl, rfl, rfl, rfl, rfl, rfl, rfl, rfl, rfl, rfl, rfl, rfl, rfl, rfl, rfl, rfl, rfl, rfl, rfl, rfl, rfl, rfl, rfl, rfl, rfl, rfl, rfl, trivial⟩ (fun w hw => by have hw2 := hw; simp only [set_k, List.set_set] at hw2; exact hw2) (by omega))))
    ·
     refine TC.exit (TX.thenE (TX.thenE (TX.blkHit (TX.blkN (TX.seqN (TC.region (TL.run ((by first | exact pr_add rfl rfl (by omega) (by omega) | exact pr_pure rfl)) rfl ?_)))))))
     refine TL.run (pr_pure rfl) rfl (TL.nil (TX.round4 (i := (k, vs, b)) (k + 1, e.2.1, e.2.2) .nilFunc [] H2 ⟨⟨by omega, by omega⟩, hle, hB2, hbl2, (bg_end j0 c69 hG) ▸ sn_next k0 hx hbk he0 hS⟩ ⟨rfl, rfl, rfl, rfl, rfl, rfl, rfl, rfl, trivial⟩ (fun w hw => hw.drop) (by omega)))
  ·
   refine TC.exit (TX.thenE (TX.thenE (TX.blkHit (TX.seqN (TC.seq (TC.region (TL.run (pr_build rfl rfl) rfl ?_)))))))
   refine TL.storeA rfl rfl rfl rfl rfl (.there _ (.there _ (.here _))) rfl rfl ?_
   refine TL.nil (TX.seqN (TC.ret (TX.finS (.inr rfl) (results1 rfl (RVal.cellA rfl (.there _ (.there _ (.here _))) rfl)) (by rw [sn_end k0 c45 hS]; rfl))))
end Go.Sx

set_option linter.unusedVariables false
set_option linter.unusedSimpArgs false
namespace Go.Sx
open Go Go.Proofs
set_option maxRecDepth 100000 in
set_option maxHeartbeats 1000000 in
theorem chk2_ok {H : Hp} {pg : SProg} {b1 : Nat} (hP : ProgOk H pg) (hM : MaxG H) (hb : PgAt H b1 pg) :
  FnS Try.prog 15 [.pointer (some ⟨b1, 0, none⟩)] H (.agg (allF pg).cells.toArray) := by
 refine FnS.enter Try.func15 Try.ntmps15 rfl rfl (fun w0 => ?_)
 refine TC.seq (TC.region ?_)
 refine TL.alloc rfl (fun b1 => ?_)
 refine TL.nil (TX.seqN (TC.seq (TC.region (TL.run (pr_hpA rfl rfl hb.add) rfl ?_))))
 refine TL.callS (enters rfl rfl rfl rfl) (all_ok hP hM) rfl ?_
 refine TL.storeA rfl rfl rfl rfl rfl (.here _) rfl rfl ?_
 refine TL.nil (TX.seqN (TC.ret (TX.finS (.inr rfl) (results1 rfl (RVal.cellA rfl (.here _) rfl)) rfl)))

set_option maxRecDepth 100000 in
set_option maxHeartbeats 1000000 in
theorem chk3_ok {H : Hp} {pg : SProg} {b1 : Nat} (hP : ProgOk H pg) (hb : PgAt H b1 pg) :
  FnS Try.prog 19 [.pointer (some ⟨b1, 0, none⟩)] H (.agg (mainF pg.procs).cells.toArray) := by
 have hq := hP.q
 have hmax := hq.max
 refine FnS.enter Try.func19 Try.ntmps19 rfl rfl (fun w0 => ?_)
 refine TC.seq (TC.region ?_)
 refine TL.alloc rfl (fun b1 => ?_)
 refine TL.nil (TX.seqN (TC.seq (TC.seq (TC.region (TL.run (pr_hpA rfl rfl hb.add) rfl ?_)))))
 refine TL.callS (enters rfl rfl rfl rfl) (sFind_ok sMain hP) rfl ?_
 refine TL.run (pr_pure rfl) rfl (TL.nil (TX.seqN ?_))
 refine TC.sw (decide (findS pg.procs sMain < 0) || decide (0 < ((getP pg.procs (findS pg.procs sMain)).params.length : Int))) 16 [(1, _)] ⟨rfl, trivial⟩ ?_ ?_
 ·
  refine TC.region (TL.run (pr_pure rfl) rfl (TL.run (pr_pure rfl) rfl (TL.run (pr_pure rfl) rfl ?_)))
  refine TL.split (s := 7) rfl (fun g7 => ?_) (fun g7 => ?_)
  ·
   have q7 := of_decide_eq_true g7
   refine TL.gdN rfl rfl rfl rfl (TL.gdN rfl rfl rfl rfl (TL.gdN rfl rfl rfl rfl (TL.gdN rfl rfl rfl rfl (TL.gdN rfl rfl rfl rfl (TL.gdN rfl rfl rfl rfl (TL.gdN rfl rfl rfl rfl (TL.gdN rfl rfl rfl rfl ?_)))))))
   refine TL.run (pr_pure rfl) rfl (TL.nil (TX.sw rfl (by first | (rw [hgp]; simp_all; done) | (simp_all; done) | (simp [*]; done) | (simp_all; omega)) ⟨rfl, trivial⟩))
  ·
   have q7 := of_decide_eq_false g7
   have hfr := find_range pg.procs sMain
   obtain ⟨x, hx⟩ := getSome (l := pg.procs) (i := findS pg.procs sMain) (by omega) (by omega)
   have hxp := (hP.qs x (List.mem_of_getElem? hx)).pa.max
   have hgp : getP pg.procs (findS pg.procs sMain) = x := by unfold getP; rw [hx]; rfl
   refine TL.gdY rfl rfl (pr_field rfl) rfl (TL.gdY rfl rfl (pr_hp1 rfl (hb 2 _ rfl)) rfl (TL.gdY rfl rfl (pr_pure rfl) rfl (TL.gdY rfl rfl (pr_indexSl rfl hq rfl (by omega) (by omega)) rfl (TL.gdY rfl rfl (pr_field rfl) rfl (TL.gdY rfl rfl (pr_el1 hq hx rfl rfl) rfl (TL.gdY rfl rfl (pr_lenSl rfl rfl (hP.qs x (List.mem_of_getElem? hx)).pa) rfl (TL.gdY rfl rfl (pr_pure rfl) rfl ?_)))))))
   refine TL.run (pr_pure rfl) rfl (TL.nil (TX.sw rfl (by first | (rw [hgp]; simp_all; done) | (simp_all; done) | (simp [*]; done) | (simp_all; omega)) ⟨rfl, trivial⟩))
 refine TC.cond rfl (fun c16 => ?_) (fun c16 => ?_)
 ·
  refine TC.seq (TC.region ?_)
  refine TL.callS (enters rfl rfl rfl rfl) (fault_ok 1504 (-1) (-1)) rfl ?_
  refine TL.storeA rfl rfl rfl rfl rfl (.here _) rfl rfl ?_
  refine TL.nil (TX.seqN (TC.ret (TX.thenR (TX.finS (.inr rfl) (results1 rfl (RVal.cellA rfl (.here _) rfl)) (by first | (rw [main_1 c16]; rfl) | (rw [main_2 c16]; rfl))))))
 ·
  refine TC.skip (TX.seqN (TC.seq (TC.region (TL.run (pr_build rfl rfl) rfl ?_))))
  refine TL.storeA rfl rfl rfl rfl rfl (.here _) rfl rfl ?_
  refine TL.nil (TX.seqN (TC.ret (TX.finS (.inr rfl) (results1 rfl (RVal.cellA rfl (.here _) rfl)) (by first | (rw [main_1 c16]; rfl) | (rw [main_2 c16]; rfl)))))

set_option maxRecDepth 100000 in
set_option maxHeartbeats 1000000 in
theorem chk1_ok {H : Hp} {b1 : Nat} {a : Option Addr} {n c : Nat} :
  Fn Try.prog 13 [.slice a n c, .pointer (some ⟨b1, 0, none⟩)] H (fun v H1 => ∃ b2, v = .func (.func 14) #[] #[.pointer (some ⟨b1, 0, none⟩), .pointer (some ⟨b2, 0, none⟩)] ∧ CellAt H1 b2 (.slice a n c)) := by
 refine Fn.enter Try.func13 Try.ntmps13 rfl rfl (fun w0 => ?_)
 refine TC.seq (TC.region ?_)
 refine TL.box1 rfl rfl (fun b2 => ?_)
 refine TL.run (pr_pure rfl) rfl (TL.nil (TX.seqN (TC.seq (TC.region ?_))))
 refine TL.pub (by simp) (fun H_b2 le_b2 rd_b2 => ?_)
 refine TL.run (pr_pure rfl) rfl (TL.run (pr_pure rfl) rfl (TL.nil (TX.seqN (TC.ret (TX.fin0 (.inr rfl) (results1 rfl (RVal.tmp rfl)) ⟨b2, rfl, rd_b2 0 _ rfl⟩)))))
end Go.Sx

set_option linter.unusedVariables false
set_option linter.unusedSimpArgs false
namespace Go.Sx
open Go Go.Proofs
set_option maxRecDepth 100000 in
set_option maxHeartbeats 4000000 in
theorem each2_ok {H : Hp} {pg : SProg} {b1 b2 : Nat} {lv : Value} (hP : ProgOk H pg) (hM : MaxG H) (hb : PgAt H b1 pg) (hc : CellAt H b2 lv) (hL : RdSl H 1 Fc.cells lv [17, 18]) :
  FnS Try.prog 14 [.pointer (some ⟨b1, 0, none⟩), .pointer (some ⟨b2, 0, none⟩)] H (.agg (eachF (headShape pg.procs) pg.procs 0).cells.toArray) := by
 have hq := hP.q
 have hmax := hq.max
 have one0 := hL.isOne
 obtain ⟨va, vc, rfl⟩ := hL.len
 refine FnS.enter Try.func14 Try.ntmps14 rfl rfl (fun w0 => ?_)
 refine TC.seq (TC.region ?_)
 refine TL.alloc rfl (fun b2 => ?_)
 refine TL.nil (TX.seqN (TC.seq (TC.seq (TC.region (TL.run (pr_field rfl) rfl (TL.run (pr_hp1 rfl (hb 2 _ rfl)) rfl (TL.run (pr_lenSl rfl rfl hq) rfl ?_)))))))
 refine TL.run (pr_pure rfl) rfl (TL.nil (TX.seqN (TC.block ?_)))
 refine TC.loop (V := fun k => [(10, .int .i64 k)]) (K := [(0, _), (1, _), (2, _), (9, _)]) (L := fun k => _) (I := fun k => (0 ≤ k ∧ k ≤ pg.procs.length) ∧ eachF (headShape pg.procs) pg.procs 0 = eachF (headShape pg.procs) (pg.procs.drop k.toNat) k) (μ := fun k => (pg.procs.length - k).toNat) (i := (0 : Int)) ⟨rfl, rfl, rfl, rfl, rfl, trivial⟩ ⟨⟨by omega, by omega⟩, rfl⟩ (fun w hw => hw) (fun k hI => ?_)
 obtain ⟨⟨k0, k1⟩, hE⟩ := hI
 refine TC.seq (TC.region (TL.run (pr_pure rfl) rfl (TL.nil (TX.seqN (TC.seq ?_)))))
 refine TC.condD rfl (fun c11 => ?_) (fun c11 => ?_)
 ·
  obtain ⟨q, hx⟩ := getSome (l := pg.procs) k0 c11
  refine TC.skip (TX.seqN (TC.seq (TC.block (TC.seq (TC.region (TL.run (pr_pure rfl) rfl (TL.run (pr_pure rfl) rfl ?_)))))))
  refine TL.nil (TX.seqN (TC.seq (TC.region (TL.run (pr_hp1 rfl hc) rfl (TL.run (pr_lenSl rfl rfl hL) rfl (TL.run (pr_pure rfl) rfl (TL.nil ?_)))))))
  refine TX.seqN (TC.block ?_)
  refine TC.rounds 3 ?_
  refine TR.succ ?_
  refine TC.seq (TC.region (TL.run (pr_pure rfl) rfl (TL.nil (TX.seqN (TC.seq ?_)))))
  refine TC.condD rfl (fun c16_0 => ?_) (fun c16_0 => ?_)
  ·
   refine TC.skip (TX.seqN (TC.seq (TC.block (TC.seq (TC.region (TL.run (pr_indexSl rfl hL rfl (by omega) (by omega)) rfl (TL.run (pr_el0 hL (show ([17, 18] : List FuncId)[0]? = some _ from rfl) rfl rfl) rfl ?_)))))))
   refine TL.run (pr_pure rfl) rfl (TL.nil (TX.seqN (TC.seq (TC.region (TL.run (pr_pure rfl) rfl (TL.run (pr_hpA rfl rfl hb.add) rfl (TL.run (pr_pure rfl) rfl ?_)))))))
   refine TL.callS (enters rfl rfl rfl rfl) (head_ok k hP hM k0 hx) rfl ?_
   refine TL.alloc rfl (fun b6 => ?_)
   refine TL.storeA rfl rfl rfl rfl rfl (.here _) rfl rfl ?_
   refine TL.nil (TX.seqN (TC.seq (TC.region (TL.run (pr_field rfl) rfl (TL.run (pr_own1 rfl (.here _) rfl) rfl (TL.run (pr_pure rfl) rfl (TL.nil ?_)))))))
   refine TX.seqN ?_
   refine TC.condND rfl (fun c25_0 => ?_) (fun c25_0 => ?_)
   ·
    refine TC.seq (TC.region (TL.run (pr_ownA rfl (.here _) rfl) rfl ?_))
    refine TL.storeA rfl rfl rfl rfl rfl (.there _ (.here _)) rfl rfl ?_
    refine TL.nil (TX.seqN (TC.ret (TX.blkR (TX.thenR (TX.thenR (TX.blkR (TX.blkR ?_)))))))
    refine TX.thenR (TX.thenR (TX.blkR (TX.thenR (TX.finS (.inr rfl) (results1 rfl (RVal.cellA rfl (.there _ (.here _)) rfl)) (by rw [each_bad (f := (headShape pg.procs)) k0 hx (by rw [hs_1 c25_0]; exact c25_0) hE, hs_1 c25_0]; rfl)))))
   ·
    have hz := head_sizes c25_0
    refine TC.skip (TX.blkN (TX.seqN (TC.region (TL.run (pr_add rfl rfl (by omega) (by omega)) rfl (TL.run (pr_pure rfl) rfl (TL.nil (TX.rnd ?_)))))))
    refine TR.succ ?_
    refine TC.seq (TC.region (TL.run (pr_pure rfl) rfl (TL.nil (TX.seqN (TC.seq ?_)))))
    refine TC.condD rfl (fun c16_1 => ?_) (fun c16_1 => ?_)
    ·
     refine TC.skip (TX.seqN (TC.seq (TC.block (TC.seq (TC.region (TL.run (pr_indexSl rfl hL rfl (by omega) (by omega)) rfl (TL.run (pr_el0 hL (show ([17, 18] : List FuncId)[1]? = some _ from rfl) rfl rfl) rfl ?_)))))))
     refine TL.run (pr_pure rfl) rfl (TL.nil (TX.seqN (TC.seq (TC.region (TL.run (pr_pure rfl) rfl (TL.run (pr_hpA rfl rfl hb.add) rfl (TL.run (pr_pure rfl) rfl ?_)))))))
     refine TL.callS (enters rfl rfl rfl rfl) (shape_ok k hP k0 hx hz.2.1 hz.2.2) rfl ?_
     refine TL.alloc rfl (fun b6x => ?_)
     refine TL.storeA rfl rfl rfl rfl rfl (.here _) rfl rfl ?_
     refine TL.nil (TX.seqN (TC.seq (TC.region (TL.run (pr_field rfl) rfl (TL.run (pr_own1 rfl (.here _) rfl) rfl (TL.run (pr_pure rfl) rfl (TL.nil ?_)))))))
     refine TX.seqN ?_
     refine TC.condND rfl (fun c25_1 => ?_) (fun c25_1 => ?_)
     ·
      refine TC.seq (TC.region (TL.run (pr_ownA rfl (.here _) rfl) rfl ?_))
      refine TL.storeA rfl rfl rfl rfl rfl (.there _ (.there _ (.here _))) rfl rfl ?_
      refine TL.nil (TX.seqN (TC.ret (TX.blkR (TX.thenR (TX.thenR (TX.blkR (TX.blkR ?_)))))))
      refine TX.thenR (TX.thenR (TX.blkR (TX.thenR (TX.finS (.inr rfl) (results1 rfl (RVal.cellA rfl (.there _ (.there _ (.here _))) rfl)) (by rw [each_bad (f := (headShape pg.procs)) k0 hx (by rw [hs_2 c25_0]; exact c25_1) hE, hs_2 c25_0]; rfl)))))
     ·
      refine TC.skip (TX.blkN (TX.seqN (TC.region (TL.run (pr_add rfl rfl (by omega) (by omega)) rfl (TL.run (pr_pure rfl) rfl (TL.nil (TX.rnd ?_)))))))
      refine TR.succ ?_
      refine TC.seq (TC.region (TL.run (pr_pure rfl) rfl (TL.nil (TX.seqN (TC.seq ?_)))))
      refine TC.condD rfl (fun c16_2 => ?_) (fun c16_2 => ?_)
      ·
       exact absurd c16_2 (by decide)
      ·
       refine TC.exit (TX.thenE (TX.thenE (TX.blkHit (TX.blkN (TX.seqN (TC.region (TL.run ((by first | exact pr_add rfl rfl (by omega) (by omega) | exact pr_pure rfl)) rfl ?_)))))))
       refine TL.run (pr_pure rfl) rfl (TL.nil (TX.round (k + 1) ⟨⟨by omega, by omega⟩, each_next k0 hx (by rw [hs_2 c25_0]; exact c25_1) hE⟩ ⟨rfl, rfl, rfl, rfl, rfl, trivial⟩ (fun w hw => hw.drop.drop) (by omega)))
    ·
     exact absurd (by decide) c16_1
  ·
   exact absurd (by decide) c16_0
 ·
  refine TC.exit (TX.thenE (TX.thenE (TX.blkHit (TX.seqN (TC.seq (TC.region (TL.run (pr_build rfl rfl) rfl ?_)))))))
  refine TL.storeA rfl rfl rfl rfl rfl (.here _) rfl rfl ?_
  refine TL.nil (TX.seqN (TC.ret (TX.finS (.inr rfl) (results1 rfl (RVal.cellA rfl (.here _) rfl)) (by rw [each_end k0 c11 hE]; rfl))))

set_option maxRecDepth 100000 in
set_option maxHeartbeats 4000000 in
theorem each1_ok {H : Hp} {pg : SProg} {b1 b2 : Nat} {lv : Value} (hP : ProgOk H pg) (hM : MaxG H) (hb : PgAt H b1 pg) (hc : CellAt H b2 lv) (hL : RdSl H 1 Fc.cells lv [21]) (hgood : ∀ q ∈ pg.procs, ProcGood q) :
  FnS Try.prog 14 [.pointer (some ⟨b1, 0, none⟩), .pointer (some ⟨b2, 0, none⟩)] H (.agg (eachF (senseF pg) pg.procs 0).cells.toArray) := by
 have hq := hP.q
 have hmax := hq.max
 have one0 := hL.isOne
 obtain ⟨va, vc, rfl⟩ := hL.len
 refine FnS.enter Try.func14 Try.ntmps14 rfl rfl (fun w0 => ?_)
 refine TC.seq (TC.region ?_)
 refine TL.alloc rfl (fun b2 => ?_)
 refine TL.nil (TX.seqN (TC.seq (TC.seq (TC.region (TL.run (pr_field rfl) rfl (TL.run (pr_hp1 rfl (hb 2 _ rfl)) rfl (TL.run (pr_lenSl rfl rfl hq) rfl ?_)))))))
 refine TL.run (pr_pure rfl) rfl (TL.nil (TX.seqN (TC.block ?_)))
 refine TC.loop (V := fun k => [(10, .int .i64 k)]) (K := [(0, _), (1, _), (2, _), (9, _)]) (L := fun k => _) (I := fun k => (0 ≤ k ∧ k ≤ pg.procs.length) ∧ eachF (senseF pg) pg.procs 0 = eachF (senseF pg) (pg.procs.drop k.toNat) k) (μ := fun k => (pg.procs.length - k).toNat) (i := (0 : Int)) ⟨rfl, rfl, rfl, rfl, rfl, trivial⟩ ⟨⟨by omega, by omega⟩, rfl⟩ (fun w hw => hw) (fun k hI => ?_)
 obtain ⟨⟨k0, k1⟩, hE⟩ := hI
 refine TC.seq (TC.region (TL.run (pr_pure rfl) rfl (TL.nil (TX.seqN (TC.seq ?_)))))
 refine TC.condD rfl (fun c11 => ?_) (fun c11 => ?_)
 ·
  obtain ⟨q, hx⟩ := getSome (l := pg.procs) k0 c11
  have hg := hgood q (List.mem_of_getElem? hx)
  refine TC.skip (TX.seqN (TC.seq (TC.block (TC.seq (TC.region (TL.run (pr_pure rfl) rfl (TL.run (pr_pure rfl) rfl ?_)))))))
  refine TL.nil (TX.seqN (TC.seq (TC.region (TL.run (pr_hp1 rfl hc) rfl (TL.run (pr_lenSl rfl rfl hL) rfl (TL.run (pr_pure rfl) rfl (TL.nil ?_)))))))
  refine TX.seqN (TC.block ?_)
  refine TC.rounds 2 ?_
  refine TR.succ ?_
  refine TC.seq (TC.region (TL.run (pr_pure rfl) rfl (TL.nil (TX.seqN (TC.seq ?_)))))
  refine TC.condD rfl (fun c16_0 => ?_) (fun c16_0 => ?_)
  ·
   refine TC.skip (TX.seqN (TC.seq (TC.block (TC.seq (TC.region (TL.run (pr_indexSl rfl hL rfl (by omega) (by omega)) rfl (TL.run (pr_el0 hL (show ([21] : List FuncId)[0]? = some _ from rfl) rfl rfl) rfl ?_)))))))
   refine TL.run (pr_pure rfl) rfl (TL.nil (TX.seqN (TC.seq (TC.region (TL.run (pr_pure rfl) rfl (TL.run (pr_hpA rfl rfl hb.add) rfl (TL.run (pr_pure rfl) rfl ?_)))))))
   refine TL.callS (enters rfl rfl rfl rfl) (sense_ok k hP k0 hx hg.1 hg.2.1 hg.2.2.1 hg.2.2.2) rfl ?_
   refine TL.alloc rfl (fun b6 => ?_)
   refine TL.storeA rfl rfl rfl rfl rfl (.here _) rfl rfl ?_
   refine TL.nil (TX.seqN (TC.seq (TC.region (TL.run (pr_field rfl) rfl (TL.run (pr_own1 rfl (.here _) rfl) rfl (TL.run (pr_pure rfl) rfl (TL.nil ?_)))))))
   refine TX.seqN ?_
   refine TC.condND rfl (fun c25_0 => ?_) (fun c25_0 => ?_)
   ·
    refine TC.seq (TC.region (TL.run (pr_ownA rfl (.here _) rfl) rfl ?_))
    refine TL.storeA rfl rfl rfl rfl rfl (.there _ (.here _)) rfl rfl ?_
    refine TL.nil (TX.seqN (TC.ret (TX.blkR (TX.thenR (TX.thenR (TX.blkR (TX.blkR ?_)))))))
    refine TX.thenR (TX.thenR (TX.blkR (TX.thenR (TX.finS (.inr rfl) (results1 rfl (RVal.cellA rfl (.there _ (.here _)) rfl)) (by rw [each_bad (f := (senseF pg)) k0 hx c25_0 hE]; rfl)))))
   ·
    refine TC.skip (TX.blkN (TX.seqN (TC.region (TL.run (pr_add rfl rfl (by omega) (by omega)) rfl (TL.run (pr_pure rfl) rfl (TL.nil (TX.rnd ?_)))))))
    refine TR.succ ?_
    refine TC.seq (TC.region (TL.run (pr_pure rfl) rfl (TL.nil (TX.seqN (TC.seq ?_)))))
    refine TC.condD rfl (fun c16_1 => ?_) (fun c16_1 => ?_)
    ·
     exact absurd c16_1 (by decide)
    ·
     refine TC.exit (TX.thenE (TX.thenE (TX.blkHit (TX.blkN (TX.seqN (TC.region (TL.run ((by first | exact pr_add rfl rfl (by omega) (by omega) | exact pr_pure rfl)) rfl ?_)))))))
     refine TL.run (pr_pure rfl) rfl (TL.nil (TX.round (k + 1) ⟨⟨by omega, by omega⟩, each_next k0 hx c25_0 hE⟩ ⟨rfl, rfl, rfl, rfl, rfl, trivial⟩ (fun w hw => hw.drop) (by omega)))
  ·
   exact absurd (by decide) c16_0
 ·
  refine TC.exit (TX.thenE (TX.thenE (TX.blkHit (TX.seqN (TC.seq (TC.region (TL.run (pr_build rfl rfl) rfl ?_)))))))
  refine TL.storeA rfl rfl rfl rfl rfl (.here _) rfl rfl ?_
  refine TL.nil (TX.seqN (TC.ret (TX.finS (.inr rfl) (results1 rfl (RVal.cellA rfl (.here _) rfl)) (by rw [each_end k0 c11 hE]; rfl))))
end Go.Sx

set_option linter.unusedVariables false
set_option linter.unusedSimpArgs false
namespace Go.Sx
open Go Go.Proofs
set_option maxRecDepth 100000 in
set_option maxHeartbeats 4000000 in
theorem check_ok {H : Hp} {pg : SProg} (hP : ProgOk H pg) (hM : MaxG H) :
  Fn Try.prog 6 [.agg pg.cells.toArray] H (fun v H1 => v = .agg (checkS pg).cells.toArray) := by
 refine Fn.enter Try.func6 Try.ntmps6 rfl rfl (fun w0 => ?_)
 refine TC.seq (TC.region ?_)
 refine TL.box rfl rfl (fun b1 => ?_)
 refine TL.alloc rfl (fun b2 => ?_)
 refine TL.nil (TX.seqN (TC.seq (TC.region ?_)))
 refine TL.front (.there _ (.here _)) ?_
 refine TL.pub (by simp) (fun H_b1 le_b1 rd_b1 => ?_)
 replace hP := hP.le le_b1
 replace hM := hM.le le_b1
 have hb : PgAt H_b1 b1 pg := rd_b1
 refine TL.run (pr_pure rfl) rfl (TL.run (pr_pure rfl) rfl (TL.nil (TX.seqN (TC.seq (TC.region (TL.run (pr_pure rfl) rfl (TL.run (pr_pure rfl) rfl ?_)))))))
 refine TL.bslice rfl rfl rfl rfl (fun b11 => ?_)
 refine TL.pub (by simp) (fun H_b11 le_b11 rd_b11 => ?_)
 replace hP := hP.le le_b11
 replace hM := hM.le le_b11
 replace hb := hb.le le_b11
 have hL11 : RdSl H_b11 1 Fc.cells _ ([17, 18]) := RdSl.blk (cap := 2) rd_b11 (by intro x hx; rfl) (by kernel_rfl) (by show 2 ≤ 9223372036854775807; decide)
 refine TL.call (enters rfl rfl rfl rfl) (chk1_ok) rfl (fun v12 H12 hle12 hp12 => ?_)
 obtain ⟨bx12, rfl, hC12⟩ := hp12
 replace hP := hP.le hle12
 replace hM := hM.le hle12
 replace hb := hb.le hle12
 replace hL11 := hL11.le hle12
 refine TL.run (pr_pure rfl) rfl (TL.run (pr_pure rfl) rfl ?_)
 refine TL.bslice rfl rfl rfl rfl (fun b15 => ?_)
 refine TL.pub (by simp) (fun H_b15 le_b15 rd_b15 => ?_)
 replace hP := hP.le le_b15
 replace hM := hM.le le_b15
 replace hb := hb.le le_b15
 replace hL11 := hL11.le le_b15
 replace hC12 := hC12.le le_b15
 have hL15 : RdSl H_b15 1 Fc.cells _ ([21]) := RdSl.blk (cap := 1) rd_b15 (by intro x hx; rfl) (by kernel_rfl) (by show 1 ≤ 9223372036854775807; decide)
 refine TL.call (enters rfl rfl rfl rfl) (chk1_ok) rfl (fun v16 H16 hle16 hp16 => ?_)
 obtain ⟨bx16, rfl, hC16⟩ := hp16
 replace hP := hP.le hle16
 replace hM := hM.le hle16
 replace hb := hb.le hle16
 replace hL11 := hL11.le hle16
 replace hC12 := hC12.le hle16
 replace hL15 := hL15.le hle16
 refine TL.bslice rfl rfl rfl rfl (fun b17 => ?_)
 refine TL.run (pr_pure rfl) rfl (TL.nil (TX.seqN (TC.seq (TC.seq (TC.region (TL.run (pr_pure rfl) rfl (TL.run (pr_lenS rfl rfl) rfl ?_)))))))
 refine TL.run (pr_pure rfl) rfl (TL.nil (TX.seqN (TC.block ?_)))
 refine TC.rounds 5 ?_
 refine TR.succ ?_
 refine TC.seq (TC.region (TL.run (pr_pure rfl) rfl (TL.nil (TX.seqN (TC.seq (TC.condT rfl (TC.skip ?_)))))))
 refine TX.seqN (TC.seq (TC.block (TC.seq (TC.region (TL.run (pr_index rfl rfl (by omega) (by omega)) rfl (TL.run (pr_own1 rfl (.here _) rfl) rfl (TL.run (pr_pure rfl) rfl ?_)))))))
 refine TL.nil (TX.seqN (TC.seq (TC.region (TL.run (pr_pure rfl) rfl ?_))))
 refine TL.callS (enters rfl rfl rfl rfl) (chk2_ok hP hM hb) rfl ?_
 refine TL.alloc rfl (fun b7 => ?_)
 refine TL.storeA rfl rfl rfl rfl rfl (.here _) rfl rfl ?_
 refine TL.nil (TX.seqN (TC.seq (TC.region (TL.run (pr_field rfl) rfl (TL.run (pr_own1 rfl (.here _) rfl) rfl (TL.run (pr_pure rfl) rfl (TL.nil ?_)))))))
 refine TX.seqN ?_
 refine TC.condND rfl (fun c28_0 => ?_) (fun c28_0 => ?_)
 ·
  refine TC.seq (TC.region (TL.run (pr_ownA rfl (.here _) rfl) rfl ?_))
  refine TL.storeA rfl rfl rfl rfl rfl (.there _ (.there _ (.here _))) rfl rfl ?_
  refine TL.nil (TX.seqN (TC.ret (TX.blkR (TX.thenR (TX.thenR (TX.blkR (TX.thenR ?_)))))))
  exact TX.fin0 (.inr rfl) (results1 rfl (RVal.cellA rfl (.there _ (.there _ (.here _))) rfl)) (by rw [chk_0 c28_0]; rfl)
 ·
  refine TC.skip (TX.blkN (TX.seqN (TC.region (TL.run (pr_add rfl rfl (by omega) (by omega)) rfl (TL.run (pr_pure rfl) rfl (TL.nil (TX.rnd ?_)))))))
  refine TR.succ ?_
  refine TC.seq (TC.region (TL.run (pr_pure rfl) rfl (TL.nil (TX.seqN (TC.seq (TC.condT rfl (TC.skip ?_)))))))
  refine TX.seqN (TC.seq (TC.block (TC.seq (TC.region (TL.run (pr_index rfl rfl (by omega) (by omega)) rfl (TL.run (pr_own1 rfl (.there _ (.here _)) rfl) rfl (TL.run (pr_pure rfl) rfl ?_)))))))
  refine TL.nil (TX.seqN (TC.seq (TC.region (TL.run (pr_pure rfl) rfl ?_))))
  refine TL.callS (enters rfl rfl rfl rfl) (each2_ok hP hM hb hC12 hL11) rfl ?_
  refine TL.alloc rfl (fun b7x => ?_)
  refine TL.storeA rfl rfl rfl rfl rfl (.here _) rfl rfl ?_
  refine TL.nil (TX.seqN (TC.seq (TC.region (TL.run (pr_field rfl) rfl (TL.run (pr_own1 rfl (.here _) rfl) rfl (TL.run (pr_pure rfl) rfl (TL.nil ?_)))))))
  refine TX.seqN ?_
  refine TC.condND rfl (fun c28_1 => ?_) (fun c28_1 => ?_)
  ·
   refine TC.seq (TC.region (TL.run (pr_ownA rfl (.here _) rfl) rfl ?_))
   refine TL.storeA rfl rfl rfl rfl rfl (.there _ (.there _ (.there _ (.here _)))) rfl rfl ?_
   refine TL.nil (TX.seqN (TC.ret (TX.blkR (TX.thenR (TX.thenR (TX.blkR (TX.thenR ?_)))))))
   exact TX.fin0 (.inr rfl) (results1 rfl (RVal.cellA rfl (.there _ (.there _ (.there _ (.here _)))) rfl)) (by rw [chk_1 c28_0 c28_1]; rfl)
  ·
   refine TC.skip (TX.blkN (TX.seqN (TC.region (TL.run (pr_add rfl rfl (by omega) (by omega)) rfl (TL.run (pr_pure rfl) rfl (TL.nil (TX.rnd ?_)))))))
   refine TR.succ ?_
   refine TC.seq (TC.region (TL.run (pr_pure rfl) rfl (TL.nil (TX.seqN (TC.seq (TC.condT rfl (TC.skip ?_)))))))
   refine TX.seqN (TC.seq (TC.block (TC.seq (TC.region (TL.run (pr_index rfl rfl (by omega) (by omega)) rfl (TL.run (pr_own1 rfl (.there _ (.there _ (.here _))) rfl) rfl (TL.run (pr_pure rfl) rfl ?_)))))))
   refine TL.nil (TX.seqN (TC.seq (TC.region (TL.run (pr_pure rfl) rfl ?_))))
   refine TL.callS (enters rfl rfl rfl rfl) (chk3_ok hP hb) rfl ?_
   refine TL.alloc rfl (fun b7xx => ?_)
   refine TL.storeA rfl rfl rfl rfl rfl (.here _) rfl rfl ?_
   refine TL.nil (TX.seqN (TC.seq (TC.region (TL.run (pr_field rfl) rfl (TL.run (pr_own1 rfl (.here _) rfl) rfl (TL.run (pr_pure rfl) rfl (TL.nil ?_)))))))
   refine TX.seqN ?_
   refine TC.condND rfl (fun c28_2 => ?_) (fun c28_2 => ?_)
   ·
    refine TC.seq (TC.region (TL.run (pr_ownA rfl (.here _) rfl) rfl ?_))
    refine TL.storeA rfl rfl rfl rfl rfl (.there _ (.there _ (.there _ (.there _ (.here _))))) rfl rfl ?_
    refine TL.nil (TX.seqN (TC.ret (TX.blkR (TX.thenR (TX.thenR (TX.blkR (TX.thenR ?_)))))))
    exact TX.fin0 (.inr rfl) (results1 rfl (RVal.cellA rfl (.there _ (.there _ (.there _ (.there _ (.here _))))) rfl)) (by rw [chk_2 c28_0 c28_1 c28_2]; rfl)
   ·
    refine TC.skip (TX.blkN (TX.seqN (TC.region (TL.run (pr_add rfl rfl (by omega) (by omega)) rfl (TL.run (pr_pure rfl) rfl (TL.nil (TX.rnd ?_)))))))
    refine TR.succ ?_
    refine TC.seq (TC.region (TL.run (pr_pure rfl) rfl (TL.nil (TX.seqN (TC.seq (TC.condT rfl (TC.skip ?_)))))))
    refine TX.seqN (TC.seq (TC.block (TC.seq (TC.region (TL.run (pr_index rfl rfl (by omega) (by omega)) rfl (TL.run (pr_own1 rfl (.there _ (.there _ (.there _ (.here _)))) rfl) rfl (TL.run (pr_pure rfl) rfl ?_)))))))
    refine TL.nil (TX.seqN (TC.seq (TC.region (TL.run (pr_pure rfl) rfl ?_))))
    refine TL.callS (enters rfl rfl rfl rfl) (each1_ok hP hM hb hC16 hL15 (each_good _ _ c28_1)) rfl ?_
    refine TL.alloc rfl (fun b7xxx => ?_)
    refine TL.storeA rfl rfl rfl rfl rfl (.here _) rfl rfl ?_
    refine TL.nil (TX.seqN (TC.seq (TC.region (TL.run (pr_field rfl) rfl (TL.run (pr_own1 rfl (.here _) rfl) rfl (TL.run (pr_pure rfl) rfl (TL.nil ?_)))))))
    refine TX.seqN ?_
    refine TC.condND rfl (fun c28_3 => ?_) (fun c28_3 => ?_)
    ·
     refine TC.seq (TC.region (TL.run (pr_ownA rfl (.here _) rfl) rfl ?_))
     refine TL.storeA rfl rfl rfl rfl rfl (.there _ (.there _ (.there _ (.there _ (.there _ (.here _)))))) rfl rfl ?_
     refine TL.nil (TX.seqN (TC.ret (TX.blkR (TX.thenR (TX.thenR (TX.blkR (TX.thenR ?_)))))))
     exact TX.fin0 (.inr rfl) (results1 rfl (RVal.cellA rfl (.there _ (.there _ (.there _ (.there _ (.there _ (.here _)))))) rfl)) (by rw [chk_3 c28_0 c28_1 c28_2]; rfl)
    ·
     refine TC.skip (TX.blkN (TX.seqN (TC.region (TL.run (pr_add rfl rfl (by omega) (by omega)) rfl (TL.run (pr_pure rfl) rfl (TL.nil (TX.rnd ?_)))))))
     refine TR.succ ?_
     refine TC.seq (TC.region (TL.run (pr_pure rfl) rfl (TL.nil (TX.seqN (TC.seq (TC.condF rfl (TC.exit ?_)))))))
     refine TX.thenE (TX.thenE (TX.blkHit (TX.seqN (TC.seq (TC.region (TL.run (pr_build rfl rfl) rfl ?_))))))
     refine TL.storeA rfl rfl rfl rfl rfl (.there _ (.there _ (.there _ (.there _ (.there _ (.here _)))))) rfl rfl ?_
     refine TL.nil (TX.seqN (TC.ret (TX.fin0 (.inr rfl) (results1 rfl (RVal.cellA rfl (.there _ (.there _ (.there _ (.there _ (.there _ (.here _)))))) rfl)) (by rw [chk_ok c28_3 c28_0 c28_1 c28_2]; rfl))))
end Go.Sx
