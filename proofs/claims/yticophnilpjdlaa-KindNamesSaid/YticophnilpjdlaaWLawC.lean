import Derived.Test.YticophnilpjdlaaWLawA
import Derived.Test.YticophnilpjdlaaWVars
import Derived.Test.YticophnilpjdlaaPureKN
set_option linter.unusedVariables false
set_option linter.unusedSimpArgs false
namespace Go.Sx
open Go Go.Proofs
set_option maxRecDepth 100000 in
set_option maxHeartbeats 4000000 in
theorem KindNames_ok {H : Hp} {l : List Term} {env more : List Typing} {v ve vm : Value} (root : Int) (hT : RdSl H 6 Term.cells v l) (hE : RdSl H 3 Typing.cells ve env) (hM : RdSl H 3 Typing.cells vm more) (hN : ∀ t ∈ l, t.name.length ≤ 9223372036854775807) :
    FnS Try.prog 7 [v, .int .i64 root, ve, vm] H (.bool true) := by
  have hnk := names_kind l root env more
  obtain ⟨ta, tc, rfl⟩ := hT.len
  obtain ⟨ea, ec, rfl⟩ := hE.len
  obtain ⟨ma, mc, rfl⟩ := hM.len
  refine FnS.enter Try.func7 Try.ntmps7 rfl rfl (fun w0 => ?_)
  refine TC.seq ?_
  refine TC.region ?_
  refine TL.run (pr_pure rfl) rfl ?_
  refine TL.nil ?_
  refine TX.seqN ?_
  refine TC.seq ?_
  refine TC.seq ?_
  refine TC.region ?_
  refine TL.callS (enters rfl rfl rfl rfl) (first5_ok) rfl ?_
  refine TL.run (pr_pure rfl) rfl ?_
  refine TL.nil ?_
  refine TX.seqN ?_
  refine TC.cond rfl (fun c21 => ?_) (fun c21 => ?_)
  ·
    exact absurd c21 (by decide)
  ·
    refine TC.skip ?_
    refine TX.seqN ?_
    refine TC.seq ?_
    refine TC.seq ?_
    refine TC.region ?_
    refine TL.run (pr_pure rfl) rfl ?_
    refine TL.run (pr_lenSl rfl rfl hT) rfl ?_
    refine TL.run (pr_pure rfl) rfl ?_
    refine TL.run (pr_pure rfl) rfl ?_
    refine TL.split (s := 25) rfl (fun g25 => ?_) (fun g25 => ?_)
    ·
      have q25 := of_decide_eq_true g25
      refine TL.gdN rfl rfl rfl rfl ?_
      refine TL.gdN rfl rfl rfl rfl ?_
      refine TL.gdN rfl rfl rfl rfl ?_
      refine TL.run (pr_pure rfl) rfl ?_
      refine TL.run (pr_pure rfl) rfl ?_
      refine TL.gdN rfl rfl rfl rfl ?_
      refine TL.gdN rfl rfl rfl rfl ?_
      refine TL.gdN rfl rfl rfl rfl ?_
      refine TL.run (pr_pure rfl) rfl ?_
      refine TL.nil ?_
      refine TX.seqN ?_
      refine TC.condT rfl ?_
      refine TC.seq ?_
      refine TC.region ?_
      refine TL.run (pr_pure rfl) rfl ?_
      refine TL.nil ?_
      refine TX.seqN ?_
      refine TC.ret ?_
      refine TX.thenR ?_
      exact TX.finS (.inr rfl) (results1 rfl (RVal.tmp rfl)) (congrArg Value.bool (by first | rfl | (simp only [tk, hz]; simp_all; done) | (simp_all; done)))
    ·
      have q25 := of_decide_eq_false g25
      refine TL.gdY rfl rfl (pr_pure rfl) rfl ?_
      refine TL.gdY rfl rfl (pr_lenSl rfl rfl hE) rfl ?_
      refine TL.gdY rfl rfl (pr_pure rfl) rfl ?_
      refine TL.run (pr_pure rfl) rfl ?_
      refine TL.run (pr_pure rfl) rfl ?_
      refine TL.split (s := 30) rfl (fun g30 => ?_) (fun g30 => ?_)
      ·
        have q30 := of_decide_eq_true g30
        refine TL.gdN rfl rfl rfl rfl ?_
        refine TL.gdN rfl rfl rfl rfl ?_
        refine TL.gdN rfl rfl rfl rfl ?_
        refine TL.run (pr_pure rfl) rfl ?_
        refine TL.nil ?_
        refine TX.seqN ?_
        refine TC.condT rfl ?_
        refine TC.seq ?_
        refine TC.region ?_
        refine TL.run (pr_pure rfl) rfl ?_
        refine TL.nil ?_
        refine TX.seqN ?_
        refine TC.ret ?_
        refine TX.thenR ?_
        exact TX.finS (.inr rfl) (results1 rfl (RVal.tmp rfl)) (congrArg Value.bool (by first | rfl | (simp only [tk, hz]; simp_all; done) | (simp_all; done)))
      ·
        have q30 := of_decide_eq_false g30
        refine TL.gdY rfl rfl (pr_pure rfl) rfl ?_
        refine TL.gdY rfl rfl (pr_lenSl rfl rfl hM) rfl ?_
        refine TL.gdY rfl rfl (pr_pure rfl) rfl ?_
        refine TL.run (pr_pure rfl) rfl ?_
        refine TL.nil ?_
        refine TX.seqN ?_
        refine TC.condD rfl (fun c34 => ?_) (fun c34 => ?_)
        ·
          refine TC.seq ?_
          refine TC.region ?_
          refine TL.run (pr_pure rfl) rfl ?_
          refine TL.nil ?_
          refine TX.seqN ?_
          refine TC.ret ?_
          refine TX.thenR ?_
          exact TX.finS (.inr rfl) (results1 rfl (RVal.tmp rfl)) (congrArg Value.bool (by first | rfl | (simp only [tk, hz]; simp_all; done) | (simp_all; done)))
        ·
          have hle : env.length ≤ 40 ∧ more.length ≤ 40 := by simp_all; omega
          obtain ⟨hle1, hle2⟩ := hle
          refine TC.skip ?_
          refine TX.seqN ?_
          refine TC.seq ?_
          refine TC.region ?_
          refine TL.run (pr_pure rfl) rfl ?_
          refine TL.run (pr_pure rfl) rfl ?_
          refine TL.call (enters rfl rfl rfl rfl) (Vars_ok root hT hN) rfl (fun v37 H37 hle37 hp37 => ?_)
          replace hT := hT.le hle37
          replace hE := hE.le hle37
          replace hM := hM.le hle37
          have hV : RdSl H37 1 Str.cells v37 (varsS l root) := hp37
          have hVm := varsS_len l root
          obtain ⟨va, vc, rfl⟩ := hV.len
          refine TL.run (pr_pure rfl) rfl ?_
          refine TL.nil ?_
          refine TX.seqN ?_
          refine TC.seq ?_
          refine TC.region ?_
          refine TL.run (pr_pure rfl) rfl ?_
          refine TL.nil ?_
          refine TX.seqN ?_
          refine TC.seq ?_
          refine TC.seq ?_
          refine TC.region ?_
          refine TL.run (pr_pure rfl) rfl ?_
          refine TL.nil ?_
          refine TX.seqN ?_
          refine TC.block ?_
          refine TC.loop4 (V := fun k v ob H1 => [(10, v), (11, .int .i64 k)]) (K := [(0, _), (1, _), (2, _), (3, _), (8, _), (9, _)]) (L := fun k v ob H1 => St [] w0 H H37 (ob)) (I := fun k v ob H1 => OwnSl 3 Typing.cells v (keepT (varsS l root) (more.take k.toNat)) ob ∧ 0 ≤ k ∧ k ≤ more.length) (μ := fun k => (more.length - k).toNat) 0 (.slice none 0 0) [] H37 ⟨rfl, rfl, rfl, rfl, rfl, rfl, rfl, rfl, trivial⟩ ⟨OwnSl.nil, by omega, by omega⟩ (fun w hw => hw) (fun k v ob H1 hI => ?_)
          obtain ⟨hO, h0, h1⟩ := hI
          have hkl := keepT_len (varsS l root) (more.take k.toNat)
          have hkl2 : (more.take k.toNat).length ≤ 40 := by simp; omega
          obtain ⟨ka, kc, rfl⟩ := hO.form
          refine TC.seq ?_
          refine TC.seq ?_
          refine TC.region ?_
          refine TL.run (pr_pure rfl) rfl ?_
          refine TL.run (pr_pure rfl) rfl ?_
          refine TL.run (pr_lenSl rfl rfl hM) rfl ?_
          refine TL.run (pr_pure rfl) rfl ?_
          refine TL.nil ?_
          refine TX.seqN ?_
          refine TC.condD rfl (fun c41 => ?_) (fun c41 => ?_)
          ·
            obtain ⟨x, hx⟩ := getSome (l := more) h0 c41
            refine TC.skip ?_
            refine TX.seqN ?_
            refine TC.seq ?_
            refine TC.block ?_
            refine TC.seq ?_
            refine TC.region ?_
            refine TL.run (pr_pure rfl) rfl ?_
            refine TL.run (pr_pure rfl) rfl ?_
            refine TL.run (pr_pure rfl) rfl ?_
            refine TL.run (pr_indexSl rfl hM rfl (by omega) (by omega)) rfl ?_
            refine TL.run (pr_field rfl) rfl ?_
            refine TL.run (pr_el1 hM hx rfl rfl) rfl ?_
            refine TL.callS (enters rfl rfl rfl rfl) (n_Has_ok x.name hV) rfl ?_
            refine TL.run (pr_pure rfl) rfl ?_
            refine TL.nil ?_
            refine TX.seqN ?_
            refine TC.cond rfl (fun c51 => ?_) (fun c51 => ?_)
            ·
              refine TC.region ?_
              refine TL.run (pr_pure rfl) rfl ?_
              refine TL.run (pr_pure rfl) rfl ?_
              refine TL.run (pr_pure rfl) rfl ?_
              refine TL.run (pr_indexSl rfl hM rfl (by omega) (by omega)) rfl ?_
              refine TL.run (pr_elA hM hx rfl rfl) rfl ?_
              refine TL.bslice rfl rfl rfl rfl (fun b57 => ?_)
              refine TL.append (enc := Typing.cells) rfl rfl rfl hO (Src.own [⟨_, _, _⟩] (.here _) rfl rfl) (by simp; omega) rfl (.skip _ .all) rfl (fun a58 c58 ob58 hO58 => ?_)
              refine TL.run (pr_pure rfl) rfl ?_
              refine TL.nil ?_
              refine TX.blkN ?_
              refine TX.seqN ?_
              refine TC.region ?_
              refine TL.run (pr_pure rfl) rfl ?_
              refine TL.run ((by first | exact pr_add rfl rfl (by omega) (by omega) | exact pr_pure rfl)) rfl ?_
              refine TL.run (pr_pure rfl) rfl ?_
              refine TL.nil ?_
              exact TX.round4 (k + 1) _ ob58 H37 ⟨by rw [take_snoc h0 hx, keepT_snoc, if_neg (by simpa using c51)]; exact hO58, by omega, by omega⟩ ⟨rfl, rfl, rfl, rfl, rfl, rfl, rfl, rfl, trivial⟩ (fun w hw => hw.drop) (by omega)
            ·
              refine TC.skip ?_
              refine TX.blkN ?_
              refine TX.seqN ?_
              refine TC.region ?_
              refine TL.run (pr_pure rfl) rfl ?_
              refine TL.run ((by first | exact pr_add rfl rfl (by omega) (by omega) | exact pr_pure rfl)) rfl ?_
              refine TL.run (pr_pure rfl) rfl ?_
              refine TL.nil ?_
              exact TX.round4 (k + 1) _ ob H37 ⟨by rw [take_snoc h0 hx, keepT_snoc, if_pos (by simpa using c51)]; exact hO, by omega, by omega⟩ ⟨rfl, rfl, rfl, rfl, rfl, rfl, rfl, rfl, trivial⟩ (fun w hw => hw) (by omega)
          ·
            refine TC.exit ?_
            refine TX.thenE ?_
            refine TX.thenE ?_
            refine TX.blkHit ?_
            refine TX.seqN ?_
            refine TC.seq ?_
            refine TC.region ?_
            refine TL.run (pr_pure rfl) rfl ?_
            refine TL.run (pr_pure rfl) rfl ?_
            refine TL.append (enc := Typing.cells) rfl rfl rfl hO (Src.sl hE) (by omega) rfl .all rfl (fun a61 c61 ob61 hO61 => ?_)
            refine TL.run (pr_pure rfl) rfl ?_
            refine TL.append (enc := Typing.cells) rfl rfl rfl hO61 (Src.sl hM) (by simp; omega) rfl .all rfl (fun a63 c63 ob63 hO63 => ?_)
            refine TL.run (pr_pure rfl) rfl ?_
            refine TL.nil ?_
            refine TX.pubO hO63 .all (by simp) (fun HA leA hA => ?_)
            replace hT := hT.le leA
            replace hE := hE.le leA
            replace hM := hM.le leA
            replace hV := hV.le leA
            have tk := take_all c41 h0
            refine TX.seqN ?_
            refine TC.seq ?_
            refine TC.region ?_
            refine TL.run (pr_pure rfl) rfl ?_
            refine TL.nil ?_
            refine TX.seqN ?_
            refine TC.seq ?_
            refine TC.seq ?_
            refine TC.region ?_
            refine TL.run (pr_pure rfl) rfl ?_
            refine TL.nil ?_
            refine TX.seqN ?_
            refine TC.block ?_
            refine TC.loop (V := fun i => [(12, .bool (knownB env ((varsS l root).take i.toNat))), (13, .int .i64 i)]) (K := [(0, _), (1, _), (2, _), (8, _), (9, _), (10, _)]) (L := fun i => St [] w0 H HA []) (I := fun i => 0 ≤ i ∧ i ≤ (varsS l root).length) (μ := fun i => ((varsS l root).length - i).toNat) (i := (0 : Int)) ⟨rfl, rfl, rfl, rfl, rfl, rfl, rfl, rfl, trivial⟩ ⟨by omega, by omega⟩ (fun w hw => hw) (fun i hI => ?_)
            have hP := hI
            refine TC.seq ?_
            refine TC.seq ?_
            refine TC.region ?_
            refine TL.run (pr_pure rfl) rfl ?_
            refine TL.run (pr_pure rfl) rfl ?_
            refine TL.run (pr_lenSl rfl rfl hV) rfl ?_
            refine TL.run (pr_pure rfl) rfl ?_
            refine TL.nil ?_
            refine TX.seqN ?_
            refine TC.condD rfl (fun c67 => ?_) (fun c67 => ?_)
            ·
              obtain ⟨s, hs⟩ := getSome (l := varsS l root) hP.1 c67
              refine TC.skip ?_
              refine TX.seqN ?_
              refine TC.seq ?_
              refine TC.block ?_
              refine TC.seq ?_
              refine TC.region ?_
              refine TL.run (pr_pure rfl) rfl ?_
              refine TL.nil ?_
              refine TX.seqN ?_
              refine TC.seq ?_
              refine TC.seq ?_
              refine TC.region ?_
              refine TL.run (pr_pure rfl) rfl ?_
              refine TL.nil ?_
              refine TX.seqN ?_
              refine TC.block ?_
              refine TC.loop (V := fun k => [(14, .bool (oneB (env.take k.toNat) s)), (15, .int .i64 k)]) (K := [(0, _), (1, _), (2, _), (8, _), (9, _), (10, _), (12, _), (13, _), (64, _), (65, _), (66, _), (67, _)]) (L := fun k => St [] w0 H HA []) (I := fun k => 0 ≤ k ∧ k ≤ env.length) (μ := fun k => (env.length - k).toNat) (i := (0 : Int)) ⟨rfl, rfl, rfl, rfl, rfl, rfl, rfl, rfl, rfl, rfl, rfl, rfl, rfl, rfl, trivial⟩ ⟨by omega, by omega⟩ (fun w hw => hw) (fun k hI => ?_)
              have hJ := hI
              refine TC.seq ?_
              refine TC.seq ?_
              refine TC.region ?_
              refine TL.run (pr_pure rfl) rfl ?_
              refine TL.run (pr_pure rfl) rfl ?_
              refine TL.run (pr_lenSl rfl rfl hE) rfl ?_
              refine TL.run (pr_pure rfl) rfl ?_
              refine TL.nil ?_
              refine TX.seqN ?_
              refine TC.condD rfl (fun c73 => ?_) (fun c73 => ?_)
              ·
                obtain ⟨x, hx⟩ := getSome (l := env) hJ.1 c73
                refine TC.skip ?_
                refine TX.seqN ?_
                refine TC.seq ?_
                refine TC.block ?_
                refine TC.quiet (by kernel_rfl) (by kernel_rfl) ?_
                refine TQ.run (pr_pure rfl) rfl ?_
                refine TQ.run (pr_pure rfl) rfl ?_
                refine TQ.split (s := 77) rfl (fun g77 => ?_) (fun g77 => ?_)
                ·
                  refine TQ.gdN rfl rfl rfl rfl ?_
                  refine TQ.gdN rfl rfl rfl rfl ?_
                  refine TQ.gdN rfl rfl rfl rfl ?_
                  refine TQ.gdN rfl rfl rfl rfl ?_
                  refine TQ.gdN rfl rfl rfl rfl ?_
                  refine TQ.gdN rfl rfl rfl rfl ?_
                  refine TQ.gdN rfl rfl rfl rfl ?_
                  refine TQ.gdN rfl rfl rfl rfl ?_
                  refine TQ.gdN rfl rfl rfl rfl ?_
                  refine TQ.gdN rfl rfl rfl rfl ?_
                  refine TQ.run (pr_pure rfl) rfl ?_
                  refine TQ.run (pr_pure rfl) rfl ?_
                  refine TQ.nil ?_
                  refine TX.blkN ?_
                  refine TX.seqN ?_
                  refine TC.region ?_
                  refine TL.run (pr_pure rfl) rfl ?_
                  refine TL.run ((by first | exact pr_add rfl rfl (by omega) (by omega) | exact pr_pure rfl)) rfl ?_
                  refine TL.run (pr_pure rfl) rfl ?_
                  refine TL.nil ?_
                  exact TX.round (k + 1) ⟨by omega, by omega⟩ ⟨(congrArg (fun b => some (Value.bool b)) (by rw [take_snoc hJ.1 hx, oneB_snoc]; simp_all)), rfl, rfl, rfl, rfl, rfl, rfl, rfl, rfl, rfl, rfl, rfl, rfl, rfl, trivial⟩ (fun w hw => hw) (by omega)
                ·
                  refine TQ.gdY rfl rfl (pr_pure rfl) rfl ?_
                  refine TQ.gdY rfl rfl (pr_pure rfl) rfl ?_
                  refine TQ.gdY rfl rfl (pr_indexSl rfl hE rfl (by omega) (by omega)) rfl ?_
                  refine TQ.gdY rfl rfl (pr_field rfl) rfl ?_
                  refine TQ.gdY rfl rfl (pr_el1 hE hx rfl rfl) rfl ?_
                  refine TQ.gdY rfl rfl (pr_pure rfl) rfl ?_
                  refine TQ.gdY rfl rfl (pr_pure rfl) rfl ?_
                  refine TQ.gdY rfl rfl (pr_indexSl rfl hV rfl (by omega) (by omega)) rfl ?_
                  refine TQ.gdY rfl rfl (pr_el0 hV hs rfl rfl) rfl ?_
                  refine TQ.gdY rfl rfl (pr_str rfl rfl rfl) rfl ?_
                  refine TQ.run (pr_pure rfl) rfl ?_
                  refine TQ.run (pr_pure rfl) rfl ?_
                  refine TQ.nil ?_
                  refine TX.blkN ?_
                  refine TX.seqN ?_
                  refine TC.region ?_
                  refine TL.run (pr_pure rfl) rfl ?_
                  refine TL.run ((by first | exact pr_add rfl rfl (by omega) (by omega) | exact pr_pure rfl)) rfl ?_
                  refine TL.run (pr_pure rfl) rfl ?_
                  refine TL.nil ?_
                  exact TX.round (k + 1) ⟨by omega, by omega⟩ ⟨(congrArg (fun b => some (Value.bool b)) (by rw [take_snoc hJ.1 hx, oneB_snoc]; simp_all)), rfl, rfl, rfl, rfl, rfl, rfl, rfl, rfl, rfl, rfl, rfl, rfl, rfl, trivial⟩ (fun w hw => hw) (by omega)
              ·
                refine TC.exit ?_
                refine TX.thenE ?_
                refine TX.thenE ?_
                refine TX.blkHit ?_
                refine TX.seqN ?_
                refine TC.region ?_
                refine TL.run (pr_pure rfl) rfl ?_
                refine TL.run (pr_pure rfl) rfl ?_
                refine TL.split (s := 90) rfl (fun g90 => ?_) (fun g90 => ?_)
                ·
                  refine TL.gdY rfl rfl (pr_pure rfl) rfl ?_
                  refine TL.run (pr_pure rfl) rfl ?_
                  refine TL.run (pr_pure rfl) rfl ?_
                  refine TL.nil ?_
                  refine TX.blkN ?_
                  refine TX.seqN ?_
                  refine TC.region ?_
                  refine TL.run (pr_pure rfl) rfl ?_
                  refine TL.run ((by first | exact pr_add rfl rfl (by omega) (by omega) | exact pr_pure rfl)) rfl ?_
                  refine TL.run (pr_pure rfl) rfl ?_
                  refine TL.nil ?_
                  exact TX.round (i + 1) ⟨by omega, by omega⟩ ⟨(congrArg (fun b => some (Value.bool b)) (by have te := take_all c73 hJ.1; rw [take_snoc hP.1 hs, knownB_snoc]; simp_all)), rfl, rfl, rfl, rfl, rfl, rfl, rfl, trivial⟩ (fun w hw => hw) (by omega)
                ·
                  refine TL.gdN rfl rfl rfl rfl ?_
                  refine TL.run (pr_pure rfl) rfl ?_
                  refine TL.run (pr_pure rfl) rfl ?_
                  refine TL.nil ?_
                  refine TX.blkN ?_
                  refine TX.seqN ?_
                  refine TC.region ?_
                  refine TL.run (pr_pure rfl) rfl ?_
                  refine TL.run ((by first | exact pr_add rfl rfl (by omega) (by omega) | exact pr_pure rfl)) rfl ?_
                  refine TL.run (pr_pure rfl) rfl ?_
                  refine TL.nil ?_
                  exact TX.round (i + 1) ⟨by omega, by omega⟩ ⟨(congrArg (fun b => some (Value.bool b)) (by have te := take_all c73 hJ.1; rw [take_snoc hP.1 hs, knownB_snoc]; simp_all)), rfl, rfl, rfl, rfl, rfl, rfl, rfl, trivial⟩ (fun w hw => hw) (by omega)
            ·
              refine TC.exit ?_
              refine TX.thenE ?_
              refine TX.thenE ?_
              refine TX.blkHit ?_
              refine TX.seqN ?_
              refine TC.seq ?_
              refine TC.region ?_
              refine TL.run (pr_pure rfl) rfl ?_
              refine TL.run (pr_pure rfl) rfl ?_
              refine TL.run (pr_pure rfl) rfl ?_
              refine TL.callS (enters rfl rfl rfl rfl) (Of_ok root hT hE hN) rfl ?_
              refine TL.run (pr_pure rfl) rfl ?_
              refine TL.run (pr_pure rfl) rfl ?_
              refine TL.run (pr_pure rfl) rfl ?_
              refine TL.run (pr_pure rfl) rfl ?_
              refine TL.run (pr_pure rfl) rfl ?_
              refine TL.nil ?_
              refine TX.seqN ?_
              refine TC.seq ?_
              refine TC.seq ?_
              refine TC.region ?_
              refine TL.run (pr_pure rfl) rfl ?_
              refine TL.run (pr_pure rfl) rfl ?_
              refine TL.nil ?_
              refine TX.seqN ?_
              refine TC.cond rfl (fun c101 => ?_) (fun c101 => ?_)
              ·
                rw [take_all c67 hP.1] at c101
                have hz := hnk.2 (by simpa using c101)
                refine TC.seq ?_
                refine TC.region ?_
                refine TL.run (pr_pure rfl) rfl ?_
                refine TL.run (pr_pure rfl) rfl ?_
                refine TL.run (pr_pure rfl) rfl ?_
                refine TL.split (s := 104) rfl (fun g104 => ?_) (fun g104 => ?_)
                ·
                  have q104 := of_ndec_true g104
                  refine TL.gdY rfl rfl (pr_pure rfl) rfl ?_
                  refine TL.gdY rfl rfl (pr_pure rfl) rfl ?_
                  refine TL.run (pr_pure rfl) rfl ?_
                  refine TL.run (pr_pure rfl) rfl ?_
                  refine TL.nil ?_
                  refine TX.seqN ?_
                  refine TC.ret ?_
                  refine TX.thenR ?_
                  exact TX.finS (.inr rfl) (results1 rfl (RVal.tmp rfl)) (congrArg Value.bool (by first | rfl | (simp only [tk, hz]; simp_all; done) | (simp_all; done)))
                ·
                  have q104 := of_ndec_false g104
                  refine TL.gdN rfl rfl rfl rfl ?_
                  refine TL.gdN rfl rfl rfl rfl ?_
                  refine TL.run (pr_pure rfl) rfl ?_
                  refine TL.run (pr_pure rfl) rfl ?_
                  refine TL.nil ?_
                  refine TX.seqN ?_
                  refine TC.ret ?_
                  refine TX.thenR ?_
                  exact TX.finS (.inr rfl) (results1 rfl (RVal.tmp rfl)) (congrArg Value.bool (by first | rfl | (simp only [tk, hz]; simp_all; done) | (simp_all; done)))
              ·
                rw [take_all c67 hP.1] at c101
                have hz := hnk.1 (by simpa using c101)
                refine TC.skip ?_
                refine TX.seqN ?_
                refine TC.seq ?_
                refine TC.region ?_
                refine TL.run (pr_pure rfl) rfl ?_
                refine TL.run (pr_pure rfl) rfl ?_
                refine TL.run (pr_pure rfl) rfl ?_
                refine TL.callS (enters rfl rfl rfl rfl) (Of_ok root hT hA hN) rfl ?_
                refine TL.run (pr_pure rfl) rfl ?_
                refine TL.run (pr_pure rfl) rfl ?_
                refine TL.run (pr_pure rfl) rfl ?_
                refine TL.run (pr_pure rfl) rfl ?_
                refine TL.run (pr_pure rfl) rfl ?_
                refine TL.nil ?_
                refine TX.seqN ?_
                refine TC.seq ?_
                refine TC.region ?_
                refine TL.run (pr_pure rfl) rfl ?_
                refine TL.run (pr_pure rfl) rfl ?_
                refine TL.run (pr_pure rfl) rfl ?_
                refine TL.run (pr_pure rfl) rfl ?_
                refine TL.split (s := 118) rfl (fun g118 => ?_) (fun g118 => ?_)
                ·
                  have q118 := of_decide_eq_true g118
                  refine TL.gdY rfl rfl (pr_pure rfl) rfl ?_
                  refine TL.gdY rfl rfl (pr_pure rfl) rfl ?_
                  refine TL.gdY rfl rfl (pr_pure rfl) rfl ?_
                  refine TL.run (pr_pure rfl) rfl ?_
                  refine TL.run (pr_pure rfl) rfl ?_
                  refine TL.nil ?_
                  refine TX.seqN ?_
                  refine TC.ret ?_
                  exact TX.finS (.inr rfl) (results1 rfl (RVal.tmp rfl)) (congrArg Value.bool (by first | rfl | (simp only [tk, hz]; simp_all; done) | (simp_all; done)))
                ·
                  have q118 := of_decide_eq_false g118
                  refine TL.gdN rfl rfl rfl rfl ?_
                  refine TL.gdN rfl rfl rfl rfl ?_
                  refine TL.gdN rfl rfl rfl rfl ?_
                  refine TL.run (pr_pure rfl) rfl ?_
                  refine TL.run (pr_pure rfl) rfl ?_
                  refine TL.nil ?_
                  refine TX.seqN ?_
                  refine TC.ret ?_
                  exact TX.finS (.inr rfl) (results1 rfl (RVal.tmp rfl)) (congrArg Value.bool (by first | rfl | (simp only [tk, hz]; simp_all; done) | (simp_all; done)))
end Go.Sx
