import Derived.Test.YtepbjoagighhhaaWL4
import Derived.Test.YtepbjoagighhhaaWTq
import Derived.Test.YtepbjoagighhhaaWVars
set_option linter.unusedVariables false
set_option linter.unusedSimpArgs false
namespace Go.Sx
open Go Go.Proofs
set_option maxRecDepth 100000 in
set_option maxHeartbeats 4000000 in
theorem TermPuts_ok {H : Hp} {l : List Term} {env : List Bind} {v ve : Value} (root n : Int) (name : Str) (hnm : name.length ≤ 9223372036854775807) (hT : RdSl H 6 Term.cells v l) (hE : RdSl H 5 Bind.cells ve env) (hEv : EnvOk H env) (hN : ∀ t ∈ l, t.name.length ≤ 9223372036854775807) :
    FnS Try.prog 12 [v, .int .i64 root, gs name, .int .i64 n, ve] H (.bool true) := by
  obtain ⟨ta, tc, rfl⟩ := hT.len
  obtain ⟨ea, ec, rfl⟩ := hE.len
  have hmx1 := hE.max
  refine FnS.enter Try.func12 Try.ntmps12 rfl rfl (fun w0 => ?_)
  refine TC.seq ?_
  refine TC.region ?_
  refine TL.run (pr_pure rfl) rfl ?_
  refine TL.nil ?_
  refine TX.seqN ?_
  refine TC.seq ?_
  refine TC.seq ?_
  refine TC.region ?_
  refine TL.callS (enters rfl rfl rfl rfl) (first4_ok) rfl ?_
  refine TL.run (pr_pure rfl) rfl ?_
  refine TL.nil ?_
  refine TX.seqN ?_
  refine TC.cond rfl (fun c19 => ?_) (fun c19 => ?_)
  ·
    exact absurd c19 (by decide)
  ·
    refine TC.skip ?_
    refine TX.seqN ?_
    refine TC.seq ?_
    refine TC.seq ?_
    refine TC.region ?_
    refine TL.run (pr_pure rfl) rfl ?_
    refine TL.run (pr_lenSl rfl rfl hT) rfl ?_
    refine TL.run (pr_pure rfl) rfl ?_
    refine TL.run (pr_pure rfl) rfl ?_
    refine TL.split (s := 23) rfl (fun g23 => ?_) (fun g23 => ?_)
    ·
      have q23 := of_decide_eq_true g23
      refine TL.gdN rfl rfl rfl rfl ?_
      refine TL.gdN rfl rfl rfl rfl ?_
      refine TL.gdN rfl rfl rfl rfl ?_
      refine TL.run (pr_pure rfl) rfl ?_
      refine TL.run (pr_pure rfl) rfl ?_
      refine TL.gdN rfl rfl rfl rfl ?_
      refine TL.gdN rfl rfl rfl rfl ?_
      refine TL.gdN rfl rfl rfl rfl ?_
      refine TL.gdN rfl rfl rfl rfl ?_
      refine TL.run (pr_pure rfl) rfl ?_
      refine TL.run (pr_pure rfl) rfl ?_
      refine TL.gdN rfl rfl rfl rfl ?_
      refine TL.gdN rfl rfl rfl rfl ?_
      refine TL.gdN rfl rfl rfl rfl ?_
      refine TL.run (pr_pure rfl) rfl ?_
      refine TL.nil ?_
      refine TX.seqN ?_
      refine TC.condT rfl ?_
      refine TC.seq ?_
      refine TC.region ?_
      refine TL.run (pr_pure rfl) rfl ?_
      refine TL.nil ?_
      refine TX.seqN ?_
      refine TC.ret ?_
      refine TX.thenR ?_
      exact TX.finS (.inr rfl) (results1 rfl (RVal.tmp rfl)) (congrArg Value.bool (by first | rfl | (simp only [tk] at *; simp_all; done)))
    ·
      have q23 := of_decide_eq_false g23
      refine TL.gdY rfl rfl (pr_pure rfl) rfl ?_
      refine TL.callSY rfl rfl (enters rfl rfl rfl rfl) (some4_ok hE hEv) rfl ?_
      refine TL.gdY rfl rfl (pr_pure rfl) rfl ?_
      refine TL.run (pr_pure rfl) rfl ?_
      refine TL.run (pr_pure rfl) rfl ?_
      refine TL.split (s := 28) rfl (fun g28 => ?_) (fun g28 => ?_)
      ·
        refine TL.gdN rfl rfl rfl rfl ?_
        refine TL.gdN rfl rfl rfl rfl ?_
        refine TL.gdN rfl rfl rfl rfl ?_
        refine TL.gdN rfl rfl rfl rfl ?_
        refine TL.run (pr_pure rfl) rfl ?_
        refine TL.run (pr_pure rfl) rfl ?_
        refine TL.gdN rfl rfl rfl rfl ?_
        refine TL.gdN rfl rfl rfl rfl ?_
        refine TL.gdN rfl rfl rfl rfl ?_
        refine TL.run (pr_pure rfl) rfl ?_
        refine TL.nil ?_
        refine TX.seqN ?_
        refine TC.condT rfl ?_
        refine TC.seq ?_
        refine TC.region ?_
        refine TL.run (pr_pure rfl) rfl ?_
        refine TL.nil ?_
        refine TX.seqN ?_
        refine TC.ret ?_
        refine TX.thenR ?_
        exact TX.finS (.inr rfl) (results1 rfl (RVal.tmp rfl)) (congrArg Value.bool (by first | rfl | (simp only [tk] at *; simp_all; done)))
      ·
        refine TL.gdY rfl rfl (pr_pure rfl) rfl ?_
        refine TL.gdY rfl rfl (pr_pure rfl) rfl ?_
        refine TL.callSY rfl rfl (enters rfl rfl rfl rfl) (May_ok root hT hN) rfl ?_
        refine TL.gdY rfl rfl (pr_pure rfl) rfl ?_
        refine TL.run (pr_pure rfl) rfl ?_
        refine TL.run (pr_pure rfl) rfl ?_
        refine TL.split (s := 34) rfl (fun g34 => ?_) (fun g34 => ?_)
        ·
          refine TL.gdN rfl rfl rfl rfl ?_
          refine TL.gdN rfl rfl rfl rfl ?_
          refine TL.gdN rfl rfl rfl rfl ?_
          refine TL.run (pr_pure rfl) rfl ?_
          refine TL.nil ?_
          refine TX.seqN ?_
          refine TC.condT rfl ?_
          refine TC.seq ?_
          refine TC.region ?_
          refine TL.run (pr_pure rfl) rfl ?_
          refine TL.nil ?_
          refine TX.seqN ?_
          refine TC.ret ?_
          refine TX.thenR ?_
          exact TX.finS (.inr rfl) (results1 rfl (RVal.tmp rfl)) (congrArg Value.bool (by first | rfl | (simp only [tk] at *; simp_all; done)))
        ·
          refine TL.gdY rfl rfl (pr_pure rfl) rfl ?_
          refine TL.callSY rfl rfl (enters rfl rfl rfl rfl) (n_May_ok name hnm) rfl ?_
          refine TL.gdY rfl rfl (pr_pure rfl) rfl ?_
          refine TL.run (pr_pure rfl) rfl ?_
          refine TL.nil ?_
          refine TX.seqN ?_
          refine TC.cond rfl (fun c38 => ?_) (fun c38 => ?_)
          ·
            refine TC.seq ?_
            refine TC.region ?_
            refine TL.run (pr_pure rfl) rfl ?_
            refine TL.nil ?_
            refine TX.seqN ?_
            refine TC.ret ?_
            refine TX.thenR ?_
            exact TX.finS (.inr rfl) (results1 rfl (RVal.tmp rfl)) (congrArg Value.bool (by first | rfl | (simp only [tk] at *; simp_all; done)))
          ·
            have hm : mayB l root = true := by simp_all
            have hsm : someB env = true := by simp_all
            obtain ⟨hle1, hlen⟩ := someB_T hsm
            have hrg := (mayB_iff.1 hm).1
            obtain ⟨z1, z2, z3⟩ := puts (root := root) name n env (.slice none 0 0) hm
            have hs := sameV_refl (evalS l root (⟨name, ⟨1, n, [], []⟩, .slice none 0 0⟩ :: env)).1
            refine TC.skip ?_
            refine TX.seqN ?_
            refine TC.seq ?_
            refine TC.region ?_
            refine TL.run (pr_pure rfl) rfl ?_
            refine TL.nil ?_
            refine TX.seqN ?_
            refine TC.seq ?_
            refine TC.seq ?_
            refine TC.region ?_
            refine TL.run (pr_pure rfl) rfl ?_
            refine TL.nil ?_
            refine TX.seqN ?_
            refine TC.block ?_
            refine TC.loop4 (V := fun k v ob H1 => [(11, v), (12, .int .i64 k)]) (K := [(0, _), (1, _), (2, _), (3, _), (4, _), (10, _)]) (L := fun k v ob H1 => St [] w0 H H (ob)) (I := fun k v ob H1 => OwnSl 6 Term.cells v ((l.take k.toNat).map (putN name n)) ob ∧ 0 ≤ k ∧ k ≤ l.length) (μ := fun k => (l.length - k).toNat) 0 (.slice none 0 0) [] H ⟨rfl, rfl, rfl, rfl, rfl, rfl, rfl, rfl, trivial⟩ ⟨OwnSl.nil, by omega, by omega⟩ (fun w hw => hw) (fun k v ob H1 hI => ?_)
            obtain ⟨hO, h0, h1⟩ := hI
            have hkl : (l.take k.toNat).length ≤ 160 := by simp; omega
            obtain ⟨ka, kc, rfl⟩ := hO.form
            refine TC.seq ?_
            refine TC.seq ?_
            refine TC.region ?_
            refine TL.run (pr_pure rfl) rfl ?_
            refine TL.run (pr_pure rfl) rfl ?_
            refine TL.run (pr_lenSl rfl rfl hT) rfl ?_
            refine TL.run (pr_pure rfl) rfl ?_
            refine TL.nil ?_
            refine TX.seqN ?_
            refine TC.condD rfl (fun c42 => ?_) (fun c42 => ?_)
            ·
              obtain ⟨x, hx⟩ := getSome (l := l) h0 c42
              refine TC.skip ?_
              refine TX.seqN ?_
              refine TC.seq ?_
              refine TC.block ?_
              refine TC.seq ?_
              refine TC.region ?_
              refine TL.run (pr_pure rfl) rfl ?_
              refine TL.run (pr_pure rfl) rfl ?_
              refine TL.run (pr_indexSl rfl hT rfl (by omega) (by omega)) rfl ?_
              refine TL.run (pr_elA hT hx rfl rfl) rfl ?_
              refine TL.alloc rfl (fun b13 => ?_)
              refine TL.storeA rfl rfl rfl rfl rfl (.here _) rfl rfl ?_
              refine TL.nil ?_
              refine TX.seqN ?_
              refine TC.seq ?_
              refine TC.seq ?_
              refine TC.region ?_
              refine TL.run (pr_field rfl) rfl ?_
              refine TL.run (pr_own1 rfl (.here _) rfl) rfl ?_
              refine TL.run (pr_pure rfl) rfl ?_
              refine TL.run (pr_pure rfl) rfl ?_
              refine TL.split (s := 52) rfl (fun g52 => ?_) (fun g52 => ?_)
              ·
                have q52 := of_decide_eq_true g52
                refine TL.gdY rfl rfl (pr_field rfl) rfl ?_
                refine TL.gdY rfl rfl (pr_own1 rfl (.here _) rfl) rfl ?_
                refine TL.gdY rfl rfl (pr_pure rfl) rfl ?_
                refine TL.gdY rfl rfl (pr_str rfl rfl rfl) rfl ?_
                refine TL.run (pr_pure rfl) rfl ?_
                refine TL.nil ?_
                refine TX.seqN ?_
                refine TC.condD rfl (fun c57 => ?_) (fun c57 => ?_)
                ·
                  refine TC.region ?_
                  refine TL.run (pr_pure rfl) rfl ?_
                  refine TL.callS (enters rfl rfl rfl rfl) (num4_ok _) rfl ?_
                  refine TL.storeA rfl rfl rfl rfl rfl (.here _) rfl rfl ?_
                  refine TL.nil ?_
                  refine TX.seqN ?_
                  refine TC.region ?_
                  have hf : putN name n x = numT n := by unfold putN; rw [if_pos (by simp_all)]
                  refine TL.run (pr_pure rfl) rfl ?_
                  refine TL.run (pr_ownA rfl (.here _) rfl) rfl ?_
                  refine TL.bslice rfl rfl rfl rfl (fun b62 => ?_)
                  refine TL.append (enc := Term.cells) rfl rfl rfl hO (Src.own [(numT n)] (.here _) rfl rfl) (by simp; omega) rfl (.skip _ (.skip _ .all)) rfl (fun a63 c63 ob63 hO63 => ?_)
                  refine TL.run (pr_pure rfl) rfl ?_
                  refine TL.nil ?_
                  refine TX.blkN ?_
                  refine TX.seqN ?_
                  refine TC.region ?_
                  refine TL.run (pr_pure rfl) rfl ?_
                  refine TL.run ((by first | exact pr_add rfl rfl (by omega) (by omega) | exact pr_pure rfl)) rfl ?_
                  refine TL.run (pr_pure rfl) rfl ?_
                  refine TL.nil ?_
                  exact TX.round4 (k + 1) _ ob63 H ⟨by rw [map_take_snoc h0 hx, hf]; exact hO63, by omega, by omega⟩ ⟨rfl, rfl, rfl, rfl, rfl, rfl, rfl, rfl, trivial⟩ (fun w hw => hw.drop.drop) (by omega)
                ·
                  refine TC.skip ?_
                  refine TX.seqN ?_
                  refine TC.region ?_
                  have hf : putN name n x = x := by unfold putN; rw [if_neg (by simp_all)]
                  refine TL.run (pr_pure rfl) rfl ?_
                  refine TL.run (pr_ownA rfl (.here _) rfl) rfl ?_
                  refine TL.bslice rfl rfl rfl rfl (fun b62 => ?_)
                  refine TL.append (enc := Term.cells) rfl rfl rfl hO (Src.own [x] (.here _) rfl rfl) (by simp; omega) rfl (.skip _ (.skip _ .all)) rfl (fun a63 c63 ob63 hO63 => ?_)
                  refine TL.run (pr_pure rfl) rfl ?_
                  refine TL.nil ?_
                  refine TX.blkN ?_
                  refine TX.seqN ?_
                  refine TC.region ?_
                  refine TL.run (pr_pure rfl) rfl ?_
                  refine TL.run ((by first | exact pr_add rfl rfl (by omega) (by omega) | exact pr_pure rfl)) rfl ?_
                  refine TL.run (pr_pure rfl) rfl ?_
                  refine TL.nil ?_
                  exact TX.round4 (k + 1) _ ob63 H ⟨by rw [map_take_snoc h0 hx, hf]; exact hO63, by omega, by omega⟩ ⟨rfl, rfl, rfl, rfl, rfl, rfl, rfl, rfl, trivial⟩ (fun w hw => hw.drop.drop) (by omega)
              ·
                have q52 := of_decide_eq_false g52
                refine TL.gdN rfl rfl rfl rfl ?_
                refine TL.gdN rfl rfl rfl rfl ?_
                refine TL.gdN rfl rfl rfl rfl ?_
                refine TL.gdN rfl rfl rfl rfl ?_
                refine TL.run (pr_pure rfl) rfl ?_
                refine TL.nil ?_
                refine TX.seqN ?_
                refine TC.condF rfl ?_
                refine TC.skip ?_
                refine TX.seqN ?_
                refine TC.region ?_
                have hf : putN name n x = x := by unfold putN; rw [if_neg (by simp_all)]
                refine TL.run (pr_pure rfl) rfl ?_
                refine TL.run (pr_ownA rfl (.here _) rfl) rfl ?_
                refine TL.bslice rfl rfl rfl rfl (fun b62 => ?_)
                refine TL.append (enc := Term.cells) rfl rfl rfl hO (Src.own [x] (.here _) rfl rfl) (by simp; omega) rfl (.skip _ (.skip _ .all)) rfl (fun a63 c63 ob63 hO63 => ?_)
                refine TL.run (pr_pure rfl) rfl ?_
                refine TL.nil ?_
                refine TX.blkN ?_
                refine TX.seqN ?_
                refine TC.region ?_
                refine TL.run (pr_pure rfl) rfl ?_
                refine TL.run ((by first | exact pr_add rfl rfl (by omega) (by omega) | exact pr_pure rfl)) rfl ?_
                refine TL.run (pr_pure rfl) rfl ?_
                refine TL.nil ?_
                exact TX.round4 (k + 1) _ ob63 H ⟨by rw [map_take_snoc h0 hx, hf]; exact hO63, by omega, by omega⟩ ⟨rfl, rfl, rfl, rfl, rfl, rfl, rfl, rfl, trivial⟩ (fun w hw => hw.drop.drop) (by omega)
            ·
              refine TC.exit ?_
              refine TX.thenE ?_
              refine TX.thenE ?_
              refine TX.blkHit ?_
              refine TX.seqN ?_
              refine TC.seq ?_
              refine TC.region ?_
              refine TL.pubO hO .all (by simp) (fun HP leP hP => ?_)
              replace hT := hT.le leP
              replace hE := hE.le leP
              replace hEv := hEv.le leP
              have tk := take_all c42 h0
              have hPN : ∀ t ∈ (l.take k.toNat).map (putN name n), t.name.length ≤ 9223372036854775807 := putN_names hN _ _ _
              refine TL.run (pr_pure rfl) rfl ?_
              refine TL.run (pr_pure rfl) rfl ?_
              refine TL.run (pr_pure rfl) rfl ?_
              refine TL.run (pr_pure rfl) rfl ?_
              refine TL.run (pr_build rfl rfl) rfl ?_
              refine TL.run (pr_build rfl rfl) rfl ?_
              refine TL.bslice rfl rfl rfl rfl (fun b71 => ?_)
              refine TL.run (pr_pure rfl) rfl ?_
              refine TL.append (enc := Bind.cells2) rfl rfl rfl (OwnSl.blk (enc := Bind.cells2) [⟨name, ⟨1, n, [], []⟩, .slice none 0 0⟩] rfl rfl (by decide)) (Src.sl (hE.to2 hEv.slb)) (by simp; omega) rfl (.take (.here _) rfl) rfl (fun a73 c73 ob73 hO73 => ?_)
              refine TL.pubO hO73 .all (by simp) (fun HQ leQ hQ2 => ?_)
              replace hT := hT.le leQ
              replace hE := hE.le leQ
              replace hEv := hEv.le leQ
              replace hP := hP.le leQ
              have hQV : EnvOk HQ (⟨name, ⟨1, n, [], []⟩, .slice none 0 0⟩ :: env) := putN_env hEv
              have hQ : RdSl HQ 5 Bind.cells _ (⟨name, ⟨1, n, [], []⟩, .slice none 0 0⟩ :: env) := hQ2.of2 hQV.slb
              have hQl : ∀ b ∈ (⟨name, ⟨1, n, [], []⟩, .slice none 0 0⟩ :: env), b.v.l.length ≤ 100000 := putN_len hlen
              refine TL.call (enters rfl rfl rfl rfl) (Eval_ok root hT hQ hQV hQl hN) rfl (fun v74 H74 hle74 hp74 => ?_)
              obtain ⟨lv74, rfl, hR74⟩ := hp74
              replace hT := hT.le hle74
              replace hE := hE.le hle74
              replace hEv := hEv.le hle74
              replace hP := hP.le hle74
              obtain ⟨la74, lc74, rfl⟩ := RdSl.len hR74
              refine TL.run (pr_pure rfl) rfl ?_
              refine TL.run (pr_pure rfl) rfl ?_
              refine TL.run (pr_pure rfl) rfl ?_
              refine TL.alloc rfl (fun b14 => ?_)
              refine TL.storeA rfl rfl rfl rfl rfl (.here _) rfl rfl ?_
              refine TL.run (pr_pure rfl) rfl ?_
              refine TL.nil ?_
              refine TX.seqN ?_
              refine TC.seq ?_
              refine TC.region ?_
              refine TL.run (pr_pure rfl) rfl ?_
              refine TL.run (pr_pure rfl) rfl ?_
              refine TL.run (pr_pure rfl) rfl ?_
              refine TL.call (enters rfl rfl rfl rfl) (Eval_ok root hP hE hEv hlen hPN) rfl (fun v81 H81 hle81 hp81 => ?_)
              obtain ⟨lv81, rfl, hR81⟩ := hp81
              replace hT := hT.le hle81
              replace hE := hE.le hle81
              replace hEv := hEv.le hle81
              replace hP := hP.le hle81
              replace hR74 := hR74.le hle81
              obtain ⟨la81, lc81, rfl⟩ := RdSl.len hR81
              refine TL.run (pr_pure rfl) rfl ?_
              refine TL.run (pr_pure rfl) rfl ?_
              refine TL.run (pr_pure rfl) rfl ?_
              refine TL.alloc rfl (fun b16 => ?_)
              refine TL.storeA rfl rfl rfl rfl rfl (.here _) rfl rfl ?_
              refine TL.run (pr_pure rfl) rfl ?_
              refine TL.nil ?_
              refine TX.seqN ?_
              refine TC.seq ?_
              refine TC.region ?_
              refine TL.run (pr_pure rfl) rfl ?_
              refine TL.run (pr_pure rfl) rfl ?_
              refine TL.callS (enters rfl rfl rfl rfl) (May_ok root hP hPN) rfl ?_
              refine TL.run (pr_pure rfl) rfl ?_
              refine TL.split (s := 87) rfl (fun g87 => ?_) (fun g87 => ?_)
              ·
                refine TL.gdY rfl rfl (pr_pure rfl) rfl ?_
                refine TL.gdY rfl rfl (pr_pure rfl) rfl ?_
                refine TL.gdY rfl rfl (pr_pure rfl) rfl ?_
                refine TL.run (pr_pure rfl) rfl ?_
                refine TL.run (pr_pure rfl) rfl ?_
                refine TL.split (s := 92) rfl (fun g92 => ?_) (fun g92 => ?_)
                ·
                  have q92 := of_decide_eq_true g92
                  refine TL.gdY rfl rfl (pr_ownA rfl (.there _ (.here _)) rfl) rfl ?_
                  refine TL.gdY rfl rfl (pr_ownA rfl (.here _) rfl) rfl ?_
                  refine TL.callSY rfl rfl (enters rfl rfl rfl rfl) (dSame_ok hR74 hR81) rfl ?_
                  refine TL.run (pr_pure rfl) rfl ?_
                  refine TL.run (pr_pure rfl) rfl ?_
                  refine TL.split (s := 97) rfl (fun g97 => ?_) (fun g97 => ?_)
                  ·
                    refine TL.gdY rfl rfl (pr_pure rfl) rfl ?_
                    refine TL.gdY rfl rfl (pr_pure rfl) rfl ?_
                    refine TL.callY rfl rfl (enters rfl rfl rfl rfl) (Vars_ok root hP hPN) rfl (fun v100 H100 hle100 hp100 => ?_)
                    replace hT := hT.le hle100
                    replace hE := hE.le hle100
                    replace hEv := hEv.le hle100
                    replace hP := hP.le hle100
                    replace hR74 := hR74.le hle100
                    replace hR81 := hR81.le hle100
                    have hV : RdSl H100 1 Str.cells v100 _ := hp100
                    obtain ⟨va, vc, rfl⟩ := hV.len
                    refine TL.gdY rfl rfl (pr_pure rfl) rfl ?_
                    refine TL.callSY rfl rfl (enters rfl rfl rfl rfl) (n_Has_ok name hV) rfl ?_
                    refine TL.gdY rfl rfl (pr_pure rfl) rfl ?_
                    refine TL.run (pr_pure rfl) rfl ?_
                    refine TL.run (pr_pure rfl) rfl ?_
                    refine TL.nil ?_
                    refine TX.seqN ?_
                    refine TC.ret ?_
                    exact TX.finS (.inr rfl) (results1 rfl (RVal.tmp rfl)) (congrArg Value.bool (by first | rfl | (simp only [tk] at *; simp_all; done)))
                  ·
                    refine TL.gdN rfl rfl rfl rfl ?_
                    refine TL.gdN rfl rfl rfl rfl ?_
                    refine TL.gdN rfl rfl rfl rfl ?_
                    refine TL.gdN rfl rfl rfl rfl ?_
                    refine TL.gdN rfl rfl rfl rfl ?_
                    refine TL.gdN rfl rfl rfl rfl ?_
                    refine TL.run (pr_pure rfl) rfl ?_
                    refine TL.run (pr_pure rfl) rfl ?_
                    refine TL.nil ?_
                    refine TX.seqN ?_
                    refine TC.ret ?_
                    exact TX.finS (.inr rfl) (results1 rfl (RVal.tmp rfl)) (congrArg Value.bool (by first | rfl | (simp only [tk] at *; simp_all; done)))
                ·
                  have q92 := of_decide_eq_false g92
                  refine TL.gdN rfl rfl rfl rfl ?_
                  refine TL.gdN rfl rfl rfl rfl ?_
                  refine TL.gdN rfl rfl rfl rfl ?_
                  refine TL.run (pr_pure rfl) rfl ?_
                  refine TL.run (pr_pure rfl) rfl ?_
                  refine TL.gdN rfl rfl rfl rfl ?_
                  refine TL.gdN rfl rfl rfl rfl ?_
                  refine TL.gdN rfl rfl rfl rfl ?_
                  refine TL.gdN rfl rfl rfl rfl ?_
                  refine TL.gdN rfl rfl rfl rfl ?_
                  refine TL.gdN rfl rfl rfl rfl ?_
                  refine TL.run (pr_pure rfl) rfl ?_
                  refine TL.run (pr_pure rfl) rfl ?_
                  refine TL.nil ?_
                  refine TX.seqN ?_
                  refine TC.ret ?_
                  exact TX.finS (.inr rfl) (results1 rfl (RVal.tmp rfl)) (congrArg Value.bool (by first | rfl | (simp only [tk] at *; simp_all; done)))
              ·
                refine TL.gdN rfl rfl rfl rfl ?_
                refine TL.gdN rfl rfl rfl rfl ?_
                refine TL.gdN rfl rfl rfl rfl ?_
                refine TL.run (pr_pure rfl) rfl ?_
                refine TL.run (pr_pure rfl) rfl ?_
                refine TL.gdN rfl rfl rfl rfl ?_
                refine TL.gdN rfl rfl rfl rfl ?_
                refine TL.gdN rfl rfl rfl rfl ?_
                refine TL.run (pr_pure rfl) rfl ?_
                refine TL.run (pr_pure rfl) rfl ?_
                refine TL.gdN rfl rfl rfl rfl ?_
                refine TL.gdN rfl rfl rfl rfl ?_
                refine TL.gdN rfl rfl rfl rfl ?_
                refine TL.gdN rfl rfl rfl rfl ?_
                refine TL.gdN rfl rfl rfl rfl ?_
                refine TL.gdN rfl rfl rfl rfl ?_
                refine TL.run (pr_pure rfl) rfl ?_
                refine TL.run (pr_pure rfl) rfl ?_
                refine TL.nil ?_
                refine TX.seqN ?_
                refine TC.ret ?_
                exact TX.finS (.inr rfl) (results1 rfl (RVal.tmp rfl)) (congrArg Value.bool (by first | rfl | (simp only [tk] at *; simp_all; done)))
end Go.Sx
