import Derived.Test.YticophnilpjdlaaWLawA
import Derived.Test.YticophnilpjdlaaWVal
import Derived.Test.YticophnilpjdlaaPureS
set_option linter.unusedVariables false
set_option linter.unusedSimpArgs false
namespace Go.Sx
open Go Go.Proofs
set_option maxRecDepth 100000 in
set_option maxHeartbeats 1000000 in
theorem typings_ok {H : Hp} {env : List Bind} {v0 : Value} (hS : RdSl H 5 Bind.cells v0 env) (hlen : env.length ≤ 1000) :
    Fn Try.prog 12 [v0] H (fun v H1 => RdSl H1 3 Typing.cells v (env.map typingOf)) := by
  refine Fn.enter Try.func12 Try.ntmps12 rfl rfl (fun w0 => ?_)
  refine TC.seq ?_
  refine TC.region ?_
  refine TL.run (pr_pure rfl) rfl ?_
  refine TL.nil ?_
  refine TX.seqN ?_
  refine TC.seq ?_
  refine TC.region ?_
  refine TL.run (pr_pure rfl) rfl ?_
  refine TL.nil ?_
  refine TX.seqN ?_
  refine TC.seq ?_
  refine TC.seq ?_
  refine TC.region ?_
  refine TL.run (pr_pure rfl) rfl ?_
  refine TL.nil ?_
  refine TX.seqN ?_
  refine TC.block ?_
  refine TC.loop4 (V := fun k v ob H1 => [(3, v), (4, .int .i64 k)]) (K := [(0, _), (2, _)]) (L := fun k v ob H1 => St [] w0 H H (ob)) (I := fun k v ob H1 => OwnSl 3 Typing.cells v ((env.take k.toNat).map typingOf) ob ∧ 0 ≤ k ∧ k ≤ env.length) (μ := fun k => (env.length - k).toNat) 0 (.slice none 0 0) [] H ⟨rfl, rfl, rfl, rfl, trivial⟩ ⟨OwnSl.nil, by omega, by simp⟩ (fun w hw => hw) (fun k v ob H1 hI => ?_)
  obtain ⟨hO, h0, h1⟩ := hI
  refine TC.seq ?_
  refine TC.seq ?_
  refine TC.region ?_
  refine TL.run (pr_pure rfl) rfl ?_
  refine TL.run (pr_pure rfl) rfl ?_
  refine TL.run (pr_lenSl rfl rfl hS) rfl ?_
  refine TL.run (pr_pure rfl) rfl ?_
  refine TL.nil ?_
  refine TX.seqN ?_
  refine TC.condD rfl (fun c8 => ?_) (fun c8 => ?_)
  ·
    obtain ⟨x, hx⟩ := getSome h0 c8
    refine TC.skip ?_
    refine TX.seqN ?_
    refine TC.seq ?_
    refine TC.block ?_
    refine TC.drawn (by kernel_rfl) (by kernel_rfl) ?_
    refine TD.leaf [(0, 1), (1, 1), (2, 1), (3, 1), (4, 1), (5, 2), (6, 1), (7, 1), (8, 1), (9, 1), (10, 1), (11, 2), (12, 1), (13, 1), (14, 0), (15, 0), (16, 1)] (by kernel_rfl) (by kernel_rfl) ?_
    refine TF.pure (pr_pure rfl) rfl ?_
    refine TF.pure (pr_pure rfl) rfl ?_
    refine TF.pure (pr_pure rfl) rfl ?_
    refine TF.pure (pr_indexSl rfl hS rfl (by omega) (by omega)) rfl ?_
    refine TF.pure (pr_field rfl) rfl ?_
    refine TF.still (pr_el1 hS hx rfl rfl) rfl ?_
    refine TF.pure (pr_pure rfl) rfl ?_
    refine TF.pure (pr_pure rfl) rfl ?_
    refine TF.pure (pr_indexSl rfl hS rfl (by omega) (by omega)) rfl ?_
    refine TF.pure (pr_field rfl) rfl ?_
    refine TF.pure (pr_field rfl) rfl ?_
    refine TF.still (pr_el2 hS hx rfl rfl) rfl ?_
    refine TF.pure (pr_build rfl rfl) rfl ?_
    refine TF.pure (pr_build rfl rfl) rfl ?_
    refine TF.loud ?_
    refine TL.bslice rfl rfl rfl rfl (fun b25 => ?_)
    refine TF.back ?_
    refine TF.loud ?_
    refine TL.append (enc := Typing.cells) rfl rfl rfl hO (Src.own [⟨_, _, _⟩] (.here _) rfl rfl) (by first | (simp; omega) | omega) rfl (.skip _ .all) rfl (fun a26 c26 ob26 hO26 => ?_)
    refine TF.back ?_
    refine TF.pure (pr_pure rfl) rfl ?_
    refine TF.nil ?_
    refine TX.blkN ?_
    refine TX.seqN ?_
    refine TC.region ?_
    refine TL.run (pr_pure rfl) rfl ?_
    refine TL.run ((by first | exact pr_add rfl rfl (by omega) (by omega) | exact pr_pure rfl)) rfl ?_
    refine TL.run (pr_pure rfl) rfl ?_
    refine TL.nil ?_
    exact TX.round4 (k + 1) _ ob26 H ⟨(by rw [map_take_snoc h0 hx]; exact hO26), by omega, by omega⟩ ⟨rfl, rfl, rfl, rfl, trivial⟩ (fun w hw => hw.drop) (by omega)
  ·
    refine TC.exit ?_
    refine TX.thenE ?_
    refine TX.thenE ?_
    refine TX.blkHit ?_
    refine TX.seqN ?_
    refine TC.seq ?_
    refine TC.region ?_
    refine TL.run (pr_pure rfl) rfl ?_
    refine TL.run (pr_pure rfl) rfl ?_
    refine TL.nil ?_
    refine TX.pubO hO .all (by simp) (fun H1 hle hR => ?_)
    refine TX.seqN ?_
    refine TC.ret ?_
    exact TX.fin0 (.inr rfl) (results1 rfl (RVal.tmp rfl)) (by rw [take_all c8 h0] at hR; exact hR)

set_option maxRecDepth 100000 in
set_option maxHeartbeats 4000000 in
theorem KindSound_ok {H : Hp} {l : List Term} {env : List Bind} {v ve : Value} (root : Int) (hT : RdSl H 6 Term.cells v l) (hE : RdSl H 5 Bind.cells ve env) (hEv : EnvOk H env) (hN : ∀ t ∈ l, t.name.length ≤ 9223372036854775807) :
    FnS Try.prog 5 [v, .int .i64 root, ve] H (.bool true) := by
  have hmax := hE.max
  refine FnS.enter Try.func5 Try.ntmps5 rfl rfl (fun w0 => ?_)
  refine TC.seq ?_
  refine TC.region ?_
  refine TL.run (pr_pure rfl) rfl ?_
  refine TL.nil ?_
  refine TX.seqN ?_
  refine TC.seq ?_
  refine TC.seq ?_
  refine TC.region ?_
  refine TL.callS (enters rfl rfl rfl rfl) (first5_ok) rfl ?_
  refine TL.run (pr_pure rfl) rfl ?_
  refine TL.nil ?_
  refine TX.seqN ?_
  refine TC.cond rfl (fun c13 => ?_) (fun c13 => ?_)
  ·
    exact absurd c13 (by decide)
  ·
    refine TC.skip ?_
    refine TX.seqN ?_
    refine TC.seq ?_
    refine TC.seq ?_
    refine TC.region ?_
    refine TL.run (pr_pure rfl) rfl ?_
    refine TL.run (pr_lenSl rfl rfl hT) rfl ?_
    refine TL.run (pr_pure rfl) rfl ?_
    refine TL.run (pr_pure rfl) rfl ?_
    refine TL.split (s := 17) rfl (fun g17 => ?_) (fun g17 => ?_)
    ·
      have q17 := of_decide_eq_true g17
      refine TL.gdN rfl rfl rfl rfl ?_
      refine TL.gdN rfl rfl rfl rfl ?_
      refine TL.gdN rfl rfl rfl rfl ?_
      refine TL.run (pr_pure rfl) rfl ?_
      refine TL.nil ?_
      refine TX.seqN ?_
      refine TC.condT rfl ?_
      refine TC.seq ?_
      refine TC.region ?_
      refine TL.run (pr_pure rfl) rfl ?_
      refine TL.nil ?_
      refine TX.seqN ?_
      refine TC.ret ?_
      refine TX.thenR ?_
      exact TX.finS (.inr rfl) (results1 rfl (RVal.tmp rfl)) (congrArg Value.bool (by first | rfl | (simp [Snd] at hsnd; simp_all; done) | (simp [Snd] at hsnd; simp_all; omega)))
    ·
      have q17 := of_decide_eq_false g17
      refine TL.gdY rfl rfl (pr_pure rfl) rfl ?_
      refine TL.gdY rfl rfl (pr_lenSl rfl rfl hE) rfl ?_
      refine TL.gdY rfl rfl (pr_pure rfl) rfl ?_
      refine TL.run (pr_pure rfl) rfl ?_
      refine TL.nil ?_
      refine TX.seqN ?_
      refine TC.condD rfl (fun c21 => ?_) (fun c21 => ?_)
      ·
        refine TC.seq ?_
        refine TC.region ?_
        refine TL.run (pr_pure rfl) rfl ?_
        refine TL.nil ?_
        refine TX.seqN ?_
        refine TC.ret ?_
        refine TX.thenR ?_
        exact TX.finS (.inr rfl) (results1 rfl (RVal.tmp rfl)) (congrArg Value.bool (by first | rfl | (simp [Snd] at hsnd; simp_all; done) | (simp [Snd] at hsnd; simp_all; omega)))
      ·
        refine TC.skip ?_
        refine TX.seqN ?_
        refine TC.seq ?_
        refine TC.seq ?_
        refine TC.region ?_
        refine TL.run (pr_pure rfl) rfl ?_
        refine TL.nil ?_
        refine TX.seqN ?_
        refine TC.block ?_
        refine TC.loop (V := fun k => [(7, .int .i64 k)]) (K := [(0, _), (1, _), (2, _), (6, _)]) (L := fun k => _) (I := fun k => 0 ≤ k ∧ k ≤ env.length ∧ (∀ b ∈ env.take k.toNat, mayV b.v = true)) (μ := fun k => (env.length - k).toNat) (i := (0 : Int)) ⟨rfl, rfl, rfl, rfl, rfl, trivial⟩ ⟨by omega, by omega, by simp⟩ (fun w hw => hw) (fun k hI => ?_)
        refine TC.seq ?_
        refine TC.seq ?_
        refine TC.region ?_
        refine TL.run (pr_pure rfl) rfl ?_
        refine TL.run (pr_pure rfl) rfl ?_
        refine TL.run (pr_lenSl rfl rfl hE) rfl ?_
        refine TL.run (pr_pure rfl) rfl ?_
        refine TL.nil ?_
        refine TX.seqN ?_
        refine TC.condD rfl (fun c25 => ?_) (fun c25 => ?_)
        ·
          obtain ⟨x, hx⟩ := getSome (l := env) hI.1 c25
          have hV : RdV H x.lv x.v := hEv x (List.mem_of_getElem? hx)
          refine TC.skip ?_
          refine TX.seqN ?_
          refine TC.seq ?_
          refine TC.block ?_
          refine TC.seq ?_
          refine TC.region ?_
          refine TL.run (pr_pure rfl) rfl ?_
          refine TL.run (pr_pure rfl) rfl ?_
          refine TL.run (pr_indexSl rfl hE rfl (by omega) (by omega)) rfl ?_
          refine TL.run (pr_field rfl) rfl ?_
          refine TL.run (pr_elQ hE hx rfl rfl) rfl ?_
          refine TL.callS (enters rfl rfl rfl rfl) (dMay_ok (x := x.v) (lv := x.lv) hV) rfl ?_
          refine TL.run (pr_pure rfl) rfl ?_
          refine TL.nil ?_
          refine TX.seqN ?_
          refine TC.cond rfl (fun c34 => ?_) (fun c34 => ?_)
          ·
            refine TC.seq ?_
            refine TC.region ?_
            refine TL.run (pr_pure rfl) rfl ?_
            refine TL.nil ?_
            refine TX.seqN ?_
            refine TC.ret ?_
            refine TX.blkR ?_
            refine TX.thenR ?_
            refine TX.thenR ?_
            refine TX.blkR ?_
            refine TX.thenR ?_
            exact TX.finS (.inr rfl) (results1 rfl (RVal.tmp rfl)) (congrArg Value.bool (by first | rfl | (simp [Snd] at hsnd; simp_all; done) | (simp [Snd] at hsnd; simp_all; omega)))
          ·
            refine TC.skip ?_
            refine TX.blkN ?_
            refine TX.seqN ?_
            refine TC.region ?_
            refine TL.run (pr_pure rfl) rfl ?_
            refine TL.run ((by first | exact pr_add rfl rfl (by omega) (by omega) | exact pr_pure rfl)) rfl ?_
            refine TL.run (pr_pure rfl) rfl ?_
            refine TL.nil ?_
            exact TX.round (k + 1) ⟨by omega, by omega, by rw [take_snoc hI.1 hx]; intro b hb; rcases List.mem_append.1 hb with hb | hb; exact hI.2.2 b hb; rw [List.mem_singleton.1 hb]; simpa using c34⟩ ⟨rfl, rfl, rfl, rfl, rfl, trivial⟩ (fun w hw => hw) (by omega)
        ·
          refine TC.exit ?_
          refine TX.thenE ?_
          refine TX.thenE ?_
          refine TX.blkHit ?_
          refine TX.seqN ?_
          refine TC.seq ?_
          refine TC.region ?_
          have hall : ∀ b ∈ env, mayV b.v = true := (fun b hb => hI.2.2 b (by rw [take_all c25 hI.1]; exact hb))
          have hlen : ∀ b ∈ env, b.v.l.length ≤ 100000 := (fun b hb => mayV_len (hall b hb))
          have hsnd := soundB (l := l) (root := root) hall mayB_Tr
          refine TL.run (pr_pure rfl) rfl ?_
          refine TL.run (pr_pure rfl) rfl ?_
          refine TL.run (pr_pure rfl) rfl ?_
          refine TL.call (enters rfl rfl rfl rfl) (typings_ok hE (by omega)) rfl (fun v39 H39 hle39 hp39 => ?_)
          refine TL.callS (enters rfl rfl rfl rfl) (Of_ok root (hT.le hle39) hp39 hN) rfl ?_
          refine TL.run (pr_pure rfl) rfl ?_
          refine TL.run (pr_pure rfl) rfl ?_
          refine TL.run (pr_pure rfl) rfl ?_
          refine TL.run (pr_pure rfl) rfl ?_
          refine TL.run (pr_pure rfl) rfl ?_
          refine TL.nil ?_
          refine TX.seqN ?_
          refine TC.seq ?_
          refine TC.region ?_
          refine TL.run (pr_pure rfl) rfl ?_
          refine TL.run (pr_pure rfl) rfl ?_
          refine TL.run (pr_pure rfl) rfl ?_
          refine TL.call (enters rfl rfl rfl rfl) (Eval_ok root (hT.le hle39) (hE.le hle39) (hEv.le hle39) hlen hN) rfl (fun v47 H47 hle47 hp47 => ?_)
          obtain ⟨lv47, rfl, hR47⟩ := hp47
          obtain ⟨la47, lc47, rfl⟩ := RdSl.len hR47
          refine TL.run (pr_pure rfl) rfl ?_
          refine TL.run (pr_pure rfl) rfl ?_
          refine TL.run (pr_pure rfl) rfl ?_
          refine TL.alloc rfl (fun b10 => ?_)
          refine TL.storeA rfl rfl rfl rfl rfl (.here _) rfl rfl ?_
          refine TL.run (pr_pure rfl) rfl ?_
          refine TL.nil ?_
          refine TX.seqN ?_
          refine TC.seq ?_
          refine TC.seq ?_
          refine TC.region ?_
          refine TL.run (pr_pure rfl) rfl ?_
          refine TL.nil ?_
          refine TX.seqN ?_
          refine TC.block ?_
          refine TC.sw (decide ((ofS l root (env.map typingOf)).2 = 0)) 51 [(6, _), (8, _), (10, _), (11, _), (50, _)] ⟨rfl, rfl, rfl, rfl, rfl, trivial⟩ ?_ ?_
          ·
            exact TC.swE (pr_pure rfl) rfl rfl ⟨rfl, rfl, rfl, rfl, rfl, trivial⟩
          refine TC.condD rfl (fun c51 => ?_) (fun c51 => ?_)
          ·
            refine TC.seq ?_
            refine TC.region ?_
            refine TL.run (pr_pure rfl) rfl ?_
            refine TL.run (pr_pure rfl) rfl ?_
            refine TL.run (pr_pure rfl) rfl ?_
            refine TL.split (s := 55) rfl (fun g55 => ?_) (fun g55 => ?_)
            ·
              have q55 := of_decide_eq_true g55
              refine TL.gdY rfl rfl (pr_field rfl) rfl ?_
              refine TL.gdY rfl rfl (pr_own1 rfl (.here _) rfl) rfl ?_
              refine TL.gdY rfl rfl (pr_pure rfl) rfl ?_
              refine TL.gdY rfl rfl (pr_pure rfl) rfl ?_
              refine TL.run (pr_pure rfl) rfl ?_
              refine TL.run (pr_pure rfl) rfl ?_
              refine TL.split (s := 61) rfl (fun g61 => ?_) (fun g61 => ?_)
              ·
                have q61 := of_decide_eq_true g61
                refine TL.gdY rfl rfl (pr_ownA rfl (.here _) rfl) rfl ?_
                refine TL.callSY rfl rfl (enters rfl rfl rfl rfl) (dMay_ok hR47) rfl ?_
                refine TL.run (pr_pure rfl) rfl ?_
                refine TL.run (pr_pure rfl) rfl ?_
                refine TL.split (s := 65) rfl (fun g65 => ?_) (fun g65 => ?_)
                ·
                  refine TL.gdN rfl rfl rfl rfl ?_
                  refine TL.gdN rfl rfl rfl rfl ?_
                  refine TL.run (pr_pure rfl) rfl ?_
                  refine TL.run (pr_pure rfl) rfl ?_
                  refine TL.gdN rfl rfl rfl rfl ?_
                  refine TL.gdN rfl rfl rfl rfl ?_
                  refine TL.run (pr_pure rfl) rfl ?_
                  refine TL.run (pr_pure rfl) rfl ?_
                  refine TL.gdN rfl rfl rfl rfl ?_
                  refine TL.gdN rfl rfl rfl rfl ?_
                  refine TL.run (pr_pure rfl) rfl ?_
                  refine TL.run (pr_pure rfl) rfl ?_
                  refine TL.nil ?_
                  refine TX.seqN ?_
                  refine TC.ret ?_
                  refine TX.blkR ?_
                  refine TX.thenR ?_
                  exact TX.finS (.inr rfl) (results1 rfl (RVal.tmp rfl)) (congrArg Value.bool (by first | rfl | (simp [Snd] at hsnd; simp_all; done) | (simp [Snd] at hsnd; simp_all; omega)))
                ·
                  refine TL.gdY rfl rfl (pr_pure rfl) rfl ?_
                  refine TL.gdY rfl rfl (pr_pure rfl) rfl ?_
                  refine TL.run (pr_pure rfl) rfl ?_
                  refine TL.run (pr_pure rfl) rfl ?_
                  refine TL.split (s := 69) rfl (fun g69 => ?_) (fun g69 => ?_)
                  ·
                    have q69 := of_decide_eq_true g69
                    refine TL.gdN rfl rfl rfl rfl ?_
                    refine TL.gdN rfl rfl rfl rfl ?_
                    refine TL.run (pr_pure rfl) rfl ?_
                    refine TL.run (pr_pure rfl) rfl ?_
                    refine TL.gdN rfl rfl rfl rfl ?_
                    refine TL.gdN rfl rfl rfl rfl ?_
                    refine TL.run (pr_pure rfl) rfl ?_
                    refine TL.run (pr_pure rfl) rfl ?_
                    refine TL.nil ?_
                    refine TX.seqN ?_
                    refine TC.ret ?_
                    refine TX.blkR ?_
                    refine TX.thenR ?_
                    exact TX.finS (.inr rfl) (results1 rfl (RVal.tmp rfl)) (congrArg Value.bool (by first | rfl | (simp [Snd] at hsnd; simp_all; done) | (simp [Snd] at hsnd; simp_all; omega)))
                  ·
                    have q69 := of_decide_eq_false g69
                    refine TL.gdY rfl rfl (pr_pure rfl) rfl ?_
                    refine TL.gdY rfl rfl (pr_pure rfl) rfl ?_
                    refine TL.run (pr_pure rfl) rfl ?_
                    refine TL.run (pr_pure rfl) rfl ?_
                    refine TL.split (s := 73) rfl (fun g73 => ?_) (fun g73 => ?_)
                    ·
                      have q73 := of_decide_eq_true g73
                      refine TL.gdN rfl rfl rfl rfl ?_
                      refine TL.gdN rfl rfl rfl rfl ?_
                      refine TL.run (pr_pure rfl) rfl ?_
                      refine TL.run (pr_pure rfl) rfl ?_
                      refine TL.nil ?_
                      refine TX.seqN ?_
                      refine TC.ret ?_
                      refine TX.blkR ?_
                      refine TX.thenR ?_
                      exact TX.finS (.inr rfl) (results1 rfl (RVal.tmp rfl)) (congrArg Value.bool (by first | rfl | (simp [Snd] at hsnd; simp_all; done) | (simp [Snd] at hsnd; simp_all; omega)))
                    ·
                      have q73 := of_decide_eq_false g73
                      refine TL.gdY rfl rfl (pr_pure rfl) rfl ?_
                      refine TL.gdY rfl rfl (pr_pure rfl) rfl ?_
                      refine TL.run (pr_pure rfl) rfl ?_
                      refine TL.run (pr_pure rfl) rfl ?_
                      refine TL.nil ?_
                      refine TX.seqN ?_
                      refine TC.ret ?_
                      refine TX.blkR ?_
                      refine TX.thenR ?_
                      exact TX.finS (.inr rfl) (results1 rfl (RVal.tmp rfl)) (congrArg Value.bool (by first | rfl | (simp [Snd] at hsnd; simp_all; done) | (simp [Snd] at hsnd; simp_all; omega)))
              ·
                have q61 := of_decide_eq_false g61
                refine TL.gdN rfl rfl rfl rfl ?_
                refine TL.gdN rfl rfl rfl rfl ?_
                refine TL.run (pr_pure rfl) rfl ?_
                refine TL.run (pr_pure rfl) rfl ?_
                refine TL.gdY rfl rfl (pr_pure rfl) rfl ?_
                refine TL.gdY rfl rfl (pr_pure rfl) rfl ?_
                refine TL.run (pr_pure rfl) rfl ?_
                refine TL.run (pr_pure rfl) rfl ?_
                refine TL.split (s := 69) rfl (fun g69 => ?_) (fun g69 => ?_)
                ·
                  have q69 := of_decide_eq_true g69
                  refine TL.gdN rfl rfl rfl rfl ?_
                  refine TL.gdN rfl rfl rfl rfl ?_
                  refine TL.run (pr_pure rfl) rfl ?_
                  refine TL.run (pr_pure rfl) rfl ?_
                  refine TL.gdN rfl rfl rfl rfl ?_
                  refine TL.gdN rfl rfl rfl rfl ?_
                  refine TL.run (pr_pure rfl) rfl ?_
                  refine TL.run (pr_pure rfl) rfl ?_
                  refine TL.nil ?_
                  refine TX.seqN ?_
                  refine TC.ret ?_
                  refine TX.blkR ?_
                  refine TX.thenR ?_
                  exact TX.finS (.inr rfl) (results1 rfl (RVal.tmp rfl)) (congrArg Value.bool (by first | rfl | (simp [Snd] at hsnd; simp_all; done) | (simp [Snd] at hsnd; simp_all; omega)))
                ·
                  have q69 := of_decide_eq_false g69
                  refine TL.gdY rfl rfl (pr_pure rfl) rfl ?_
                  refine TL.gdY rfl rfl (pr_pure rfl) rfl ?_
                  refine TL.run (pr_pure rfl) rfl ?_
                  refine TL.run (pr_pure rfl) rfl ?_
                  refine TL.split (s := 73) rfl (fun g73 => ?_) (fun g73 => ?_)
                  ·
                    have q73 := of_decide_eq_true g73
                    refine TL.gdN rfl rfl rfl rfl ?_
                    refine TL.gdN rfl rfl rfl rfl ?_
                    refine TL.run (pr_pure rfl) rfl ?_
                    refine TL.run (pr_pure rfl) rfl ?_
                    refine TL.nil ?_
                    refine TX.seqN ?_
                    refine TC.ret ?_
                    refine TX.blkR ?_
                    refine TX.thenR ?_
                    exact TX.finS (.inr rfl) (results1 rfl (RVal.tmp rfl)) (congrArg Value.bool (by first | rfl | (simp [Snd] at hsnd; simp_all; done) | (simp [Snd] at hsnd; simp_all; omega)))
                  ·
                    have q73 := of_decide_eq_false g73
                    refine TL.gdY rfl rfl (pr_pure rfl) rfl ?_
                    refine TL.gdY rfl rfl (pr_pure rfl) rfl ?_
                    refine TL.run (pr_pure rfl) rfl ?_
                    refine TL.run (pr_pure rfl) rfl ?_
                    refine TL.nil ?_
                    refine TX.seqN ?_
                    refine TC.ret ?_
                    refine TX.blkR ?_
                    refine TX.thenR ?_
                    exact TX.finS (.inr rfl) (results1 rfl (RVal.tmp rfl)) (congrArg Value.bool (by first | rfl | (simp [Snd] at hsnd; simp_all; done) | (simp [Snd] at hsnd; simp_all; omega)))
            ·
              have q55 := of_decide_eq_false g55
              refine TL.gdN rfl rfl rfl rfl ?_
              refine TL.gdN rfl rfl rfl rfl ?_
              refine TL.gdN rfl rfl rfl rfl ?_
              refine TL.gdN rfl rfl rfl rfl ?_
              refine TL.run (pr_pure rfl) rfl ?_
              refine TL.run (pr_pure rfl) rfl ?_
              refine TL.gdN rfl rfl rfl rfl ?_
              refine TL.gdN rfl rfl rfl rfl ?_
              refine TL.run (pr_pure rfl) rfl ?_
              refine TL.run (pr_pure rfl) rfl ?_
              refine TL.gdY rfl rfl (pr_pure rfl) rfl ?_
              refine TL.gdY rfl rfl (pr_pure rfl) rfl ?_
              refine TL.run (pr_pure rfl) rfl ?_
              refine TL.run (pr_pure rfl) rfl ?_
              refine TL.split (s := 69) rfl (fun g69 => ?_) (fun g69 => ?_)
              ·
                have q69 := of_decide_eq_true g69
                refine TL.gdN rfl rfl rfl rfl ?_
                refine TL.gdN rfl rfl rfl rfl ?_
                refine TL.run (pr_pure rfl) rfl ?_
                refine TL.run (pr_pure rfl) rfl ?_
                refine TL.gdN rfl rfl rfl rfl ?_
                refine TL.gdN rfl rfl rfl rfl ?_
                refine TL.run (pr_pure rfl) rfl ?_
                refine TL.run (pr_pure rfl) rfl ?_
                refine TL.nil ?_
                refine TX.seqN ?_
                refine TC.ret ?_
                refine TX.blkR ?_
                refine TX.thenR ?_
                exact TX.finS (.inr rfl) (results1 rfl (RVal.tmp rfl)) (congrArg Value.bool (by first | rfl | (simp [Snd] at hsnd; simp_all; done) | (simp [Snd] at hsnd; simp_all; omega)))
              ·
                have q69 := of_decide_eq_false g69
                refine TL.gdY rfl rfl (pr_pure rfl) rfl ?_
                refine TL.gdY rfl rfl (pr_pure rfl) rfl ?_
                refine TL.run (pr_pure rfl) rfl ?_
                refine TL.run (pr_pure rfl) rfl ?_
                refine TL.split (s := 73) rfl (fun g73 => ?_) (fun g73 => ?_)
                ·
                  have q73 := of_decide_eq_true g73
                  refine TL.gdN rfl rfl rfl rfl ?_
                  refine TL.gdN rfl rfl rfl rfl ?_
                  refine TL.run (pr_pure rfl) rfl ?_
                  refine TL.run (pr_pure rfl) rfl ?_
                  refine TL.nil ?_
                  refine TX.seqN ?_
                  refine TC.ret ?_
                  refine TX.blkR ?_
                  refine TX.thenR ?_
                  exact TX.finS (.inr rfl) (results1 rfl (RVal.tmp rfl)) (congrArg Value.bool (by first | rfl | (simp [Snd] at hsnd; simp_all; done) | (simp [Snd] at hsnd; simp_all; omega)))
                ·
                  have q73 := of_decide_eq_false g73
                  refine TL.gdY rfl rfl (pr_pure rfl) rfl ?_
                  refine TL.gdY rfl rfl (pr_pure rfl) rfl ?_
                  refine TL.run (pr_pure rfl) rfl ?_
                  refine TL.run (pr_pure rfl) rfl ?_
                  refine TL.nil ?_
                  refine TX.seqN ?_
                  refine TC.ret ?_
                  refine TX.blkR ?_
                  refine TX.thenR ?_
                  exact TX.finS (.inr rfl) (results1 rfl (RVal.tmp rfl)) (congrArg Value.bool (by first | rfl | (simp [Snd] at hsnd; simp_all; done) | (simp [Snd] at hsnd; simp_all; omega)))
          ·
            refine TC.sw (decide ((ofS l root (env.map typingOf)).2 = 501) || decide ((ofS l root (env.map typingOf)).2 = 502)) 77 [(6, _), (11, _)] ⟨rfl, rfl, trivial⟩ ?_ ?_
            ·
              refine TC.swG (pr_pure rfl) rfl rfl ⟨rfl, rfl, trivial⟩ ?_
              exact TC.swE (pr_pure rfl) rfl rfl ⟨rfl, rfl, trivial⟩
            refine TC.cond rfl (fun c77 => ?_) (fun c77 => ?_)
            ·
              refine TC.seq ?_
              refine TC.region ?_
              refine TL.run (pr_pure rfl) rfl ?_
              refine TL.run (pr_pure rfl) rfl ?_
              refine TL.run (pr_pure rfl) rfl ?_
              refine TL.nil ?_
              refine TX.seqN ?_
              refine TC.ret ?_
              refine TX.blkR ?_
              refine TX.thenR ?_
              exact TX.finS (.inr rfl) (results1 rfl (RVal.tmp rfl)) (congrArg Value.bool (by first | rfl | (simp [Snd] at hsnd; simp_all; done) | (simp [Snd] at hsnd; simp_all; omega)))
            ·
              refine TC.skip ?_
              refine TX.blkN ?_
              refine TX.seqN ?_
              refine TC.seq ?_
              refine TC.region ?_
              refine TL.run (pr_pure rfl) rfl ?_
              refine TL.run (pr_pure rfl) rfl ?_
              refine TL.run (pr_pure rfl) rfl ?_
              refine TL.nil ?_
              refine TX.seqN ?_
              refine TC.ret ?_
              exact TX.finS (.inr rfl) (results1 rfl (RVal.tmp rfl)) (congrArg Value.bool (by first | rfl | (simp [Snd] at hsnd; simp_all; done) | (simp [Snd] at hsnd; simp_all; omega)))
end Go.Sx
