import Derived.Test.YticophnilpjdlaaWLawA
import Derived.Test.YticophnilpjdlaaWVal
import Derived.Test.YticophnilpjdlaaPureM
set_option linter.unusedVariables false
set_option linter.unusedSimpArgs false
namespace Go.Sx
open Go Go.Proofs
set_option maxRecDepth 100000 in
set_option maxHeartbeats 1000000 in
theorem typings_ok {H : Hp} {env : List Bind} {v0 : Value} (hS : RdSl H 5 Bind.cells v0 env) (hlen : env.length ≤ 1000) :
    Fn Try.prog 12 [v0] H (fun v H1 => RdSl H1 3 Typing.cells v (env.map typingOf)) := by
  refine Fn.enter Try.func12 Try.ntmps12 rfl rfl (fun w0 => ?_)
  refine TC.seq ?_
  refine TC.region ?_
  refine TL.run (pr_pure rfl) rfl ?_
  refine TL.nil ?_
  refine TX.seqN ?_
  refine TC.seq ?_
  refine TC.region ?_
  refine TL.run (pr_pure rfl) rfl ?_
  refine TL.nil ?_
  refine TX.seqN ?_
  refine TC.seq ?_
  refine TC.seq ?_
  refine TC.region ?_
  refine TL.run (pr_pure rfl) rfl ?_
  refine TL.nil ?_
  refine TX.seqN ?_
  refine TC.block ?_
  refine TC.loop4 (V := fun k v ob H1 => [(3, v), (4, .int .i64 k)]) (K := [(0, _), (2, _)]) (L := fun k v ob H1 => St [] w0 H H (ob)) (I := fun k v ob H1 => OwnSl 3 Typing.cells v ((env.take k.toNat).map typingOf) ob ∧ 0 ≤ k ∧ k ≤ env.length) (μ := fun k => (env.length - k).toNat) 0 (.slice none 0 0) [] H ⟨rfl, rfl, rfl, rfl, trivial⟩ ⟨OwnSl.nil, by omega, by simp⟩ (fun w hw => hw) (fun k v ob H1 hI => ?_)
  obtain ⟨hO, h0, h1⟩ := hI
  refine TC.seq ?_
  refine TC.seq ?_
  refine TC.region ?_
  refine TL.run (pr_pure rfl) rfl ?_
  refine TL.run (pr_pure rfl) rfl ?_
  refine TL.run (pr_lenSl rfl rfl hS) rfl ?_
  refine TL.run (pr_pure rfl) rfl ?_
  refine TL.nil ?_
  refine TX.seqN ?_
  refine TC.condD rfl (fun c8 => ?_) (fun c8 => ?_)
  ·
    obtain ⟨x, hx⟩ := getSome h0 c8
    refine TC.skip ?_
    refine TX.seqN ?_
    refine TC.seq ?_
    refine TC.block ?_
    refine TC.drawn (by kernel_rfl) (by kernel_rfl) ?_
    refine TD.leaf [(0, 1), (1, 1), (2, 1), (3, 1), (4, 1), (5, 2), (6, 1), (7, 1), (8, 1), (9, 1), (10, 1), (11, 2), (12, 1), (13, 1), (14, 0), (15, 0), (16, 1)] (by kernel_rfl) (by kernel_rfl) ?_
    refine TF.pure (pr_pure rfl) rfl ?_
    refine TF.pure (pr_pure rfl) rfl ?_
    refine TF.pure (pr_pure rfl) rfl ?_
    refine TF.pure (pr_indexSl rfl hS rfl (by omega) (by omega)) rfl ?_
    refine TF.pure (pr_field rfl) rfl ?_
    refine TF.still (pr_el1 hS hx rfl rfl) rfl ?_
    refine TF.pure (pr_pure rfl) rfl ?_
    refine TF.pure (pr_pure rfl) rfl ?_
    refine TF.pure (pr_indexSl rfl hS rfl (by omega) (by omega)) rfl ?_
    refine TF.pure (pr_field rfl) rfl ?_
    refine TF.pure (pr_field rfl) rfl ?_
    refine TF.still (pr_el2 hS hx rfl rfl) rfl ?_
    refine TF.pure (pr_build rfl rfl) rfl ?_
    refine TF.pure (pr_build rfl rfl) rfl ?_
    refine TF.loud ?_
    refine TL.bslice rfl rfl rfl rfl (fun b25 => ?_)
    refine TF.back ?_
    refine TF.loud ?_
    refine TL.append (enc := Typing.cells) rfl rfl rfl hO (Src.own [⟨_, _, _⟩] (.here _) rfl rfl) (by first | (simp; omega) | omega) rfl (.skip _ .all) rfl (fun a26 c26 ob26 hO26 => ?_)
    refine TF.back ?_
    refine TF.pure (pr_pure rfl) rfl ?_
    refine TF.nil ?_
    refine TX.blkN ?_
    refine TX.seqN ?_
    refine TC.region ?_
    refine TL.run (pr_pure rfl) rfl ?_
    refine TL.run ((by first | exact pr_add rfl rfl (by omega) (by omega) | exact pr_pure rfl)) rfl ?_
    refine TL.run (pr_pure rfl) rfl ?_
    refine TL.nil ?_
    exact TX.round4 (k + 1) _ ob26 H ⟨(by rw [map_take_snoc h0 hx]; exact hO26), by omega, by omega⟩ ⟨rfl, rfl, rfl, rfl, trivial⟩ (fun w hw => hw.drop) (by omega)
  ·
    refine TC.exit ?_
    refine TX.thenE ?_
    refine TX.thenE ?_
    refine TX.blkHit ?_
    refine TX.seqN ?_
    refine TC.seq ?_
    refine TC.region ?_
    refine TL.run (pr_pure rfl) rfl ?_
    refine TL.run (pr_pure rfl) rfl ?_
    refine TL.nil ?_
    refine TX.pubO hO .all (by simp) (fun H1 hle hR => ?_)
    refine TX.seqN ?_
    refine TC.ret ?_
    exact TX.fin0 (.inr rfl) (results1 rfl (RVal.tmp rfl)) (by rw [take_all c8 h0] at hR; exact hR)

set_option maxRecDepth 100000 in
set_option maxHeartbeats 4000000 in
theorem KindSound_ok {H : Hp} {l : List Term} {env : List Bind} {v ve : Value} (root : Int) (hT : RdSl H 6 Term.cells v l) (hE : RdSl H 5 Bind.cells ve env) (hEv : EnvOk H env) (hN : ∀ t ∈ l, t.name.length ≤ 9223372036854775807) :
    FnS Try.prog 5 [v, .int .i64 root, ve] H (.bool true) := by
  have hmax := hE.max
  refine FnS.enter Try.func5 Try.ntmps5 rfl rfl (fun w0 => ?_)
  refine TC.seq ?_
  refine TC.region ?_
  refine TL.run (pr_pure rfl) rfl ?_
  refine TL.nil ?_
  refine TX.seqN ?_
  refine TC.seq ?_
  refine TC.seq ?_
  refine TC.region ?_
  refine TL.callS (enters rfl rfl rfl rfl) (first5_ok) rfl ?_
  refine TL.run (pr_pure rfl) rfl ?_
  refine TL.nil ?_
  refine TX.seqN ?_
  refine TC.cond rfl (fun c13 => ?_) (fun c13 => ?_)
  ·
    exact absurd c13 (by decide)
  ·
    refine TC.skip ?_
    refine TX.seqN ?_
    refine TC.seq ?_
    refine TC.seq ?_
    refine TC.region ?_
    refine TL.run (pr_pure rfl) rfl ?_
    refine TL.run (pr_lenSl rfl rfl hT) rfl ?_
    refine TL.run (pr_pure rfl) rfl ?_
    refine TL.run (pr_pure rfl) rfl ?_
    refine TL.split (s := 17) rfl (fun g17 => ?_) (fun g17 => ?_)
    ·
      have q17 := of_decide_eq_true g17
      refine TL.gdN rfl rfl rfl rfl ?_
      refine TL.gdN rfl rfl rfl rfl ?_
      refine TL.gdN rfl rfl rfl rfl ?_
      refine TL.run (pr_pure rfl) rfl ?_
      refine TL.nil ?_
      refine TX.seqN ?_
      refine TC.condT rfl ?_
      refine TC.seq ?_
      refine TC.region ?_
      refine TL.run (pr_pure rfl) rfl ?_
      refine TL.nil ?_
      refine TX.seqN ?_
      refine TC.ret ?_
      refine TX.thenR ?_
      exact TX.finS (.inr rfl) (results1 rfl (RVal.tmp rfl)) (congrArg Value.bool (by first | rfl | (simp [Snd] at hsnd; simp_all; done) | (simp [Snd] at hsnd; simp_all; omega)))
    ·
      have q17 := of_decide_eq_false g17
      refine TL.gdY rfl rfl (pr_pure rfl) rfl ?_
      refine TL.gdY rfl rfl (pr_lenSl rfl rfl hE) rfl ?_
      refine TL.gdY rfl rfl (pr_pure rfl) rfl ?_
      refine TL.run (pr_pure rfl) rfl ?_
      refine TL.nil ?_
      refine TX.seqN ?_
      refine TC.condD rfl (fun c21 => ?_) (fun c21 => ?_)
      ·
        refine TC.seq ?_
        refine TC.region ?_
        refine TL.run (pr_pure rfl) rfl ?_
        refine TL.nil ?_
        refine TX.seqN ?_
        refine TC.ret ?_
        refine TX.thenR ?_
        exact TX.finS (.inr rfl) (results1 rfl (RVal.tmp rfl)) (congrArg Value.bool (by first | rfl | (simp [Snd] at hsnd; simp_all; done) | (simp [Snd] at hsnd; simp_all; omega)))
      ·
        refine TC.skip ?_
        refine TX.seqN ?_
        refine TC.seq ?_
        refine TC.seq ?_
        refine TC.region ?_
        refine TL.run (pr_pure rfl) rfl ?_
        refine TL.nil ?_
        refine TX.seqN ?_
        refine TC.block ?_
        refine TC.loop (V := fun k => [(7, .int .i64 k)]) (K := [(0, _), (1, _), (2, _), (6, _)]) (L := fun k => _) (I := fun k => 0 ≤ k ∧ k ≤ env.length ∧ (∀ b ∈ env.take k.toNat, mayV b.v = true)) (μ := fun k => (env.length - k).toNat) (i := (0 : Int)) ⟨rfl, rfl, rfl, rfl, rfl, trivial⟩ ⟨by omega, by omega, by simp⟩ (fun w hw => hw) (fun k hI => ?_)
        refine TC.seq ?_
        refine TC.seq ?_
        refine TC.region ?_
        refine TL.run (pr_pure rfl) rfl ?_
        refine TL.run (pr_pure rfl) rfl ?_
        refine TL.run (pr_lenSl rfl rfl hE) rfl ?_
        refine TL.run (pr_pure rfl) rfl ?_
        refine TL.nil ?_
        refine TX.seqN ?_
        refine TC.condD rfl (fun c25 => ?_) (fun c25 => ?_)
        ·
          obtain ⟨x, hx⟩ := getSome (l := env) hI.1 c25
          have hV : RdV H x.lv x.v := hEv x (List.mem_of_getElem? hx)
          refine TC.skip ?_
          refine TX.seqN ?_
          refine TC.seq ?_
          refine TC.block ?_
          refine TC.seq ?_
          refine TC.region ?_
          refine TL.run (pr_pure rfl) rfl ?_
          refine TL.run (pr_pure rfl) rfl ?_
          refine TL.run (pr_indexSl rfl hE rfl (by omega) (by omega)) rfl ?_
          refine TL.run (pr_field rfl) rfl ?_
          refine TL.run (pr_elQ hE hx rfl rfl) rfl ?_
          refine TL.callS (enters rfl rfl rfl rfl) (dMay_ok (x := x.v) (lv := x.lv) hV) rfl ?_
          refine TL.run (pr_pure rfl) rfl ?_
          refine TL.nil ?_
          refine TX.seqN ?_
          refine TC.cond rfl (fun c34 => ?_) (fun c34 => ?_)
          ·
            refine TC.seq ?_
            refine TC.region ?_
            refine TL.run (pr_pure rfl) rfl ?_
            refine TL.nil ?_
            refine TX.seqN ?_
            refine TC.ret ?_
            refine TX.blkR ?_
            refine TX.thenR ?_
            refine TX.thenR ?_
            refine TX.blkR ?_
            refine TX.thenR ?_
            exact TX.finS (.inr rfl) (results1 rfl (RVal.tmp rfl)) (congrArg Value.bool (by first | rfl | (simp [Snd] at hsnd; simp_all; done) | (simp [Snd] at hsnd; simp_all; omega)))
          ·
            refine TC.skip ?_
            refine TX.blkN ?_
            refine TX.seqN ?_
            refine TC.region ?_
            refine TL.run (pr_pure rfl) rfl ?_
            refine TL.run ((by first | exact pr_add rfl rfl (by omega) (by omega) | exact pr_pure rfl)) rfl ?_
            refine TL.run (pr_pure rfl) rfl ?_
            refine TL.nil ?_
            exact TX.round (k + 1) ⟨by omega, by omega, by rw [take_snoc hI.1 hx]; intro b hb; rcases List.mem_append.1 hb with hb | hb; exact hI.2.2 b hb; rw [List.mem_singleton.1 hb]; simpa using c34⟩ ⟨rfl, rfl, rfl, rfl, rfl, trivial⟩ (fun w hw => hw) (by omega)
        ·
          refine TC.exit ?_
          refine TX.thenE ?_
          refine TX.thenE ?_
          refine TX.blkHit ?_
          refine TX.seqN ?_
          refine TC.seq ?_
          refine TC.region ?_
          have hall : ∀ b ∈ env, mayV b.v = true := (fun b hb => hI.2.2 b (by rw [take_all c25 hI.1]; exact hb))
          have hlen : ∀ b ∈ env, b.v.l.length ≤ 100000 := (fun b hb => mayV_len (hall b hb))
          have hsnd := soundB (l := l) (root := root) hall mayB_Tr
          refine TL.run (pr_pure rfl) rfl ?_
          refine TL.run (pr_pure rfl) rfl ?_
          refine TL.run (pr_pure rfl) rfl ?_
          refine TL.call (enters rfl rfl rfl rfl) (typings_ok hE (by omega)) rfl (fun v39 H39 hle39 hp39 => ?_)
          refine TL.callS (enters rfl rfl rfl rfl) (Of_ok root (hT.le hle39) hp39 hN) rfl ?_
          refine TL.run (pr_pure rfl) rfl ?_
          refine TL.run (pr_pure rfl) rfl ?_
          refine TL.run (pr_pure rfl) rfl ?_
          refine TL.run (pr_pure rfl) rfl ?_
          refine TL.run (pr_pure rfl) rfl ?_
          refine TL.nil ?_
          refine TX.seqN ?_
          refine TC.seq ?_
          refine TC.region ?_
          refine TL.run (pr_pure rfl) rfl ?_
          refine TL.run (pr_pure rfl) rfl ?_
          refine TL.run (pr_pure rfl) rfl ?_
          refine TL.call (enters rfl rfl rfl rfl) (Eval_ok root (hT.le hle39) (hE.le hle39) (hEv.le hle39) hlen hN) rfl (fun v47 H47 hle47 hp47 => ?_)
          obtain ⟨lv47, rfl, hR47⟩ := hp47
          obtain ⟨la47, lc47, rfl⟩ := RdSl.len hR47
          refine TL.run (pr_pure rfl) rfl ?_
          refine TL.run (pr_pure rfl) rfl ?_
          refine TL.run (pr_pure rfl) rfl ?_
          refine TL.alloc rfl (fun b10 => ?_)
          refine TL.storeA rfl rfl rfl rfl rfl (.here _) rfl rfl ?_
          refine TL.run (pr_pure rfl) rfl ?_
          refine TL.nil ?_
          refine TX.seqN ?_
          refine TC.seq ?_
          refine TC.seq ?_
          refine TC.region ?_
          refine TL.run (pr_pure rfl) rfl ?_
          refine TL.nil ?_
          refine TX.seqN ?_
          refine TC.block ?_
          refine TC.sw (decide ((ofS l root (env.map typingOf)).2 = 0)) 51 [(6, _), (8, _), (10, _), (11, _), (50, _)] ⟨rfl, rfl, rfl, rfl, rfl, trivial⟩ ?_ ?_
          ·
            exact TC.swE (pr_pure rfl) rfl rfl ⟨rfl, rfl, rfl, rfl, rfl, trivial⟩
          refine TC.condD rfl (fun c51 => ?_) (fun c51 => ?_)
          ·
            refine TC.seq ?_
            refine TC.region ?_
            refine TL.run (pr_pure rfl) rfl ?_
            refine TL.run (pr_pure rfl) rfl ?_
            refine TL.run (pr_pure rfl) rfl ?_
            refine TL.split (s := 55) rfl (fun g55 => ?_) (fun g55 => ?_)
            ·
              have q55 := of_decide_eq_true g55
              refine TL.gdY rfl rfl (pr_field rfl) rfl ?_
              refine TL.gdY rfl rfl (pr_own1 rfl (.here _) rfl) rfl ?_
              refine TL.gdY rfl rfl (pr_pure rfl) rfl ?_
              refine TL.gdY rfl rfl (pr_pure rfl) rfl ?_
              refine TL.run (pr_pure rfl) rfl ?_
              refine TL.run (pr_pure rfl) rfl ?_
              refine TL.split (s := 61) rfl (fun g61 => ?_) (fun g61 => ?_)
              ·
                have q61 := of_decide_eq_true g61
                refine TL.gdY rfl rfl (pr_ownA rfl (.here _) rfl) rfl ?_
                refine TL.callSY rfl rfl (enters rfl rfl rfl rfl) (dMay_ok hR47) rfl ?_
                refine TL.run (pr_pure rfl) rfl ?_
                refine TL.run (pr_pure rfl) rfl ?_
                refine TL.split (s := 65) rfl (fun g65 => ?_) (fun g65 => ?_)
                ·
                  refine TL.gdN rfl rfl rfl rfl ?_
                  refine TL.gdN rfl rfl rfl rfl ?_
                  refine TL.run (pr_pure rfl) rfl ?_
                  refine TL.run (pr_pure rfl) rfl ?_
                  refine TL.gdN rfl rfl rfl rfl ?_
                  refine TL.gdN rfl rfl rfl rfl ?_
                  refine TL.run (pr_pure rfl) rfl ?_
                  refine TL.run (pr_pure rfl) rfl ?_
                  refine TL.gdN rfl rfl rfl rfl ?_
                  refine TL.gdN rfl rfl rfl rfl ?_
                  refine TL.run (pr_pure rfl) rfl ?_
                  refine TL.run (pr_pure rfl) rfl ?_
                  refine TL.nil ?_
                  refine TX.seqN ?_
                  refine TC.ret ?_
                  refine TX.blkR ?_
                  refine TX.thenR ?_
                  exact TX.finS (.inr rfl) (results1 rfl (RVal.tmp rfl)) (congrArg Value.bool (by first | rfl | (simp [Snd] at hsnd; simp_all; done) | (simp [Snd] at hsnd; simp_all; omega)))
                ·
                  refine TL.gdY rfl rfl (pr_pure rfl) rfl ?_
                  refine TL.gdY rfl rfl (pr_pure rfl) rfl ?_
                  refine TL.run (pr_pure rfl) rfl ?_
                  refine TL.run (pr_pure rfl) rfl ?_
                  refine TL.split (s := 69) rfl (fun g69 => ?_) (fun g69 => ?_)
                  ·
                    have q69 := of_decide_eq_true g69
                    refine TL.gdN rfl rfl rfl rfl ?_
                    refine TL.gdN rfl rfl rfl rfl ?_
                    refine TL.run (pr_pure rfl) rfl ?_
                    refine TL.run (pr_pure rfl) rfl ?_
                    refine TL.gdN rfl rfl rfl rfl ?_
                    refine TL.gdN rfl rfl rfl rfl ?_
                    refine TL.run (pr_pure rfl) rfl ?_
                    refine TL.run (pr_pure rfl) rfl ?_
                    refine TL.nil ?_
                    refine TX.seqN ?_
                    refine TC.ret ?_
                    refine TX.blkR ?_
                    refine TX.thenR ?_
                    exact TX.finS (.inr rfl) (results1 rfl (RVal.tmp rfl)) (congrArg Value.bool (by first | rfl | (simp [Snd] at hsnd; simp_all; done) | (simp [Snd] at hsnd; simp_all; omega)))
                  ·
                    have q69 := of_decide_eq_false g69
                    refine TL.gdY rfl rfl (pr_pure rfl) rfl ?_
                    refine TL.gdY rfl rfl (pr_pure rfl) rfl ?_
                    refine TL.run (pr_pure rfl) rfl ?_
                    refine TL.run (pr_pure rfl) rfl ?_
                    refine TL.split (s := 73) rfl (fun g73 => ?_) (fun g73 => ?_)
                    ·
                      have q73 := of_decide_eq_true g73
                      refine TL.gdN rfl rfl rfl rfl ?_
                      refine TL.gdN rfl rfl rfl rfl ?_
                      refine TL.run (pr_pure rfl) rfl ?_
                      refine TL.run (pr_pure rfl) rfl ?_
                      refine TL.nil ?_
                      refine TX.seqN ?_
                      refine TC.ret ?_
                      refine TX.blkR ?_
                      refine TX.thenR ?_
                      exact TX.finS (.inr rfl) (results1 rfl (RVal.tmp rfl)) (congrArg Value.bool (by first | rfl | (simp [Snd] at hsnd; simp_all; done) | (simp [Snd] at hsnd; simp_all; omega)))
                    ·
                      have q73 := of_decide_eq_false g73
                      refine TL.gdY rfl rfl (pr_pure rfl) rfl ?_
                      refine TL.gdY rfl rfl (pr_pure rfl) rfl ?_
                      refine TL.run (pr_pure rfl) rfl ?_
                      refine TL.run (pr_pure rfl) rfl ?_
                      refine TL.nil ?_
                      refine TX.seqN ?_
                      refine TC.ret ?_
                      refine TX.blkR ?_
                      refine TX.thenR ?_
                      exact TX.finS (.inr rfl) (results1 rfl (RVal.tmp rfl)) (congrArg Value.bool (by first | rfl | (simp [Snd] at hsnd; simp_all; done) | (simp [Snd] at hsnd; simp_all; omega)))
              ·
                have q61 := of_decide_eq_false g61
                refine TL.gdN rfl rfl rfl rfl ?_
                refine TL.gdN rfl rfl rfl rfl ?_
                refine TL.run (pr_pure rfl) rfl ?_
                refine TL.run (pr_pure rfl) rfl ?_
                refine TL.gdY rfl rfl (pr_pure rfl) rfl ?_
                refine TL.gdY rfl rfl (pr_pure rfl) rfl ?_
                refine TL.run (pr_pure rfl) rfl ?_
                refine TL.run (pr_pure rfl) rfl ?_
                refine TL.split (s := 69) rfl (fun g69 => ?_) (fun g69 => ?_)
                ·
                  have q69 := of_decide_eq_true g69
                  refine TL.gdN rfl rfl rfl rfl ?_
                  refine TL.gdN rfl rfl rfl rfl ?_
                  refine TL.run (pr_pure rfl) rfl ?_
                  refine TL.run (pr_pure rfl) rfl ?_
                  refine TL.gdN rfl rfl rfl rfl ?_
                  refine TL.gdN rfl rfl rfl rfl ?_
                  refine TL.run (pr_pure rfl) rfl ?_
                  refine TL.run (pr_pure rfl) rfl ?_
                  refine TL.nil ?_
                  refine TX.seqN ?_
                  refine TC.ret ?_
                  refine TX.blkR ?_
                  refine TX.thenR ?_
                  exact TX.finS (.inr rfl) (results1 rfl (RVal.tmp rfl)) (congrArg Value.bool (by first | rfl | (simp [Snd] at hsnd; simp_all; done) | (simp [Snd] at hsnd; simp_all; omega)))
                ·
                  have q69 := of_decide_eq_false g69
                  refine TL.gdY rfl rfl (pr_pure rfl) rfl ?_
                  refine TL.gdY rfl rfl (pr_pure rfl) rfl ?_
                  refine TL.run (pr_pure rfl) rfl ?_
                  refine TL.run (pr_pure rfl) rfl ?_
                  refine TL.split (s := 73) rfl (fun g73 => ?_) (fun g73 => ?_)
                  ·
                    have q73 := of_decide_eq_true g73
                    refine TL.gdN rfl rfl rfl rfl ?_
                    refine TL.gdN rfl rfl rfl rfl ?_
                    refine TL.run (pr_pure rfl) rfl ?_
                    refine TL.run (pr_pure rfl) rfl ?_
                    refine TL.nil ?_
                    refine TX.seqN ?_
                    refine TC.ret ?_
                    refine TX.blkR ?_
                    refine TX.thenR ?_
                    exact TX.finS (.inr rfl) (results1 rfl (RVal.tmp rfl)) (congrArg Value.bool (by first | rfl | (simp [Snd] at hsnd; simp_all; done) | (simp [Snd] at hsnd; simp_all; omega)))
                  ·
                    have q73 := of_decide_eq_false g73
                    refine TL.gdY rfl rfl (pr_pure rfl) rfl ?_
                    refine TL.gdY rfl rfl (pr_pure rfl) rfl ?_
                    refine TL.run (pr_pure rfl) rfl ?_
                    refine TL.run (pr_pure rfl) rfl ?_
                    refine TL.nil ?_
                    refine TX.seqN ?_
                    refine TC.ret ?_
                    refine TX.blkR ?_
                    refine TX.thenR ?_
                    exact TX.finS (.inr rfl) (results1 rfl (RVal.tmp rfl)) (congrArg Value.bool (by first | rfl | (simp [Snd] at hsnd; simp_all; done) | (simp [Snd] at hsnd; simp_all; omega)))
            ·
              have q55 := of_decide_eq_false g55
              refine TL.gdN rfl rfl rfl rfl ?_
              refine TL.gdN rfl rfl rfl rfl ?_
              refine TL.gdN rfl rfl rfl rfl ?_
              refine TL.gdN rfl rfl rfl rfl ?_
              refine TL.run (pr_pure rfl) rfl ?_
              refine TL.run (pr_pure rfl) rfl ?_
              refine TL.gdN rfl rfl rfl rfl ?_
              refine TL.gdN rfl rfl rfl rfl ?_
              refine TL.run (pr_pure rfl) rfl ?_
              refine TL.run (pr_pure rfl) rfl ?_
              refine TL.gdY rfl rfl (pr_pure rfl) rfl ?_
              refine TL.gdY rfl rfl (pr_pure rfl) rfl ?_
              refine TL.run (pr_pure rfl) rfl ?_
              refine TL.run (pr_pure rfl) rfl ?_
              refine TL.split (s := 69) rfl (fun g69 => ?_) (fun g69 => ?_)
              ·
                have q69 := of_decide_eq_true g69
                refine TL.gdN rfl rfl rfl rfl ?_
                refine TL.gdN rfl rfl rfl rfl ?_
                refine TL.run (pr_pure rfl) rfl ?_
                refine TL.run (pr_pure rfl) rfl ?_
                refine TL.gdN rfl rfl rfl rfl ?_
                refine TL.gdN rfl rfl rfl rfl ?_
                refine TL.run (pr_pure rfl) rfl ?_
                refine TL.run (pr_pure rfl) rfl ?_
                refine TL.nil ?_
                refine TX.seqN ?_
                refine TC.ret ?_
                refine TX.blkR ?_
                refine TX.thenR ?_
                exact TX.finS (.inr rfl) (results1 rfl (RVal.tmp rfl)) (congrArg Value.bool (by first | rfl | (simp [Snd] at hsnd; simp_all; done) | (simp [Snd] at hsnd; simp_all; omega)))
              ·
                have q69 := of_decide_eq_false g69
                refine TL.gdY rfl rfl (pr_pure rfl) rfl ?_
                refine TL.gdY rfl rfl (pr_pure rfl) rfl ?_
                refine TL.run (pr_pure rfl) rfl ?_
                refine TL.run (pr_pure rfl) rfl ?_
                refine TL.split (s := 73) rfl (fun g73 => ?_) (fun g73 => ?_)
                ·
                  have q73 := of_decide_eq_true g73
                  refine TL.gdN rfl rfl rfl rfl ?_
                  refine TL.gdN rfl rfl rfl rfl ?_
                  refine TL.run (pr_pure rfl) rfl ?_
                  refine TL.run (pr_pure rfl) rfl ?_
                  refine TL.nil ?_
                  refine TX.seqN ?_
                  refine TC.ret ?_
                  refine TX.blkR ?_
                  refine TX.thenR ?_
                  exact TX.finS (.inr rfl) (results1 rfl (RVal.tmp rfl)) (congrArg Value.bool (by first | rfl | (simp [Snd] at hsnd; simp_all; done) | (simp [Snd] at hsnd; simp_all; omega)))
                ·
                  have q73 := of_decide_eq_false g73
                  refine TL.gdY rfl rfl (pr_pure rfl) rfl ?_
                  refine TL.gdY rfl rfl (pr_pure rfl) rfl ?_
                  refine TL.run (pr_pure rfl) rfl ?_
                  refine TL.run (pr_pure rfl) rfl ?_
                  refine TL.nil ?_
                  refine TX.seqN ?_
                  refine TC.ret ?_
                  refine TX.blkR ?_
                  refine TX.thenR ?_
                  exact TX.finS (.inr rfl) (results1 rfl (RVal.tmp rfl)) (congrArg Value.bool (by first | rfl | (simp [Snd] at hsnd; simp_all; done) | (simp [Snd] at hsnd; simp_all; omega)))
          ·
            refine TC.sw (decide ((ofS l root (env.map typingOf)).2 = 501) || decide ((ofS l root (env.map typingOf)).2 = 502)) 77 [(6, _), (11, _)] ⟨rfl, rfl, trivial⟩ ?_ ?_
            ·
              refine TC.swG (pr_pure rfl) rfl rfl ⟨rfl, rfl, trivial⟩ ?_
              exact TC.swE (pr_pure rfl) rfl rfl ⟨rfl, rfl, trivial⟩
            refine TC.cond rfl (fun c77 => ?_) (fun c77 => ?_)
            ·
              refine TC.seq ?_
              refine TC.region ?_
              refine TL.run (pr_pure rfl) rfl ?_
              refine TL.run (pr_pure rfl) rfl ?_
              refine TL.run (pr_pure rfl) rfl ?_
              refine TL.nil ?_
              refine TX.seqN ?_
              refine TC.ret ?_
              refine TX.blkR ?_
              refine TX.thenR ?_
              exact TX.finS (.inr rfl) (results1 rfl (RVal.tmp rfl)) (congrArg Value.bool (by first | rfl | (simp [Snd] at hsnd; simp_all; done) | (simp [Snd] at hsnd; simp_all; omega)))
            ·
              refine TC.skip ?_
              refine TX.blkN ?_
              refine TX.seqN ?_
              refine TC.seq ?_
              refine TC.region ?_
              refine TL.run (pr_pure rfl) rfl ?_
              refine TL.run (pr_pure rfl) rfl ?_
              refine TL.run (pr_pure rfl) rfl ?_
              refine TL.nil ?_
              refine TX.seqN ?_
              refine TC.ret ?_
              exact TX.finS (.inr rfl) (results1 rfl (RVal.tmp rfl)) (congrArg Value.bool (by first | rfl | (simp [Snd] at hsnd; simp_all; done) | (simp [Snd] at hsnd; simp_all; omega)))

set_option maxRecDepth 100000 in
set_option maxHeartbeats 4000000 in
theorem KindMore_ok {H : Hp} {a b c d : Val} {la lb lc ld : Value} (kd : Int) (hA : RdV H la a) (hB : RdV H lb b) (hC : RdV H lc c) (hD : RdV H ld d) :
    FnS Try.prog 6 [.int .i64 kd, .agg (a.cells la).toArray, .agg (b.cells lb).toArray, .agg (c.cells lc).toArray, .agg (d.cells ld).toArray] H (.bool true) := by
  have hk : 6 ≤ 6 + kd % 18446744073709551616 % 14 ∧ 6 + kd % 18446744073709551616 % 14 ≤ 19 := by omega
  refine FnS.enter Try.func6 Try.ntmps6 rfl rfl (fun w0 => ?_)
  refine TC.seq ?_
  refine TC.region ?_
  refine TL.box rfl rfl (fun b6 => ?_)
  refine TL.box rfl rfl (fun b7 => ?_)
  refine TL.box rfl rfl (fun b8 => ?_)
  refine TL.box rfl rfl (fun b9 => ?_)
  refine TL.run (pr_pure rfl) rfl ?_
  refine TL.nil ?_
  refine TX.seqN ?_
  refine TC.seq ?_
  refine TC.seq ?_
  refine TC.region ?_
  refine TL.callS (enters rfl rfl rfl rfl) (first5_ok) rfl ?_
  refine TL.run (pr_pure rfl) rfl ?_
  refine TL.nil ?_
  refine TX.seqN ?_
  refine TC.cond rfl (fun c22 => ?_) (fun c22 => ?_)
  ·
    exact absurd c22 (by decide)
  ·
    refine TC.skip ?_
    refine TX.seqN ?_
    refine TC.seq ?_
    refine TC.seq ?_
    refine TC.region ?_
    refine TL.run (pr_field rfl) rfl ?_
    refine TL.run (pr_own1 rfl (.there _ (.there _ (.there _ (.here _)))) rfl) rfl ?_
    refine TL.run (pr_field rfl) rfl ?_
    refine TL.run (pr_own1 rfl (.there _ (.here _)) rfl) rfl ?_
    refine TL.run (pr_pure rfl) rfl ?_
    refine TL.run (pr_pure rfl) rfl ?_
    refine TL.split (s := 28) rfl (fun g28 => ?_) (fun g28 => ?_)
    ·
      have q28 := of_ndec_true g28
      refine TL.gdN rfl rfl rfl rfl ?_
      refine TL.gdN rfl rfl rfl rfl ?_
      refine TL.gdN rfl rfl rfl rfl ?_
      refine TL.gdN rfl rfl rfl rfl ?_
      refine TL.gdN rfl rfl rfl rfl ?_
      refine TL.run (pr_pure rfl) rfl ?_
      refine TL.run (pr_pure rfl) rfl ?_
      refine TL.gdN rfl rfl rfl rfl ?_
      refine TL.gdN rfl rfl rfl rfl ?_
      refine TL.gdN rfl rfl rfl rfl ?_
      refine TL.run (pr_pure rfl) rfl ?_
      refine TL.run (pr_pure rfl) rfl ?_
      refine TL.gdN rfl rfl rfl rfl ?_
      refine TL.gdN rfl rfl rfl rfl ?_
      refine TL.gdN rfl rfl rfl rfl ?_
      refine TL.run (pr_pure rfl) rfl ?_
      refine TL.run (pr_pure rfl) rfl ?_
      refine TL.gdN rfl rfl rfl rfl ?_
      refine TL.gdN rfl rfl rfl rfl ?_
      refine TL.gdN rfl rfl rfl rfl ?_
      refine TL.run (pr_pure rfl) rfl ?_
      refine TL.run (pr_pure rfl) rfl ?_
      refine TL.gdN rfl rfl rfl rfl ?_
      refine TL.gdN rfl rfl rfl rfl ?_
      refine TL.gdN rfl rfl rfl rfl ?_
      refine TL.run (pr_pure rfl) rfl ?_
      refine TL.nil ?_
      refine TX.seqN ?_
      refine TC.condT rfl ?_
      refine TC.seq ?_
      refine TC.region ?_
      refine TL.run (pr_pure rfl) rfl ?_
      refine TL.nil ?_
      refine TX.seqN ?_
      refine TC.ret ?_
      refine TX.thenR ?_
      exact TX.finS (.inr rfl) (results1 rfl (RVal.tmp rfl)) (congrArg Value.bool (by first | rfl | (rcases hm with hm | hm <;> simp_all)))
    ·
      have q28 := of_ndec_false g28
      refine TL.gdY rfl rfl (pr_field rfl) rfl ?_
      refine TL.gdY rfl rfl (pr_own1 rfl (.there _ (.there _ (.here _))) rfl) rfl ?_
      refine TL.gdY rfl rfl (pr_field rfl) rfl ?_
      refine TL.gdY rfl rfl (pr_own1 rfl (.here _) rfl) rfl ?_
      refine TL.gdY rfl rfl (pr_pure rfl) rfl ?_
      refine TL.run (pr_pure rfl) rfl ?_
      refine TL.run (pr_pure rfl) rfl ?_
      refine TL.split (s := 35) rfl (fun g35 => ?_) (fun g35 => ?_)
      ·
        have q35 := of_ndec_true g35
        refine TL.gdN rfl rfl rfl rfl ?_
        refine TL.gdN rfl rfl rfl rfl ?_
        refine TL.gdN rfl rfl rfl rfl ?_
        refine TL.run (pr_pure rfl) rfl ?_
        refine TL.run (pr_pure rfl) rfl ?_
        refine TL.gdN rfl rfl rfl rfl ?_
        refine TL.gdN rfl rfl rfl rfl ?_
        refine TL.gdN rfl rfl rfl rfl ?_
        refine TL.run (pr_pure rfl) rfl ?_
        refine TL.run (pr_pure rfl) rfl ?_
        refine TL.gdN rfl rfl rfl rfl ?_
        refine TL.gdN rfl rfl rfl rfl ?_
        refine TL.gdN rfl rfl rfl rfl ?_
        refine TL.run (pr_pure rfl) rfl ?_
        refine TL.run (pr_pure rfl) rfl ?_
        refine TL.gdN rfl rfl rfl rfl ?_
        refine TL.gdN rfl rfl rfl rfl ?_
        refine TL.gdN rfl rfl rfl rfl ?_
        refine TL.run (pr_pure rfl) rfl ?_
        refine TL.nil ?_
        refine TX.seqN ?_
        refine TC.condT rfl ?_
        refine TC.seq ?_
        refine TC.region ?_
        refine TL.run (pr_pure rfl) rfl ?_
        refine TL.nil ?_
        refine TX.seqN ?_
        refine TC.ret ?_
        refine TX.thenR ?_
        exact TX.finS (.inr rfl) (results1 rfl (RVal.tmp rfl)) (congrArg Value.bool (by first | rfl | (rcases hm with hm | hm <;> simp_all)))
      ·
        have q35 := of_ndec_false g35
        refine TL.gdY rfl rfl (pr_ownA rfl (.there _ (.there _ (.there _ (.here _)))) rfl) rfl ?_
        refine TL.callSY rfl rfl (enters rfl rfl rfl rfl) (dMay_ok (x := a) (lv := la) hA) rfl ?_
        refine TL.gdY rfl rfl (pr_pure rfl) rfl ?_
        refine TL.run (pr_pure rfl) rfl ?_
        refine TL.run (pr_pure rfl) rfl ?_
        refine TL.split (s := 40) rfl (fun g40 => ?_) (fun g40 => ?_)
        ·
          refine TL.gdN rfl rfl rfl rfl ?_
          refine TL.gdN rfl rfl rfl rfl ?_
          refine TL.gdN rfl rfl rfl rfl ?_
          refine TL.run (pr_pure rfl) rfl ?_
          refine TL.run (pr_pure rfl) rfl ?_
          refine TL.gdN rfl rfl rfl rfl ?_
          refine TL.gdN rfl rfl rfl rfl ?_
          refine TL.gdN rfl rfl rfl rfl ?_
          refine TL.run (pr_pure rfl) rfl ?_
          refine TL.run (pr_pure rfl) rfl ?_
          refine TL.gdN rfl rfl rfl rfl ?_
          refine TL.gdN rfl rfl rfl rfl ?_
          refine TL.gdN rfl rfl rfl rfl ?_
          refine TL.run (pr_pure rfl) rfl ?_
          refine TL.nil ?_
          refine TX.seqN ?_
          refine TC.condT rfl ?_
          refine TC.seq ?_
          refine TC.region ?_
          refine TL.run (pr_pure rfl) rfl ?_
          refine TL.nil ?_
          refine TX.seqN ?_
          refine TC.ret ?_
          refine TX.thenR ?_
          exact TX.finS (.inr rfl) (results1 rfl (RVal.tmp rfl)) (congrArg Value.bool (by first | rfl | (rcases hm with hm | hm <;> simp_all)))
        ·
          refine TL.gdY rfl rfl (pr_ownA rfl (.there _ (.there _ (.here _))) rfl) rfl ?_
          refine TL.callSY rfl rfl (enters rfl rfl rfl rfl) (dMay_ok (x := b) (lv := lb) hB) rfl ?_
          refine TL.gdY rfl rfl (pr_pure rfl) rfl ?_
          refine TL.run (pr_pure rfl) rfl ?_
          refine TL.run (pr_pure rfl) rfl ?_
          refine TL.split (s := 45) rfl (fun g45 => ?_) (fun g45 => ?_)
          ·
            refine TL.gdN rfl rfl rfl rfl ?_
            refine TL.gdN rfl rfl rfl rfl ?_
            refine TL.gdN rfl rfl rfl rfl ?_
            refine TL.run (pr_pure rfl) rfl ?_
            refine TL.run (pr_pure rfl) rfl ?_
            refine TL.gdN rfl rfl rfl rfl ?_
            refine TL.gdN rfl rfl rfl rfl ?_
            refine TL.gdN rfl rfl rfl rfl ?_
            refine TL.run (pr_pure rfl) rfl ?_
            refine TL.nil ?_
            refine TX.seqN ?_
            refine TC.condT rfl ?_
            refine TC.seq ?_
            refine TC.region ?_
            refine TL.run (pr_pure rfl) rfl ?_
            refine TL.nil ?_
            refine TX.seqN ?_
            refine TC.ret ?_
            refine TX.thenR ?_
            exact TX.finS (.inr rfl) (results1 rfl (RVal.tmp rfl)) (congrArg Value.bool (by first | rfl | (rcases hm with hm | hm <;> simp_all)))
          ·
            refine TL.gdY rfl rfl (pr_ownA rfl (.there _ (.here _)) rfl) rfl ?_
            refine TL.callSY rfl rfl (enters rfl rfl rfl rfl) (dMay_ok (x := c) (lv := lc) hC) rfl ?_
            refine TL.gdY rfl rfl (pr_pure rfl) rfl ?_
            refine TL.run (pr_pure rfl) rfl ?_
            refine TL.run (pr_pure rfl) rfl ?_
            refine TL.split (s := 50) rfl (fun g50 => ?_) (fun g50 => ?_)
            ·
              refine TL.gdN rfl rfl rfl rfl ?_
              refine TL.gdN rfl rfl rfl rfl ?_
              refine TL.gdN rfl rfl rfl rfl ?_
              refine TL.run (pr_pure rfl) rfl ?_
              refine TL.nil ?_
              refine TX.seqN ?_
              refine TC.condT rfl ?_
              refine TC.seq ?_
              refine TC.region ?_
              refine TL.run (pr_pure rfl) rfl ?_
              refine TL.nil ?_
              refine TX.seqN ?_
              refine TC.ret ?_
              refine TX.thenR ?_
              exact TX.finS (.inr rfl) (results1 rfl (RVal.tmp rfl)) (congrArg Value.bool (by first | rfl | (rcases hm with hm | hm <;> simp_all)))
            ·
              refine TL.gdY rfl rfl (pr_ownA rfl (.here _) rfl) rfl ?_
              refine TL.callSY rfl rfl (enters rfl rfl rfl rfl) (dMay_ok (x := d) (lv := ld) hD) rfl ?_
              refine TL.gdY rfl rfl (pr_pure rfl) rfl ?_
              refine TL.run (pr_pure rfl) rfl ?_
              refine TL.nil ?_
              refine TX.seqN ?_
              refine TC.cond rfl (fun c54 => ?_) (fun c54 => ?_)
              ·
                refine TC.seq ?_
                refine TC.region ?_
                refine TL.run (pr_pure rfl) rfl ?_
                refine TL.nil ?_
                refine TX.seqN ?_
                refine TC.ret ?_
                refine TX.thenR ?_
                exact TX.finS (.inr rfl) (results1 rfl (RVal.tmp rfl)) (congrArg Value.bool (by first | rfl | (rcases hm with hm | hm <;> simp_all)))
              ·
                have ac : a.k = c.k := by simp_all
                have bd : b.k = d.k := by simp_all
                have ma : mayV a = true := by simp_all
                have mb : mayV b = true := by simp_all
                have mc : mayV c = true := by simp_all
                have md : mayV d = true := by simp_all
                refine TC.skip ?_
                refine TX.seqN ?_
                refine TC.seq ?_
                refine TC.region ?_
                refine TL.run (pr_pure rfl) rfl ?_
                refine TL.run (pr_conv rfl) rfl ?_
                refine TL.run (pr_rem rfl rfl (by decide)) rfl ?_
                refine TL.run (PR.to (pr_conv rfl) (congrArg (Value.int .i64) (mod_conv kd (m := 14) (by decide) (by decide)))) rfl ?_
                refine TL.run (pr_add rfl rfl (by omega) (by omega)) rfl ?_
                refine TL.run (pr_pure rfl) rfl ?_
                refine TL.nil ?_
                refine TX.seqN ?_
                refine TC.mid (V := fun k => [(11, .int .i64 k)]) (K := [(6, _), (7, _), (8, _), (9, _), (10, _)]) ⟨rfl, rfl, rfl, rfl, rfl, trivial⟩ (L := fun k => St [] w0 H H [(b9, d.cells ld), (b8, c.cells lc), (b7, b.cells lb), (b6, a.cells la)]) (I := fun k => 6 ≤ k ∧ k ≤ 19 ∧ ¬ k = 15 ∧ ¬ k = 16) ?_ ?_
                ·
                  refine TC.seq ?_
                  refine TC.region ?_
                  refine TL.run (pr_pure rfl) rfl ?_
                  refine TL.run (pr_pure rfl) rfl ?_
                  refine TL.run (pr_pure rfl) rfl ?_
                  refine TL.split (s := 62) rfl (fun g62 => ?_) (fun g62 => ?_)
                  ·
                    have q62 := of_decide_eq_true g62
                    refine TL.gdN rfl rfl rfl rfl ?_
                    refine TL.gdN rfl rfl rfl rfl ?_
                    refine TL.run (pr_pure rfl) rfl ?_
                    refine TL.nil ?_
                    refine TX.seqN ?_
                    refine TC.condT rfl ?_
                    refine TC.region ?_
                    refine TL.run (pr_pure rfl) rfl ?_
                    refine TL.nil ?_
                    exact TX.mid 11 (by omega) ⟨rfl, rfl, rfl, rfl, rfl, rfl, trivial⟩ (fun w hw => hw)
                  ·
                    have q62 := of_decide_eq_false g62
                    refine TL.gdY rfl rfl (pr_pure rfl) rfl ?_
                    refine TL.gdY rfl rfl (pr_pure rfl) rfl ?_
                    refine TL.run (pr_pure rfl) rfl ?_
                    refine TL.nil ?_
                    refine TX.seqN ?_
                    refine TC.condD rfl (fun c65 => ?_) (fun c65 => ?_)
                    ·
                      refine TC.region ?_
                      refine TL.run (pr_pure rfl) rfl ?_
                      refine TL.nil ?_
                      exact TX.mid 11 (by omega) ⟨rfl, rfl, rfl, rfl, rfl, rfl, trivial⟩ (fun w hw => hw)
                    ·
                      refine TC.skip ?_
                      exact TX.mid (6 + kd % 18446744073709551616 % 14) (by omega) ⟨rfl, rfl, rfl, rfl, rfl, rfl, trivial⟩ (fun w hw => hw)
                ·
                  intro k hI
                  replace hI : (6 ≤ k ∧ k ≤ 19) ∧ ¬ k = 15 ∧ ¬ k = 16 := by omega
                  refine TC.seq ?_
                  refine TC.region ?_
                  refine TL.run (pr_build rfl rfl) rfl ?_
                  refine TL.run (pr_build rfl rfl) rfl ?_
                  refine TL.run (pr_pure rfl) rfl ?_
                  refine TL.run (pr_build rfl rfl) rfl ?_
                  refine TL.bslice rfl rfl rfl rfl (fun b70 => ?_)
                  refine TL.run (pr_pure rfl) rfl ?_
                  refine TL.nil ?_
                  refine TX.seqN ?_
                  refine TC.seq ?_
                  refine TC.region ?_
                  refine TL.run (pr_ownA rfl (.there _ (.there _ (.there _ (.there _ (.here _))))) rfl) rfl ?_
                  refine TL.run (pr_build rfl rfl) rfl ?_
                  refine TL.run (pr_ownA rfl (.there _ (.there _ (.there _ (.here _)))) rfl) rfl ?_
                  refine TL.run (pr_build rfl rfl) rfl ?_
                  refine TL.bslice rfl rfl rfl rfl (fun b75 => ?_)
                  refine TL.run (pr_pure rfl) rfl ?_
                  refine TL.nil ?_
                  refine TX.seqN ?_
                  refine TC.seq ?_
                  refine TC.region ?_
                  refine TL.run (pr_ownA rfl (.there _ (.there _ (.there _ (.here _)))) rfl) rfl ?_
                  refine TL.run (pr_build rfl rfl) rfl ?_
                  refine TL.run (pr_ownA rfl (.there _ (.there _ (.here _))) rfl) rfl ?_
                  refine TL.run (pr_build rfl rfl) rfl ?_
                  refine TL.bslice rfl rfl rfl rfl (fun b80 => ?_)
                  refine TL.run (pr_pure rfl) rfl ?_
                  refine TL.nil ?_
                  refine TX.seqN ?_
                  refine TC.seq ?_
                  refine TC.region ?_
                  refine TL.pub (by simp) (fun H_b80 le_b80 rd_b80 => ?_)
                  refine TL.pub (by simp) (fun H_b75 le_b75 rd_b75 => ?_)
                  refine TL.pub (by simp) (fun H_b70 le_b70 rd_b70 => ?_)
                  have hT : RdSl H_b70 6 Term.cells _ (pqT k) := RdSl.blk (cap := 3) rd_b70 (by intro x hx; rfl) rfl (by simp [pqT])
                  have hX : RdSl H_b70 5 Bind.cells _ (pqE a b la lb) := (RdSl.blk (cap := 2) rd_b75 (by intro x hx; rfl) rfl (by simp [pqE])).le le_b70
                  have hY : RdSl H_b70 5 Bind.cells _ (pqE c d lc ld) := ((RdSl.blk (cap := 2) rd_b80 (by intro x hx; rfl) rfl (by simp [pqE])).le le_b75).le le_b70
                  have hXE : EnvOk H_b70 (pqE a b la lb) := pq_env (((hA.le le_b80).le le_b75).le le_b70) (((hB.le le_b80).le le_b75).le le_b70)
                  have hYE : EnvOk H_b70 (pqE c d lc ld) := pq_env (((hC.le le_b80).le le_b75).le le_b70) (((hD.le le_b80).le le_b75).le le_b70)
                  have hm := pq_more (la := la) (lb := lb) (lc := lc) (ld := ld) hI.1 hI.2.1 hI.2.2 ma mb mc md ac bd
                  have hN : ∀ t ∈ pqT k, t.name.length ≤ 9223372036854775807 := by intro t ht; simp only [pqT, List.mem_cons, List.not_mem_nil, or_false] at ht; rcases ht with rfl | rfl | rfl <;> simp
                  refine TL.run (pr_pure rfl) rfl ?_
                  refine TL.run (pr_pure rfl) rfl ?_
                  refine TL.call (enters rfl rfl rfl rfl) (typings_ok hX (by simp [pqE])) rfl (fun v84 H84 hle84 hp84 => ?_)
                  refine TL.callS (enters rfl rfl rfl rfl) (Of_ok 2 (hT.le hle84) hp84 hN) rfl ?_
                  refine TL.run (pr_pure rfl) rfl ?_
                  refine TL.run (pr_pure rfl) rfl ?_
                  refine TL.run (pr_pure rfl) rfl ?_
                  refine TL.run (pr_pure rfl) rfl ?_
                  refine TL.run (pr_pure rfl) rfl ?_
                  refine TL.nil ?_
                  refine TX.seqN ?_
                  refine TC.seq ?_
                  refine TC.region ?_
                  refine TL.run (pr_pure rfl) rfl ?_
                  refine TL.run (pr_pure rfl) rfl ?_
                  refine TL.call (enters rfl rfl rfl rfl) (Eval_ok 2 (hT.le hle84) (hX.le hle84) (hXE.le hle84) (pq_len ma mb) hN) rfl (fun v91 H91 hle91 hp91 => ?_)
                  obtain ⟨lv91, rfl, hR91⟩ := hp91
                  obtain ⟨la91, lc91, rfl⟩ := RdSl.len hR91
                  refine TL.run (pr_pure rfl) rfl ?_
                  refine TL.run (pr_pure rfl) rfl ?_
                  refine TL.run (pr_pure rfl) rfl ?_
                  refine TL.alloc rfl (fun b17 => ?_)
                  refine TL.storeA rfl rfl rfl rfl rfl (.here _) rfl rfl ?_
                  refine TL.run (pr_pure rfl) rfl ?_
                  refine TL.nil ?_
                  refine TX.seqN ?_
                  refine TC.seq ?_
                  refine TC.region ?_
                  refine TL.run (pr_pure rfl) rfl ?_
                  refine TL.run (pr_pure rfl) rfl ?_
                  refine TL.call (enters rfl rfl rfl rfl) (Eval_ok 2 ((hT.le hle84).le hle91) ((hY.le hle84).le hle91) ((hYE.le hle84).le hle91) (pq_len mc md) hN) rfl (fun v97 H97 hle97 hp97 => ?_)
                  obtain ⟨lv97, rfl, hR97⟩ := hp97
                  obtain ⟨la97, lc97, rfl⟩ := RdSl.len hR97
                  refine TL.run (pr_pure rfl) rfl ?_
                  refine TL.run (pr_pure rfl) rfl ?_
                  refine TL.run (pr_pure rfl) rfl ?_
                  refine TL.alloc rfl (fun b19 => ?_)
                  refine TL.storeA rfl rfl rfl rfl rfl (.here _) rfl rfl ?_
                  refine TL.run (pr_pure rfl) rfl ?_
                  refine TL.nil ?_
                  refine TX.seqN ?_
                  refine TC.seq ?_
                  refine TC.seq ?_
                  refine TC.region ?_
                  refine TL.run (pr_pure rfl) rfl ?_
                  refine TL.run (pr_pure rfl) rfl ?_
                  refine TL.nil ?_
                  refine TX.seqN ?_
                  refine TC.condND rfl (fun c101 => ?_) (fun c101 => ?_)
                  ·
                    refine TC.seq ?_
                    refine TC.region ?_
                    refine TL.run (pr_pure rfl) rfl ?_
                    refine TL.run (pr_pure rfl) rfl ?_
                    refine TL.run (pr_pure rfl) rfl ?_
                    refine TL.split (s := 104) rfl (fun g104 => ?_) (fun g104 => ?_)
                    ·
                      have q104 := of_decide_eq_true g104
                      refine TL.gdY rfl rfl (pr_pure rfl) rfl ?_
                      refine TL.gdY rfl rfl (pr_pure rfl) rfl ?_
                      refine TL.run (pr_pure rfl) rfl ?_
                      refine TL.run (pr_pure rfl) rfl ?_
                      refine TL.split (s := 108) rfl (fun g108 => ?_) (fun g108 => ?_)
                      ·
                        have q108 := of_decide_eq_true g108
                        refine TL.gdY rfl rfl (pr_pure rfl) rfl ?_
                        refine TL.gdY rfl rfl (pr_pure rfl) rfl ?_
                        refine TL.run (pr_pure rfl) rfl ?_
                        refine TL.run (pr_pure rfl) rfl ?_
                        refine TL.nil ?_
                        refine TX.seqN ?_
                        refine TC.ret ?_
                        refine TX.thenR ?_
                        exact TX.finS (.inr rfl) (results1 rfl (RVal.tmp rfl)) (congrArg Value.bool (by first | rfl | (rcases hm with hm | hm <;> simp_all)))
                      ·
                        have q108 := of_decide_eq_false g108
                        refine TL.gdN rfl rfl rfl rfl ?_
                        refine TL.gdN rfl rfl rfl rfl ?_
                        refine TL.run (pr_pure rfl) rfl ?_
                        refine TL.run (pr_pure rfl) rfl ?_
                        refine TL.nil ?_
                        refine TX.seqN ?_
                        refine TC.ret ?_
                        refine TX.thenR ?_
                        exact TX.finS (.inr rfl) (results1 rfl (RVal.tmp rfl)) (congrArg Value.bool (by first | rfl | (rcases hm with hm | hm <;> simp_all)))
                    ·
                      have q104 := of_decide_eq_false g104
                      refine TL.gdN rfl rfl rfl rfl ?_
                      refine TL.gdN rfl rfl rfl rfl ?_
                      refine TL.run (pr_pure rfl) rfl ?_
                      refine TL.run (pr_pure rfl) rfl ?_
                      refine TL.gdN rfl rfl rfl rfl ?_
                      refine TL.gdN rfl rfl rfl rfl ?_
                      refine TL.run (pr_pure rfl) rfl ?_
                      refine TL.run (pr_pure rfl) rfl ?_
                      refine TL.nil ?_
                      refine TX.seqN ?_
                      refine TC.ret ?_
                      refine TX.thenR ?_
                      exact TX.finS (.inr rfl) (results1 rfl (RVal.tmp rfl)) (congrArg Value.bool (by first | rfl | (rcases hm with hm | hm <;> simp_all)))
                  ·
                    refine TC.skip ?_
                    refine TX.seqN ?_
                    refine TC.seq ?_
                    refine TC.region ?_
                    refine TL.run (pr_pure rfl) rfl ?_
                    refine TL.run (pr_pure rfl) rfl ?_
                    refine TL.run (pr_pure rfl) rfl ?_
                    refine TL.split (s := 114) rfl (fun g114 => ?_) (fun g114 => ?_)
                    ·
                      have q114 := of_ndec_true g114
                      refine TL.gdN rfl rfl rfl rfl ?_
                      refine TL.gdN rfl rfl rfl rfl ?_
                      refine TL.gdN rfl rfl rfl rfl ?_
                      refine TL.gdN rfl rfl rfl rfl ?_
                      refine TL.run (pr_pure rfl) rfl ?_
                      refine TL.run (pr_pure rfl) rfl ?_
                      refine TL.gdY rfl rfl (pr_pure rfl) rfl ?_
                      refine TL.gdY rfl rfl (pr_pure rfl) rfl ?_
                      refine TL.gdY rfl rfl (pr_pure rfl) rfl ?_
                      refine TL.split (s := 123) rfl (fun g123 => ?_) (fun g123 => ?_)
                      ·
                        have q123 := of_ndec_true g123
                        refine TL.gdN rfl rfl rfl rfl ?_
                        refine TL.gdN rfl rfl rfl rfl ?_
                        refine TL.gdN rfl rfl rfl rfl ?_
                        refine TL.gdN rfl rfl rfl rfl ?_
                        refine TL.gdY rfl rfl (pr_pure rfl) rfl ?_
                        refine TL.run (pr_pure rfl) rfl ?_
                        refine TL.run (pr_pure rfl) rfl ?_
                        refine TL.nil ?_
                        refine TX.seqN ?_
                        refine TC.ret ?_
                        exact TX.finS (.inr rfl) (results1 rfl (RVal.tmp rfl)) (congrArg Value.bool (by first | rfl | (rcases hm with hm | hm <;> simp_all)))
                      ·
                        have q123 := of_ndec_false g123
                        refine TL.gdY rfl rfl (pr_field rfl) rfl ?_
                        refine TL.gdY rfl rfl (pr_own1 rfl (.here _) rfl) rfl ?_
                        refine TL.gdY rfl rfl (pr_pure rfl) rfl ?_
                        refine TL.gdY rfl rfl (pr_pure rfl) rfl ?_
                        refine TL.gdY rfl rfl (pr_pure rfl) rfl ?_
                        refine TL.run (pr_pure rfl) rfl ?_
                        refine TL.run (pr_pure rfl) rfl ?_
                        refine TL.nil ?_
                        refine TX.seqN ?_
                        refine TC.ret ?_
                        exact TX.finS (.inr rfl) (results1 rfl (RVal.tmp rfl)) (congrArg Value.bool (by first | rfl | (rcases hm with hm | hm <;> simp_all)))
                    ·
                      have q114 := of_ndec_false g114
                      refine TL.gdY rfl rfl (pr_field rfl) rfl ?_
                      refine TL.gdY rfl rfl (pr_own1 rfl (.there _ (.here _)) rfl) rfl ?_
                      refine TL.gdY rfl rfl (pr_pure rfl) rfl ?_
                      refine TL.gdY rfl rfl (pr_pure rfl) rfl ?_
                      refine TL.run (pr_pure rfl) rfl ?_
                      refine TL.run (pr_pure rfl) rfl ?_
                      refine TL.split (s := 120) rfl (fun g120 => ?_) (fun g120 => ?_)
                      ·
                        have q120 := of_decide_eq_true g120
                        refine TL.gdY rfl rfl (pr_pure rfl) rfl ?_
                        refine TL.gdY rfl rfl (pr_pure rfl) rfl ?_
                        refine TL.gdY rfl rfl (pr_pure rfl) rfl ?_
                        refine TL.split (s := 123) rfl (fun g123 => ?_) (fun g123 => ?_)
                        ·
                          have q123 := of_ndec_true g123
                          refine TL.gdN rfl rfl rfl rfl ?_
                          refine TL.gdN rfl rfl rfl rfl ?_
                          refine TL.gdN rfl rfl rfl rfl ?_
                          refine TL.gdN rfl rfl rfl rfl ?_
                          refine TL.gdY rfl rfl (pr_pure rfl) rfl ?_
                          refine TL.run (pr_pure rfl) rfl ?_
                          refine TL.run (pr_pure rfl) rfl ?_
                          refine TL.nil ?_
                          refine TX.seqN ?_
                          refine TC.ret ?_
                          exact TX.finS (.inr rfl) (results1 rfl (RVal.tmp rfl)) (congrArg Value.bool (by first | rfl | (rcases hm with hm | hm <;> simp_all)))
                        ·
                          have q123 := of_ndec_false g123
                          refine TL.gdY rfl rfl (pr_field rfl) rfl ?_
                          refine TL.gdY rfl rfl (pr_own1 rfl (.here _) rfl) rfl ?_
                          refine TL.gdY rfl rfl (pr_pure rfl) rfl ?_
                          refine TL.gdY rfl rfl (pr_pure rfl) rfl ?_
                          refine TL.gdY rfl rfl (pr_pure rfl) rfl ?_
                          refine TL.run (pr_pure rfl) rfl ?_
                          refine TL.run (pr_pure rfl) rfl ?_
                          refine TL.nil ?_
                          refine TX.seqN ?_
                          refine TC.ret ?_
                          exact TX.finS (.inr rfl) (results1 rfl (RVal.tmp rfl)) (congrArg Value.bool (by first | rfl | (rcases hm with hm | hm <;> simp_all)))
                      ·
                        have q120 := of_decide_eq_false g120
                        refine TL.gdN rfl rfl rfl rfl ?_
                        refine TL.gdN rfl rfl rfl rfl ?_
                        refine TL.gdN rfl rfl rfl rfl ?_
                        refine TL.gdU rfl rfl rfl ?_
                        refine TL.gdU rfl rfl rfl ?_
                        refine TL.gdU rfl rfl rfl ?_
                        refine TL.gdU rfl rfl rfl ?_
                        refine TL.gdN rfl rfl rfl rfl ?_
                        refine TL.run (pr_pure rfl) rfl ?_
                        refine TL.run (pr_pure rfl) rfl ?_
                        refine TL.nil ?_
                        refine TX.seqN ?_
                        refine TC.ret ?_
                        exact TX.finS (.inr rfl) (results1 rfl (RVal.tmp rfl)) (congrArg Value.bool (by first | rfl | (rcases hm with hm | hm <;> simp_all)))
end Go.Sx
