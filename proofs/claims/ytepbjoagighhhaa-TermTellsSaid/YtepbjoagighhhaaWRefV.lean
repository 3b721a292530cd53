import Derived.Test.YtepbjoagighhhaaWTq
import Derived.Test.YtepbjoagighhhaaPurePu
set_option linter.unusedVariables false
set_option linter.unusedSimpArgs false
namespace Go.Sx
open Go Go.Proofs
set_option maxRecDepth 100000 in
set_option maxHeartbeats 1000000 in
theorem rput_ok {H : Hp} {l : List Str} {v : Value} (s : Str) (hL : RdSl H 1 Str.cells v l) (hlen : l.length ≤ 1000000) :
    Fn Try.prog 42 [v, gs s] H (fun r H1 => RdSl H1 1 Str.cells r (putS l s)) := by
  obtain ⟨va, vc, rfl⟩ := hL.len
  have hrm := hL.room _ _ _ rfl
  refine Fn.enter Try.func42 Try.ntmps42 rfl rfl (fun w0 => ?_)
  refine TC.seq ?_
  refine TC.region ?_
  refine TL.run (pr_pure rfl) rfl ?_
  refine TL.nil ?_
  refine TX.seqN ?_
  refine TC.seq ?_
  refine TC.region ?_
  refine TL.run (pr_pure rfl) rfl ?_
  refine TL.nil ?_
  refine TX.seqN ?_
  refine TC.seq ?_
  refine TC.block ?_
  refine TC.loop (V := fun k => [(5, .int .i64 k)]) (K := [(0, _), (1, _), (4, _)]) (L := fun k => _) (I := fun k => 0 ≤ k ∧ k ≤ l.length ∧ putS l s = l.take k.toNat ++ putS (l.drop k.toNat) s) (μ := fun k => (l.length - k).toNat) (i := (0 : Int)) ⟨rfl, rfl, rfl, rfl, trivial⟩ ⟨by omega, by omega, by simp⟩ (fun w hw => hw) (fun k hI => ?_)
  refine TC.seq ?_
  refine TC.seq ?_
  refine TC.region ?_
  refine TL.run (pr_pure rfl) rfl ?_
  refine TL.run (pr_pure rfl) rfl ?_
  refine TL.run (pr_lenSl rfl rfl hL) rfl ?_
  refine TL.run (pr_pure rfl) rfl ?_
  refine TL.run (pr_pure rfl) rfl ?_
  refine TL.split (s := 11) rfl (fun g11 => ?_) (fun g11 => ?_)
  ·
    have q11 := of_decide_eq_true g11
    obtain ⟨x, hx⟩ := getSome (l := l) hI.1 (by omega)
    refine TL.gdY rfl rfl (pr_pure rfl) rfl ?_
    refine TL.gdY rfl rfl (pr_pure rfl) rfl ?_
    refine TL.gdY rfl rfl (pr_indexSl rfl hL rfl (by omega) (by omega)) rfl ?_
    refine TL.gdY rfl rfl (pr_el0 hL hx rfl rfl) rfl ?_
    refine TL.gdY rfl rfl (pr_pure rfl) rfl ?_
    refine TL.gdY rfl rfl (pr_str rfl rfl rfl) rfl ?_
    refine TL.run (pr_pure rfl) rfl ?_
    refine TL.nil ?_
    refine TX.seqN ?_
    refine TC.cond rfl (fun c18 => ?_) (fun c18 => ?_)
    ·
      refine TC.skip ?_
      refine TX.seqN ?_
      refine TC.block ?_
      refine TC.region ?_
      refine TL.run (pr_pure rfl) rfl ?_
      refine TL.run ((by first | exact pr_add rfl rfl (by omega) (by omega) | exact pr_pure rfl)) rfl ?_
      refine TL.run (pr_pure rfl) rfl ?_
      refine TL.nil ?_
      refine TX.blkN ?_
      exact TX.round (k + 1) ⟨by omega, by omega, put_next hI.1 hI.2.2 hx (by simp_all)⟩ ⟨rfl, rfl, rfl, rfl, trivial⟩ (fun w hw => hw) (by omega)
    ·
      refine TC.exit ?_
      refine TX.thenE ?_
      refine TX.thenE ?_
      refine TX.blkHit ?_
      refine TX.seqN ?_
      refine TC.seq ?_
      refine TC.seq ?_
      refine TC.region ?_
      refine TL.run (pr_pure rfl) rfl ?_
      refine TL.run (pr_pure rfl) rfl ?_
      refine TL.run (pr_lenSl rfl rfl hL) rfl ?_
      refine TL.run (pr_pure rfl) rfl ?_
      refine TL.run (pr_pure rfl) rfl ?_
      refine TL.split (s := 25) rfl (fun g25 => ?_) (fun g25 => ?_)
      ·
        have q25 := of_decide_eq_true g25
        refine TL.gdY rfl rfl (pr_pure rfl) rfl ?_
        refine TL.gdY rfl rfl (pr_pure rfl) rfl ?_
        refine TL.gdY rfl rfl (pr_indexSl rfl hL rfl (by omega) (by omega)) rfl ?_
        refine TL.gdY rfl rfl (pr_el0 hL hx rfl rfl) rfl ?_
        refine TL.gdY rfl rfl (pr_pure rfl) rfl ?_
        refine TL.gdY rfl rfl (pr_str rfl rfl rfl) rfl ?_
        refine TL.run (pr_pure rfl) rfl ?_
        refine TL.nil ?_
        refine TX.seqN ?_
        refine TC.condD rfl (fun c32 => ?_) (fun c32 => ?_)
        ·
          refine TC.seq ?_
          refine TC.region ?_
          refine TL.run (pr_pure rfl) rfl ?_
          refine TL.run (pr_pure rfl) rfl ?_
          refine TL.nil ?_
          refine TX.seqN ?_
          refine TC.ret ?_
          refine TX.thenR ?_
          exact TX.fin0 (.inr rfl) (results1 rfl (RVal.tmp rfl)) (by first | exact absurd q25 q11 | (rw [put_have hI.2.2 hx (by simp [c18]) (by simpa using c32)]; exact hL))
        ·
          refine TC.skip ?_
          refine TX.seqN ?_
          refine TC.seq ?_
          refine TC.region ?_
          refine TL.run (pr_pure rfl) rfl ?_
          refine TL.run (pr_pure rfl) rfl ?_
          refine TL.run (pr_sliceH rfl rfl (by omega) (by omega)) rfl ?_
          refine TL.append (enc := Str.cells) rfl rfl rfl (OwnSl.nil (enc := Str.cells)) (Src.sl (hL.sliced (i := 0) (Nat.zero_le _) (by omega))) (by simp; omega) rfl (.new _ rfl) rfl (fun a37 c37 ob37 hO37 => ?_)
          refine TL.run (pr_pure rfl) rfl ?_
          refine TL.nil ?_
          refine TX.seqN ?_
          refine TC.seq ?_
          refine TC.region ?_
          refine TL.run (pr_pure rfl) rfl ?_
          refine TL.run (pr_pure rfl) rfl ?_
          refine TL.bslice rfl rfl rfl rfl (fun b40 => ?_)
          refine TL.append (enc := Str.cells) rfl rfl rfl hO37 (Src.own [s] (.here _) rfl rfl) (by simp; omega) rfl (.skip _ .all) rfl (fun a41 c41 ob41 hO41 => ?_)
          refine TL.run (pr_pure rfl) rfl ?_
          refine TL.nil ?_
          refine TX.seqN ?_
          refine TC.seq ?_
          refine TC.region ?_
          refine TL.run (pr_pure rfl) rfl ?_
          refine TL.run (pr_pure rfl) rfl ?_
          refine TL.run (pr_pure rfl) rfl ?_
          refine TL.run (pr_sliceL rfl rfl (by omega) (by omega)) rfl ?_
          refine TL.append (enc := Str.cells) rfl rfl rfl hO41 (Src.sl (hL.sliced (j := l.length) (by omega) (Nat.le_refl _))) (by simp; omega) rfl (.skip _ .all) rfl (fun a46 c46 ob46 hO46 => ?_)
          refine TL.run (pr_pure rfl) rfl ?_
          refine TL.nil ?_
          refine TX.seqN ?_
          refine TC.ret ?_
          refine TX.pubO hO46 (.skip _ .all) (by simp) (fun H1 hle hR => ?_)
          exact TX.fin0 (.inr rfl) (results1 rfl (RVal.tmp rfl)) (by first | exact absurd q25 q11 | (rw [put_mid hI.2.2 hx (by simp [c18]) (by simpa using c32)]; exact hR) | (rw [put_end hI.2.2 (by omega)]; exact hR))
      ·
        have q25 := of_decide_eq_false g25
        refine TL.gdN rfl rfl rfl rfl ?_
        refine TL.gdN rfl rfl rfl rfl ?_
        refine TL.gdN rfl rfl rfl rfl ?_
        refine TL.gdN rfl rfl rfl rfl ?_
        refine TL.gdN rfl rfl rfl rfl ?_
        refine TL.gdN rfl rfl rfl rfl ?_
        refine TL.run (pr_pure rfl) rfl ?_
        refine TL.nil ?_
        refine TX.seqN ?_
        refine TC.condF rfl ?_
        refine TC.skip ?_
        refine TX.seqN ?_
        refine TC.seq ?_
        refine TC.region ?_
        refine TL.run (pr_pure rfl) rfl ?_
        refine TL.run (pr_pure rfl) rfl ?_
        refine TL.run (pr_sliceH rfl rfl (by omega) (by omega)) rfl ?_
        refine TL.append (enc := Str.cells) rfl rfl rfl (OwnSl.nil (enc := Str.cells)) (Src.sl (hL.sliced (i := 0) (Nat.zero_le _) (by omega))) (by simp; omega) rfl (.new _ rfl) rfl (fun a37 c37 ob37 hO37 => ?_)
        refine TL.run (pr_pure rfl) rfl ?_
        refine TL.nil ?_
        refine TX.seqN ?_
        refine TC.seq ?_
        refine TC.region ?_
        refine TL.run (pr_pure rfl) rfl ?_
        refine TL.run (pr_pure rfl) rfl ?_
        refine TL.bslice rfl rfl rfl rfl (fun b40 => ?_)
        refine TL.append (enc := Str.cells) rfl rfl rfl hO37 (Src.own [s] (.here _) rfl rfl) (by simp; omega) rfl (.skip _ .all) rfl (fun a41 c41 ob41 hO41 => ?_)
        refine TL.run (pr_pure rfl) rfl ?_
        refine TL.nil ?_
        refine TX.seqN ?_
        refine TC.seq ?_
        refine TC.region ?_
        refine TL.run (pr_pure rfl) rfl ?_
        refine TL.run (pr_pure rfl) rfl ?_
        refine TL.run (pr_pure rfl) rfl ?_
        refine TL.run (pr_sliceL rfl rfl (by omega) (by omega)) rfl ?_
        refine TL.append (enc := Str.cells) rfl rfl rfl hO41 (Src.sl (hL.sliced (j := l.length) (by omega) (Nat.le_refl _))) (by simp; omega) rfl (.skip _ .all) rfl (fun a46 c46 ob46 hO46 => ?_)
        refine TL.run (pr_pure rfl) rfl ?_
        refine TL.nil ?_
        refine TX.seqN ?_
        refine TC.ret ?_
        refine TX.pubO hO46 (.skip _ .all) (by simp) (fun H1 hle hR => ?_)
        exact TX.fin0 (.inr rfl) (results1 rfl (RVal.tmp rfl)) (by first | exact absurd q25 q11 | (rw [put_mid hI.2.2 hx (by simp [c18]) (by simpa using c32)]; exact hR) | (rw [put_end hI.2.2 (by omega)]; exact hR))
  ·
    have q11 := of_decide_eq_false g11
    refine TL.gdN rfl rfl rfl rfl ?_
    refine TL.gdN rfl rfl rfl rfl ?_
    refine TL.gdN rfl rfl rfl rfl ?_
    refine TL.gdN rfl rfl rfl rfl ?_
    refine TL.gdN rfl rfl rfl rfl ?_
    refine TL.gdN rfl rfl rfl rfl ?_
    refine TL.run (pr_pure rfl) rfl ?_
    refine TL.nil ?_
    refine TX.seqN ?_
    refine TC.condF rfl ?_
    refine TC.exit ?_
    refine TX.thenE ?_
    refine TX.thenE ?_
    refine TX.blkHit ?_
    refine TX.seqN ?_
    refine TC.seq ?_
    refine TC.seq ?_
    refine TC.region ?_
    refine TL.run (pr_pure rfl) rfl ?_
    refine TL.run (pr_pure rfl) rfl ?_
    refine TL.run (pr_lenSl rfl rfl hL) rfl ?_
    refine TL.run (pr_pure rfl) rfl ?_
    refine TL.run (pr_pure rfl) rfl ?_
    refine TL.split (s := 25) rfl (fun g25 => ?_) (fun g25 => ?_)
    ·
      have q25 := of_decide_eq_true g25
      obtain ⟨x, hx⟩ := getSome (l := l) hI.1 (by omega)
      refine TL.gdY rfl rfl (pr_pure rfl) rfl ?_
      refine TL.gdY rfl rfl (pr_pure rfl) rfl ?_
      refine TL.gdY rfl rfl (pr_indexSl rfl hL rfl (by omega) (by omega)) rfl ?_
      refine TL.gdY rfl rfl (pr_el0 hL hx rfl rfl) rfl ?_
      refine TL.gdY rfl rfl (pr_pure rfl) rfl ?_
      refine TL.gdY rfl rfl (pr_str rfl rfl rfl) rfl ?_
      refine TL.run (pr_pure rfl) rfl ?_
      refine TL.nil ?_
      refine TX.seqN ?_
      refine TC.condD rfl (fun c32 => ?_) (fun c32 => ?_)
      ·
        refine TC.seq ?_
        refine TC.region ?_
        refine TL.run (pr_pure rfl) rfl ?_
        refine TL.run (pr_pure rfl) rfl ?_
        refine TL.nil ?_
        refine TX.seqN ?_
        refine TC.ret ?_
        refine TX.thenR ?_
        exact TX.fin0 (.inr rfl) (results1 rfl (RVal.tmp rfl)) (by first | exact absurd q25 q11 | (rw [put_have hI.2.2 hx (by simp [c18]) (by simpa using c32)]; exact hL))
      ·
        refine TC.skip ?_
        refine TX.seqN ?_
        refine TC.seq ?_
        refine TC.region ?_
        refine TL.run (pr_pure rfl) rfl ?_
        refine TL.run (pr_pure rfl) rfl ?_
        refine TL.run (pr_sliceH rfl rfl (by omega) (by omega)) rfl ?_
        refine TL.append (enc := Str.cells) rfl rfl rfl (OwnSl.nil (enc := Str.cells)) (Src.sl (hL.sliced (i := 0) (Nat.zero_le _) (by omega))) (by simp; omega) rfl (.new _ rfl) rfl (fun a37 c37 ob37 hO37 => ?_)
        refine TL.run (pr_pure rfl) rfl ?_
        refine TL.nil ?_
        refine TX.seqN ?_
        refine TC.seq ?_
        refine TC.region ?_
        refine TL.run (pr_pure rfl) rfl ?_
        refine TL.run (pr_pure rfl) rfl ?_
        refine TL.bslice rfl rfl rfl rfl (fun b40 => ?_)
        refine TL.append (enc := Str.cells) rfl rfl rfl hO37 (Src.own [s] (.here _) rfl rfl) (by simp; omega) rfl (.skip _ .all) rfl (fun a41 c41 ob41 hO41 => ?_)
        refine TL.run (pr_pure rfl) rfl ?_
        refine TL.nil ?_
        refine TX.seqN ?_
        refine TC.seq ?_
        refine TC.region ?_
        refine TL.run (pr_pure rfl) rfl ?_
        refine TL.run (pr_pure rfl) rfl ?_
        refine TL.run (pr_pure rfl) rfl ?_
        refine TL.run (pr_sliceL rfl rfl (by omega) (by omega)) rfl ?_
        refine TL.append (enc := Str.cells) rfl rfl rfl hO41 (Src.sl (hL.sliced (j := l.length) (by omega) (Nat.le_refl _))) (by simp; omega) rfl (.skip _ .all) rfl (fun a46 c46 ob46 hO46 => ?_)
        refine TL.run (pr_pure rfl) rfl ?_
        refine TL.nil ?_
        refine TX.seqN ?_
        refine TC.ret ?_
        refine TX.pubO hO46 (.skip _ .all) (by simp) (fun H1 hle hR => ?_)
        exact TX.fin0 (.inr rfl) (results1 rfl (RVal.tmp rfl)) (by first | exact absurd q25 q11 | (rw [put_mid hI.2.2 hx (by simp [c18]) (by simpa using c32)]; exact hR) | (rw [put_end hI.2.2 (by omega)]; exact hR))
    ·
      have q25 := of_decide_eq_false g25
      refine TL.gdN rfl rfl rfl rfl ?_
      refine TL.gdN rfl rfl rfl rfl ?_
      refine TL.gdN rfl rfl rfl rfl ?_
      refine TL.gdN rfl rfl rfl rfl ?_
      refine TL.gdN rfl rfl rfl rfl ?_
      refine TL.gdN rfl rfl rfl rfl ?_
      refine TL.run (pr_pure rfl) rfl ?_
      refine TL.nil ?_
      refine TX.seqN ?_
      refine TC.condF rfl ?_
      refine TC.skip ?_
      refine TX.seqN ?_
      refine TC.seq ?_
      refine TC.region ?_
      refine TL.run (pr_pure rfl) rfl ?_
      refine TL.run (pr_pure rfl) rfl ?_
      refine TL.run (pr_sliceH rfl rfl (by omega) (by omega)) rfl ?_
      refine TL.append (enc := Str.cells) rfl rfl rfl (OwnSl.nil (enc := Str.cells)) (Src.sl (hL.sliced (i := 0) (Nat.zero_le _) (by omega))) (by simp; omega) rfl (.new _ rfl) rfl (fun a37 c37 ob37 hO37 => ?_)
      refine TL.run (pr_pure rfl) rfl ?_
      refine TL.nil ?_
      refine TX.seqN ?_
      refine TC.seq ?_
      refine TC.region ?_
      refine TL.run (pr_pure rfl) rfl ?_
      refine TL.run (pr_pure rfl) rfl ?_
      refine TL.bslice rfl rfl rfl rfl (fun b40 => ?_)
      refine TL.append (enc := Str.cells) rfl rfl rfl hO37 (Src.own [s] (.here _) rfl rfl) (by simp; omega) rfl (.skip _ .all) rfl (fun a41 c41 ob41 hO41 => ?_)
      refine TL.run (pr_pure rfl) rfl ?_
      refine TL.nil ?_
      refine TX.seqN ?_
      refine TC.seq ?_
      refine TC.region ?_
      refine TL.run (pr_pure rfl) rfl ?_
      refine TL.run (pr_pure rfl) rfl ?_
      refine TL.run (pr_pure rfl) rfl ?_
      refine TL.run (pr_sliceL rfl rfl (by omega) (by omega)) rfl ?_
      refine TL.append (enc := Str.cells) rfl rfl rfl hO41 (Src.sl (hL.sliced (j := l.length) (by omega) (Nat.le_refl _))) (by simp; omega) rfl (.skip _ .all) rfl (fun a46 c46 ob46 hO46 => ?_)
      refine TL.run (pr_pure rfl) rfl ?_
      refine TL.nil ?_
      refine TX.seqN ?_
      refine TC.ret ?_
      refine TX.pubO hO46 (.skip _ .all) (by simp) (fun H1 hle hR => ?_)
      exact TX.fin0 (.inr rfl) (results1 rfl (RVal.tmp rfl)) (by first | exact absurd q25 q11 | (rw [put_mid hI.2.2 hx (by simp [c18]) (by simpa using c32)]; exact hR) | (rw [put_end hI.2.2 (by omega)]; exact hR))

set_option maxRecDepth 100000 in
set_option maxHeartbeats 1000000 in
theorem rVarsN_ok {H : Hp} {l : List Term} {v : Value} (root : Int) (hT : RdSl H 6 Term.cells v l) (hN : ∀ t ∈ l, t.name.length ≤ 9223372036854775807) (hl : (l.length : Int) ≤ 100000) (hd : treeS l root = none) :
    Fn Try.prog 27 [v, .int .i64 root] H (fun r H1 => RdSl H1 1 Str.cells r (varsR l root)) := by
  obtain ⟨ta, tc, rfl⟩ := hT.len
  refine Fn.enter Try.func27 Try.ntmps27 rfl rfl (fun w0 => ?_)
  refine TC.seq ?_
  refine TC.region ?_
  refine TL.run (pr_pure rfl) rfl ?_
  refine TL.nil ?_
  refine TX.seqN ?_
  refine TC.seq ?_
  refine TC.region ?_
  refine TL.run (pr_pure rfl) rfl ?_
  refine TL.run (pr_pure rfl) rfl ?_
  refine TL.call (enters rfl rfl rfl rfl) (Tree_ok root hT hN hl) rfl (fun v12 H12 hle12 hp12 => ?_)
  replace hT := hT.le hle12
  rw [hd] at hp12
  have hp12 : v12 = _ := hp12
  subst hp12
  refine TL.run (pr_pure rfl) rfl ?_
  refine TL.run (pr_pure rfl) rfl ?_
  refine TL.run (pr_pure rfl) rfl ?_
  refine TL.run (pr_pure rfl) rfl ?_
  refine TL.run (pr_pure rfl) rfl ?_
  refine TL.nil ?_
  refine TX.seqN ?_
  refine TC.seq ?_
  refine TC.region ?_
  refine TL.run (pr_pure rfl) rfl ?_
  refine TL.nil ?_
  refine TX.seqN ?_
  refine TC.seq ?_
  refine TC.seq ?_
  refine TC.region ?_
  refine TL.run (pr_pure rfl) rfl ?_
  refine TL.nil ?_
  refine TX.seqN ?_
  refine TC.block ?_
  refine TC.loop (V := fun k => [(8, .int .i64 k)]) (K := [(0, _), (4, _), (5, _), (6, _), (7, _)]) (L := fun k => _) (I := fun k => True) (μ := fun k => 0) (i := (0 : Int)) ⟨rfl, rfl, rfl, rfl, rfl, rfl, trivial⟩ trivial (fun w hw => hw) (fun k hI => ?_)
  refine TC.seq ?_
  refine TC.seq ?_
  refine TC.region ?_
  refine TL.run (pr_pure rfl) rfl ?_
  refine TL.run (pr_pure rfl) rfl ?_
  refine TL.split (s := 16) rfl (fun g16 => ?_) (fun g16 => ?_)
  ·
    exact absurd g16 (by decide)
  ·
    refine TL.gdN rfl rfl rfl rfl ?_
    refine TL.gdN rfl rfl rfl rfl ?_
    refine TL.gdN rfl rfl rfl rfl ?_
    refine TL.gdN rfl rfl rfl rfl ?_
    refine TL.run (pr_pure rfl) rfl ?_
    refine TL.nil ?_
    refine TX.seqN ?_
    refine TC.condF rfl ?_
    refine TC.exit ?_
    refine TX.thenE ?_
    refine TX.thenE ?_
    refine TX.blkHit ?_
    refine TX.seqN ?_
    refine TC.seq ?_
    refine TC.region ?_
    refine TL.run (pr_pure rfl) rfl ?_
    refine TL.run (pr_pure rfl) rfl ?_
    refine TL.nil ?_
    refine TX.seqN ?_
    refine TC.ret ?_
    exact TX.fin0 (.inr rfl) (results1 rfl (RVal.tmp rfl)) (by unfold varsR; rw [hd]; exact RdSl.nil)

set_option maxRecDepth 100000 in
set_option maxHeartbeats 1000000 in
theorem rVarsS_ok {H : Hp} {l : List Term} {v : Value} (root : Int) (hT : RdSl H 6 Term.cells v l) (hN : ∀ t ∈ l, t.name.length ≤ 9223372036854775807) (hl : (l.length : Int) ≤ 100000) {d : List Int} (hd : treeS l root = some d) :
    Fn Try.prog 27 [v, .int .i64 root] H (fun r H1 => RdSl H1 1 Str.cells r (varsR l root)) := by
  obtain ⟨ta, tc, rfl⟩ := hT.len
  refine Fn.enter Try.func27 Try.ntmps27 rfl rfl (fun w0 => ?_)
  refine TC.seq ?_
  refine TC.region ?_
  refine TL.run (pr_pure rfl) rfl ?_
  refine TL.nil ?_
  refine TX.seqN ?_
  refine TC.seq ?_
  refine TC.region ?_
  refine TL.run (pr_pure rfl) rfl ?_
  refine TL.run (pr_pure rfl) rfl ?_
  refine TL.call (enters rfl rfl rfl rfl) (Tree_ok root hT hN hl) rfl (fun v12 H12 hle12 hp12 => ?_)
  replace hT := hT.le hle12
  rw [hd] at hp12
  obtain ⟨sv, rfl, hB, hdl⟩ := hp12
  obtain ⟨ba, bc, rfl⟩ := hB.len
  have hdl2 : (d.map posB).length = l.length := by simp [hdl]
  refine TL.run (pr_pure rfl) rfl ?_
  refine TL.run (pr_pure rfl) rfl ?_
  refine TL.run (pr_pure rfl) rfl ?_
  refine TL.run (pr_pure rfl) rfl ?_
  refine TL.run (pr_pure rfl) rfl ?_
  refine TL.nil ?_
  refine TX.seqN ?_
  refine TC.seq ?_
  refine TC.region ?_
  refine TL.run (pr_pure rfl) rfl ?_
  refine TL.nil ?_
  refine TX.seqN ?_
  refine TC.seq ?_
  refine TC.seq ?_
  refine TC.region ?_
  refine TL.run (pr_pure rfl) rfl ?_
  refine TL.nil ?_
  refine TX.seqN ?_
  refine TC.block ?_
  refine TC.loop4 (V := fun k v ob H1 => [(7, v), (8, .int .i64 k)]) (K := [(0, _), (4, _), (5, _), (6, _)]) (L := fun k v ob H1 => St [] w0 H H1 ob) (I := fun k v ob H1 => 0 ≤ k ∧ k ≤ l.length ∧ ob = [] ∧ H12.le H1 ∧ RdSl H1 1 Str.cells v (varsK l (d.map posB) k.toNat)) (μ := fun k => (l.length - k).toNat) 0 (.slice none 0 0) [] H12 ⟨rfl, rfl, rfl, rfl, rfl, rfl, trivial⟩ ⟨by omega, by omega, rfl, Hp.le.refl _, RdSl.nil⟩ (fun w hw => hw) (fun k v ob H1 hI => ?_)
  obtain ⟨h0, h1, rfl, hle, hR⟩ := hI
  replace hT := hT.le hle
  replace hB := hB.le hle
  refine TC.seq ?_
  refine TC.seq ?_
  refine TC.region ?_
  refine TL.run (pr_pure rfl) rfl ?_
  refine TL.run (pr_pure rfl) rfl ?_
  refine TL.split (s := 16) rfl (fun g16 => ?_) (fun g16 => ?_)
  ·
    refine TL.gdY rfl rfl (pr_pure rfl) rfl ?_
    refine TL.gdY rfl rfl (pr_pure rfl) rfl ?_
    refine TL.gdY rfl rfl (pr_lenSl rfl rfl hT) rfl ?_
    refine TL.gdY rfl rfl (pr_pure rfl) rfl ?_
    refine TL.run (pr_pure rfl) rfl ?_
    refine TL.nil ?_
    refine TX.seqN ?_
    refine TC.condD rfl (fun c21 => ?_) (fun c21 => ?_)
    ·
      obtain ⟨t, hx⟩ := getSome (l := l) h0 c21
      obtain ⟨b, hb⟩ := getSome (l := d.map posB) h0 (by omega)
      refine TC.skip ?_
      refine TX.seqN ?_
      refine TC.seq ?_
      refine TC.block ?_
      refine TC.seq ?_
      refine TC.region ?_
      refine TL.run (pr_pure rfl) rfl ?_
      refine TL.run (pr_pure rfl) rfl ?_
      refine TL.run (pr_indexSl rfl hB rfl (by omega) (by omega)) rfl ?_
      refine TL.run (pr_el0 hB hb rfl rfl) rfl ?_
      refine TL.run (pr_pure rfl) rfl ?_
      refine TL.split (s := 28) rfl (fun g28 => ?_) (fun g28 => ?_)
      ·
        refine TL.gdY rfl rfl (pr_pure rfl) rfl ?_
        refine TL.gdY rfl rfl (pr_pure rfl) rfl ?_
        refine TL.gdY rfl rfl (pr_indexSl rfl hT rfl (by omega) (by omega)) rfl ?_
        refine TL.gdY rfl rfl (pr_field rfl) rfl ?_
        refine TL.gdY rfl rfl (pr_el1 hT hx rfl rfl) rfl ?_
        refine TL.gdY rfl rfl (pr_pure rfl) rfl ?_
        refine TL.run (pr_pure rfl) rfl ?_
        refine TL.nil ?_
        refine TX.seqN ?_
        refine TC.condD rfl (fun c35 => ?_) (fun c35 => ?_)
        ·
          refine TC.region ?_
          refine TL.run (pr_pure rfl) rfl ?_
          refine TL.run (pr_pure rfl) rfl ?_
          refine TL.run (pr_pure rfl) rfl ?_
          refine TL.run (pr_indexSl rfl hT rfl (by omega) (by omega)) rfl ?_
          refine TL.run (pr_field rfl) rfl ?_
          refine TL.run (pr_el1 hT hx rfl rfl) rfl ?_
          refine TL.call (enters rfl rfl rfl rfl) (rput_ok t.name hR (by have := varsK_len l (d.map posB) k.toNat; omega)) rfl (fun v42 H42 hle42 hp42 => ?_)
          replace hT := hT.le hle42
          replace hB := hB.le hle42
          refine TL.run (pr_pure rfl) rfl ?_
          refine TL.nil ?_
          refine TX.blkN ?_
          refine TX.seqN ?_
          refine TC.region ?_
          refine TL.run (pr_pure rfl) rfl ?_
          refine TL.run ((by first | exact pr_add rfl rfl (by omega) (by omega) | exact pr_pure rfl)) rfl ?_
          refine TL.run (pr_pure rfl) rfl ?_
          refine TL.nil ?_
          exact TX.round4 (k + 1) _ [] H42 ⟨by omega, by omega, rfl, hle.trans hle42, by rw [varsK_T h0 hx hb (by simp_all)]; exact hp42⟩ ⟨rfl, rfl, rfl, rfl, rfl, rfl, trivial⟩ (fun w hw => hw) (by omega)
        ·
          refine TC.skip ?_
          refine TX.blkN ?_
          refine TX.seqN ?_
          refine TC.region ?_
          refine TL.run (pr_pure rfl) rfl ?_
          refine TL.run ((by first | exact pr_add rfl rfl (by omega) (by omega) | exact pr_pure rfl)) rfl ?_
          refine TL.run (pr_pure rfl) rfl ?_
          refine TL.nil ?_
          exact TX.round4 (k + 1) _ [] H1 ⟨by omega, by omega, rfl, hle, by rw [varsK_F h0 hx hb (by simp_all)]; exact hR⟩ ⟨rfl, rfl, rfl, rfl, rfl, rfl, trivial⟩ (fun w hw => hw) (by omega)
      ·
        refine TL.gdN rfl rfl rfl rfl ?_
        refine TL.gdN rfl rfl rfl rfl ?_
        refine TL.gdN rfl rfl rfl rfl ?_
        refine TL.gdN rfl rfl rfl rfl ?_
        refine TL.gdN rfl rfl rfl rfl ?_
        refine TL.gdN rfl rfl rfl rfl ?_
        refine TL.run (pr_pure rfl) rfl ?_
        refine TL.nil ?_
        refine TX.seqN ?_
        refine TC.condF rfl ?_
        refine TC.skip ?_
        refine TX.blkN ?_
        refine TX.seqN ?_
        refine TC.region ?_
        refine TL.run (pr_pure rfl) rfl ?_
        refine TL.run ((by first | exact pr_add rfl rfl (by omega) (by omega) | exact pr_pure rfl)) rfl ?_
        refine TL.run (pr_pure rfl) rfl ?_
        refine TL.nil ?_
        exact TX.round4 (k + 1) _ [] H1 ⟨by omega, by omega, rfl, hle, by rw [varsK_F h0 hx hb (by simp_all)]; exact hR⟩ ⟨rfl, rfl, rfl, rfl, rfl, rfl, trivial⟩ (fun w hw => hw) (by omega)
    ·
      refine TC.exit ?_
      refine TX.thenE ?_
      refine TX.thenE ?_
      refine TX.blkHit ?_
      refine TX.seqN ?_
      refine TC.seq ?_
      refine TC.region ?_
      refine TL.run (pr_pure rfl) rfl ?_
      refine TL.run (pr_pure rfl) rfl ?_
      refine TL.nil ?_
      refine TX.seqN ?_
      refine TC.ret ?_
      exact TX.fin0 (.inr rfl) (results1 rfl (RVal.tmp rfl)) (by have e : varsR l root = varsK l (d.map posB) k.toNat := by { unfold varsR; rw [hd, show k.toNat = l.length by omega] }; rw [e]; exact hR)
  ·
    exact absurd g16 (by decide)

theorem rVars_ok {H : Hp} {l : List Term} {v : Value} (root : Int) (hT : RdSl H 6 Term.cells v l) (hN : ∀ t ∈ l, t.name.length ≤ 9223372036854775807) (hl : (l.length : Int) ≤ 100000) : Fn Try.prog 27 [v, .int .i64 root] H (fun r H1 => RdSl H1 1 Str.cells r (varsR l root)) := by
  cases hd : treeS l root with
  | none => exact rVarsN_ok root hT hN hl hd
  | some d => exact rVarsS_ok root hT hN hl hd
end Go.Sx
