import Derived.Test.YtgagehpnkecmkaaDoorWVars
import Derived.Test.YtgagehpnkecmkaaDoorPureN1
import Derived.Test.YtgagehpnkecmkaaDoorPureDg
set_option linter.unusedVariables false
set_option linter.unusedSimpArgs false
namespace Go.Sx
open Go Go.Proofs
set_option maxRecDepth 100000 in
set_option maxHeartbeats 1000000 in
theorem r_Place_ok {H : Hp} {l : List Str} {v : Value} (s : Str) (hL : RdSl H 1 Str.cells v l) :
    FnS Tryd.prog 20 [v, gs s] H (.int .i64 (placeS l s)) := by
  have hmax := hL.max
  refine FnS.enter Tryd.func20 Tryd.ntmps20 rfl rfl (fun w0 => ?_)
  refine TC.seq ?_
  refine TC.region ?_
  refine TL.run (pr_pure rfl) rfl ?_
  refine TL.nil ?_
  refine TX.seqN ?_
  refine TC.seq ?_
  refine TC.seq ?_
  refine TC.region ?_
  refine TL.run (pr_pure rfl) rfl ?_
  refine TL.nil ?_
  refine TX.seqN ?_
  refine TC.block ?_
  refine TC.loop (V := fun k => [(5, .int .i64 k)]) (K := [(0, _), (1, _), (4, _)]) (L := fun k => _) (I := fun k => 0 ≤ k ∧ k ≤ l.length ∧ ∀ j : Nat, j < k.toNat → l[j]? ≠ some s) (μ := fun k => (l.length - k).toNat) (i := (0 : Int)) ⟨rfl, rfl, rfl, rfl, trivial⟩ ⟨by omega, by omega, fun j hj => absurd hj (by simp)⟩ (fun w hw => hw) (fun k hI => ?_)
  refine TC.seq ?_
  refine TC.seq ?_
  refine TC.region ?_
  refine TL.run (pr_pure rfl) rfl ?_
  refine TL.run (pr_pure rfl) rfl ?_
  refine TL.run (pr_lenSl rfl rfl hL) rfl ?_
  refine TL.run (pr_pure rfl) rfl ?_
  refine TL.nil ?_
  refine TX.seqN ?_
  refine TC.condD rfl (fun c9 => ?_) (fun c9 => ?_)
  ·
    obtain ⟨x, hx⟩ := getSome (l := l) hI.1 c9
    refine TC.skip ?_
    refine TX.seqN ?_
    refine TC.seq ?_
    refine TC.block ?_
    refine TC.seq ?_
    refine TC.region ?_
    refine TL.run (pr_pure rfl) rfl ?_
    refine TL.run (pr_pure rfl) rfl ?_
    refine TL.run (pr_indexSl rfl hL rfl (by omega) (by omega)) rfl ?_
    refine TL.run (pr_el0 hL hx rfl rfl) rfl ?_
    refine TL.run (pr_pure rfl) rfl ?_
    refine TL.run (pr_str rfl rfl rfl) rfl ?_
    refine TL.nil ?_
    refine TX.seqN ?_
    refine TC.condD rfl (fun c17 => ?_) (fun c17 => ?_)
    ·
      refine TC.seq ?_
      refine TC.region ?_
      refine TL.run (pr_pure rfl) rfl ?_
      refine TL.run (pr_pure rfl) rfl ?_
      refine TL.nil ?_
      refine TX.seqN ?_
      refine TC.ret ?_
      refine TX.blkR ?_
      refine TX.thenR ?_
      refine TX.thenR ?_
      refine TX.blkR ?_
      refine TX.thenR ?_
      exact TX.finS (.inr rfl) (results1 rfl (RVal.tmp rfl)) (congrArg (Value.int .i64) (by first | exact (placeS_hit hI.1 (by rw [hx, c17]) hI.2.2).symm | exact (place_end hI.2.2 c9).symm))
    ·
      refine TC.skip ?_
      refine TX.blkN ?_
      refine TX.seqN ?_
      refine TC.region ?_
      refine TL.run (pr_pure rfl) rfl ?_
      refine TL.run ((by first | exact pr_add rfl rfl (by omega) (by omega) | exact pr_pure rfl)) rfl ?_
      refine TL.run (pr_pure rfl) rfl ?_
      refine TL.nil ?_
      exact TX.round (k + 1) ⟨by omega, by omega, place_next hI.1 hI.2.2 hx c17⟩ ⟨rfl, rfl, rfl, rfl, trivial⟩ (fun w hw => hw) (by omega)
  ·
    refine TC.exit ?_
    refine TX.thenE ?_
    refine TX.thenE ?_
    refine TX.blkHit ?_
    refine TX.seqN ?_
    refine TC.seq ?_
    refine TC.region ?_
    refine TL.run (pr_pure rfl) rfl ?_
    refine TL.nil ?_
    refine TX.seqN ?_
    refine TC.ret ?_
    exact TX.finS (.inr rfl) (results1 rfl (RVal.tmp rfl)) (congrArg (Value.int .i64) (by first | exact (placeS_hit hI.1 (by rw [hx, c17]) hI.2.2).symm | exact (place_end hI.2.2 c9).symm))

set_option maxRecDepth 100000 in
set_option maxHeartbeats 1000000 in
theorem r_Has_ok {H : Hp} {l : List Str} {v : Value} (s : Str) (hL : RdSl H 1 Str.cells v l) :
    FnS Tryd.prog 18 [v, gs s] H (.bool (hasS l s)) := by
  refine FnS.enter Tryd.func18 Tryd.ntmps18 rfl rfl (fun w0 => ?_)
  refine TC.seq ?_
  refine TC.region ?_
  refine TL.run (pr_pure rfl) rfl ?_
  refine TL.nil ?_
  refine TX.seqN ?_
  refine TC.seq ?_
  refine TC.region ?_
  refine TL.run (pr_pure rfl) rfl ?_
  refine TL.run (pr_pure rfl) rfl ?_
  refine TL.callS (enters rfl rfl rfl rfl) (r_Place_ok s hL) rfl ?_
  refine TL.run (pr_pure rfl) rfl ?_
  refine TL.run (pr_pure rfl) rfl ?_
  refine TL.nil ?_
  refine TX.seqN ?_
  refine TC.ret ?_
  exact TX.finS (.inr rfl) (results1 rfl (RVal.tmp rfl)) (congrArg Value.bool (by rw [← hasS_place]))

set_option maxRecDepth 100000 in
set_option maxHeartbeats 1000000 in
theorem n_Once_ok {H : Hp} {l : List Str} {v : Value} (hL : RdSl H 1 Str.cells v l) :
    FnS Tryd.prog 21 [v] H (.bool (onceS l)) := by
  have hmax := hL.max
  obtain ⟨la, lc, rfl⟩ := hL.len
  refine FnS.enter Tryd.func21 Tryd.ntmps21 rfl rfl (fun w0 => ?_)
  refine TC.seq ?_
  refine TC.region ?_
  refine TL.run (pr_pure rfl) rfl ?_
  refine TL.nil ?_
  refine TX.seqN ?_
  refine TC.seq ?_
  refine TC.seq ?_
  refine TC.region ?_
  refine TL.run (pr_pure rfl) rfl ?_
  refine TL.run (pr_lenSl rfl rfl hL) rfl ?_
  refine TL.run (pr_pure rfl) rfl ?_
  refine TL.nil ?_
  refine TX.seqN ?_
  refine TC.block ?_
  refine TC.loop (V := fun k => [(6, .int .i64 k)]) (K := [(0, _), (2, _), (5, _)]) (L := fun k => _) (I := fun k => 0 ≤ k ∧ k ≤ l.length ∧ (l.take k.toNat).Nodup) (μ := fun k => (l.length - k).toNat) (i := (0 : Int)) ⟨rfl, rfl, rfl, rfl, trivial⟩ ⟨by omega, by omega, List.nodup_nil⟩ (fun w hw => hw) (fun k hI => ?_)
  refine TC.seq ?_
  refine TC.region ?_
  refine TL.run (pr_pure rfl) rfl ?_
  refine TL.nil ?_
  refine TX.seqN ?_
  refine TC.seq ?_
  refine TC.condD rfl (fun c7 => ?_) (fun c7 => ?_)
  ·
    obtain ⟨x, hx⟩ := getSome (l := l) hI.1 c7
    refine TC.skip ?_
    refine TX.seqN ?_
    refine TC.seq ?_
    refine TC.block ?_
    refine TC.seq ?_
    refine TC.region ?_
    refine TL.run (pr_pure rfl) rfl ?_
    refine TL.run (pr_pure rfl) rfl ?_
    refine TL.nil ?_
    refine TX.seqN ?_
    refine TC.seq ?_
    refine TC.region ?_
    refine TL.run (pr_pure rfl) rfl ?_
    refine TL.run (pr_pure rfl) rfl ?_
    refine TL.run (pr_pure rfl) rfl ?_
    refine TL.run (pr_indexSl rfl hL rfl (by omega) (by omega)) rfl ?_
    refine TL.run (pr_el0 hL hx rfl rfl) rfl ?_
    refine TL.callS (enters rfl rfl rfl rfl) (n_Place_ok x hL) rfl ?_
    refine TL.run (pr_pure rfl) rfl ?_
    refine TL.run (pr_pure rfl) rfl ?_
    refine TL.nil ?_
    refine TX.seqN ?_
    refine TC.condND rfl (fun c16 => ?_) (fun c16 => ?_)
    ·
      refine TC.seq ?_
      refine TC.region ?_
      refine TL.run (pr_pure rfl) rfl ?_
      refine TL.nil ?_
      refine TX.seqN ?_
      refine TC.ret ?_
      refine TX.blkR ?_
      refine TX.thenR ?_
      refine TX.thenR ?_
      refine TX.blkR ?_
      refine TX.thenR ?_
      exact TX.finS (.inr rfl) (results1 rfl (RVal.tmp rfl)) (congrArg Value.bool (by first | exact (once_end c7 hI.1 hI.2.2).symm | exact (once_place hI.1 hx (by simpa using c16)).symm))
    ·
      refine TC.skip ?_
      refine TX.blkN ?_
      refine TX.seqN ?_
      refine TC.region ?_
      refine TL.run ((by first | exact pr_add rfl rfl (by omega) (by omega) | exact pr_pure rfl)) rfl ?_
      refine TL.run (pr_pure rfl) rfl ?_
      refine TL.nil ?_
      exact TX.round (k + 1) ⟨by omega, by omega, take_nodup hI.1 hx hI.2.2 (place_first hI.1 hx (by simpa using c16))⟩ ⟨rfl, rfl, rfl, rfl, trivial⟩ (fun w hw => hw) (by omega)
  ·
    refine TC.exit ?_
    refine TX.thenE ?_
    refine TX.thenE ?_
    refine TX.blkHit ?_
    refine TX.seqN ?_
    refine TC.seq ?_
    refine TC.region ?_
    refine TL.run (pr_pure rfl) rfl ?_
    refine TL.nil ?_
    refine TX.seqN ?_
    refine TC.ret ?_
    exact TX.finS (.inr rfl) (results1 rfl (RVal.tmp rfl)) (congrArg Value.bool (by first | exact (once_end c7 hI.1 hI.2.2).symm | exact (once_place hI.1 hx (by simpa using c16)).symm))

set_option maxRecDepth 100000 in
set_option maxHeartbeats 1000000 in
theorem r_Once_ok {H : Hp} {l : List Str} {v : Value} (hL : RdSl H 1 Str.cells v l) :
    FnS Tryd.prog 22 [v] H (.bool (onceS l)) := by
  have hmax := hL.max
  obtain ⟨la, lc, rfl⟩ := hL.len
  have hroom := hL.room _ _ _ rfl
  refine FnS.enter Tryd.func22 Tryd.ntmps22 rfl rfl (fun w0 => ?_)
  refine TC.seq ?_
  refine TC.region ?_
  refine TL.run (pr_pure rfl) rfl ?_
  refine TL.nil ?_
  refine TX.seqN ?_
  refine TC.seq ?_
  refine TC.seq ?_
  refine TC.region ?_
  refine TL.run (pr_pure rfl) rfl ?_
  refine TL.nil ?_
  refine TX.seqN ?_
  refine TC.block ?_
  refine TC.loop (V := fun k => [(3, .int .i64 k)]) (K := [(0, _), (2, _)]) (L := fun k => _) (I := fun k => 0 ≤ k ∧ k ≤ l.length ∧ (l.take k.toNat).Nodup) (μ := fun k => (l.length - k).toNat) (i := (0 : Int)) ⟨rfl, rfl, rfl, trivial⟩ ⟨by omega, by omega, List.nodup_nil⟩ (fun w hw => hw) (fun k hI => ?_)
  refine TC.seq ?_
  refine TC.seq ?_
  refine TC.region ?_
  refine TL.run (pr_pure rfl) rfl ?_
  refine TL.run (pr_pure rfl) rfl ?_
  refine TL.run (pr_lenSl rfl rfl hL) rfl ?_
  refine TL.run (pr_pure rfl) rfl ?_
  refine TL.nil ?_
  refine TX.seqN ?_
  refine TC.condD rfl (fun c7 => ?_) (fun c7 => ?_)
  ·
    obtain ⟨x, hx⟩ := getSome (l := l) hI.1 c7
    refine TC.skip ?_
    refine TX.seqN ?_
    refine TC.seq ?_
    refine TC.block ?_
    refine TC.seq ?_
    refine TC.quiet (by kernel_rfl) (by kernel_rfl) ?_
    refine TQ.run (pr_pure rfl) rfl ?_
    refine TQ.run (pr_pure rfl) rfl ?_
    refine TQ.run (pr_sliceH rfl rfl (by omega) (by omega)) rfl ?_
    refine TQ.run (pr_pure rfl) rfl ?_
    refine TQ.run (pr_pure rfl) rfl ?_
    refine TQ.run (pr_indexSl rfl hL rfl (by omega) (by omega)) rfl ?_
    refine TQ.run (pr_el0 hL hx rfl rfl) rfl ?_
    refine TQ.callS (enters rfl rfl rfl rfl) (r_Has_ok x (hL.sliced (i := 0) (j := k.toNat) (by omega) (by omega))) rfl ?_
    refine TQ.nil ?_
    refine TX.seqN ?_
    refine TC.cond rfl (fun c17 => ?_) (fun c17 => ?_)
    ·
      refine TC.seq ?_
      refine TC.region ?_
      refine TL.run (pr_pure rfl) rfl ?_
      refine TL.nil ?_
      refine TX.seqN ?_
      refine TC.ret ?_
      refine TX.blkR ?_
      refine TX.thenR ?_
      refine TX.thenR ?_
      refine TX.blkR ?_
      refine TX.thenR ?_
      exact TX.finS (.inr rfl) (results1 rfl (RVal.tmp rfl)) (congrArg Value.bool (by first | exact (once_end c7 hI.1 hI.2.2).symm | exact (once_has hI.1 hx c17).symm))
    ·
      refine TC.skip ?_
      refine TX.blkN ?_
      refine TX.seqN ?_
      refine TC.region ?_
      refine TL.run (pr_pure rfl) rfl ?_
      refine TL.run ((by first | exact pr_add rfl rfl (by omega) (by omega) | exact pr_pure rfl)) rfl ?_
      refine TL.run (pr_pure rfl) rfl ?_
      refine TL.nil ?_
      exact TX.round (k + 1) ⟨by omega, by omega, take_nodup hI.1 hx hI.2.2 (has_not c17)⟩ ⟨rfl, rfl, rfl, trivial⟩ (fun w hw => hw) (by omega)
  ·
    refine TC.exit ?_
    refine TX.thenE ?_
    refine TX.thenE ?_
    refine TX.blkHit ?_
    refine TX.seqN ?_
    refine TC.seq ?_
    refine TC.region ?_
    refine TL.run (pr_pure rfl) rfl ?_
    refine TL.nil ?_
    refine TX.seqN ?_
    refine TC.ret ?_
    exact TX.finS (.inr rfl) (results1 rfl (RVal.tmp rfl)) (congrArg Value.bool (by first | exact (once_end c7 hI.1 hI.2.2).symm | exact (once_has hI.1 hx c17).symm))

set_option maxRecDepth 100000 in
set_option maxHeartbeats 1000000 in
theorem cloneS_ok {H : Hp} {l : List Str} {v0 : Value} (hS : RdSl H 1 Str.cells v0 l) (hlen : l.length ≤ 100000) :
    FnO Tryd.prog 27 [v0] H (fun v H1 ob => H1 = H ∧ OwnSl 1 Str.cells v l ob) := by
  obtain ⟨a, cap, rfl⟩ := hS.len
  refine FnO.enter Tryd.func27 Tryd.ntmps27 rfl rfl (fun w0 => ?_)
  refine TC.seq ?_
  refine TC.region ?_
  refine TL.run (pr_pure rfl) rfl ?_
  refine TL.nil ?_
  refine TX.seqN ?_
  refine TC.seq ?_
  refine TC.seq ?_
  refine TC.region ?_
  refine TL.run (pr_pure rfl) rfl ?_
  refine TL.run (pr_slNil rfl rfl) rfl ?_
  refine TL.nil ?_
  refine TX.seqN ?_
  refine TC.cond rfl (fun c4 => ?_) (fun c4 => ?_)
  ·
    refine TC.seq ?_
    refine TC.region ?_
    refine TL.run (pr_pure rfl) rfl ?_
    refine TL.nil ?_
    refine TX.seqN ?_
    refine TC.ret ?_
    refine TX.thenR ?_
    exact TX.finO (.inr rfl) (results1 rfl (RVal.tmp rfl)) .all ⟨rfl, hS.ownNone c4⟩
  ·
    refine TC.skip ?_
    refine TX.seqN ?_
    refine TC.seq ?_
    refine TC.region ?_
    refine TL.bslice rfl rfl rfl rfl (fun b5 => ?_)
    refine TL.run (pr_pure rfl) rfl ?_
    refine TL.append (enc := Str.cells) rfl rfl rfl (OwnSl.blk (enc := Str.cells) [] rfl rfl (by decide)) (Src.sl hS) (by simp; omega) rfl (.take (.here _) rfl) rfl (fun a7 c7 ob7 hO7 => ?_)
    refine TL.run (pr_pure rfl) rfl ?_
    refine TL.nil ?_
    refine TX.seqN ?_
    refine TC.ret ?_
    exact TX.finO (.inr rfl) (results1 rfl (RVal.tmp rfl)) .all ⟨rfl, hO7⟩

set_option maxRecDepth 100000 in
set_option maxHeartbeats 1000000 in
theorem n_Put_ok {H : Hp} {l : List Str} {v : Value} (s : Str) (hL : RdSl H 1 Str.cells v l) (hlen : l.length ≤ 100000) :
    Fn Tryd.prog 12 [v, gs s] H (fun r H1 => RdSl H1 1 Str.cells r (putP l s)) := by
  refine Fn.enter Tryd.func12 Tryd.ntmps12 rfl rfl (fun w0 => ?_)
  refine TC.seq ?_
  refine TC.region ?_
  refine TL.run (pr_pure rfl) rfl ?_
  refine TL.nil ?_
  refine TX.seqN ?_
  refine TC.seq ?_
  refine TC.region ?_
  refine TL.run (pr_pure rfl) rfl ?_
  refine TL.callO (enters rfl rfl rfl rfl) (cloneS_ok hL hlen) rfl (fun v7 H7 ob7 hle7 hp7 => ?_)
  obtain ⟨rfl, hO7⟩ := hp7
  obtain ⟨a7, c7, rfl⟩ := hO7.form
  refine TL.run (pr_pure rfl) rfl ?_
  refine TL.bslice rfl rfl rfl rfl (fun b9 => ?_)
  refine TL.append (enc := Str.cells) rfl rfl rfl hO7 (Src.own [s] (.here _) rfl rfl) (by simp; omega) rfl (.skip _ .all) rfl (fun a10 c10 ob10 hO10 => ?_)
  refine TL.run (pr_pure rfl) rfl ?_
  refine TL.nil ?_
  refine TX.seqN ?_
  refine TC.seq ?_
  refine TC.region ?_
  refine TL.run (pr_pure rfl) rfl ?_
  refine TL.sort (enters rfl rfl rfl rfl) sort_ok hO10 (.skip _ .all) (by simp; omega) rfl (fun ob12 hO12 => ?_)
  refine TL.nil ?_
  refine TX.seqN ?_
  refine TC.seq ?_
  refine TC.region ?_
  refine TL.run (pr_pure rfl) rfl ?_
  refine TL.compact (enters rfl rfl rfl rfl) compact_ok hO12 (.skip _ .all) rfl (fun a14 c14 ob14 hO14 => ?_)
  refine TL.run (pr_pure rfl) rfl ?_
  refine TL.nil ?_
  refine TX.seqN ?_
  refine TC.ret ?_
  refine TX.pubO hO14 (.skip _ .all) (by simp) (fun H1 hle hR => ?_)
  exact TX.fin0 (.inr rfl) (results1 rfl (RVal.tmp rfl)) hR

set_option maxRecDepth 100000 in
set_option maxHeartbeats 1000000 in
theorem rput_ok {H : Hp} {l : List Str} {v : Value} (s : Str) (hL : RdSl H 1 Str.cells v l) (hlen : l.length ≤ 1000000) :
    Fn Tryd.prog 30 [v, gs s] H (fun r H1 => RdSl H1 1 Str.cells r (putS l s)) := by
  obtain ⟨va, vc, rfl⟩ := hL.len
  have hrm := hL.room _ _ _ rfl
  refine Fn.enter Tryd.func30 Tryd.ntmps30 rfl rfl (fun w0 => ?_)
  refine TC.seq ?_
  refine TC.region ?_
  refine TL.run (pr_pure rfl) rfl ?_
  refine TL.nil ?_
  refine TX.seqN ?_
  refine TC.seq ?_
  refine TC.region ?_
  refine TL.run (pr_pure rfl) rfl ?_
  refine TL.nil ?_
  refine TX.seqN ?_
  refine TC.seq ?_
  refine TC.block ?_
  refine TC.loop (V := fun k => [(5, .int .i64 k)]) (K := [(0, _), (1, _), (4, _)]) (L := fun k => _) (I := fun k => 0 ≤ k ∧ k ≤ l.length ∧ putS l s = l.take k.toNat ++ putS (l.drop k.toNat) s) (μ := fun k => (l.length - k).toNat) (i := (0 : Int)) ⟨rfl, rfl, rfl, rfl, trivial⟩ ⟨by omega, by omega, by simp⟩ (fun w hw => hw) (fun k hI => ?_)
  refine TC.seq ?_
  refine TC.seq ?_
  refine TC.region ?_
  refine TL.run (pr_pure rfl) rfl ?_
  refine TL.run (pr_pure rfl) rfl ?_
  refine TL.run (pr_lenSl rfl rfl hL) rfl ?_
  refine TL.run (pr_pure rfl) rfl ?_
  refine TL.run (pr_pure rfl) rfl ?_
  refine TL.split (s := 11) rfl (fun g11 => ?_) (fun g11 => ?_)
  ·
    have q11 := of_decide_eq_true g11
    obtain ⟨x, hx⟩ := getSome (l := l) hI.1 (by omega)
    refine TL.gdY rfl rfl (pr_pure rfl) rfl ?_
    refine TL.gdY rfl rfl (pr_pure rfl) rfl ?_
    refine TL.gdY rfl rfl (pr_indexSl rfl hL rfl (by omega) (by omega)) rfl ?_
    refine TL.gdY rfl rfl (pr_el0 hL hx rfl rfl) rfl ?_
    refine TL.gdY rfl rfl (pr_pure rfl) rfl ?_
    refine TL.gdY rfl rfl (pr_str rfl rfl rfl) rfl ?_
    refine TL.run (pr_pure rfl) rfl ?_
    refine TL.nil ?_
    refine TX.seqN ?_
    refine TC.cond rfl (fun c18 => ?_) (fun c18 => ?_)
    ·
      refine TC.skip ?_
      refine TX.seqN ?_
      refine TC.block ?_
      refine TC.region ?_
      refine TL.run (pr_pure rfl) rfl ?_
      refine TL.run ((by first | exact pr_add rfl rfl (by omega) (by omega) | exact pr_pure rfl)) rfl ?_
      refine TL.run (pr_pure rfl) rfl ?_
      refine TL.nil ?_
      refine TX.blkN ?_
      exact TX.round (k + 1) ⟨by omega, by omega, put_next hI.1 hI.2.2 hx (by simp_all)⟩ ⟨rfl, rfl, rfl, rfl, trivial⟩ (fun w hw => hw) (by omega)
    ·
      refine TC.exit ?_
      refine TX.thenE ?_
      refine TX.thenE ?_
      refine TX.blkHit ?_
      refine TX.seqN ?_
      refine TC.seq ?_
      refine TC.seq ?_
      refine TC.region ?_
      refine TL.run (pr_pure rfl) rfl ?_
      refine TL.run (pr_pure rfl) rfl ?_
      refine TL.run (pr_lenSl rfl rfl hL) rfl ?_
      refine TL.run (pr_pure rfl) rfl ?_
      refine TL.run (pr_pure rfl) rfl ?_
      refine TL.split (s := 25) rfl (fun g25 => ?_) (fun g25 => ?_)
      ·
        have q25 := of_decide_eq_true g25
        refine TL.gdY rfl rfl (pr_pure rfl) rfl ?_
        refine TL.gdY rfl rfl (pr_pure rfl) rfl ?_
        refine TL.gdY rfl rfl (pr_indexSl rfl hL rfl (by omega) (by omega)) rfl ?_
        refine TL.gdY rfl rfl (pr_el0 hL hx rfl rfl) rfl ?_
        refine TL.gdY rfl rfl (pr_pure rfl) rfl ?_
        refine TL.gdY rfl rfl (pr_str rfl rfl rfl) rfl ?_
        refine TL.run (pr_pure rfl) rfl ?_
        refine TL.nil ?_
        refine TX.seqN ?_
        refine TC.condD rfl (fun c32 => ?_) (fun c32 => ?_)
        ·
          refine TC.seq ?_
          refine TC.region ?_
          refine TL.run (pr_pure rfl) rfl ?_
          refine TL.run (pr_pure rfl) rfl ?_
          refine TL.nil ?_
          refine TX.seqN ?_
          refine TC.ret ?_
          refine TX.thenR ?_
          exact TX.fin0 (.inr rfl) (results1 rfl (RVal.tmp rfl)) (by first | exact absurd q25 q11 | (rw [put_have hI.2.2 hx (by simp [c18]) (by simpa using c32)]; exact hL))
        ·
          refine TC.skip ?_
          refine TX.seqN ?_
          refine TC.seq ?_
          refine TC.region ?_
          refine TL.run (pr_pure rfl) rfl ?_
          refine TL.run (pr_pure rfl) rfl ?_
          refine TL.run (pr_sliceH rfl rfl (by omega) (by omega)) rfl ?_
          refine TL.append (enc := Str.cells) rfl rfl rfl (OwnSl.nil (enc := Str.cells)) (Src.sl (hL.sliced (i := 0) (Nat.zero_le _) (by omega))) (by simp; omega) rfl (.new _ rfl) rfl (fun a37 c37 ob37 hO37 => ?_)
          refine TL.run (pr_pure rfl) rfl ?_
          refine TL.nil ?_
          refine TX.seqN ?_
          refine TC.seq ?_
          refine TC.region ?_
          refine TL.run (pr_pure rfl) rfl ?_
          refine TL.run (pr_pure rfl) rfl ?_
          refine TL.bslice rfl rfl rfl rfl (fun b40 => ?_)
          refine TL.append (enc := Str.cells) rfl rfl rfl hO37 (Src.own [s] (.here _) rfl rfl) (by simp; omega) rfl (.skip _ .all) rfl (fun a41 c41 ob41 hO41 => ?_)
          refine TL.run (pr_pure rfl) rfl ?_
          refine TL.nil ?_
          refine TX.seqN ?_
          refine TC.seq ?_
          refine TC.region ?_
          refine TL.run (pr_pure rfl) rfl ?_
          refine TL.run (pr_pure rfl) rfl ?_
          refine TL.run (pr_pure rfl) rfl ?_
          refine TL.run (pr_sliceL rfl rfl (by omega) (by omega)) rfl ?_
          refine TL.append (enc := Str.cells) rfl rfl rfl hO41 (Src.sl (hL.sliced (j := l.length) (by omega) (Nat.le_refl _))) (by simp; omega) rfl (.skip _ .all) rfl (fun a46 c46 ob46 hO46 => ?_)
          refine TL.run (pr_pure rfl) rfl ?_
          refine TL.nil ?_
          refine TX.seqN ?_
          refine TC.ret ?_
          refine TX.pubO hO46 (.skip _ .all) (by simp) (fun H1 hle hR => ?_)
          exact TX.fin0 (.inr rfl) (results1 rfl (RVal.tmp rfl)) (by first | exact absurd q25 q11 | (rw [put_mid hI.2.2 hx (by simp [c18]) (by simpa using c32)]; exact hR) | (rw [put_end hI.2.2 (by omega)]; exact hR))
      ·
        have q25 := of_decide_eq_false g25
        refine TL.gdN rfl rfl rfl rfl ?_
        refine TL.gdN rfl rfl rfl rfl ?_
        refine TL.gdN rfl rfl rfl rfl ?_
        refine TL.gdN rfl rfl rfl rfl ?_
        refine TL.gdN rfl rfl rfl rfl ?_
        refine TL.gdN rfl rfl rfl rfl ?_
        refine TL.run (pr_pure rfl) rfl ?_
        refine TL.nil ?_
        refine TX.seqN ?_
        refine TC.condF rfl ?_
        refine TC.skip ?_
        refine TX.seqN ?_
        refine TC.seq ?_
        refine TC.region ?_
        refine TL.run (pr_pure rfl) rfl ?_
        refine TL.run (pr_pure rfl) rfl ?_
        refine TL.run (pr_sliceH rfl rfl (by omega) (by omega)) rfl ?_
        refine TL.append (enc := Str.cells) rfl rfl rfl (OwnSl.nil (enc := Str.cells)) (Src.sl (hL.sliced (i := 0) (Nat.zero_le _) (by omega))) (by simp; omega) rfl (.new _ rfl) rfl (fun a37 c37 ob37 hO37 => ?_)
        refine TL.run (pr_pure rfl) rfl ?_
        refine TL.nil ?_
        refine TX.seqN ?_
        refine TC.seq ?_
        refine TC.region ?_
        refine TL.run (pr_pure rfl) rfl ?_
        refine TL.run (pr_pure rfl) rfl ?_
        refine TL.bslice rfl rfl rfl rfl (fun b40 => ?_)
        refine TL.append (enc := Str.cells) rfl rfl rfl hO37 (Src.own [s] (.here _) rfl rfl) (by simp; omega) rfl (.skip _ .all) rfl (fun a41 c41 ob41 hO41 => ?_)
        refine TL.run (pr_pure rfl) rfl ?_
        refine TL.nil ?_
        refine TX.seqN ?_
        refine TC.seq ?_
        refine TC.region ?_
        refine TL.run (pr_pure rfl) rfl ?_
        refine TL.run (pr_pure rfl) rfl ?_
        refine TL.run (pr_pure rfl) rfl ?_
        refine TL.run (pr_sliceL rfl rfl (by omega) (by omega)) rfl ?_
        refine TL.append (enc := Str.cells) rfl rfl rfl hO41 (Src.sl (hL.sliced (j := l.length) (by omega) (Nat.le_refl _))) (by simp; omega) rfl (.skip _ .all) rfl (fun a46 c46 ob46 hO46 => ?_)
        refine TL.run (pr_pure rfl) rfl ?_
        refine TL.nil ?_
        refine TX.seqN ?_
        refine TC.ret ?_
        refine TX.pubO hO46 (.skip _ .all) (by simp) (fun H1 hle hR => ?_)
        exact TX.fin0 (.inr rfl) (results1 rfl (RVal.tmp rfl)) (by first | exact absurd q25 q11 | (rw [put_mid hI.2.2 hx (by simp [c18]) (by simpa using c32)]; exact hR) | (rw [put_end hI.2.2 (by omega)]; exact hR))
  ·
    have q11 := of_decide_eq_false g11
    refine TL.gdN rfl rfl rfl rfl ?_
    refine TL.gdN rfl rfl rfl rfl ?_
    refine TL.gdN rfl rfl rfl rfl ?_
    refine TL.gdN rfl rfl rfl rfl ?_
    refine TL.gdN rfl rfl rfl rfl ?_
    refine TL.gdN rfl rfl rfl rfl ?_
    refine TL.run (pr_pure rfl) rfl ?_
    refine TL.nil ?_
    refine TX.seqN ?_
    refine TC.condF rfl ?_
    refine TC.exit ?_
    refine TX.thenE ?_
    refine TX.thenE ?_
    refine TX.blkHit ?_
    refine TX.seqN ?_
    refine TC.seq ?_
    refine TC.seq ?_
    refine TC.region ?_
    refine TL.run (pr_pure rfl) rfl ?_
    refine TL.run (pr_pure rfl) rfl ?_
    refine TL.run (pr_lenSl rfl rfl hL) rfl ?_
    refine TL.run (pr_pure rfl) rfl ?_
    refine TL.run (pr_pure rfl) rfl ?_
    refine TL.split (s := 25) rfl (fun g25 => ?_) (fun g25 => ?_)
    ·
      have q25 := of_decide_eq_true g25
      obtain ⟨x, hx⟩ := getSome (l := l) hI.1 (by omega)
      refine TL.gdY rfl rfl (pr_pure rfl) rfl ?_
      refine TL.gdY rfl rfl (pr_pure rfl) rfl ?_
      refine TL.gdY rfl rfl (pr_indexSl rfl hL rfl (by omega) (by omega)) rfl ?_
      refine TL.gdY rfl rfl (pr_el0 hL hx rfl rfl) rfl ?_
      refine TL.gdY rfl rfl (pr_pure rfl) rfl ?_
      refine TL.gdY rfl rfl (pr_str rfl rfl rfl) rfl ?_
      refine TL.run (pr_pure rfl) rfl ?_
      refine TL.nil ?_
      refine TX.seqN ?_
      refine TC.condD rfl (fun c32 => ?_) (fun c32 => ?_)
      ·
        refine TC.seq ?_
        refine TC.region ?_
        refine TL.run (pr_pure rfl) rfl ?_
        refine TL.run (pr_pure rfl) rfl ?_
        refine TL.nil ?_
        refine TX.seqN ?_
        refine TC.ret ?_
        refine TX.thenR ?_
        exact TX.fin0 (.inr rfl) (results1 rfl (RVal.tmp rfl)) (by first | exact absurd q25 q11 | (rw [put_have hI.2.2 hx (by simp [c18]) (by simpa using c32)]; exact hL))
      ·
        refine TC.skip ?_
        refine TX.seqN ?_
        refine TC.seq ?_
        refine TC.region ?_
        refine TL.run (pr_pure rfl) rfl ?_
        refine TL.run (pr_pure rfl) rfl ?_
        refine TL.run (pr_sliceH rfl rfl (by omega) (by omega)) rfl ?_
        refine TL.append (enc := Str.cells) rfl rfl rfl (OwnSl.nil (enc := Str.cells)) (Src.sl (hL.sliced (i := 0) (Nat.zero_le _) (by omega))) (by simp; omega) rfl (.new _ rfl) rfl (fun a37 c37 ob37 hO37 => ?_)
        refine TL.run (pr_pure rfl) rfl ?_
        refine TL.nil ?_
        refine TX.seqN ?_
        refine TC.seq ?_
        refine TC.region ?_
        refine TL.run (pr_pure rfl) rfl ?_
        refine TL.run (pr_pure rfl) rfl ?_
        refine TL.bslice rfl rfl rfl rfl (fun b40 => ?_)
        refine TL.append (enc := Str.cells) rfl rfl rfl hO37 (Src.own [s] (.here _) rfl rfl) (by simp; omega) rfl (.skip _ .all) rfl (fun a41 c41 ob41 hO41 => ?_)
        refine TL.run (pr_pure rfl) rfl ?_
        refine TL.nil ?_
        refine TX.seqN ?_
        refine TC.seq ?_
        refine TC.region ?_
        refine TL.run (pr_pure rfl) rfl ?_
        refine TL.run (pr_pure rfl) rfl ?_
        refine TL.run (pr_pure rfl) rfl ?_
        refine TL.run (pr_sliceL rfl rfl (by omega) (by omega)) rfl ?_
        refine TL.append (enc := Str.cells) rfl rfl rfl hO41 (Src.sl (hL.sliced (j := l.length) (by omega) (Nat.le_refl _))) (by simp; omega) rfl (.skip _ .all) rfl (fun a46 c46 ob46 hO46 => ?_)
        refine TL.run (pr_pure rfl) rfl ?_
        refine TL.nil ?_
        refine TX.seqN ?_
        refine TC.ret ?_
        refine TX.pubO hO46 (.skip _ .all) (by simp) (fun H1 hle hR => ?_)
        exact TX.fin0 (.inr rfl) (results1 rfl (RVal.tmp rfl)) (by first | exact absurd q25 q11 | (rw [put_mid hI.2.2 hx (by simp [c18]) (by simpa using c32)]; exact hR) | (rw [put_end hI.2.2 (by omega)]; exact hR))
    ·
      have q25 := of_decide_eq_false g25
      refine TL.gdN rfl rfl rfl rfl ?_
      refine TL.gdN rfl rfl rfl rfl ?_
      refine TL.gdN rfl rfl rfl rfl ?_
      refine TL.gdN rfl rfl rfl rfl ?_
      refine TL.gdN rfl rfl rfl rfl ?_
      refine TL.gdN rfl rfl rfl rfl ?_
      refine TL.run (pr_pure rfl) rfl ?_
      refine TL.nil ?_
      refine TX.seqN ?_
      refine TC.condF rfl ?_
      refine TC.skip ?_
      refine TX.seqN ?_
      refine TC.seq ?_
      refine TC.region ?_
      refine TL.run (pr_pure rfl) rfl ?_
      refine TL.run (pr_pure rfl) rfl ?_
      refine TL.run (pr_sliceH rfl rfl (by omega) (by omega)) rfl ?_
      refine TL.append (enc := Str.cells) rfl rfl rfl (OwnSl.nil (enc := Str.cells)) (Src.sl (hL.sliced (i := 0) (Nat.zero_le _) (by omega))) (by simp; omega) rfl (.new _ rfl) rfl (fun a37 c37 ob37 hO37 => ?_)
      refine TL.run (pr_pure rfl) rfl ?_
      refine TL.nil ?_
      refine TX.seqN ?_
      refine TC.seq ?_
      refine TC.region ?_
      refine TL.run (pr_pure rfl) rfl ?_
      refine TL.run (pr_pure rfl) rfl ?_
      refine TL.bslice rfl rfl rfl rfl (fun b40 => ?_)
      refine TL.append (enc := Str.cells) rfl rfl rfl hO37 (Src.own [s] (.here _) rfl rfl) (by simp; omega) rfl (.skip _ .all) rfl (fun a41 c41 ob41 hO41 => ?_)
      refine TL.run (pr_pure rfl) rfl ?_
      refine TL.nil ?_
      refine TX.seqN ?_
      refine TC.seq ?_
      refine TC.region ?_
      refine TL.run (pr_pure rfl) rfl ?_
      refine TL.run (pr_pure rfl) rfl ?_
      refine TL.run (pr_pure rfl) rfl ?_
      refine TL.run (pr_sliceL rfl rfl (by omega) (by omega)) rfl ?_
      refine TL.append (enc := Str.cells) rfl rfl rfl hO41 (Src.sl (hL.sliced (j := l.length) (by omega) (Nat.le_refl _))) (by simp; omega) rfl (.skip _ .all) rfl (fun a46 c46 ob46 hO46 => ?_)
      refine TL.run (pr_pure rfl) rfl ?_
      refine TL.nil ?_
      refine TX.seqN ?_
      refine TC.ret ?_
      refine TX.pubO hO46 (.skip _ .all) (by simp) (fun H1 hle hR => ?_)
      exact TX.fin0 (.inr rfl) (results1 rfl (RVal.tmp rfl)) (by first | exact absurd q25 q11 | (rw [put_mid hI.2.2 hx (by simp [c18]) (by simpa using c32)]; exact hR) | (rw [put_end hI.2.2 (by omega)]; exact hR))

set_option maxRecDepth 100000 in
set_option maxHeartbeats 1000000 in
theorem r_Put_ok {H : Hp} {l : List Str} {v : Value} (s : Str) (hL : RdSl H 1 Str.cells v l) (hlen : l.length ≤ 100000) :
    Fn Tryd.prog 13 [v, gs s] H (fun r H1 => RdSl H1 1 Str.cells r (l.foldl putS [s])) := by
  obtain ⟨la, lc, rfl⟩ := hL.len
  refine Fn.enter Tryd.func13 Tryd.ntmps13 rfl rfl (fun w0 => ?_)
  refine TC.seq ?_
  refine TC.region ?_
  refine TL.run (pr_pure rfl) rfl ?_
  refine TL.nil ?_
  refine TX.seqN ?_
  refine TC.seq ?_
  refine TC.region ?_
  refine TL.run (pr_pure rfl) rfl ?_
  refine TL.bslice rfl rfl rfl rfl (fun b8 => ?_)
  refine TL.run (pr_pure rfl) rfl ?_
  refine TL.nil ?_
  refine TX.seqN ?_
  refine TC.seq ?_
  refine TC.seq ?_
  refine TC.region ?_
  refine TL.pub (by simp) (fun H_b8 le_b8 rd_b8 => ?_)
  have h8 : RdSl H_b8 1 Str.cells _ [s] := RdSl.blk (cap := 1) rd_b8 (by intro x hx; rfl) (by kernel_rfl) (by simp)
  replace hL := hL.le le_b8
  refine TL.run (pr_pure rfl) rfl ?_
  refine TL.nil ?_
  refine TX.seqN ?_
  refine TC.block ?_
  refine TC.loop4 (V := fun k v ob H1 => [(5, v), (6, .int .i64 k)]) (K := [(0, _), (4, _)]) (L := fun k v ob H1 => St [] w0 H H1 ob) (I := fun k v ob H1 => 0 ≤ k ∧ k ≤ l.length ∧ ob = [] ∧ H_b8.le H1 ∧ RdSl H1 1 Str.cells v ((l.take k.toNat).foldl putS [s])) (μ := fun k => (l.length - k).toNat) 0 (.slice (some ⟨b8, 0, none⟩) 1 1) [] H_b8 ⟨rfl, rfl, rfl, rfl, trivial⟩ ⟨by omega, by omega, rfl, Hp.le.refl _, h8⟩ (fun w hw => hw) (fun k v ob H1 hI => ?_)
  obtain ⟨h0, h1, rfl, hle, hR⟩ := hI
  replace hL := hL.le hle
  refine TC.seq ?_
  refine TC.seq ?_
  refine TC.region ?_
  refine TL.run (pr_pure rfl) rfl ?_
  refine TL.run (pr_pure rfl) rfl ?_
  refine TL.run (pr_lenSl rfl rfl hL) rfl ?_
  refine TL.run (pr_pure rfl) rfl ?_
  refine TL.nil ?_
  refine TX.seqN ?_
  refine TC.condD rfl (fun c12 => ?_) (fun c12 => ?_)
  ·
    obtain ⟨x, hx⟩ := getSome (l := l) h0 c12
    have hfl := foldPut_len s (l.take k.toNat)
    refine TC.skip ?_
    refine TX.seqN ?_
    refine TC.seq ?_
    refine TC.block ?_
    refine TC.region ?_
    refine TL.run (pr_pure rfl) rfl ?_
    refine TL.run (pr_pure rfl) rfl ?_
    refine TL.run (pr_pure rfl) rfl ?_
    refine TL.run (pr_indexSl rfl hL rfl (by omega) (by omega)) rfl ?_
    refine TL.run (pr_el0 hL hx rfl rfl) rfl ?_
    refine TL.call (enters rfl rfl rfl rfl) (rput_ok x hR (by simp at hfl; omega)) rfl (fun v20 H20 hle20 hp20 => ?_)
    replace hL := hL.le hle20
    refine TL.run (pr_pure rfl) rfl ?_
    refine TL.nil ?_
    refine TX.blkN ?_
    refine TX.seqN ?_
    refine TC.region ?_
    refine TL.run (pr_pure rfl) rfl ?_
    refine TL.run ((by first | exact pr_add rfl rfl (by omega) (by omega) | exact pr_pure rfl)) rfl ?_
    refine TL.run (pr_pure rfl) rfl ?_
    refine TL.nil ?_
    exact TX.round4 (k + 1) _ [] H20 ⟨by omega, by omega, rfl, hle.trans hle20, by rw [take_snoc h0 hx, List.foldl_append]; exact hp20⟩ ⟨rfl, rfl, rfl, rfl, trivial⟩ (fun w hw => hw) (by omega)
  ·
    refine TC.exit ?_
    refine TX.thenE ?_
    refine TX.thenE ?_
    refine TX.blkHit ?_
    refine TX.seqN ?_
    refine TC.seq ?_
    refine TC.region ?_
    refine TL.run (pr_pure rfl) rfl ?_
    refine TL.run (pr_pure rfl) rfl ?_
    refine TL.nil ?_
    refine TX.seqN ?_
    refine TC.ret ?_
    exact TX.fin0 (.inr rfl) (results1 rfl (RVal.tmp rfl)) (by rw [take_all c12 h0] at hR; exact hR)

set_option maxRecDepth 100000 in
set_option maxHeartbeats 1000000 in
theorem n_Fresh_ok {H : Hp} {l : List Str} {v : Value} (s : Str) (hL : RdSl H 1 Str.cells v l) (hlen : l.length ≤ 60) :
    FnS Tryd.prog 10 [v, gs s] H (gs (freshS l s)) := by
  refine FnS.enter Tryd.func10 Tryd.ntmps10 rfl rfl (fun w0 => ?_)
  refine TC.seq ?_
  refine TC.region ?_
  refine TL.run (pr_pure rfl) rfl ?_
  refine TL.nil ?_
  refine TX.seqN ?_
  refine TC.seq ?_
  refine TC.seq ?_
  refine TC.region ?_
  refine TL.run (pr_pure rfl) rfl ?_
  refine TL.run (pr_pure rfl) rfl ?_
  refine TL.callS (enters rfl rfl rfl rfl) (n_Has_ok s hL) rfl ?_
  refine TL.run (pr_pure rfl) rfl ?_
  refine TL.nil ?_
  refine TX.seqN ?_
  refine TC.cond rfl (fun c12 => ?_) (fun c12 => ?_)
  ·
    refine TC.seq ?_
    refine TC.region ?_
    refine TL.run (pr_pure rfl) rfl ?_
    refine TL.run (pr_pure rfl) rfl ?_
    refine TL.nil ?_
    refine TX.seqN ?_
    refine TC.ret ?_
    refine TX.thenR ?_
    exact TX.finS (.inr rfl) (results1 rfl (RVal.tmp rfl)) (congrArg gs (by first | exact (fresh_no c12).symm | exact (fresh_hit hin k2 hc hI2 c35 k3).symm))
  ·
    have hin : s ∈ l := by simpa [hasS] using c12
    refine TC.skip ?_
    refine TX.seqN ?_
    refine TC.seq ?_
    refine TC.region ?_
    refine TL.run (pr_pure rfl) rfl ?_
    refine TL.nil ?_
    refine TX.seqN ?_
    refine TC.block ?_
    refine TC.loop (V := fun k => [(5, .int .i64 k)]) (K := [(0, _), (1, _), (4, _)]) (L := fun k => _) (I := fun k => 2 ≤ k ∧ k ≤ 99 ∧ ∀ j : Nat, 2 ≤ j → j < k.toNat → cand s j ∈ l) (μ := fun k => (100 - k).toNat) (i := (2 : Int)) ⟨rfl, rfl, rfl, rfl, trivial⟩ ⟨by omega, by omega, fun j h1 h2 => absurd h2 (by simp; omega)⟩ (fun w hw => hw) (fun k hI => ?_)
    obtain ⟨k2, k3, hc⟩ := hI
    refine TC.seq ?_
    refine TC.block ?_
    refine TC.seq ?_
    refine TC.region ?_
    refine TL.run (pr_pure rfl) rfl ?_
    refine TL.callS (enters rfl rfl rfl rfl) (itoa_ok k (by omega) (by omega)) rfl ?_
    refine TL.run (pr_pure rfl) rfl ?_
    refine TL.nil ?_
    refine TX.seqN ?_
    refine TC.seq ?_
    refine TC.region ?_
    refine TL.run (pr_pure rfl) rfl ?_
    refine TL.run (pr_pure rfl) rfl ?_
    refine TL.nil ?_
    refine TX.seqN ?_
    refine TC.mid (V := fun h => [(7, gs h)]) (K := [(0, _), (1, _), (4, _), (5, _), (6, _), (16, _), (17, _), (18, _)]) ⟨rfl, rfl, rfl, rfl, rfl, rfl, rfl, rfl, trivial⟩ (L := fun h => St [] w0 H H []) (I := fun h => h = s.take (12 - (Lib.itoa k).length)) ?_ ?_
    ·
      refine TC.seq ?_
      refine TC.region ?_
      refine TL.run (pr_pure rfl) rfl ?_
      refine TL.run (pr_lenStr rfl rfl) rfl ?_
      have hil := itoa_len k2 k3
      refine TL.run ((by first | exact pr_sub rfl rfl (by omega) (by omega) | exact pr_pure rfl)) rfl ?_
      refine TL.run (pr_pure rfl) rfl ?_
      refine TL.nil ?_
      refine TX.seqN ?_
      refine TC.seq ?_
      refine TC.region ?_
      refine TL.run (pr_pure rfl) rfl ?_
      refine TL.run (pr_lenStr rfl rfl) rfl ?_
      refine TL.run (pr_pure rfl) rfl ?_
      refine TL.run (pr_pure rfl) rfl ?_
      refine TL.nil ?_
      refine TX.seqN ?_
      refine TC.condD rfl (fun c25 => ?_) (fun c25 => ?_)
      ·
        refine TC.region ?_
        refine TL.run (pr_pure rfl) rfl ?_
        refine TL.run (pr_pure rfl) rfl ?_
        refine TL.run (pr_max rfl rfl rfl) rfl ?_
        refine TL.run (pr_strH rfl rfl (by omega) (by have := itoa_len k2 k3; omega)) rfl ?_
        refine TL.run (pr_pure rfl) rfl ?_
        refine TL.nil ?_
        exact TX.mid (s.take (if (0 : Int) > 12 - ((Lib.itoa k).length : Int) then 0 else 12 - ((Lib.itoa k).length : Int)).toNat) (by first | exact head_T k2 k3 | exact head_F k2 k3 c25) ⟨rfl, rfl, rfl, rfl, rfl, rfl, rfl, rfl, rfl, trivial⟩ (fun w hw => hw)
      ·
        refine TC.skip ?_
        exact TX.mid s (by first | exact head_T k2 k3 | exact head_F k2 k3 c25) ⟨rfl, rfl, rfl, rfl, rfl, rfl, rfl, rfl, rfl, trivial⟩ (fun w hw => hw)
    ·
      intro h hI
      have hI2 := hI
      refine TC.seq ?_
      refine TC.region ?_
      refine TL.run (pr_pure rfl) rfl ?_
      refine TL.run (pr_pure rfl) rfl ?_
      refine TL.run (pr_pure rfl) rfl ?_
      refine TL.run (pr_concat rfl rfl (by have := itoa_len k2 k3; have := head_len hI2; omega)) rfl ?_
      refine TL.callS (enters rfl rfl rfl rfl) (n_Has_ok (h ++ Lib.itoa k) hL) rfl ?_
      refine TL.run (pr_pure rfl) rfl ?_
      refine TL.nil ?_
      refine TX.seqN ?_
      refine TC.cond rfl (fun c35 => ?_) (fun c35 => ?_)
      ·
        refine TC.seq ?_
        refine TC.region ?_
        refine TL.run (pr_pure rfl) rfl ?_
        refine TL.run (pr_pure rfl) rfl ?_
        refine TL.run (pr_concat rfl rfl (by have := itoa_len k2 k3; have := head_len hI2; omega)) rfl ?_
        refine TL.run (pr_pure rfl) rfl ?_
        refine TL.nil ?_
        refine TX.seqN ?_
        refine TC.ret ?_
        refine TX.blkR ?_
        refine TX.thenR ?_
        refine TX.thenR ?_
        refine TX.blkR ?_
        exact TX.finS (.inr rfl) (results1 rfl (RVal.tmp rfl)) (congrArg gs (by first | exact (fresh_no c12).symm | exact (fresh_hit hin k2 hc hI2 c35 k3).symm))
      ·
        refine TC.skip ?_
        refine TX.blkN ?_
        refine TX.seqN ?_
        refine TC.region ?_
        refine TL.run (pr_pure rfl) rfl ?_
        refine TL.run ((by first | exact pr_add rfl rfl (by omega) (by omega) | exact pr_pure rfl)) rfl ?_
        refine TL.run (pr_pure rfl) rfl ?_
        refine TL.nil ?_
        exact TX.round (k + 1) (fresh_next hlen k2 k3 hc hI2 c35) ⟨rfl, rfl, rfl, rfl, trivial⟩ (fun w hw => hw) (by omega)

set_option maxRecDepth 100000 in
set_option maxHeartbeats 1000000 in
theorem digits0_ok {H : Hp} (n : Int) (h0 : -9223372036854775808 ≤ n) (h1 : n ≤ 9223372036854775807) (hn : ¬ n < 0) :
    FnS Tryd.prog 31 [.int .i64 n] H (gs (Lib.itoa n)) := by
  refine FnS.enter Tryd.func31 Tryd.ntmps31 rfl rfl (fun w0 => ?_)
  refine TC.seq ?_
  refine TC.region ?_
  refine TL.run (pr_pure rfl) rfl ?_
  refine TL.nil ?_
  refine TX.seqN ?_
  refine TC.seq ?_
  refine TC.region ?_
  refine TL.run (pr_pure rfl) rfl ?_
  refine TL.run (PR.to (pr_conv rfl) (congrArg (Value.int .u64) (dig_pos h0 h1 hn))) rfl ?_
  refine TL.run (pr_pure rfl) rfl ?_
  refine TL.nil ?_
  refine TX.seqN ?_
  refine TC.seq ?_
  refine TC.seq ?_
  refine TC.region ?_
  refine TL.run (pr_pure rfl) rfl ?_
  refine TL.run (pr_pure rfl) rfl ?_
  refine TL.nil ?_
  refine TX.seqN ?_
  refine TC.condD rfl (fun c8 => ?_) (fun c8 => ?_)
  ·
    exact absurd c8 hn
  ·
    refine TC.skip ?_
    refine TX.seqN ?_
    refine TC.seq ?_
    refine TC.region ?_
    refine TL.run (pr_pure rfl) rfl ?_
    refine TL.nil ?_
    refine TX.seqN ?_
    refine TC.seq ?_
    refine TC.block ?_
    refine TC.loop4 (V := fun (p : Nat × Nat) v ob H1 => [(3, .int .u64 (p.1 : Int)), (4, v)]) (K := [(0, _), (2, _)]) (L := fun (p : Nat × Nat) v ob H1 => St [] w0 H H ob) (I := fun (p : Nat × Nat) v ob H1 => ∃ o : Str, OwnSl 1 U8.cells v o ob ∧ DigI n.natAbs p.1 p.2 o) (μ := fun (p : Nat × Nat) => p.1 + p.2) (n.natAbs, 1) (.slice none 0 0) [] H ⟨rfl, rfl, rfl, rfl, trivial⟩ ⟨[], OwnSl.nil, DigI.zero h0 h1⟩ (fun w hw => hw) (fun p v ob H1 hI => ?_)
    obtain ⟨o, hO, hD⟩ := hI
    obtain ⟨va, vc, rfl⟩ := hO.form
    refine TC.seq ?_
    refine TC.sw (decide (0 < p.1) || decide (o.length = 0)) 17 [(0, _), (2, _), (3, _), (4, _)] ⟨rfl, rfl, rfl, rfl, trivial⟩ ?_ ?_
    ·
      refine TC.region ?_
      refine TL.run (pr_pure rfl) rfl ?_
      refine TL.run (pr_pure rfl) rfl ?_
      refine TL.run (pr_pure rfl) rfl ?_
      refine TL.split (s := 13) rfl (fun g13 => ?_) (fun g13 => ?_)
      ·
        have q13 := of_decide_eq_true g13
        refine TL.gdN rfl rfl rfl rfl ?_
        refine TL.gdN rfl rfl rfl rfl ?_
        refine TL.gdN rfl rfl rfl rfl ?_
        refine TL.run (pr_pure rfl) rfl ?_
        refine TL.nil ?_
        exact TX.sw rfl (by first | exact dgo_1 g13 | exact dgo_2 g13) ⟨rfl, rfl, rfl, rfl, trivial⟩
      ·
        have q13 := of_decide_eq_false g13
        refine TL.gdY rfl rfl (pr_pure rfl) rfl ?_
        refine TL.gdY rfl rfl (pr_lenO rfl rfl hO) rfl ?_
        refine TL.gdY rfl rfl (pr_pure rfl) rfl ?_
        refine TL.run (pr_pure rfl) rfl ?_
        refine TL.nil ?_
        exact TX.sw rfl (by first | exact dgo_1 g13 | exact dgo_2 g13) ⟨rfl, rfl, rfl, rfl, trivial⟩
    refine TC.cond rfl (fun c17 => ?_) (fun c17 => ?_)
    ·
      have hgo := dgo_T c17
      refine TC.skip ?_
      refine TX.seqN ?_
      refine TC.block ?_
      refine TC.seq ?_
      refine TC.region ?_
      refine TL.run (pr_pure rfl) rfl ?_
      refine TL.run (pr_rem rfl rfl (by decide)) rfl ?_
      refine TL.run (pr_pure rfl) rfl ?_
      refine TL.run (PR.to (pr_conv rfl) (congrArg (Value.int .u8) (dig_byte p.1))) rfl ?_
      refine TL.bslice rfl rfl rfl rfl (fun b22 => ?_)
      refine TL.run (pr_pure rfl) rfl ?_
      refine TL.append (enc := U8.cells) rfl rfl rfl (OwnSl.blk (enc := U8.cells) [UInt8.ofNat (48 + p.1 % 10)] rfl rfl (by decide)) (Src.og hO (.skip _ .all)) (by have := hD.len; simp; omega) rfl (.take (.here _) rfl) rfl (fun a24 c24 ob24 hO24 => ?_)
      refine TL.run (pr_pure rfl) rfl ?_
      refine TL.nil ?_
      refine TX.seqN ?_
      refine TC.region ?_
      refine TL.run (pr_pure rfl) rfl ?_
      refine TL.run (PR.to (pr_quo rfl rfl (by decide)) (congrArg (Value.int .u64) (dig_quo hD.lt))) rfl ?_
      refine TL.run (pr_pure rfl) rfl ?_
      refine TL.nil ?_
      refine TX.blkN ?_
      exact TX.round4 (p.1 / 10, 0) _ ob24 H1 ⟨_, hO24, hD.next hgo⟩ ⟨rfl, rfl, rfl, rfl, trivial⟩ (fun w hw => hw.dropN) (hD.down hgo)
    ·
      have hend := dgo_F c17
      refine TC.exit ?_
      refine TX.thenE ?_
      refine TX.thenE ?_
      refine TX.blkHit ?_
      refine TX.seqN ?_
      refine TC.seq ?_
      refine TC.seq ?_
      refine TC.region ?_
      refine TL.run (pr_pure rfl) rfl ?_
      refine TL.run (pr_pure rfl) rfl ?_
      refine TL.nil ?_
      refine TX.seqN ?_
      refine TC.condD rfl (fun c28 => ?_) (fun c28 => ?_)
      ·
        refine TC.seq ?_
        refine TC.region ?_
        refine TL.run (pr_pure rfl) rfl ?_
        refine TL.run (pr_bytes rfl hO .all) rfl ?_
        refine TL.run (pr_concat rfl rfl (by have := hD.len; simp; omega)) rfl ?_
        refine TL.run (pr_pure rfl) rfl ?_
        refine TL.nil ?_
        refine TX.seqN ?_
        refine TC.ret ?_
        refine TX.thenR ?_
        exact TX.finS (.inr rfl) (results1 rfl (RVal.tmp rfl)) (congrArg gs (by first | exact digN_neg hD hend c28 | exact digN_pos hD hend c28))
      ·
        refine TC.skip ?_
        refine TX.seqN ?_
        refine TC.seq ?_
        refine TC.region ?_
        refine TL.run (pr_pure rfl) rfl ?_
        refine TL.run (pr_bytes rfl hO .all) rfl ?_
        refine TL.run (pr_pure rfl) rfl ?_
        refine TL.nil ?_
        refine TX.seqN ?_
        refine TC.ret ?_
        exact TX.finS (.inr rfl) (results1 rfl (RVal.tmp rfl)) (congrArg gs (by first | exact digN_neg hD hend c28 | exact digN_pos hD hend c28))

set_option maxRecDepth 100000 in
set_option maxHeartbeats 1000000 in
theorem digits1_ok {H : Hp} (n : Int) (h0 : -9223372036854775808 ≤ n) (h1 : n ≤ 9223372036854775807) (hn : n < 0) :
    FnS Tryd.prog 31 [.int .i64 n] H (gs (Lib.itoa n)) := by
  refine FnS.enter Tryd.func31 Tryd.ntmps31 rfl rfl (fun w0 => ?_)
  refine TC.seq ?_
  refine TC.region ?_
  refine TL.run (pr_pure rfl) rfl ?_
  refine TL.nil ?_
  refine TX.seqN ?_
  refine TC.seq ?_
  refine TC.region ?_
  refine TL.run (pr_pure rfl) rfl ?_
  refine TL.run (pr_conv rfl) rfl ?_
  refine TL.run (pr_pure rfl) rfl ?_
  refine TL.nil ?_
  refine TX.seqN ?_
  refine TC.seq ?_
  refine TC.seq ?_
  refine TC.region ?_
  refine TL.run (pr_pure rfl) rfl ?_
  refine TL.run (pr_pure rfl) rfl ?_
  refine TL.nil ?_
  refine TX.seqN ?_
  refine TC.condD rfl (fun c8 => ?_) (fun c8 => ?_)
  ·
    refine TC.region ?_
    refine TL.run (pr_pure rfl) rfl ?_
    refine TL.run (PR.to (pr_pure rfl) (congrArg (Value.int .u64) (dig_neg h0 h1 hn))) rfl ?_
    refine TL.run (pr_pure rfl) rfl ?_
    refine TL.nil ?_
    refine TX.seqN ?_
    refine TC.seq ?_
    refine TC.region ?_
    refine TL.run (pr_pure rfl) rfl ?_
    refine TL.nil ?_
    refine TX.seqN ?_
    refine TC.seq ?_
    refine TC.block ?_
    refine TC.loop4 (V := fun (p : Nat × Nat) v ob H1 => [(3, .int .u64 (p.1 : Int)), (4, v)]) (K := [(0, _), (2, _)]) (L := fun (p : Nat × Nat) v ob H1 => St [] w0 H H ob) (I := fun (p : Nat × Nat) v ob H1 => ∃ o : Str, OwnSl 1 U8.cells v o ob ∧ DigI n.natAbs p.1 p.2 o) (μ := fun (p : Nat × Nat) => p.1 + p.2) (n.natAbs, 1) (.slice none 0 0) [] H ⟨rfl, rfl, rfl, rfl, trivial⟩ ⟨[], OwnSl.nil, DigI.zero h0 h1⟩ (fun w hw => hw) (fun p v ob H1 hI => ?_)
    obtain ⟨o, hO, hD⟩ := hI
    obtain ⟨va, vc, rfl⟩ := hO.form
    refine TC.seq ?_
    refine TC.sw (decide (0 < p.1) || decide (o.length = 0)) 17 [(0, _), (2, _), (3, _), (4, _)] ⟨rfl, rfl, rfl, rfl, trivial⟩ ?_ ?_
    ·
      refine TC.region ?_
      refine TL.run (pr_pure rfl) rfl ?_
      refine TL.run (pr_pure rfl) rfl ?_
      refine TL.run (pr_pure rfl) rfl ?_
      refine TL.split (s := 13) rfl (fun g13 => ?_) (fun g13 => ?_)
      ·
        have q13 := of_decide_eq_true g13
        refine TL.gdN rfl rfl rfl rfl ?_
        refine TL.gdN rfl rfl rfl rfl ?_
        refine TL.gdN rfl rfl rfl rfl ?_
        refine TL.run (pr_pure rfl) rfl ?_
        refine TL.nil ?_
        exact TX.sw rfl (by first | exact dgo_1 g13 | exact dgo_2 g13) ⟨rfl, rfl, rfl, rfl, trivial⟩
      ·
        have q13 := of_decide_eq_false g13
        refine TL.gdY rfl rfl (pr_pure rfl) rfl ?_
        refine TL.gdY rfl rfl (pr_lenO rfl rfl hO) rfl ?_
        refine TL.gdY rfl rfl (pr_pure rfl) rfl ?_
        refine TL.run (pr_pure rfl) rfl ?_
        refine TL.nil ?_
        exact TX.sw rfl (by first | exact dgo_1 g13 | exact dgo_2 g13) ⟨rfl, rfl, rfl, rfl, trivial⟩
    refine TC.cond rfl (fun c17 => ?_) (fun c17 => ?_)
    ·
      have hgo := dgo_T c17
      refine TC.skip ?_
      refine TX.seqN ?_
      refine TC.block ?_
      refine TC.seq ?_
      refine TC.region ?_
      refine TL.run (pr_pure rfl) rfl ?_
      refine TL.run (pr_rem rfl rfl (by decide)) rfl ?_
      refine TL.run (pr_pure rfl) rfl ?_
      refine TL.run (PR.to (pr_conv rfl) (congrArg (Value.int .u8) (dig_byte p.1))) rfl ?_
      refine TL.bslice rfl rfl rfl rfl (fun b22 => ?_)
      refine TL.run (pr_pure rfl) rfl ?_
      refine TL.append (enc := U8.cells) rfl rfl rfl (OwnSl.blk (enc := U8.cells) [UInt8.ofNat (48 + p.1 % 10)] rfl rfl (by decide)) (Src.og hO (.skip _ .all)) (by have := hD.len; simp; omega) rfl (.take (.here _) rfl) rfl (fun a24 c24 ob24 hO24 => ?_)
      refine TL.run (pr_pure rfl) rfl ?_
      refine TL.nil ?_
      refine TX.seqN ?_
      refine TC.region ?_
      refine TL.run (pr_pure rfl) rfl ?_
      refine TL.run (PR.to (pr_quo rfl rfl (by decide)) (congrArg (Value.int .u64) (dig_quo hD.lt))) rfl ?_
      refine TL.run (pr_pure rfl) rfl ?_
      refine TL.nil ?_
      refine TX.blkN ?_
      exact TX.round4 (p.1 / 10, 0) _ ob24 H1 ⟨_, hO24, hD.next hgo⟩ ⟨rfl, rfl, rfl, rfl, trivial⟩ (fun w hw => hw.dropN) (hD.down hgo)
    ·
      have hend := dgo_F c17
      refine TC.exit ?_
      refine TX.thenE ?_
      refine TX.thenE ?_
      refine TX.blkHit ?_
      refine TX.seqN ?_
      refine TC.seq ?_
      refine TC.seq ?_
      refine TC.region ?_
      refine TL.run (pr_pure rfl) rfl ?_
      refine TL.run (pr_pure rfl) rfl ?_
      refine TL.nil ?_
      refine TX.seqN ?_
      refine TC.condD rfl (fun c28 => ?_) (fun c28 => ?_)
      ·
        refine TC.seq ?_
        refine TC.region ?_
        refine TL.run (pr_pure rfl) rfl ?_
        refine TL.run (pr_bytes rfl hO .all) rfl ?_
        refine TL.run (pr_concat rfl rfl (by have := hD.len; simp; omega)) rfl ?_
        refine TL.run (pr_pure rfl) rfl ?_
        refine TL.nil ?_
        refine TX.seqN ?_
        refine TC.ret ?_
        refine TX.thenR ?_
        exact TX.finS (.inr rfl) (results1 rfl (RVal.tmp rfl)) (congrArg gs (by first | exact digN_neg hD hend c28 | exact digN_pos hD hend c28))
      ·
        refine TC.skip ?_
        refine TX.seqN ?_
        refine TC.seq ?_
        refine TC.region ?_
        refine TL.run (pr_pure rfl) rfl ?_
        refine TL.run (pr_bytes rfl hO .all) rfl ?_
        refine TL.run (pr_pure rfl) rfl ?_
        refine TL.nil ?_
        refine TX.seqN ?_
        refine TC.ret ?_
        exact TX.finS (.inr rfl) (results1 rfl (RVal.tmp rfl)) (congrArg gs (by first | exact digN_neg hD hend c28 | exact digN_pos hD hend c28))
  ·
    exact absurd hn c8

theorem digits_ok {H : Hp} (n : Int) (h0 : -9223372036854775808 ≤ n) (h1 : n ≤ 9223372036854775807) : FnS Tryd.prog 31 [.int .i64 n] H (gs (Lib.itoa n)) := by
  by_cases hn : n < 0
  · exact digits1_ok n h0 h1 hn
  · exact digits0_ok n h0 h1 hn

set_option maxRecDepth 100000 in
set_option maxHeartbeats 1000000 in
theorem r_Fresh_ok {H : Hp} {l : List Str} {v : Value} (s : Str) (hL : RdSl H 1 Str.cells v l) (hlen : l.length ≤ 60) :
    FnS Tryd.prog 14 [v, gs s] H (gs (freshS l s)) := by
  refine FnS.enter Tryd.func14 Tryd.ntmps14 rfl rfl (fun w0 => ?_)
  refine TC.seq ?_
  refine TC.region ?_
  refine TL.run (pr_pure rfl) rfl ?_
  refine TL.nil ?_
  refine TX.seqN ?_
  refine TC.seq ?_
  refine TC.region ?_
  refine TL.run (pr_pure rfl) rfl ?_
  refine TL.run (pr_pure rfl) rfl ?_
  refine TL.nil ?_
  refine TX.seqN ?_
  refine TC.seq ?_
  refine TC.seq ?_
  refine TC.region ?_
  refine TL.run (pr_pure rfl) rfl ?_
  refine TL.nil ?_
  refine TX.seqN ?_
  refine TC.block ?_
  refine TC.loop (V := fun (p : Str × Int) => [(5, gs p.1), (6, .int .i64 p.2)]) (K := [(0, _), (1, _), (4, _)]) (L := fun (p : Str × Int) => _) (I := fun (p : Str × Int) => FreshI l s p.1 p.2) (μ := fun (p : Str × Int) => (101 - p.2).toNat) (i := (s, (2 : Int))) ⟨rfl, rfl, rfl, rfl, rfl, trivial⟩ ⟨by omega, .inl ⟨rfl, rfl⟩⟩ (fun w hw => hw) (fun (p : Str × Int) hI => ?_)
  refine TC.seq ?_
  refine TC.seq ?_
  refine TC.region ?_
  refine TL.run (pr_pure rfl) rfl ?_
  refine TL.run (pr_pure rfl) rfl ?_
  refine TL.callS (enters rfl rfl rfl rfl) (r_Has_ok p.1 hL) rfl ?_
  refine TL.nil ?_
  refine TX.seqN ?_
  refine TC.cond rfl (fun c11 => ?_) (fun c11 => ?_)
  ·
    have hk9 := hI.le hlen c11
    have hk2 := hI.1
    have hil := itoa_len hk2 hk9
    refine TC.skip ?_
    refine TX.seqN ?_
    refine TC.seq ?_
    refine TC.block ?_
    refine TC.seq ?_
    refine TC.region ?_
    refine TL.run (pr_pure rfl) rfl ?_
    refine TL.callS (enters rfl rfl rfl rfl) (digits_ok p.2 (by omega) (by omega)) rfl ?_
    refine TL.run (pr_pure rfl) rfl ?_
    refine TL.nil ?_
    refine TX.seqN ?_
    refine TC.region ?_
    refine TL.run (pr_pure rfl) rfl ?_
    refine TL.run (pr_pure rfl) rfl ?_
    refine TL.run (pr_lenStr rfl rfl) rfl ?_
    refine TL.run (pr_pure rfl) rfl ?_
    refine TL.run (pr_lenStr rfl rfl) rfl ?_
    refine TL.run ((by first | exact pr_sub rfl rfl (by omega) (by omega) | exact pr_pure rfl)) rfl ?_
    refine TL.run (pr_min rfl rfl rfl) rfl ?_
    refine TL.run (pr_strH rfl rfl (by split <;> omega) (by split <;> omega)) rfl ?_
    refine TL.run (pr_pure rfl) rfl ?_
    refine TL.run (pr_concat rfl rfl (by rw [List.length_take]; split <;> omega)) rfl ?_
    refine TL.run (pr_pure rfl) rfl ?_
    refine TL.nil ?_
    refine TX.blkN ?_
    refine TX.seqN ?_
    refine TC.region ?_
    refine TL.run (pr_pure rfl) rfl ?_
    refine TL.run ((by first | exact pr_add rfl rfl (by omega) (by omega) | exact pr_pure rfl)) rfl ?_
    refine TL.run (pr_pure rfl) rfl ?_
    refine TL.nil ?_
    exact TX.round (_, p.2 + 1) (hI.next c11 hk9) ⟨rfl, rfl, rfl, rfl, rfl, trivial⟩ (fun w hw => hw) (by omega)
  ·
    refine TC.exit ?_
    refine TX.thenE ?_
    refine TX.thenE ?_
    refine TX.blkHit ?_
    refine TX.seqN ?_
    refine TC.seq ?_
    refine TC.region ?_
    refine TL.run (pr_pure rfl) rfl ?_
    refine TL.run (pr_pure rfl) rfl ?_
    refine TL.nil ?_
    refine TX.seqN ?_
    refine TC.ret ?_
    exact TX.finS (.inr rfl) (results1 rfl (RVal.tmp rfl)) (congrArg gs (hI.end_ hlen c11))
end Go.Sx
