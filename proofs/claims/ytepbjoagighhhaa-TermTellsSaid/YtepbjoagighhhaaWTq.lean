import Derived.Test.YtepbjoagighhhaaWTree
import Derived.Test.YtepbjoagighhhaaPureTq
set_option linter.unusedVariables false
set_option linter.unusedSimpArgs false
namespace Go.Sx
open Go Go.Proofs
set_option maxRecDepth 100000 in
set_option maxHeartbeats 1000000 in
theorem Tree_ok {H : Hp} {l : List Term} {v : Value} (root : Int) (hT : RdSl H 6 Term.cells v l) (hnames : ∀ t ∈ l, t.name.length ≤ 9223372036854775807) (hl : (l.length : Int) ≤ 100000) :
    Fn Try.prog 16 [v, .int .i64 root] H (fun r H1 => TreeB (treeS l root) l.length r H1) := by
  obtain ⟨va, vc, rfl⟩ := hT.len
  refine Fn.enter Try.func16 Try.ntmps16 rfl rfl (fun w0 => ?_)
  refine TC.seq ?_
  refine TC.region ?_
  refine TL.run (pr_pure rfl) rfl ?_
  refine TL.run (pr_pure rfl) rfl ?_
  refine TL.nil ?_
  refine TX.seqN ?_
  refine TC.seq ?_
  refine TC.region ?_
  refine TL.run (pr_pure rfl) rfl ?_
  refine TL.run (pr_pure rfl) rfl ?_
  refine TL.call (enters rfl rfl rfl rfl) (tree_ok root hT hnames) rfl (fun v13 H13 hle13 hp13 => ?_)
  replace hT := hT.le hle13
  rcases treeR_cases hp13 with ⟨hr, rfl⟩ | ⟨d, sv, hr, rfl, hD, hdl⟩
  ·
    refine TL.run (pr_pure rfl) rfl ?_
    refine TL.run (pr_pure rfl) rfl ?_
    refine TL.run (pr_pure rfl) rfl ?_
    refine TL.run (pr_pure rfl) rfl ?_
    refine TL.run (pr_pure rfl) rfl ?_
    refine TL.nil ?_
    refine TX.seqN ?_
    refine TC.seq ?_
    refine TC.seq ?_
    refine TC.region ?_
    refine TL.run (pr_pure rfl) rfl ?_
    refine TL.run (pr_pure rfl) rfl ?_
    refine TL.nil ?_
    refine TX.seqN ?_
    refine TC.cond rfl (fun c17 => ?_) (fun c17 => ?_)
    ·
      refine TC.seq ?_
      refine TC.region ?_
      refine TL.run (pr_pure rfl) rfl ?_
      refine TL.run (pr_pure rfl) rfl ?_
      refine TL.nil ?_
      refine TX.seqN ?_
      refine TC.ret ?_
      refine TX.thenR ?_
      refine TX.fin0 (.inr rfl) (results2 rfl (RVal.tmp rfl) (RVal.tmp rfl)) ?_
      rw [hr]; exact rfl
    ·
      exact absurd c17 (by decide)
  ·
    obtain ⟨da, dc, rfl⟩ := hD.len
    refine TL.run (pr_pure rfl) rfl ?_
    refine TL.run (pr_pure rfl) rfl ?_
    refine TL.run (pr_pure rfl) rfl ?_
    refine TL.run (pr_pure rfl) rfl ?_
    refine TL.run (pr_pure rfl) rfl ?_
    refine TL.nil ?_
    refine TX.seqN ?_
    refine TC.seq ?_
    refine TC.seq ?_
    refine TC.region ?_
    refine TL.run (pr_pure rfl) rfl ?_
    refine TL.run (pr_pure rfl) rfl ?_
    refine TL.nil ?_
    refine TX.seqN ?_
    refine TC.cond rfl (fun c17 => ?_) (fun c17 => ?_)
    ·
      exact absurd c17 (by decide)
    ·
      refine TC.skip ?_
      refine TX.seqN ?_
      refine TC.seq ?_
      refine TC.region ?_
      refine TL.run (pr_pure rfl) rfl ?_
      refine TL.run (pr_lenSl rfl rfl hT) rfl ?_
      refine TL.make rfl rfl (by omega) (by omega) (by omega) rfl (fun b20 => ?_)
      refine TL.run (pr_pure rfl) rfl ?_
      refine TL.nil ?_
      refine TX.seqN ?_
      refine TC.seq ?_
      refine TC.seq ?_
      refine TC.region ?_
      refine TL.run (pr_pure rfl) rfl ?_
      refine TL.nil ?_
      rw [reps_false]
      refine TX.seqN ?_
      refine TC.block ?_
      refine TC.loop (V := fun k => [(9, .int .i64 k)]) (K := [(0, _), (4, _), (5, _), (6, _), (8, _)]) (L := fun k => St [] w0 H H13 [(b20, (treeQ d k.toNat l.length).map Value.bool)]) (I := fun k => 0 ≤ k ∧ k ≤ l.length) (μ := fun k => (l.length - k).toNat) (i := (0 : Int)) ⟨rfl, rfl, rfl, rfl, rfl, rfl, trivial⟩ ⟨by omega, by omega⟩ (fun w hw => by rw [treeQ_zero]; exact hw) (fun k hI => ?_)
      refine TC.seq ?_
      refine TC.seq ?_
      refine TC.region ?_
      refine TL.run (pr_pure rfl) rfl ?_
      refine TL.run (pr_pure rfl) rfl ?_
      refine TL.run (pr_lenSl rfl rfl hT) rfl ?_
      refine TL.run (pr_pure rfl) rfl ?_
      refine TL.nil ?_
      refine TX.seqN ?_
      refine TC.condD rfl (fun c24 => ?_) (fun c24 => ?_)
      ·
        obtain ⟨x, hx⟩ := getSome (l := d) hI.1 (by omega)
        refine TC.skip ?_
        refine TX.seqN ?_
        refine TC.seq ?_
        refine TC.block ?_
        refine TC.region ?_
        refine TL.run (pr_pure rfl) rfl ?_
        refine TL.run (pr_pure rfl) rfl ?_
        refine TL.run (pr_pure rfl) rfl ?_
        refine TL.run (pr_pure rfl) rfl ?_
        refine TL.run (pr_indexSl rfl hD rfl (by omega) (by omega)) rfl ?_
        refine TL.run (pr_el0 hD hx rfl rfl) rfl ?_
        refine TL.run (pr_pure rfl) rfl ?_
        refine TL.run (pr_index rfl rfl (by omega) (by omega)) rfl ?_
        refine TL.store1 rfl rfl rfl (.here _) (by rw [Nat.blt_eq, List.length_map, treeQ_len (by omega) hdl]; omega) rfl ?_
        refine TL.nil ?_
        rw [treeQ_set hI.1 c24 hx hdl]
        refine TX.blkN ?_
        refine TX.seqN ?_
        refine TC.region ?_
        refine TL.run (pr_pure rfl) rfl ?_
        refine TL.run ((by first | exact pr_add rfl rfl (by omega) (by omega) | exact pr_pure rfl)) rfl ?_
        refine TL.run (pr_pure rfl) rfl ?_
        refine TL.nil ?_
        exact TX.round (k + 1) ⟨by omega, by omega⟩ ⟨rfl, rfl, rfl, rfl, rfl, rfl, trivial⟩ (fun w hw => hw) (by omega)
      ·
        refine TC.exit ?_
        refine TX.thenE ?_
        refine TX.thenE ?_
        refine TX.blkHit ?_
        refine TX.seqN ?_
        refine TC.seq ?_
        refine TC.region ?_
        refine TL.run (pr_pure rfl) rfl ?_
        refine TL.run (pr_pure rfl) rfl ?_
        refine TL.run (pr_pure rfl) rfl ?_
        refine TL.nil ?_
        refine TX.seqN ?_
        refine TC.ret ?_
        refine TX.pub (by simp) (fun Hb le_b rd_b => ?_)
        refine TX.fin0 (.inr rfl) (results2 rfl (RVal.tmp rfl) (RVal.tmp rfl)) ?_
        rw [hr]
        have hb := RdSl.bools (cap := l.length) rd_b (by rw [treeQ_len (by omega) hdl]; omega) (by rw [treeQ_len (by omega) hdl]; omega)
        rw [treeQ_len (by omega) hdl, treeQ_all c24 hdl hI.1] at hb
        exact ⟨_, rfl, hb, hdl⟩

set_option maxRecDepth 100000 in
set_option maxHeartbeats 1000000 in
theorem sameN_ok {H : Hp} {a b : List Str} {va vb : Value} (hA : RdSl H 1 Str.cells va a) (hB : RdSl H 1 Str.cells vb b) :
    FnS Try.prog 25 [va, vb] H (.bool (decide (a = b))) := by
  have hma := hA.max
  refine FnS.enter Try.func25 Try.ntmps25 rfl rfl (fun w0 => ?_)
  refine TC.seq ?_
  refine TC.region ?_
  refine TL.run (pr_pure rfl) rfl ?_
  refine TL.nil ?_
  refine TX.seqN ?_
  refine TC.seq ?_
  refine TC.seq ?_
  refine TC.region ?_
  refine TL.run (pr_pure rfl) rfl ?_
  refine TL.run (pr_lenSl rfl rfl hA) rfl ?_
  refine TL.run (pr_pure rfl) rfl ?_
  refine TL.run (pr_lenSl rfl rfl hB) rfl ?_
  refine TL.run (pr_pure rfl) rfl ?_
  refine TL.nil ?_
  refine TX.seqN ?_
  refine TC.condND rfl (fun c10 => ?_) (fun c10 => ?_)
  ·
    refine TC.seq ?_
    refine TC.region ?_
    refine TL.run (pr_pure rfl) rfl ?_
    refine TL.nil ?_
    refine TX.seqN ?_
    refine TC.ret ?_
    refine TX.thenR ?_
    exact TX.finS (.inr rfl) (results1 rfl (RVal.tmp rfl)) (congrArg Value.bool (by first | exact (decide_eq_true (sameNames_end hI.2.2 hl c14 hI.1)).symm | exact (decide_eq_false (sameNames_ne hx hy (by simpa using c25))).symm | exact (decide_eq_false (fun e => c10 (by rw [e]))).symm))
  ·
    have hl : (a.length : Int) = b.length := by omega
    refine TC.skip ?_
    refine TX.seqN ?_
    refine TC.seq ?_
    refine TC.seq ?_
    refine TC.region ?_
    refine TL.run (pr_pure rfl) rfl ?_
    refine TL.nil ?_
    refine TX.seqN ?_
    refine TC.block ?_
    refine TC.loop (V := fun k => [(5, .int .i64 k)]) (K := [(0, _), (1, _), (4, _)]) (L := fun k => _) (I := fun k => 0 ≤ k ∧ k ≤ a.length ∧ a.take k.toNat = b.take k.toNat) (μ := fun k => (a.length - k).toNat) (i := (0 : Int)) ⟨rfl, rfl, rfl, rfl, trivial⟩ ⟨by omega, by omega, rfl⟩ (fun w hw => hw) (fun k hI => ?_)
    refine TC.seq ?_
    refine TC.seq ?_
    refine TC.region ?_
    refine TL.run (pr_pure rfl) rfl ?_
    refine TL.run (pr_pure rfl) rfl ?_
    refine TL.run (pr_lenSl rfl rfl hA) rfl ?_
    refine TL.run (pr_pure rfl) rfl ?_
    refine TL.nil ?_
    refine TX.seqN ?_
    refine TC.condD rfl (fun c14 => ?_) (fun c14 => ?_)
    ·
      obtain ⟨x, hx⟩ := getSome (l := a) hI.1 c14
      obtain ⟨y, hy⟩ := getSome (l := b) hI.1 (by omega)
      refine TC.skip ?_
      refine TX.seqN ?_
      refine TC.seq ?_
      refine TC.block ?_
      refine TC.seq ?_
      refine TC.quiet (by kernel_rfl) (by kernel_rfl) ?_
      refine TQ.run (pr_pure rfl) rfl ?_
      refine TQ.run (pr_pure rfl) rfl ?_
      refine TQ.run (pr_indexSl rfl hA rfl (by omega) (by omega)) rfl ?_
      refine TQ.run (pr_el0 hA hx rfl rfl) rfl ?_
      refine TQ.run (pr_pure rfl) rfl ?_
      refine TQ.run (pr_pure rfl) rfl ?_
      refine TQ.run (pr_indexSl rfl hB rfl (by omega) (by omega)) rfl ?_
      refine TQ.run (pr_el0 hB hy rfl rfl) rfl ?_
      refine TQ.run (pr_str rfl rfl rfl) rfl ?_
      refine TQ.nil ?_
      refine TX.seqN ?_
      refine TC.condND rfl (fun c25 => ?_) (fun c25 => ?_)
      ·
        refine TC.seq ?_
        refine TC.region ?_
        refine TL.run (pr_pure rfl) rfl ?_
        refine TL.nil ?_
        refine TX.seqN ?_
        refine TC.ret ?_
        refine TX.blkR ?_
        refine TX.thenR ?_
        refine TX.thenR ?_
        refine TX.blkR ?_
        refine TX.thenR ?_
        exact TX.finS (.inr rfl) (results1 rfl (RVal.tmp rfl)) (congrArg Value.bool (by first | exact (decide_eq_true (sameNames_end hI.2.2 hl c14 hI.1)).symm | exact (decide_eq_false (sameNames_ne hx hy (by simpa using c25))).symm | exact (decide_eq_false (fun e => c10 (by rw [e]))).symm))
      ·
        refine TC.skip ?_
        refine TX.blkN ?_
        refine TX.seqN ?_
        refine TC.region ?_
        refine TL.run (pr_pure rfl) rfl ?_
        refine TL.run ((by first | exact pr_add rfl rfl (by omega) (by omega) | exact pr_pure rfl)) rfl ?_
        refine TL.run (pr_pure rfl) rfl ?_
        refine TL.nil ?_
        exact TX.round (k + 1) ⟨by omega, by omega, sameNames_next hI.1 hI.2.2 hx hy (by simpa using c25)⟩ ⟨rfl, rfl, rfl, rfl, trivial⟩ (fun w hw => hw) (by omega)
    ·
      refine TC.exit ?_
      refine TX.thenE ?_
      refine TX.thenE ?_
      refine TX.blkHit ?_
      refine TX.seqN ?_
      refine TC.seq ?_
      refine TC.region ?_
      refine TL.run (pr_pure rfl) rfl ?_
      refine TL.nil ?_
      refine TX.seqN ?_
      refine TC.ret ?_
      exact TX.finS (.inr rfl) (results1 rfl (RVal.tmp rfl)) (congrArg Value.bool (by first | exact (decide_eq_true (sameNames_end hI.2.2 hl c14 hI.1)).symm | exact (decide_eq_false (sameNames_ne hx hy (by simpa using c25))).symm | exact (decide_eq_false (fun e => c10 (by rw [e]))).symm))
end Go.Sx
