import Derived.Test.YtepbjoagighhhaaWL4
import Derived.Test.YtepbjoagighhhaaWTq
import Derived.Test.YtepbjoagighhhaaWVars
set_option linter.unusedVariables false
set_option linter.unusedSimpArgs false
namespace Go.Sx
open Go Go.Proofs
set_option maxRecDepth 100000 in
set_option maxHeartbeats 4000000 in
theorem TermInside_ok {H : Hp} {l : List Term} {env : List Bind} {v ve : Value} (root at_ : Int) (hT : RdSl H 6 Term.cells v l) (hE : RdSl H 5 Bind.cells ve env) (hEv : EnvOk H env) (hN : ∀ t ∈ l, t.name.length ≤ 9223372036854775807) :
    FnS Try.prog 3 [v, .int .i64 root, .int .i64 at_, ve] H (.bool true) := by
  obtain ⟨ta, tc, rfl⟩ := hT.len
  obtain ⟨ea, ec, rfl⟩ := hE.len
  have hmx := hT.max
  refine FnS.enter Try.func3 Try.ntmps3 rfl rfl (fun w0 => ?_)
  refine TC.seq ?_
  refine TC.region ?_
  refine TL.run (pr_pure rfl) rfl ?_
  refine TL.nil ?_
  refine TX.seqN ?_
  refine TC.seq ?_
  refine TC.seq ?_
  refine TC.region ?_
  refine TL.callS (enters rfl rfl rfl rfl) (first4_ok) rfl ?_
  refine TL.run (pr_pure rfl) rfl ?_
  refine TL.nil ?_
  refine TX.seqN ?_
  refine TC.cond rfl (fun c23 => ?_) (fun c23 => ?_)
  ·
    exact absurd c23 (by decide)
  ·
    refine TC.skip ?_
    refine TX.seqN ?_
    refine TC.seq ?_
    refine TC.seq ?_
    refine TC.region ?_
    refine TL.run (pr_pure rfl) rfl ?_
    refine TL.run (pr_lenSl rfl rfl hT) rfl ?_
    refine TL.run (pr_pure rfl) rfl ?_
    refine TL.run (pr_pure rfl) rfl ?_
    refine TL.split (s := 27) rfl (fun g27 => ?_) (fun g27 => ?_)
    ·
      have q27 := of_decide_eq_true g27
      refine TL.gdN rfl rfl rfl rfl ?_
      refine TL.gdN rfl rfl rfl rfl ?_
      refine TL.gdN rfl rfl rfl rfl ?_
      refine TL.run (pr_pure rfl) rfl ?_
      refine TL.run (pr_pure rfl) rfl ?_
      refine TL.gdN rfl rfl rfl rfl ?_
      refine TL.gdN rfl rfl rfl rfl ?_
      refine TL.gdN rfl rfl rfl rfl ?_
      refine TL.gdN rfl rfl rfl rfl ?_
      refine TL.run (pr_pure rfl) rfl ?_
      refine TL.nil ?_
      refine TX.seqN ?_
      refine TC.condT rfl ?_
      refine TC.seq ?_
      refine TC.region ?_
      refine TL.run (pr_pure rfl) rfl ?_
      refine TL.nil ?_
      refine TX.seqN ?_
      refine TC.ret ?_
      refine TX.thenR ?_
      exact TX.finS (.inr rfl) (results1 rfl (RVal.tmp rfl)) (congrArg Value.bool (by first | rfl | (have := hin.1 (by simpa using c64); simp_all; done) | (simp_all; done)))
    ·
      have q27 := of_decide_eq_false g27
      refine TL.gdY rfl rfl (pr_pure rfl) rfl ?_
      refine TL.callSY rfl rfl (enters rfl rfl rfl rfl) (some4_ok hE hEv) rfl ?_
      refine TL.gdY rfl rfl (pr_pure rfl) rfl ?_
      refine TL.run (pr_pure rfl) rfl ?_
      refine TL.run (pr_pure rfl) rfl ?_
      refine TL.split (s := 32) rfl (fun g32 => ?_) (fun g32 => ?_)
      ·
        refine TL.gdN rfl rfl rfl rfl ?_
        refine TL.gdN rfl rfl rfl rfl ?_
        refine TL.gdN rfl rfl rfl rfl ?_
        refine TL.gdN rfl rfl rfl rfl ?_
        refine TL.run (pr_pure rfl) rfl ?_
        refine TL.nil ?_
        refine TX.seqN ?_
        refine TC.condT rfl ?_
        refine TC.seq ?_
        refine TC.region ?_
        refine TL.run (pr_pure rfl) rfl ?_
        refine TL.nil ?_
        refine TX.seqN ?_
        refine TC.ret ?_
        refine TX.thenR ?_
        exact TX.finS (.inr rfl) (results1 rfl (RVal.tmp rfl)) (congrArg Value.bool (by first | rfl | (have := hin.1 (by simpa using c64); simp_all; done) | (simp_all; done)))
      ·
        refine TL.gdY rfl rfl (pr_pure rfl) rfl ?_
        refine TL.gdY rfl rfl (pr_pure rfl) rfl ?_
        refine TL.callSY rfl rfl (enters rfl rfl rfl rfl) (May_ok root hT hN) rfl ?_
        refine TL.gdY rfl rfl (pr_pure rfl) rfl ?_
        refine TL.run (pr_pure rfl) rfl ?_
        refine TL.nil ?_
        refine TX.seqN ?_
        refine TC.cond rfl (fun c37 => ?_) (fun c37 => ?_)
        ·
          refine TC.seq ?_
          refine TC.region ?_
          refine TL.run (pr_pure rfl) rfl ?_
          refine TL.nil ?_
          refine TX.seqN ?_
          refine TC.ret ?_
          refine TX.thenR ?_
          exact TX.finS (.inr rfl) (results1 rfl (RVal.tmp rfl)) (congrArg Value.bool (by first | rfl | (have := hin.1 (by simpa using c64); simp_all; done) | (simp_all; done)))
        ·
          have hm : mayB l root = true := by simp_all
          have hsm : someB env = true := by simp_all
          have hl150 : (l.length : Int) ≤ 150 := by simp_all
          obtain ⟨hle1, hlen⟩ := someB_T hsm
          obtain ⟨d, hd⟩ := Option.isSome_iff_exists.1 (tree_may.symm.trans hm)
          have hrg := (mayB_iff.1 hm).1
          obtain ⟨k, hk⟩ : ∃ k : Int, k = at_ % 18446744073709551616 % (l.length : Int) := ⟨_, rfl⟩
          have hk0 : 0 ≤ k := by rw [hk]; exact Int.emod_nonneg _ (by omega)
          have hk1 : k < l.length := by rw [hk]; exact Int.emod_lt_of_pos _ (by omega)
          refine TC.skip ?_
          refine TX.seqN ?_
          refine TC.seq ?_
          refine TC.region ?_
          refine TL.run (pr_pure rfl) rfl ?_
          refine TL.run (pr_pure rfl) rfl ?_
          refine TL.call (enters rfl rfl rfl rfl) (Tree_ok root hT hN (by omega)) rfl (fun v41 H41 hle41 hp41 => ?_)
          replace hT := hT.le hle41
          replace hE := hE.le hle41
          replace hEv := hEv.le hle41
          rw [hd] at hp41
          obtain ⟨sv, rfl, hB, hdl⟩ := hp41
          obtain ⟨ba, bc, rfl⟩ := hB.len
          have hdl2 : (d.map posB).length = l.length := by simp [hdl]
          refine TL.run (pr_pure rfl) rfl ?_
          refine TL.run (pr_pure rfl) rfl ?_
          refine TL.run (pr_pure rfl) rfl ?_
          refine TL.run (pr_pure rfl) rfl ?_
          refine TL.run (pr_pure rfl) rfl ?_
          refine TL.nil ?_
          refine TX.seqN ?_
          refine TC.seq ?_
          refine TC.region ?_
          refine TL.run (pr_pure rfl) rfl ?_
          refine TL.run (pr_conv rfl) rfl ?_
          refine TL.run (pr_pure rfl) rfl ?_
          refine TL.run (pr_lenSl rfl rfl hT) rfl ?_
          refine TL.run (PR.to (pr_conv rfl) (congrArg (Value.int .u64) (wrapU_in (by omega) (by omega)))) rfl ?_
          refine TL.run (pr_rem rfl rfl (by omega)) rfl ?_
          refine TL.run (PR.to (pr_conv rfl) (congrArg (Value.int .i64) ((mod_conv at_ (m := (l.length : Int)) (by omega) (by omega)).trans hk.symm))) rfl ?_
          refine TL.run (pr_pure rfl) rfl ?_
          refine TL.nil ?_
          refine TX.seqN ?_
          refine TC.seq ?_
          refine TC.seq ?_
          refine TC.region ?_
          obtain ⟨b, hb⟩ := getSome (l := d.map posB) hk0 (by omega)
          refine TL.run (pr_pure rfl) rfl ?_
          refine TL.run (pr_pure rfl) rfl ?_
          refine TL.run (pr_indexSl rfl hB rfl (by omega) (by omega)) rfl ?_
          refine TL.run (pr_el0 hB hb rfl rfl) rfl ?_
          refine TL.run (pr_pure rfl) rfl ?_
          refine TL.nil ?_
          refine TX.seqN ?_
          refine TC.cond rfl (fun c55 => ?_) (fun c55 => ?_)
          ·
            refine TC.seq ?_
            refine TC.region ?_
            refine TL.run (pr_pure rfl) rfl ?_
            refine TL.nil ?_
            refine TX.seqN ?_
            refine TC.ret ?_
            refine TX.thenR ?_
            exact TX.finS (.inr rfl) (results1 rfl (RVal.tmp rfl)) (congrArg Value.bool (by first | rfl | (have := hin.1 (by simpa using c64); simp_all; done) | (simp_all; done)))
          ·
            have hin := inside (env := env) hm hd (k := k.toNat) (pos_at hb (by simpa using c55))
            rw [Int.toNat_of_nonneg hk0] at hin
            refine TC.skip ?_
            refine TX.seqN ?_
            refine TC.seq ?_
            refine TC.region ?_
            refine TL.run (pr_pure rfl) rfl ?_
            refine TL.run (pr_pure rfl) rfl ?_
            refine TL.run (pr_pure rfl) rfl ?_
            refine TL.call (enters rfl rfl rfl rfl) (Eval_ok k hT hE hEv hlen hN) rfl (fun v60 H60 hle60 hp60 => ?_)
            obtain ⟨lv60, rfl, hR60⟩ := hp60
            replace hT := hT.le hle60
            replace hE := hE.le hle60
            replace hEv := hEv.le hle60
            replace hB := hB.le hle60
            obtain ⟨la60, lc60, rfl⟩ := RdSl.len hR60
            refine TL.run (pr_pure rfl) rfl ?_
            refine TL.run (pr_pure rfl) rfl ?_
            refine TL.run (pr_pure rfl) rfl ?_
            refine TL.alloc rfl (fun b12 => ?_)
            refine TL.storeA rfl rfl rfl rfl rfl (.here _) rfl rfl ?_
            refine TL.run (pr_pure rfl) rfl ?_
            refine TL.nil ?_
            refine TX.seqN ?_
            refine TC.seq ?_
            refine TC.region ?_
            refine TL.run (pr_build rfl rfl) rfl ?_
            refine TL.alloc rfl (fun b14 => ?_)
            refine TL.storeA rfl rfl rfl rfl rfl (.here _) rfl rfl ?_
            refine TL.nil ?_
            refine TX.seqN ?_
            refine TC.mid (V := fun (_ : Unit) => []) (K := [(0, _), (1, _), (3, _), (8, _), (11, _), (14, _)]) ⟨rfl, rfl, rfl, rfl, rfl, rfl, trivial⟩ (L := fun (_ : Unit) => St [] w0 H H60 [(b14, (litT (evalS l k env).1).cells), (b12, (evalS l k env).1.cells (.slice la60 (evalS l k env).1.l.length lc60))]) (I := fun (_ : Unit) => (evalS l k env).2 = 0 ∧ ((evalS l k env).1.k = 1 ∨ (evalS l k env).1.k = 2 ∨ (evalS l k env).1.k = 3)) ?_ ?_
            ·
              refine TC.block ?_
              refine TC.seq ?_
              refine TC.region ?_
              refine TL.run (pr_pure rfl) rfl ?_
              refine TL.run (pr_pure rfl) rfl ?_
              refine TL.run (pr_pure rfl) rfl ?_
              refine TL.nil ?_
              refine TX.seqN ?_
              refine TC.condND rfl (fun c64 => ?_) (fun c64 => ?_)
              ·
                refine TC.seq ?_
                refine TC.region ?_
                refine TL.run (pr_pure rfl) rfl ?_
                refine TL.run (pr_pure rfl) rfl ?_
                refine TL.run (pr_pure rfl) rfl ?_
                refine TL.call (enters rfl rfl rfl rfl) (Eval_ok root hT hE hEv hlen hN) rfl (fun v71 H71 hle71 hp71 => ?_)
                obtain ⟨lv71, rfl, hR71⟩ := hp71
                replace hT := hT.le hle71
                replace hE := hE.le hle71
                replace hEv := hEv.le hle71
                replace hB := hB.le hle71
                replace hR60 := hR60.le hle71
                obtain ⟨la71, lc71, rfl⟩ := RdSl.len hR71
                refine TL.run (pr_pure rfl) rfl ?_
                refine TL.run (pr_pure rfl) rfl ?_
                refine TL.run (pr_pure rfl) rfl ?_
                refine TL.alloc rfl (fun b15 => ?_)
                refine TL.storeA rfl rfl rfl rfl rfl (.here _) rfl rfl ?_
                refine TL.run (pr_pure rfl) rfl ?_
                refine TL.nil ?_
                refine TX.seqN ?_
                refine TC.seq ?_
                refine TC.region ?_
                refine TL.run (pr_pure rfl) rfl ?_
                refine TL.run (pr_pure rfl) rfl ?_
                refine TL.run (pr_pure rfl) rfl ?_
                refine TL.nil ?_
                refine TX.seqN ?_
                refine TC.ret ?_
                refine TX.blkR ?_
                refine TX.thenR ?_
                exact TX.finS (.inr rfl) (results1 rfl (RVal.tmp rfl)) (congrArg Value.bool (by first | rfl | (have := hin.1 (by simpa using c64); simp_all; done) | (simp_all; done)))
              ·
                have q65 : (evalS l k env).2 = 0 := by simpa using c64
                refine TC.seq ?_
                refine TC.region ?_
                refine TL.run (pr_field rfl) rfl ?_
                refine TL.run (pr_own1 rfl (.there _ (.here _)) rfl) rfl ?_
                refine TL.run (pr_pure rfl) rfl ?_
                refine TL.run (pr_pure rfl) rfl ?_
                refine TL.nil ?_
                refine TX.seqN ?_
                refine TC.condD rfl (fun c76 => ?_) (fun c76 => ?_)
                ·
                  have q79 : (evalS l k env).1.k = 1 := by simpa using c76
                  refine TC.drawn (by kernel_rfl) (by kernel_rfl) ?_
                  refine TD.part 1 3 rfl rfl rfl ?_ ?_
                  ·
                    refine TD.leaf [(0, 1), (1, 2), (2, 1), (3, 0), (4, 1), (5, 0)] (by kernel_rfl) (by kernel_rfl) ?_
                    refine TF.pure (pr_field rfl) rfl ?_
                    refine TF.still (pr_own1 rfl (.there _ (.here _)) rfl) rfl ?_
                    refine TF.pure (pr_field rfl) rfl ?_
                    refine TF.loud ?_
                    refine TL.store1 rfl rfl rfl (.here _) rfl rfl ?_
                    refine TF.back ?_
                    refine TF.pure (pr_field rfl) rfl ?_
                    refine TF.loud ?_
                    refine TL.store1 rfl rfl rfl (.here _) rfl rfl ?_
                    refine TF.back ?_
                    refine TF.nil ?_
                    refine TX.blkN ?_
                    exact TX.mid () ⟨q65, by omega⟩ ⟨rfl, rfl, rfl, rfl, rfl, rfl, trivial⟩ (fun w hw => by rw [show litT (evalS l k env).1 = numT (evalS l k env).1.n by unfold litT; rw [if_pos q79]]; exact hw)
                  ·
                    refine TD.leaf [(0, 1), (2, 1), (3, 0), (1, 2), (4, 1), (5, 0)] (by kernel_rfl) (by kernel_rfl) ?_
                    refine TF.pure (pr_field rfl) rfl ?_
                    refine TF.pure (pr_field rfl) rfl ?_
                    refine TF.loud ?_
                    refine TL.store1 rfl rfl rfl (.here _) rfl rfl ?_
                    refine TF.back ?_
                    refine TF.still (pr_own1 rfl (.there _ (.here _)) rfl) rfl ?_
                    refine TF.pure (pr_field rfl) rfl ?_
                    refine TF.loud ?_
                    refine TL.store1 rfl rfl rfl (.here _) rfl rfl ?_
                    refine TF.back ?_
                    refine TF.nil ?_
                    refine TX.blkN ?_
                    exact TX.mid () ⟨q65, by omega⟩ ⟨rfl, rfl, rfl, rfl, rfl, rfl, trivial⟩ (fun w hw => by rw [show litT (evalS l k env).1 = numT (evalS l k env).1.n by unfold litT; rw [if_pos q79]]; exact hw)
                ·
                  have q79 : ¬ (evalS l k env).1.k = 1 := by simpa using c76
                  refine TC.seq ?_
                  refine TC.region ?_
                  refine TL.run (pr_field rfl) rfl ?_
                  refine TL.run (pr_own1 rfl (.there _ (.here _)) rfl) rfl ?_
                  refine TL.run (pr_pure rfl) rfl ?_
                  refine TL.run (pr_pure rfl) rfl ?_
                  refine TL.nil ?_
                  refine TX.seqN ?_
                  refine TC.condD rfl (fun c84 => ?_) (fun c84 => ?_)
                  ·
                    have q87 : (evalS l k env).1.k = 2 := by simpa using c84
                    refine TC.drawn (by kernel_rfl) (by kernel_rfl) ?_
                    refine TD.part 1 3 rfl rfl rfl ?_ ?_
                    ·
                      refine TD.leaf [(0, 1), (1, 2), (2, 1), (3, 0), (4, 1), (5, 0)] (by kernel_rfl) (by kernel_rfl) ?_
                      refine TF.pure (pr_field rfl) rfl ?_
                      refine TF.still (pr_own1 rfl (.there _ (.here _)) rfl) rfl ?_
                      refine TF.pure (pr_field rfl) rfl ?_
                      refine TF.loud ?_
                      refine TL.store1 rfl rfl rfl (.here _) rfl rfl ?_
                      refine TF.back ?_
                      refine TF.pure (pr_field rfl) rfl ?_
                      refine TF.loud ?_
                      refine TL.store1 rfl rfl rfl (.here _) rfl rfl ?_
                      refine TF.back ?_
                      refine TF.nil ?_
                      refine TX.blkN ?_
                      exact TX.mid () ⟨q65, by omega⟩ ⟨rfl, rfl, rfl, rfl, rfl, rfl, trivial⟩ (fun w hw => by rw [show litT (evalS l k env).1 = ⟨2, [], (evalS l k env).1.n, [], -1, -1⟩ by unfold litT; rw [if_neg (by omega), if_pos q87]]; exact hw)
                    ·
                      refine TD.leaf [(0, 1), (2, 1), (3, 0), (1, 2), (4, 1), (5, 0)] (by kernel_rfl) (by kernel_rfl) ?_
                      refine TF.pure (pr_field rfl) rfl ?_
                      refine TF.pure (pr_field rfl) rfl ?_
                      refine TF.loud ?_
                      refine TL.store1 rfl rfl rfl (.here _) rfl rfl ?_
                      refine TF.back ?_
                      refine TF.still (pr_own1 rfl (.there _ (.here _)) rfl) rfl ?_
                      refine TF.pure (pr_field rfl) rfl ?_
                      refine TF.loud ?_
                      refine TL.store1 rfl rfl rfl (.here _) rfl rfl ?_
                      refine TF.back ?_
                      refine TF.nil ?_
                      refine TX.blkN ?_
                      exact TX.mid () ⟨q65, by omega⟩ ⟨rfl, rfl, rfl, rfl, rfl, rfl, trivial⟩ (fun w hw => by rw [show litT (evalS l k env).1 = ⟨2, [], (evalS l k env).1.n, [], -1, -1⟩ by unfold litT; rw [if_neg (by omega), if_pos q87]]; exact hw)
                  ·
                    have q87 : ¬ (evalS l k env).1.k = 2 := by simpa using c84
                    refine TC.seq ?_
                    refine TC.region ?_
                    refine TL.run (pr_field rfl) rfl ?_
                    refine TL.run (pr_own1 rfl (.there _ (.here _)) rfl) rfl ?_
                    refine TL.run (pr_pure rfl) rfl ?_
                    refine TL.run (pr_pure rfl) rfl ?_
                    refine TL.nil ?_
                    refine TX.seqN ?_
                    refine TC.condD rfl (fun c92 => ?_) (fun c92 => ?_)
                    ·
                      have q95 : (evalS l k env).1.k = 3 := by simpa using c92
                      refine TC.drawn (by kernel_rfl) (by kernel_rfl) ?_
                      refine TD.part 1 3 rfl rfl rfl ?_ ?_
                      ·
                        refine TD.leaf [(0, 1), (1, 2), (2, 1), (3, 0), (4, 1), (5, 0)] (by kernel_rfl) (by kernel_rfl) ?_
                        refine TF.pure (pr_field rfl) rfl ?_
                        refine TF.still (pr_own1 rfl (.there _ (.here _)) rfl) rfl ?_
                        refine TF.pure (pr_field rfl) rfl ?_
                        refine TF.loud ?_
                        refine TL.store1 rfl rfl rfl (.here _) rfl rfl ?_
                        refine TF.back ?_
                        refine TF.pure (pr_field rfl) rfl ?_
                        refine TF.loud ?_
                        refine TL.store1 rfl rfl rfl (.here _) rfl rfl ?_
                        refine TF.back ?_
                        refine TF.nil ?_
                        refine TX.blkN ?_
                        exact TX.mid () ⟨q65, by omega⟩ ⟨rfl, rfl, rfl, rfl, rfl, rfl, trivial⟩ (fun w hw => by rw [show litT (evalS l k env).1 = ⟨3, [], 0, (evalS l k env).1.s, -1, -1⟩ by unfold litT; rw [if_neg (by omega), if_neg (by omega)]]; exact hw)
                      ·
                        refine TD.leaf [(0, 1), (2, 1), (3, 0), (1, 2), (4, 1), (5, 0)] (by kernel_rfl) (by kernel_rfl) ?_
                        refine TF.pure (pr_field rfl) rfl ?_
                        refine TF.pure (pr_field rfl) rfl ?_
                        refine TF.loud ?_
                        refine TL.store1 rfl rfl rfl (.here _) rfl rfl ?_
                        refine TF.back ?_
                        refine TF.still (pr_own1 rfl (.there _ (.here _)) rfl) rfl ?_
                        refine TF.pure (pr_field rfl) rfl ?_
                        refine TF.loud ?_
                        refine TL.store1 rfl rfl rfl (.here _) rfl rfl ?_
                        refine TF.back ?_
                        refine TF.nil ?_
                        refine TX.blkN ?_
                        exact TX.mid () ⟨q65, by omega⟩ ⟨rfl, rfl, rfl, rfl, rfl, rfl, trivial⟩ (fun w hw => by rw [show litT (evalS l k env).1 = ⟨3, [], 0, (evalS l k env).1.s, -1, -1⟩ by unfold litT; rw [if_neg (by omega), if_neg (by omega)]]; exact hw)
                    ·
                      refine TC.seq ?_
                      refine TC.region ?_
                      refine TL.run (pr_pure rfl) rfl ?_
                      refine TL.nil ?_
                      refine TX.seqN ?_
                      refine TC.ret ?_
                      refine TX.blkR ?_
                      refine TX.thenR ?_
                      exact TX.finS (.inr rfl) (results1 rfl (RVal.tmp rfl)) (congrArg Value.bool (by first | rfl | (have := hin.1 (by simpa using c64); simp_all; done) | (simp_all; done)))
            ·
              intro (_ : Unit) hI
              refine TC.seq ?_
              refine TC.region ?_
              refine TL.run (pr_pure rfl) rfl ?_
              refine TL.append (enc := Term.cells) rfl rfl rfl (OwnSl.nil (enc := Term.cells)) (Src.sl hT) (by simp; omega) rfl (.new _ rfl) rfl (fun a101 c101 ob101 hO101 => ?_)
              refine TL.run (pr_pure rfl) rfl ?_
              refine TL.nil ?_
              refine TX.seqN ?_
              refine TC.seq ?_
              refine TC.region ?_
              have hne : ([] ++ l) ≠ [] := by intro e; have h2 : l = [] := (by simpa using e); have h3 : l.length = 0 := (by rw [h2]; rfl); omega
              obtain ⟨bq, csq, rfl, rfl, hcl, htk, hlq, hcm, _⟩ := hO101.open_ hne
              refine TL.run (pr_pure rfl) rfl ?_
              refine TL.run (pr_pure rfl) rfl ?_
              refine TL.run (pr_ownA rfl (.here _) rfl) rfl ?_
              refine TL.run (pr_index rfl rfl hk0 (by simp; omega)) rfl ?_
              refine TL.storeG rfl rfl rfl rfl rfl (.there _ (.there _ (.here _))) (put_fits hcl hlq (by simp; omega)) rfl ?_
              have hO2 : OwnSl 6 Term.cells (.slice (some ⟨bq, 0, none⟩) ([] ++ l).length c101) (([] ++ l).set k.toNat (litT (evalS l k env).1)) _ := OwnSl.set (t := (litT (evalS l k env).1)) hcl htk hlq hcm (by simp; omega)
              refine TL.nil ?_
              refine TX.front (.there _ (.there _ (.here _))) ?_
              refine TX.cls (C' := St [] w0 H H60 ((bq, setCells csq (k.toNat * 6) (litT (evalS l k env).1).cells) :: _)) (fun w hw => by rw [show k.toNat * 6 = 0 + k.toNat * 6 by omega]; exact hw) ?_
              refine TX.pubO hO2 (.app _) (by simp) (fun HP leP hP => ?_)
              replace hT := hT.le leP
              replace hE := hE.le leP
              replace hEv := hEv.le leP
              replace hB := hB.le leP
              replace hR60 := hR60.le leP
              have hPN : ∀ t ∈ (([] ++ l).set k.toNat (litT (evalS l k env).1)), t.name.length ≤ 9223372036854775807 := set_names hN (by unfold litT; (repeat' split) <;> simp [numT])
              refine TX.seqN ?_
              refine TC.seq ?_
              refine TC.region ?_
              have hfin := hin.2 hI.1 hI.2
              have hs := sameV_refl (evalS l root env).1
              refine TL.run (pr_pure rfl) rfl ?_
              refine TL.run (pr_pure rfl) rfl ?_
              refine TL.run (pr_pure rfl) rfl ?_
              refine TL.call (enters rfl rfl rfl rfl) (Eval_ok root hT hE hEv hlen hN) rfl (fun v110 H110 hle110 hp110 => ?_)
              obtain ⟨lv110, rfl, hR110⟩ := hp110
              replace hT := hT.le hle110
              replace hE := hE.le hle110
              replace hEv := hEv.le hle110
              replace hB := hB.le hle110
              replace hR60 := hR60.le hle110
              replace hP := hP.le hle110
              obtain ⟨la110, lc110, rfl⟩ := RdSl.len hR110
              refine TL.run (pr_pure rfl) rfl ?_
              refine TL.run (pr_pure rfl) rfl ?_
              refine TL.run (pr_pure rfl) rfl ?_
              refine TL.alloc rfl (fun b18 => ?_)
              refine TL.storeA rfl rfl rfl rfl rfl (.here _) rfl rfl ?_
              refine TL.run (pr_pure rfl) rfl ?_
              refine TL.nil ?_
              refine TX.seqN ?_
              refine TC.seq ?_
              refine TC.region ?_
              refine TL.run (pr_pure rfl) rfl ?_
              refine TL.run (pr_pure rfl) rfl ?_
              refine TL.run (pr_pure rfl) rfl ?_
              refine TL.call (enters rfl rfl rfl rfl) (Eval_ok root hP hE hEv hlen hPN) rfl (fun v117 H117 hle117 hp117 => ?_)
              obtain ⟨lv117, rfl, hR117⟩ := hp117
              replace hT := hT.le hle117
              replace hE := hE.le hle117
              replace hEv := hEv.le hle117
              replace hB := hB.le hle117
              replace hR60 := hR60.le hle117
              replace hP := hP.le hle117
              replace hR110 := hR110.le hle117
              obtain ⟨la117, lc117, rfl⟩ := RdSl.len hR117
              refine TL.run (pr_pure rfl) rfl ?_
              refine TL.run (pr_pure rfl) rfl ?_
              refine TL.run (pr_pure rfl) rfl ?_
              refine TL.alloc rfl (fun b20 => ?_)
              refine TL.storeA rfl rfl rfl rfl rfl (.here _) rfl rfl ?_
              refine TL.run (pr_pure rfl) rfl ?_
              refine TL.nil ?_
              refine TX.seqN ?_
              refine TC.seq ?_
              refine TC.region ?_
              refine TL.run (pr_pure rfl) rfl ?_
              refine TL.run (pr_pure rfl) rfl ?_
              refine TL.callS (enters rfl rfl rfl rfl) (May_ok root hP hPN) rfl ?_
              refine TL.run (pr_pure rfl) rfl ?_
              refine TL.split (s := 123) rfl (fun g123 => ?_) (fun g123 => ?_)
              ·
                refine TL.gdY rfl rfl (pr_pure rfl) rfl ?_
                refine TL.gdY rfl rfl (pr_pure rfl) rfl ?_
                refine TL.gdY rfl rfl (pr_pure rfl) rfl ?_
                refine TL.run (pr_pure rfl) rfl ?_
                refine TL.run (pr_pure rfl) rfl ?_
                refine TL.split (s := 128) rfl (fun g128 => ?_) (fun g128 => ?_)
                ·
                  have q128 := of_decide_eq_true g128
                  refine TL.gdY rfl rfl (pr_ownA rfl (.there _ (.here _)) rfl) rfl ?_
                  refine TL.gdY rfl rfl (pr_ownA rfl (.here _) rfl) rfl ?_
                  refine TL.callSY rfl rfl (enters rfl rfl rfl rfl) (dSame_ok hR110 hR117) rfl ?_
                  refine TL.run (pr_pure rfl) rfl ?_
                  refine TL.run (pr_pure rfl) rfl ?_
                  refine TL.nil ?_
                  refine TX.seqN ?_
                  refine TC.ret ?_
                  exact TX.finS (.inr rfl) (results1 rfl (RVal.tmp rfl)) (congrArg Value.bool (by first | rfl | (have := hin.1 (by simpa using c64); simp_all; done) | (simp_all; done)))
                ·
                  have q128 := of_decide_eq_false g128
                  refine TL.gdN rfl rfl rfl rfl ?_
                  refine TL.gdN rfl rfl rfl rfl ?_
                  refine TL.gdN rfl rfl rfl rfl ?_
                  refine TL.run (pr_pure rfl) rfl ?_
                  refine TL.run (pr_pure rfl) rfl ?_
                  refine TL.nil ?_
                  refine TX.seqN ?_
                  refine TC.ret ?_
                  exact TX.finS (.inr rfl) (results1 rfl (RVal.tmp rfl)) (congrArg Value.bool (by first | rfl | (have := hin.1 (by simpa using c64); simp_all; done) | (simp_all; done)))
              ·
                refine TL.gdN rfl rfl rfl rfl ?_
                refine TL.gdN rfl rfl rfl rfl ?_
                refine TL.gdN rfl rfl rfl rfl ?_
                refine TL.run (pr_pure rfl) rfl ?_
                refine TL.run (pr_pure rfl) rfl ?_
                refine TL.gdN rfl rfl rfl rfl ?_
                refine TL.gdN rfl rfl rfl rfl ?_
                refine TL.gdN rfl rfl rfl rfl ?_
                refine TL.run (pr_pure rfl) rfl ?_
                refine TL.run (pr_pure rfl) rfl ?_
                refine TL.nil ?_
                refine TX.seqN ?_
                refine TC.ret ?_
                exact TX.finS (.inr rfl) (results1 rfl (RVal.tmp rfl)) (congrArg Value.bool (by first | rfl | (have := hin.1 (by simpa using c64); simp_all; done) | (simp_all; done)))
end Go.Sx
