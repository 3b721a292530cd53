import Derived.Test.YticophnilpjdlaaWTerm
import Derived.Test.YticophnilpjdlaaPureK2
set_option linter.unusedVariables false
set_option linter.unusedSimpArgs false
namespace Go.Sx
open Go Go.Proofs
set_option maxRecDepth 100000 in
set_option maxHeartbeats 1000000 in
theorem held_ok {H : Hp} {v : Value} {env : List Typing} (name : Str) (hT : RdSl H 3 Typing.cells v env) :
    FnS Try.prog 18 [v, gs name] H (pairV (heldS env name)) := by
  have hmax := hT.max
  refine FnS.enter Try.func18 Try.ntmps18 rfl rfl (fun w0 => ?_)
  refine TC.seq ?_
  refine TC.region ?_
  refine TL.run (pr_pure rfl) rfl ?_
  refine TL.run (pr_pure rfl) rfl ?_
  refine TL.nil ?_
  refine TX.seqN ?_
  refine TC.seq ?_
  refine TC.seq ?_
  refine TC.region ?_
  refine TL.run (pr_pure rfl) rfl ?_
  refine TL.run (pr_lenSl rfl rfl hT) rfl ?_
  refine TL.run (pr_pure rfl) rfl ?_
  refine TL.nil ?_
  refine TX.seqN ?_
  refine TC.block ?_
  refine TC.loop (V := fun k => [(10, .int .i64 k)]) (K := [(1, _), (4, _), (5, _), (8, _), (9, _)]) (L := fun k => _) (I := fun k => 0 ≤ k ∧ k ≤ env.length ∧ heldS env name = heldS (env.drop k.toNat) name) (μ := fun k => (env.length - k).toNat) (i := (0 : Int)) ⟨rfl, rfl, rfl, rfl, rfl, rfl, trivial⟩ ⟨by omega, by omega, rfl⟩ (fun w hw => hw) (fun k hI => ?_)
  refine TC.seq ?_
  refine TC.region ?_
  refine TL.run (pr_pure rfl) rfl ?_
  refine TL.nil ?_
  refine TX.seqN ?_
  refine TC.seq ?_
  refine TC.condD rfl (fun c11 => ?_) (fun c11 => ?_)
  ·
    refine TC.skip ?_
    refine TX.seqN ?_
    refine TC.seq ?_
    refine TC.block ?_
    refine TC.seq ?_
    refine TC.region ?_
    obtain ⟨x, hx⟩ := getSome (l := env) hI.1 c11
    refine TL.run (pr_indexSl rfl hT rfl (by omega) (by omega)) rfl ?_
    refine TL.run (pr_elA hT hx rfl rfl) rfl ?_
    refine TL.alloc rfl (fun b7 => ?_)
    refine TL.storeA rfl rfl rfl rfl rfl (.here _) rfl rfl ?_
    refine TL.nil ?_
    refine TX.seqN ?_
    refine TC.seq ?_
    refine TC.seq ?_
    refine TC.region ?_
    refine TL.run (pr_field rfl) rfl ?_
    refine TL.run (pr_own1 rfl (.here _) rfl) rfl ?_
    refine TL.run (pr_pure rfl) rfl ?_
    refine TL.run (pr_str rfl rfl rfl) rfl ?_
    refine TL.nil ?_
    refine TX.seqN ?_
    refine TC.condND rfl (fun c17 => ?_) (fun c17 => ?_)
    ·
      refine TC.exit ?_
      refine TX.thenE ?_
      refine TX.blkHit ?_
      refine TX.seqN ?_
      refine TC.region ?_
      refine TL.run ((by first | exact pr_add rfl rfl (by omega) (by omega) | exact pr_pure rfl)) rfl ?_
      refine TL.run (pr_pure rfl) rfl ?_
      refine TL.nil ?_
      exact TX.round (k + 1) ⟨by omega, by omega, held_skip hI.1 hI.2.2 hx c17⟩ ⟨rfl, rfl, rfl, rfl, rfl, rfl, trivial⟩ (fun w hw => hw.drop) (by omega)
    ·
      refine TC.skip ?_
      refine TX.seqN ?_
      refine TC.seq ?_
      refine TC.seq ?_
      refine TC.region ?_
      refine TL.run (pr_field rfl) rfl ?_
      refine TL.run (pr_field rfl) rfl ?_
      refine TL.run (pr_own1 rfl (.here _) rfl) rfl ?_
      refine TL.run (pr_pure rfl) rfl ?_
      refine TL.run (pr_pure rfl) rfl ?_
      refine TL.split (s := 22) rfl (fun g22 => ?_) (fun g22 => ?_)
      ·
        have q22 := of_decide_eq_true g22
        refine TL.gdN rfl rfl rfl rfl ?_
        refine TL.gdN rfl rfl rfl rfl ?_
        refine TL.gdN rfl rfl rfl rfl ?_
        refine TL.gdN rfl rfl rfl rfl ?_
        refine TL.run (pr_pure rfl) rfl ?_
        refine TL.nil ?_
        refine TX.seqN ?_
        refine TC.condT rfl ?_
        refine TC.seq ?_
        refine TC.region ?_
        refine TL.run (pr_pure rfl) rfl ?_
        refine TL.run (pr_pure rfl) rfl ?_
        refine TL.nil ?_
        refine TX.seqN ?_
        refine TC.ret ?_
        refine TX.thenR ?_
        refine TX.blkR ?_
        refine TX.thenR ?_
        refine TX.thenR ?_
        refine TX.blkR ?_
        refine TX.thenR ?_
        exact TX.finS (.inr rfl) (results2 rfl (RVal.tmp rfl) (RVal.tmp rfl)) (pair_ret (by first | exact held_end hI.2.2 (by omega) | (rw [held_at hI.1 hI.2.2 hx c17]; simp_all; done) | (rw [held_at hI.1 hI.2.2 hx c17, if_neg (by simp_all)])))
      ·
        have q22 := of_decide_eq_false g22
        refine TL.gdY rfl rfl (pr_field rfl) rfl ?_
        refine TL.gdY rfl rfl (pr_field rfl) rfl ?_
        refine TL.gdY rfl rfl (pr_own1 rfl (.here _) rfl) rfl ?_
        refine TL.gdY rfl rfl (pr_pure rfl) rfl ?_
        refine TL.run (pr_pure rfl) rfl ?_
        refine TL.nil ?_
        refine TX.seqN ?_
        refine TC.condD rfl (fun c27 => ?_) (fun c27 => ?_)
        ·
          refine TC.seq ?_
          refine TC.region ?_
          refine TL.run (pr_pure rfl) rfl ?_
          refine TL.run (pr_pure rfl) rfl ?_
          refine TL.nil ?_
          refine TX.seqN ?_
          refine TC.ret ?_
          refine TX.thenR ?_
          refine TX.blkR ?_
          refine TX.thenR ?_
          refine TX.thenR ?_
          refine TX.blkR ?_
          refine TX.thenR ?_
          exact TX.finS (.inr rfl) (results2 rfl (RVal.tmp rfl) (RVal.tmp rfl)) (pair_ret (by first | exact held_end hI.2.2 (by omega) | (rw [held_at hI.1 hI.2.2 hx c17]; simp_all; done) | (rw [held_at hI.1 hI.2.2 hx c17, if_neg (by simp_all)])))
        ·
          refine TC.skip ?_
          refine TX.seqN ?_
          refine TC.seq ?_
          refine TC.region ?_
          refine TL.run (pr_field rfl) rfl ?_
          refine TL.run (pr_field rfl) rfl ?_
          refine TL.run (pr_own1 rfl (.here _) rfl) rfl ?_
          refine TL.run (pr_pure rfl) rfl ?_
          refine TL.run (pr_pure rfl) rfl ?_
          refine TL.nil ?_
          refine TX.seqN ?_
          refine TC.ret ?_
          refine TX.blkR ?_
          refine TX.thenR ?_
          refine TX.thenR ?_
          refine TX.blkR ?_
          refine TX.thenR ?_
          exact TX.finS (.inr rfl) (results2 rfl (RVal.tmp rfl) (RVal.tmp rfl)) (pair_ret (by first | exact held_end hI.2.2 (by omega) | (rw [held_at hI.1 hI.2.2 hx c17]; simp_all; done) | (rw [held_at hI.1 hI.2.2 hx c17, if_neg (by simp_all)])))
  ·
    refine TC.exit ?_
    refine TX.thenE ?_
    refine TX.thenE ?_
    refine TX.blkHit ?_
    refine TX.seqN ?_
    refine TC.seq ?_
    refine TC.region ?_
    refine TL.run (pr_pure rfl) rfl ?_
    refine TL.run (pr_pure rfl) rfl ?_
    refine TL.nil ?_
    refine TX.seqN ?_
    refine TC.ret ?_
    exact TX.finS (.inr rfl) (results2 rfl (RVal.tmp rfl) (RVal.tmp rfl)) (pair_ret (by first | exact held_end hI.2.2 (by omega) | (rw [held_at hI.1 hI.2.2 hx c17]; simp_all; done) | (rw [held_at hI.1 hI.2.2 hx c17, if_neg (by simp_all)])))

set_option maxRecDepth 100000 in
set_option maxHeartbeats 1000000 in
theorem asked_ok {H : Hp} (k : Int) :
    FnS Try.prog 19 [.int .i64 k] H (.tuple #[.agg #[.int .i64 (askW k).1, .int .i64 (askW k).2.1], .int .i64 (askW k).2.2]) := by
  refine FnS.enter Try.func19 Try.ntmps19 rfl rfl (fun w0 => ?_)
  refine TC.seq ?_
  refine TC.region ?_
  refine TL.alloc rfl (fun b2 => ?_)
  refine TL.run (pr_pure rfl) rfl ?_
  refine TL.nil ?_
  refine TX.seqN ?_
  refine TC.seq ?_
  refine TC.seq ?_
  refine TC.region ?_
  refine TL.run (pr_pure rfl) rfl ?_
  refine TL.nil ?_
  refine TX.seqN ?_
  refine TC.block ?_
  refine TC.sw (decide (k = 6) || (decide (k = 7) || (decide (k = 8) || (decide (k = 9) || decide (k = 10))))) 5 [(2, _), (3, _), (4, _)] ⟨rfl, rfl, rfl, trivial⟩ ?_ ?_
  ·
    refine TC.swG (pr_pure rfl) rfl rfl ⟨rfl, rfl, rfl, trivial⟩ ?_
    refine TC.swG (pr_pure rfl) rfl rfl ⟨rfl, rfl, rfl, trivial⟩ ?_
    refine TC.swG (pr_pure rfl) rfl rfl ⟨rfl, rfl, rfl, trivial⟩ ?_
    refine TC.swG (pr_pure rfl) rfl rfl ⟨rfl, rfl, rfl, trivial⟩ ?_
    exact TC.swE (pr_pure rfl) rfl rfl ⟨rfl, rfl, rfl, trivial⟩
  refine TC.cond rfl (fun c5 => ?_) (fun c5 => ?_)
  ·
    refine TC.seq ?_
    refine TC.region ?_
    refine TL.run (pr_buildArr rfl rfl) rfl ?_
    refine TL.storeA rfl rfl rfl rfl rfl (.here _) rfl rfl ?_
    refine TL.run (pr_pure rfl) rfl ?_
    refine TL.nil ?_
    refine TX.seqN ?_
    refine TC.ret ?_
    refine TX.blkR ?_
    refine TX.thenR ?_
    exact TX.finS (.inr rfl) (results2 rfl (RVal.cellA rfl (.here _) rfl) (RVal.tmp rfl)) (asked_ret (by simp only [Bool.or_eq_true, Bool.or_eq_false_iff, decide_eq_true_eq, decide_eq_false_iff_not] at *; first | exact askW_0 (by omega) | exact askW_1 (by omega) | exact askW_2 (by omega) | exact askW_3 (by omega) | exact askW_4 (by omega) | exact askW_5 (by omega) | exact askW_6 (by omega) | exact askW_7 (by omega) | exact askW_8 (by omega) | exact askW_9 (by omega) | exact askW_10 (by omega) | exact askW_11 (by omega) | exact askW_12 (by omega) | exact askW_d (by omega)))
  ·
    refine TC.sw (decide (k = 12)) 12 [(2, _), (3, _), (4, _)] ⟨rfl, rfl, rfl, trivial⟩ ?_ ?_
    ·
      exact TC.swE (pr_pure rfl) rfl rfl ⟨rfl, rfl, rfl, trivial⟩
    refine TC.condD rfl (fun c12 => ?_) (fun c12 => ?_)
    ·
      refine TC.seq ?_
      refine TC.region ?_
      refine TL.run (pr_buildArr rfl rfl) rfl ?_
      refine TL.storeA rfl rfl rfl rfl rfl (.here _) rfl rfl ?_
      refine TL.run (pr_pure rfl) rfl ?_
      refine TL.nil ?_
      refine TX.seqN ?_
      refine TC.ret ?_
      refine TX.blkR ?_
      refine TX.thenR ?_
      exact TX.finS (.inr rfl) (results2 rfl (RVal.cellA rfl (.here _) rfl) (RVal.tmp rfl)) (asked_ret (by simp only [Bool.or_eq_true, Bool.or_eq_false_iff, decide_eq_true_eq, decide_eq_false_iff_not] at *; first | exact askW_0 (by omega) | exact askW_1 (by omega) | exact askW_2 (by omega) | exact askW_3 (by omega) | exact askW_4 (by omega) | exact askW_5 (by omega) | exact askW_6 (by omega) | exact askW_7 (by omega) | exact askW_8 (by omega) | exact askW_9 (by omega) | exact askW_10 (by omega) | exact askW_11 (by omega) | exact askW_12 (by omega) | exact askW_d (by omega)))
    ·
      refine TC.sw (decide (k = 13) || decide (k = 14)) 15 [(2, _), (3, _), (4, _)] ⟨rfl, rfl, rfl, trivial⟩ ?_ ?_
      ·
        refine TC.swG (pr_pure rfl) rfl rfl ⟨rfl, rfl, rfl, trivial⟩ ?_
        exact TC.swE (pr_pure rfl) rfl rfl ⟨rfl, rfl, rfl, trivial⟩
      refine TC.cond rfl (fun c15 => ?_) (fun c15 => ?_)
      ·
        refine TC.seq ?_
        refine TC.region ?_
        refine TL.run (pr_buildArr rfl rfl) rfl ?_
        refine TL.storeA rfl rfl rfl rfl rfl (.here _) rfl rfl ?_
        refine TL.run (pr_pure rfl) rfl ?_
        refine TL.nil ?_
        refine TX.seqN ?_
        refine TC.ret ?_
        refine TX.blkR ?_
        refine TX.thenR ?_
        exact TX.finS (.inr rfl) (results2 rfl (RVal.cellA rfl (.here _) rfl) (RVal.tmp rfl)) (asked_ret (by simp only [Bool.or_eq_true, Bool.or_eq_false_iff, decide_eq_true_eq, decide_eq_false_iff_not] at *; first | exact askW_0 (by omega) | exact askW_1 (by omega) | exact askW_2 (by omega) | exact askW_3 (by omega) | exact askW_4 (by omega) | exact askW_5 (by omega) | exact askW_6 (by omega) | exact askW_7 (by omega) | exact askW_8 (by omega) | exact askW_9 (by omega) | exact askW_10 (by omega) | exact askW_11 (by omega) | exact askW_12 (by omega) | exact askW_d (by omega)))
      ·
        refine TC.sw (decide (k = 15)) 19 [(2, _), (3, _), (4, _)] ⟨rfl, rfl, rfl, trivial⟩ ?_ ?_
        ·
          exact TC.swE (pr_pure rfl) rfl rfl ⟨rfl, rfl, rfl, trivial⟩
        refine TC.condD rfl (fun c19 => ?_) (fun c19 => ?_)
        ·
          refine TC.seq ?_
          refine TC.region ?_
          refine TL.run (pr_buildArr rfl rfl) rfl ?_
          refine TL.storeA rfl rfl rfl rfl rfl (.here _) rfl rfl ?_
          refine TL.run (pr_pure rfl) rfl ?_
          refine TL.nil ?_
          refine TX.seqN ?_
          refine TC.ret ?_
          refine TX.blkR ?_
          refine TX.thenR ?_
          exact TX.finS (.inr rfl) (results2 rfl (RVal.cellA rfl (.here _) rfl) (RVal.tmp rfl)) (asked_ret (by simp only [Bool.or_eq_true, Bool.or_eq_false_iff, decide_eq_true_eq, decide_eq_false_iff_not] at *; first | exact askW_0 (by omega) | exact askW_1 (by omega) | exact askW_2 (by omega) | exact askW_3 (by omega) | exact askW_4 (by omega) | exact askW_5 (by omega) | exact askW_6 (by omega) | exact askW_7 (by omega) | exact askW_8 (by omega) | exact askW_9 (by omega) | exact askW_10 (by omega) | exact askW_11 (by omega) | exact askW_12 (by omega) | exact askW_d (by omega)))
        ·
          refine TC.sw (decide (k = 16)) 22 [(2, _), (3, _), (4, _)] ⟨rfl, rfl, rfl, trivial⟩ ?_ ?_
          ·
            exact TC.swE (pr_pure rfl) rfl rfl ⟨rfl, rfl, rfl, trivial⟩
          refine TC.condD rfl (fun c22 => ?_) (fun c22 => ?_)
          ·
            refine TC.seq ?_
            refine TC.region ?_
            refine TL.run (pr_buildArr rfl rfl) rfl ?_
            refine TL.storeA rfl rfl rfl rfl rfl (.here _) rfl rfl ?_
            refine TL.run (pr_pure rfl) rfl ?_
            refine TL.nil ?_
            refine TX.seqN ?_
            refine TC.ret ?_
            refine TX.blkR ?_
            refine TX.thenR ?_
            exact TX.finS (.inr rfl) (results2 rfl (RVal.cellA rfl (.here _) rfl) (RVal.tmp rfl)) (asked_ret (by simp only [Bool.or_eq_true, Bool.or_eq_false_iff, decide_eq_true_eq, decide_eq_false_iff_not] at *; first | exact askW_0 (by omega) | exact askW_1 (by omega) | exact askW_2 (by omega) | exact askW_3 (by omega) | exact askW_4 (by omega) | exact askW_5 (by omega) | exact askW_6 (by omega) | exact askW_7 (by omega) | exact askW_8 (by omega) | exact askW_9 (by omega) | exact askW_10 (by omega) | exact askW_11 (by omega) | exact askW_12 (by omega) | exact askW_d (by omega)))
          ·
            refine TC.sw (decide (k = 17)) 25 [(2, _), (3, _), (4, _)] ⟨rfl, rfl, rfl, trivial⟩ ?_ ?_
            ·
              exact TC.swE (pr_pure rfl) rfl rfl ⟨rfl, rfl, rfl, trivial⟩
            refine TC.condD rfl (fun c25 => ?_) (fun c25 => ?_)
            ·
              refine TC.seq ?_
              refine TC.region ?_
              refine TL.run (pr_buildArr rfl rfl) rfl ?_
              refine TL.storeA rfl rfl rfl rfl rfl (.here _) rfl rfl ?_
              refine TL.run (pr_pure rfl) rfl ?_
              refine TL.nil ?_
              refine TX.seqN ?_
              refine TC.ret ?_
              refine TX.blkR ?_
              refine TX.thenR ?_
              exact TX.finS (.inr rfl) (results2 rfl (RVal.cellA rfl (.here _) rfl) (RVal.tmp rfl)) (asked_ret (by simp only [Bool.or_eq_true, Bool.or_eq_false_iff, decide_eq_true_eq, decide_eq_false_iff_not] at *; first | exact askW_0 (by omega) | exact askW_1 (by omega) | exact askW_2 (by omega) | exact askW_3 (by omega) | exact askW_4 (by omega) | exact askW_5 (by omega) | exact askW_6 (by omega) | exact askW_7 (by omega) | exact askW_8 (by omega) | exact askW_9 (by omega) | exact askW_10 (by omega) | exact askW_11 (by omega) | exact askW_12 (by omega) | exact askW_d (by omega)))
            ·
              refine TC.sw (decide (k = 18)) 28 [(2, _), (3, _), (4, _)] ⟨rfl, rfl, rfl, trivial⟩ ?_ ?_
              ·
                exact TC.swE (pr_pure rfl) rfl rfl ⟨rfl, rfl, rfl, trivial⟩
              refine TC.condD rfl (fun c28 => ?_) (fun c28 => ?_)
              ·
                refine TC.seq ?_
                refine TC.region ?_
                refine TL.run (pr_buildArr rfl rfl) rfl ?_
                refine TL.storeA rfl rfl rfl rfl rfl (.here _) rfl rfl ?_
                refine TL.run (pr_pure rfl) rfl ?_
                refine TL.nil ?_
                refine TX.seqN ?_
                refine TC.ret ?_
                refine TX.blkR ?_
                refine TX.thenR ?_
                exact TX.finS (.inr rfl) (results2 rfl (RVal.cellA rfl (.here _) rfl) (RVal.tmp rfl)) (asked_ret (by simp only [Bool.or_eq_true, Bool.or_eq_false_iff, decide_eq_true_eq, decide_eq_false_iff_not] at *; first | exact askW_0 (by omega) | exact askW_1 (by omega) | exact askW_2 (by omega) | exact askW_3 (by omega) | exact askW_4 (by omega) | exact askW_5 (by omega) | exact askW_6 (by omega) | exact askW_7 (by omega) | exact askW_8 (by omega) | exact askW_9 (by omega) | exact askW_10 (by omega) | exact askW_11 (by omega) | exact askW_12 (by omega) | exact askW_d (by omega)))
              ·
                refine TC.sw (decide (k = 19)) 31 [(2, _), (3, _), (4, _)] ⟨rfl, rfl, rfl, trivial⟩ ?_ ?_
                ·
                  exact TC.swE (pr_pure rfl) rfl rfl ⟨rfl, rfl, rfl, trivial⟩
                refine TC.condD rfl (fun c31 => ?_) (fun c31 => ?_)
                ·
                  refine TC.seq ?_
                  refine TC.region ?_
                  refine TL.run (pr_buildArr rfl rfl) rfl ?_
                  refine TL.storeA rfl rfl rfl rfl rfl (.here _) rfl rfl ?_
                  refine TL.run (pr_pure rfl) rfl ?_
                  refine TL.nil ?_
                  refine TX.seqN ?_
                  refine TC.ret ?_
                  refine TX.blkR ?_
                  refine TX.thenR ?_
                  exact TX.finS (.inr rfl) (results2 rfl (RVal.cellA rfl (.here _) rfl) (RVal.tmp rfl)) (asked_ret (by simp only [Bool.or_eq_true, Bool.or_eq_false_iff, decide_eq_true_eq, decide_eq_false_iff_not] at *; first | exact askW_0 (by omega) | exact askW_1 (by omega) | exact askW_2 (by omega) | exact askW_3 (by omega) | exact askW_4 (by omega) | exact askW_5 (by omega) | exact askW_6 (by omega) | exact askW_7 (by omega) | exact askW_8 (by omega) | exact askW_9 (by omega) | exact askW_10 (by omega) | exact askW_11 (by omega) | exact askW_12 (by omega) | exact askW_d (by omega)))
                ·
                  refine TC.sw (decide (k = 11)) 34 [(2, _), (3, _), (4, _)] ⟨rfl, rfl, rfl, trivial⟩ ?_ ?_
                  ·
                    exact TC.swE (pr_pure rfl) rfl rfl ⟨rfl, rfl, rfl, trivial⟩
                  refine TC.condD rfl (fun c34 => ?_) (fun c34 => ?_)
                  ·
                    refine TC.seq ?_
                    refine TC.region ?_
                    refine TL.run (pr_buildArr rfl rfl) rfl ?_
                    refine TL.storeA rfl rfl rfl rfl rfl (.here _) rfl rfl ?_
                    refine TL.run (pr_pure rfl) rfl ?_
                    refine TL.nil ?_
                    refine TX.seqN ?_
                    refine TC.ret ?_
                    refine TX.blkR ?_
                    refine TX.thenR ?_
                    exact TX.finS (.inr rfl) (results2 rfl (RVal.cellA rfl (.here _) rfl) (RVal.tmp rfl)) (asked_ret (by simp only [Bool.or_eq_true, Bool.or_eq_false_iff, decide_eq_true_eq, decide_eq_false_iff_not] at *; first | exact askW_0 (by omega) | exact askW_1 (by omega) | exact askW_2 (by omega) | exact askW_3 (by omega) | exact askW_4 (by omega) | exact askW_5 (by omega) | exact askW_6 (by omega) | exact askW_7 (by omega) | exact askW_8 (by omega) | exact askW_9 (by omega) | exact askW_10 (by omega) | exact askW_11 (by omega) | exact askW_12 (by omega) | exact askW_d (by omega)))
                  ·
                    refine TC.sw (decide (k = 1)) 37 [(2, _), (3, _), (4, _)] ⟨rfl, rfl, rfl, trivial⟩ ?_ ?_
                    ·
                      exact TC.swE (pr_pure rfl) rfl rfl ⟨rfl, rfl, rfl, trivial⟩
                    refine TC.condD rfl (fun c37 => ?_) (fun c37 => ?_)
                    ·
                      refine TC.seq ?_
                      refine TC.region ?_
                      refine TL.run (pr_buildArr rfl rfl) rfl ?_
                      refine TL.storeA rfl rfl rfl rfl rfl (.here _) rfl rfl ?_
                      refine TL.run (pr_pure rfl) rfl ?_
                      refine TL.nil ?_
                      refine TX.seqN ?_
                      refine TC.ret ?_
                      refine TX.blkR ?_
                      refine TX.thenR ?_
                      exact TX.finS (.inr rfl) (results2 rfl (RVal.cellA rfl (.here _) rfl) (RVal.tmp rfl)) (asked_ret (by simp only [Bool.or_eq_true, Bool.or_eq_false_iff, decide_eq_true_eq, decide_eq_false_iff_not] at *; first | exact askW_0 (by omega) | exact askW_1 (by omega) | exact askW_2 (by omega) | exact askW_3 (by omega) | exact askW_4 (by omega) | exact askW_5 (by omega) | exact askW_6 (by omega) | exact askW_7 (by omega) | exact askW_8 (by omega) | exact askW_9 (by omega) | exact askW_10 (by omega) | exact askW_11 (by omega) | exact askW_12 (by omega) | exact askW_d (by omega)))
                    ·
                      refine TC.sw (decide (k = 2)) 40 [(2, _), (3, _), (4, _)] ⟨rfl, rfl, rfl, trivial⟩ ?_ ?_
                      ·
                        exact TC.swE (pr_pure rfl) rfl rfl ⟨rfl, rfl, rfl, trivial⟩
                      refine TC.condD rfl (fun c40 => ?_) (fun c40 => ?_)
                      ·
                        refine TC.seq ?_
                        refine TC.region ?_
                        refine TL.run (pr_buildArr rfl rfl) rfl ?_
                        refine TL.storeA rfl rfl rfl rfl rfl (.here _) rfl rfl ?_
                        refine TL.run (pr_pure rfl) rfl ?_
                        refine TL.nil ?_
                        refine TX.seqN ?_
                        refine TC.ret ?_
                        refine TX.blkR ?_
                        refine TX.thenR ?_
                        exact TX.finS (.inr rfl) (results2 rfl (RVal.cellA rfl (.here _) rfl) (RVal.tmp rfl)) (asked_ret (by simp only [Bool.or_eq_true, Bool.or_eq_false_iff, decide_eq_true_eq, decide_eq_false_iff_not] at *; first | exact askW_0 (by omega) | exact askW_1 (by omega) | exact askW_2 (by omega) | exact askW_3 (by omega) | exact askW_4 (by omega) | exact askW_5 (by omega) | exact askW_6 (by omega) | exact askW_7 (by omega) | exact askW_8 (by omega) | exact askW_9 (by omega) | exact askW_10 (by omega) | exact askW_11 (by omega) | exact askW_12 (by omega) | exact askW_d (by omega)))
                      ·
                        refine TC.sw (decide (k = 3)) 43 [(2, _), (3, _), (4, _)] ⟨rfl, rfl, rfl, trivial⟩ ?_ ?_
                        ·
                          exact TC.swE (pr_pure rfl) rfl rfl ⟨rfl, rfl, rfl, trivial⟩
                        refine TC.condD rfl (fun c43 => ?_) (fun c43 => ?_)
                        ·
                          refine TC.seq ?_
                          refine TC.region ?_
                          refine TL.run (pr_buildArr rfl rfl) rfl ?_
                          refine TL.storeA rfl rfl rfl rfl rfl (.here _) rfl rfl ?_
                          refine TL.run (pr_pure rfl) rfl ?_
                          refine TL.nil ?_
                          refine TX.seqN ?_
                          refine TC.ret ?_
                          refine TX.blkR ?_
                          refine TX.thenR ?_
                          exact TX.finS (.inr rfl) (results2 rfl (RVal.cellA rfl (.here _) rfl) (RVal.tmp rfl)) (asked_ret (by simp only [Bool.or_eq_true, Bool.or_eq_false_iff, decide_eq_true_eq, decide_eq_false_iff_not] at *; first | exact askW_0 (by omega) | exact askW_1 (by omega) | exact askW_2 (by omega) | exact askW_3 (by omega) | exact askW_4 (by omega) | exact askW_5 (by omega) | exact askW_6 (by omega) | exact askW_7 (by omega) | exact askW_8 (by omega) | exact askW_9 (by omega) | exact askW_10 (by omega) | exact askW_11 (by omega) | exact askW_12 (by omega) | exact askW_d (by omega)))
                        ·
                          refine TC.sw (decide (k = 4)) 46 [(2, _), (3, _)] ⟨rfl, rfl, trivial⟩ ?_ ?_
                          ·
                            exact TC.swE (pr_pure rfl) rfl rfl ⟨rfl, rfl, trivial⟩
                          refine TC.condD rfl (fun c46 => ?_) (fun c46 => ?_)
                          ·
                            refine TC.seq ?_
                            refine TC.region ?_
                            refine TL.run (pr_buildArr rfl rfl) rfl ?_
                            refine TL.storeA rfl rfl rfl rfl rfl (.here _) rfl rfl ?_
                            refine TL.run (pr_pure rfl) rfl ?_
                            refine TL.nil ?_
                            refine TX.seqN ?_
                            refine TC.ret ?_
                            refine TX.blkR ?_
                            refine TX.thenR ?_
                            exact TX.finS (.inr rfl) (results2 rfl (RVal.cellA rfl (.here _) rfl) (RVal.tmp rfl)) (asked_ret (by simp only [Bool.or_eq_true, Bool.or_eq_false_iff, decide_eq_true_eq, decide_eq_false_iff_not] at *; first | exact askW_0 (by omega) | exact askW_1 (by omega) | exact askW_2 (by omega) | exact askW_3 (by omega) | exact askW_4 (by omega) | exact askW_5 (by omega) | exact askW_6 (by omega) | exact askW_7 (by omega) | exact askW_8 (by omega) | exact askW_9 (by omega) | exact askW_10 (by omega) | exact askW_11 (by omega) | exact askW_12 (by omega) | exact askW_d (by omega)))
                          ·
                            refine TC.skip ?_
                            refine TX.blkN ?_
                            refine TX.seqN ?_
                            refine TC.seq ?_
                            refine TC.region ?_
                            refine TL.run (pr_buildArr rfl rfl) rfl ?_
                            refine TL.storeA rfl rfl rfl rfl rfl (.here _) rfl rfl ?_
                            refine TL.run (pr_pure rfl) rfl ?_
                            refine TL.nil ?_
                            refine TX.seqN ?_
                            refine TC.ret ?_
                            exact TX.finS (.inr rfl) (results2 rfl (RVal.cellA rfl (.here _) rfl) (RVal.tmp rfl)) (asked_ret (by simp only [Bool.or_eq_true, Bool.or_eq_false_iff, decide_eq_true_eq, decide_eq_false_iff_not] at *; first | exact askW_0 (by omega) | exact askW_1 (by omega) | exact askW_2 (by omega) | exact askW_3 (by omega) | exact askW_4 (by omega) | exact askW_5 (by omega) | exact askW_6 (by omega) | exact askW_7 (by omega) | exact askW_8 (by omega) | exact askW_9 (by omega) | exact askW_10 (by omega) | exact askW_11 (by omega) | exact askW_12 (by omega) | exact askW_d (by omega)))

set_option maxRecDepth 100000 in
set_option maxHeartbeats 1000000 in
theorem ofW_ok {H : Hp} {l : List Term} {env : List Typing} {v ve : Value} {bl be bw : Nat} (hT : RdSl H 6 Term.cells v l) (hE : RdSl H 3 Typing.cells ve env) (hl : H bl 0 = some v) (hv : H be 0 = some ve) (hw : H bw 0 = some (.func (.func 17) #[] #[.pointer (some ⟨bl, 0, none⟩), .pointer (some ⟨be, 0, none⟩), .pointer (some ⟨bw, 0, none⟩)])) :
    ∀ (f : Nat) (at_ : Int), Tr l f at_ →
      FnS Try.prog 17 [.int .i64 at_, .pointer (some ⟨bl, 0, none⟩), .pointer (some ⟨be, 0, none⟩), .pointer (some ⟨bw, 0, none⟩)] H (pairV (kOf l env f at_)) := by
  intro f
  induction f with
  | zero => intro at_ h; exact h.elim
  | succ f ih =>
  intro at_ hTr
  obtain ⟨h0, t, hx, hop, hfd, hTl0, _, hTr0, _⟩ := hTr
  have h1 : at_ < l.length := by have := (List.getElem?_eq_some_iff.1 hx).1; omega
  have hTl : ¬ (askW t.kind).1 = -1 → Tr l f t.l := fun h => hTl0 (askW_a hop h)
  have hTr : ¬ (askW t.kind).2.1 = -1 → Tr l f t.r := fun h => hTr0 (askW_b hop h)
  refine FnS.enter Try.func17 Try.ntmps17 rfl rfl (fun w0 => ?_)
  refine TC.seq ?_
  refine TC.region ?_
  refine TL.run (pr_pure rfl) rfl ?_
  refine TL.run (pr_pure rfl) rfl ?_
  refine TL.nil ?_
  refine TX.seqN ?_
  refine TC.seq ?_
  refine TC.region ?_
  refine TL.run (pr_hp1 rfl hl) rfl ?_
  refine TL.run (pr_pure rfl) rfl ?_
  refine TL.run (pr_indexSl rfl hT rfl (by omega) (by omega)) rfl ?_
  refine TL.run (pr_elA hT hx rfl rfl) rfl ?_
  refine TL.alloc rfl (fun b7 => ?_)
  refine TL.storeA rfl rfl rfl rfl rfl (.here _) rfl rfl ?_
  refine TL.nil ?_
  refine TX.seqN ?_
  refine TC.seq ?_
  refine TC.seq ?_
  refine TC.region ?_
  refine TL.run (pr_field rfl) rfl ?_
  refine TL.run (pr_own1 rfl (.here _) rfl) rfl ?_
  refine TL.run (pr_pure rfl) rfl ?_
  refine TL.nil ?_
  refine TX.seqN ?_
  refine TC.condD rfl (fun c22 => ?_) (fun c22 => ?_)
  ·
    refine TC.seq ?_
    refine TC.region ?_
    refine TL.run (pr_hp1 rfl hv) rfl ?_
    refine TL.run (pr_field rfl) rfl ?_
    refine TL.run (pr_own1 rfl (.here _) rfl) rfl ?_
    refine TL.callS (enters rfl rfl rfl rfl) (held_ok t.name hE) rfl ?_
    refine TL.run (pr_pure rfl) rfl ?_
    refine TL.run (pr_pure rfl) rfl ?_
    refine TL.run (pr_pure rfl) rfl ?_
    refine TL.run (pr_pure rfl) rfl ?_
    refine TL.nil ?_
    refine TX.seqN ?_
    refine TC.ret ?_
    refine TX.thenR ?_
    refine TX.finS (.inr rfl) (results2 rfl (RVal.tmp rfl) (RVal.tmp rfl)) ?_
    first
      | exact pair_ret (kOf_var hx c22)
      | exact pair_ret ((kOf_a hx c22 (by unfold kOp; rw [if_neg w0]; exact c55_0)).trans (by unfold kOp; rw [if_neg w0]))
      | exact pair_ret ((kOf_b hx c22 o0 (by unfold kOp; rw [if_neg w1]; exact c55_1)).trans (by unfold kOp; rw [if_neg w1]))
      | exact pair_ret ((kOf_f hx c22 hI.1 hI.2).trans (by unfold kFin; rw [if_pos (by unfold kFin1; rw [g68_0]; simpa using c76_0)]))
      | exact pair_ret ((kOf_f hx c22 hI.1 hI.2).trans (by unfold kFin; rw [if_neg (by rw [p0]; decide), if_pos (by unfold kFin1; rw [g68_1]; simpa using c76_1)]))
      | exact pair_ret ((kOf_f hx c22 hI.1 hI.2).trans (by unfold kFin; rw [if_neg (by rw [hJ.1]; decide), if_neg (by rw [hJ.2]; decide)]; unfold kFinB; rw [if_pos c107]))
      | exact pair_ret ((kOf_f hx c22 hI.1 hI.2).trans (by unfold kFin; rw [if_neg (by rw [hJ.1]; decide), if_neg (by rw [hJ.2]; decide)]; unfold kFinB; rw [if_neg (by rw [c107]; decide)]))
  ·
    refine TC.skip ?_
    refine TX.seqN ?_
    refine TC.seq ?_
    refine TC.region ?_
    refine TL.run (pr_field rfl) rfl ?_
    refine TL.run (pr_own1 rfl (.here _) rfl) rfl ?_
    refine TL.callS (enters rfl rfl rfl rfl) (asked_ok t.kind) rfl ?_
    refine TL.run (pr_pure rfl) rfl ?_
    refine TL.run (pr_pure rfl) rfl ?_
    refine TL.run (pr_pure rfl) rfl ?_
    refine TL.alloc rfl (fun b8 => ?_)
    refine TL.storeA rfl rfl rfl rfl rfl (.here _) rfl rfl ?_
    refine TL.run (pr_pure rfl) rfl ?_
    refine TL.nil ?_
    refine TX.seqN ?_
    refine TC.seq ?_
    refine TC.region ?_
    refine TL.alloc rfl (fun b10 => ?_)
    refine TL.nil ?_
    refine TX.seqN ?_
    refine TC.mid (ι := Unit) (V := fun _ => []) (K := [(5, _), (6, _), (7, _), (8, _), (9, _), (10, _)]) ⟨rfl, rfl, rfl, rfl, rfl, rfl, trivial⟩ (L := fun _ => St [] w0 H H ((b10, [.int .i64 (kOp (askW t.kind).1 (kOf l env f t.l)).1, .int .i64 (kOp (askW t.kind).2.1 (kOf l env f t.r)).1]) :: (b8, [.int .i64 (askW t.kind).1, .int .i64 (askW t.kind).2.1]) :: (b7, t.cells) :: [])) (I := fun _ => (kOp (askW t.kind).1 (kOf l env f t.l)).2 = 0 ∧ (kOp (askW t.kind).2.1 (kOf l env f t.r)).2 = 0) ?_ ?_
    ·
      refine TC.seq ?_
      refine TC.region ?_
      refine TL.run (pr_field rfl) rfl ?_
      refine TL.run (pr_own1 rfl (.there _ (.there _ (.here _))) rfl) rfl ?_
      refine TL.run (pr_field rfl) rfl ?_
      refine TL.run (pr_own1 rfl (.there _ (.there _ (.here _))) rfl) rfl ?_
      refine TL.run (pr_buildArr rfl rfl) rfl ?_
      refine TL.run (pr_pure rfl) rfl ?_
      refine TL.nil ?_
      refine TX.seqN ?_
      refine TC.block ?_
      refine TC.rounds 3 ?_
      refine TR.succ ?_
      refine TC.seq ?_
      refine TC.region ?_
      refine TL.run (pr_pure rfl) rfl ?_
      refine TL.nil ?_
      refine TX.seqN ?_
      refine TC.seq ?_
      refine TC.condT rfl ?_
      refine TC.skip ?_
      refine TX.seqN ?_
      refine TC.seq ?_
      refine TC.block ?_
      refine TC.seq ?_
      refine TC.region ?_
      refine TL.run (pr_pure rfl) rfl ?_
      refine TL.run (pr_at rfl rfl (by omega) (by omega) (by first | rfl | assumption)) rfl ?_
      refine TL.run (pr_pure rfl) rfl ?_
      refine TL.run (pr_pure rfl) rfl ?_
      refine TL.nil ?_
      refine TX.seqN ?_
      refine TC.seq ?_
      refine TC.seq ?_
      refine TC.region ?_
      refine TL.run (pr_pure rfl) rfl ?_
      refine TL.run (pr_indexArr rfl rfl (by omega) (by omega)) rfl ?_
      refine TL.run (pr_own1 rfl (.there _ (.here _)) rfl) rfl ?_
      refine TL.run (pr_pure rfl) rfl ?_
      refine TL.nil ?_
      refine TX.seqN ?_
      refine TC.condD rfl (fun c47_0 => ?_) (fun c47_0 => ?_)
      ·
        refine TC.exit ?_
        refine TX.thenE ?_
        refine TX.blkHit ?_
        refine TX.seqN ?_
        refine TC.region ?_
        refine TL.run (pr_add rfl rfl (by omega) (by omega)) rfl ?_
        refine TL.run (pr_pure rfl) rfl ?_
        refine TL.nil ?_
        have o0 : (kOp (askW t.kind).1 (kOf l env f t.l)).2 = 0 := by unfold kOp; first | (rw [if_pos c47_0]; done) | (rw [if_neg w0]; simpa using c55_0)
        refine TX.rnd ?_
        refine TR.succ ?_
        refine TC.seq ?_
        refine TC.region ?_
        refine TL.run (pr_pure rfl) rfl ?_
        refine TL.nil ?_
        refine TX.seqN ?_
        refine TC.seq ?_
        refine TC.condT rfl ?_
        refine TC.skip ?_
        refine TX.seqN ?_
        refine TC.seq ?_
        refine TC.block ?_
        refine TC.seq ?_
        refine TC.region ?_
        refine TL.run (pr_pure rfl) rfl ?_
        refine TL.run (pr_at rfl rfl (by omega) (by omega) (by first | rfl | assumption)) rfl ?_
        refine TL.run (pr_pure rfl) rfl ?_
        refine TL.run (pr_pure rfl) rfl ?_
        refine TL.nil ?_
        refine TX.seqN ?_
        refine TC.seq ?_
        refine TC.seq ?_
        refine TC.region ?_
        refine TL.run (pr_pure rfl) rfl ?_
        refine TL.run (pr_indexArr rfl rfl (by omega) (by omega)) rfl ?_
        refine TL.run (pr_own1 rfl (.there _ (.here _)) rfl) rfl ?_
        refine TL.run (pr_pure rfl) rfl ?_
        refine TL.nil ?_
        refine TX.seqN ?_
        refine TC.condD rfl (fun c47_1 => ?_) (fun c47_1 => ?_)
        ·
          refine TC.exit ?_
          refine TX.thenE ?_
          refine TX.blkHit ?_
          refine TX.seqN ?_
          refine TC.region ?_
          refine TL.run (pr_add rfl rfl (by omega) (by omega)) rfl ?_
          refine TL.run (pr_pure rfl) rfl ?_
          refine TL.nil ?_
          have o1 : (kOp (askW t.kind).2.1 (kOf l env f t.r)).2 = 0 := by unfold kOp; first | (rw [if_pos c47_1]; done) | (rw [if_neg w1]; simpa using c55_1)
          refine TX.rnd ?_
          refine TR.succ ?_
          refine TC.seq ?_
          refine TC.region ?_
          refine TL.run (pr_pure rfl) rfl ?_
          refine TL.nil ?_
          refine TX.seqN ?_
          refine TC.seq ?_
          refine TC.condF rfl ?_
          refine TC.exit ?_
          refine TX.thenE ?_
          refine TX.thenE ?_
          refine TX.blkHit ?_
          refine TX.mid () ⟨o0, o1⟩ ⟨rfl, rfl, rfl, rfl, rfl, rfl, trivial⟩ (fun w hw => ?_)
          have hA : (kOp (askW t.kind).1 (kOf l env f t.l)).1 = 0 := by unfold kOp; rw [if_pos c47_0]
          have hB : (kOp (askW t.kind).2.1 (kOf l env f t.r)).1 = 0 := by unfold kOp; rw [if_pos c47_1]
          rw [hA, hB]; exact hw
        ·
          refine TC.skip ?_
          refine TX.seqN ?_
          refine TC.seq ?_
          refine TC.region ?_
          refine TL.run (pr_hp1 rfl hw) rfl ?_
          refine TL.run (pr_pure rfl) rfl ?_
          have w1 : ¬ (askW t.kind).2.1 = -1 := c47_1
          refine TL.callS (enters rfl rfl rfl rfl) (ih t.r (hTr w1)) rfl ?_
          refine TL.run (pr_pure rfl) rfl ?_
          refine TL.run (pr_pure rfl) rfl ?_
          refine TL.run (pr_pure rfl) rfl ?_
          refine TL.run (pr_pure rfl) rfl ?_
          refine TL.run (pr_pure rfl) rfl ?_
          refine TL.nil ?_
          refine TX.seqN ?_
          refine TC.seq ?_
          refine TC.seq ?_
          refine TC.region ?_
          refine TL.run (pr_pure rfl) rfl ?_
          refine TL.run (pr_pure rfl) rfl ?_
          refine TL.nil ?_
          refine TX.seqN ?_
          refine TC.condND rfl (fun c55_1 => ?_) (fun c55_1 => ?_)
          ·
            refine TC.seq ?_
            refine TC.region ?_
            refine TL.run (pr_pure rfl) rfl ?_
            refine TL.run (pr_pure rfl) rfl ?_
            refine TL.run (pr_pure rfl) rfl ?_
            refine TL.nil ?_
            refine TX.seqN ?_
            refine TC.ret ?_
            refine TX.thenR ?_
            refine TX.blkR ?_
            refine TX.thenR ?_
            refine TX.thenR ?_
            refine TX.blkR ?_
            refine TX.thenR ?_
            refine TX.finS (.inr rfl) (results2 rfl (RVal.tmp rfl) (RVal.tmp rfl)) ?_
            first
              | exact pair_ret (kOf_var hx c22)
              | exact pair_ret ((kOf_a hx c22 (by unfold kOp; rw [if_neg w0]; exact c55_0)).trans (by unfold kOp; rw [if_neg w0]))
              | exact pair_ret ((kOf_b hx c22 o0 (by unfold kOp; rw [if_neg w1]; exact c55_1)).trans (by unfold kOp; rw [if_neg w1]))
              | exact pair_ret ((kOf_f hx c22 hI.1 hI.2).trans (by unfold kFin; rw [if_pos (by unfold kFin1; rw [g68_0]; simpa using c76_0)]))
              | exact pair_ret ((kOf_f hx c22 hI.1 hI.2).trans (by unfold kFin; rw [if_neg (by rw [p0]; decide), if_pos (by unfold kFin1; rw [g68_1]; simpa using c76_1)]))
              | exact pair_ret ((kOf_f hx c22 hI.1 hI.2).trans (by unfold kFin; rw [if_neg (by rw [hJ.1]; decide), if_neg (by rw [hJ.2]; decide)]; unfold kFinB; rw [if_pos c107]))
              | exact pair_ret ((kOf_f hx c22 hI.1 hI.2).trans (by unfold kFin; rw [if_neg (by rw [hJ.1]; decide), if_neg (by rw [hJ.2]; decide)]; unfold kFinB; rw [if_neg (by rw [c107]; decide)]))
          ·
            refine TC.skip ?_
            refine TX.seqN ?_
            refine TC.region ?_
            refine TL.run (pr_pure rfl) rfl ?_
            refine TL.run (pr_pure rfl) rfl ?_
            refine TL.run (pr_indexArr rfl rfl (by omega) (by omega)) rfl ?_
            refine TL.store1 rfl rfl rfl (.here _) rfl rfl ?_
            refine TL.nil ?_
            refine TX.blkN ?_
            refine TX.seqN ?_
            refine TC.region ?_
            refine TL.run (pr_add rfl rfl (by omega) (by omega)) rfl ?_
            refine TL.run (pr_pure rfl) rfl ?_
            refine TL.nil ?_
            have o1 : (kOp (askW t.kind).2.1 (kOf l env f t.r)).2 = 0 := by unfold kOp; first | (rw [if_pos c47_1]; done) | (rw [if_neg w1]; simpa using c55_1)
            refine TX.rnd ?_
            refine TR.succ ?_
            refine TC.seq ?_
            refine TC.region ?_
            refine TL.run (pr_pure rfl) rfl ?_
            refine TL.nil ?_
            refine TX.seqN ?_
            refine TC.seq ?_
            refine TC.condF rfl ?_
            refine TC.exit ?_
            refine TX.thenE ?_
            refine TX.thenE ?_
            refine TX.blkHit ?_
            refine TX.mid () ⟨o0, o1⟩ ⟨rfl, rfl, rfl, rfl, rfl, rfl, trivial⟩ (fun w hw => ?_)
            have hA : (kOp (askW t.kind).1 (kOf l env f t.l)).1 = 0 := by unfold kOp; rw [if_pos c47_0]
            have hB : (kOp (askW t.kind).2.1 (kOf l env f t.r)).1 = (kOf l env f t.r).1 := by unfold kOp; rw [if_neg w1]
            rw [hA, hB]; exact hw
      ·
        refine TC.skip ?_
        refine TX.seqN ?_
        refine TC.seq ?_
        refine TC.region ?_
        refine TL.run (pr_hp1 rfl hw) rfl ?_
        refine TL.run (pr_pure rfl) rfl ?_
        have w0 : ¬ (askW t.kind).1 = -1 := c47_0
        refine TL.callS (enters rfl rfl rfl rfl) (ih t.l (hTl w0)) rfl ?_
        refine TL.run (pr_pure rfl) rfl ?_
        refine TL.run (pr_pure rfl) rfl ?_
        refine TL.run (pr_pure rfl) rfl ?_
        refine TL.run (pr_pure rfl) rfl ?_
        refine TL.run (pr_pure rfl) rfl ?_
        refine TL.nil ?_
        refine TX.seqN ?_
        refine TC.seq ?_
        refine TC.seq ?_
        refine TC.region ?_
        refine TL.run (pr_pure rfl) rfl ?_
        refine TL.run (pr_pure rfl) rfl ?_
        refine TL.nil ?_
        refine TX.seqN ?_
        refine TC.condND rfl (fun c55_0 => ?_) (fun c55_0 => ?_)
        ·
          refine TC.seq ?_
          refine TC.region ?_
          refine TL.run (pr_pure rfl) rfl ?_
          refine TL.run (pr_pure rfl) rfl ?_
          refine TL.run (pr_pure rfl) rfl ?_
          refine TL.nil ?_
          refine TX.seqN ?_
          refine TC.ret ?_
          refine TX.thenR ?_
          refine TX.blkR ?_
          refine TX.thenR ?_
          refine TX.thenR ?_
          refine TX.blkR ?_
          refine TX.thenR ?_
          refine TX.finS (.inr rfl) (results2 rfl (RVal.tmp rfl) (RVal.tmp rfl)) ?_
          first
            | exact pair_ret (kOf_var hx c22)
            | exact pair_ret ((kOf_a hx c22 (by unfold kOp; rw [if_neg w0]; exact c55_0)).trans (by unfold kOp; rw [if_neg w0]))
            | exact pair_ret ((kOf_b hx c22 o0 (by unfold kOp; rw [if_neg w1]; exact c55_1)).trans (by unfold kOp; rw [if_neg w1]))
            | exact pair_ret ((kOf_f hx c22 hI.1 hI.2).trans (by unfold kFin; rw [if_pos (by unfold kFin1; rw [g68_0]; simpa using c76_0)]))
            | exact pair_ret ((kOf_f hx c22 hI.1 hI.2).trans (by unfold kFin; rw [if_neg (by rw [p0]; decide), if_pos (by unfold kFin1; rw [g68_1]; simpa using c76_1)]))
            | exact pair_ret ((kOf_f hx c22 hI.1 hI.2).trans (by unfold kFin; rw [if_neg (by rw [hJ.1]; decide), if_neg (by rw [hJ.2]; decide)]; unfold kFinB; rw [if_pos c107]))
            | exact pair_ret ((kOf_f hx c22 hI.1 hI.2).trans (by unfold kFin; rw [if_neg (by rw [hJ.1]; decide), if_neg (by rw [hJ.2]; decide)]; unfold kFinB; rw [if_neg (by rw [c107]; decide)]))
        ·
          refine TC.skip ?_
          refine TX.seqN ?_
          refine TC.region ?_
          refine TL.run (pr_pure rfl) rfl ?_
          refine TL.run (pr_pure rfl) rfl ?_
          refine TL.run (pr_indexArr rfl rfl (by omega) (by omega)) rfl ?_
          refine TL.store1 rfl rfl rfl (.here _) rfl rfl ?_
          refine TL.nil ?_
          refine TX.blkN ?_
          refine TX.seqN ?_
          refine TC.region ?_
          refine TL.run (pr_add rfl rfl (by omega) (by omega)) rfl ?_
          refine TL.run (pr_pure rfl) rfl ?_
          refine TL.nil ?_
          have o0 : (kOp (askW t.kind).1 (kOf l env f t.l)).2 = 0 := by unfold kOp; first | (rw [if_pos c47_0]; done) | (rw [if_neg w0]; simpa using c55_0)
          refine TX.rnd ?_
          refine TR.succ ?_
          refine TC.seq ?_
          refine TC.region ?_
          refine TL.run (pr_pure rfl) rfl ?_
          refine TL.nil ?_
          refine TX.seqN ?_
          refine TC.seq ?_
          refine TC.condT rfl ?_
          refine TC.skip ?_
          refine TX.seqN ?_
          refine TC.seq ?_
          refine TC.block ?_
          refine TC.seq ?_
          refine TC.region ?_
          refine TL.run (pr_pure rfl) rfl ?_
          refine TL.run (pr_at rfl rfl (by omega) (by omega) (by first | rfl | assumption)) rfl ?_
          refine TL.run (pr_pure rfl) rfl ?_
          refine TL.run (pr_pure rfl) rfl ?_
          refine TL.nil ?_
          refine TX.seqN ?_
          refine TC.seq ?_
          refine TC.seq ?_
          refine TC.region ?_
          refine TL.run (pr_pure rfl) rfl ?_
          refine TL.run (pr_indexArr rfl rfl (by omega) (by omega)) rfl ?_
          refine TL.run (pr_own1 rfl (.there _ (.here _)) rfl) rfl ?_
          refine TL.run (pr_pure rfl) rfl ?_
          refine TL.nil ?_
          refine TX.seqN ?_
          refine TC.condD rfl (fun c47_1 => ?_) (fun c47_1 => ?_)
          ·
            refine TC.exit ?_
            refine TX.thenE ?_
            refine TX.blkHit ?_
            refine TX.seqN ?_
            refine TC.region ?_
            refine TL.run (pr_add rfl rfl (by omega) (by omega)) rfl ?_
            refine TL.run (pr_pure rfl) rfl ?_
            refine TL.nil ?_
            have o1 : (kOp (askW t.kind).2.1 (kOf l env f t.r)).2 = 0 := by unfold kOp; first | (rw [if_pos c47_1]; done) | (rw [if_neg w1]; simpa using c55_1)
            refine TX.rnd ?_
            refine TR.succ ?_
            refine TC.seq ?_
            refine TC.region ?_
            refine TL.run (pr_pure rfl) rfl ?_
            refine TL.nil ?_
            refine TX.seqN ?_
            refine TC.seq ?_
            refine TC.condF rfl ?_
            refine TC.exit ?_
            refine TX.thenE ?_
            refine TX.thenE ?_
            refine TX.blkHit ?_
            refine TX.mid () ⟨o0, o1⟩ ⟨rfl, rfl, rfl, rfl, rfl, rfl, trivial⟩ (fun w hw => ?_)
            have hA : (kOp (askW t.kind).1 (kOf l env f t.l)).1 = (kOf l env f t.l).1 := by unfold kOp; rw [if_neg w0]
            have hB : (kOp (askW t.kind).2.1 (kOf l env f t.r)).1 = 0 := by unfold kOp; rw [if_pos c47_1]
            rw [hA, hB]; exact hw
          ·
            refine TC.skip ?_
            refine TX.seqN ?_
            refine TC.seq ?_
            refine TC.region ?_
            refine TL.run (pr_hp1 rfl hw) rfl ?_
            refine TL.run (pr_pure rfl) rfl ?_
            have w1 : ¬ (askW t.kind).2.1 = -1 := c47_1
            refine TL.callS (enters rfl rfl rfl rfl) (ih t.r (hTr w1)) rfl ?_
            refine TL.run (pr_pure rfl) rfl ?_
            refine TL.run (pr_pure rfl) rfl ?_
            refine TL.run (pr_pure rfl) rfl ?_
            refine TL.run (pr_pure rfl) rfl ?_
            refine TL.run (pr_pure rfl) rfl ?_
            refine TL.nil ?_
            refine TX.seqN ?_
            refine TC.seq ?_
            refine TC.seq ?_
            refine TC.region ?_
            refine TL.run (pr_pure rfl) rfl ?_
            refine TL.run (pr_pure rfl) rfl ?_
            refine TL.nil ?_
            refine TX.seqN ?_
            refine TC.condND rfl (fun c55_1 => ?_) (fun c55_1 => ?_)
            ·
              refine TC.seq ?_
              refine TC.region ?_
              refine TL.run (pr_pure rfl) rfl ?_
              refine TL.run (pr_pure rfl) rfl ?_
              refine TL.run (pr_pure rfl) rfl ?_
              refine TL.nil ?_
              refine TX.seqN ?_
              refine TC.ret ?_
              refine TX.thenR ?_
              refine TX.blkR ?_
              refine TX.thenR ?_
              refine TX.thenR ?_
              refine TX.blkR ?_
              refine TX.thenR ?_
              refine TX.finS (.inr rfl) (results2 rfl (RVal.tmp rfl) (RVal.tmp rfl)) ?_
              first
                | exact pair_ret (kOf_var hx c22)
                | exact pair_ret ((kOf_a hx c22 (by unfold kOp; rw [if_neg w0]; exact c55_0)).trans (by unfold kOp; rw [if_neg w0]))
                | exact pair_ret ((kOf_b hx c22 o0 (by unfold kOp; rw [if_neg w1]; exact c55_1)).trans (by unfold kOp; rw [if_neg w1]))
                | exact pair_ret ((kOf_f hx c22 hI.1 hI.2).trans (by unfold kFin; rw [if_pos (by unfold kFin1; rw [g68_0]; simpa using c76_0)]))
                | exact pair_ret ((kOf_f hx c22 hI.1 hI.2).trans (by unfold kFin; rw [if_neg (by rw [p0]; decide), if_pos (by unfold kFin1; rw [g68_1]; simpa using c76_1)]))
                | exact pair_ret ((kOf_f hx c22 hI.1 hI.2).trans (by unfold kFin; rw [if_neg (by rw [hJ.1]; decide), if_neg (by rw [hJ.2]; decide)]; unfold kFinB; rw [if_pos c107]))
                | exact pair_ret ((kOf_f hx c22 hI.1 hI.2).trans (by unfold kFin; rw [if_neg (by rw [hJ.1]; decide), if_neg (by rw [hJ.2]; decide)]; unfold kFinB; rw [if_neg (by rw [c107]; decide)]))
            ·
              refine TC.skip ?_
              refine TX.seqN ?_
              refine TC.region ?_
              refine TL.run (pr_pure rfl) rfl ?_
              refine TL.run (pr_pure rfl) rfl ?_
              refine TL.run (pr_indexArr rfl rfl (by omega) (by omega)) rfl ?_
              refine TL.store1 rfl rfl rfl (.here _) rfl rfl ?_
              refine TL.nil ?_
              refine TX.blkN ?_
              refine TX.seqN ?_
              refine TC.region ?_
              refine TL.run (pr_add rfl rfl (by omega) (by omega)) rfl ?_
              refine TL.run (pr_pure rfl) rfl ?_
              refine TL.nil ?_
              have o1 : (kOp (askW t.kind).2.1 (kOf l env f t.r)).2 = 0 := by unfold kOp; first | (rw [if_pos c47_1]; done) | (rw [if_neg w1]; simpa using c55_1)
              refine TX.rnd ?_
              refine TR.succ ?_
              refine TC.seq ?_
              refine TC.region ?_
              refine TL.run (pr_pure rfl) rfl ?_
              refine TL.nil ?_
              refine TX.seqN ?_
              refine TC.seq ?_
              refine TC.condF rfl ?_
              refine TC.exit ?_
              refine TX.thenE ?_
              refine TX.thenE ?_
              refine TX.blkHit ?_
              refine TX.mid () ⟨o0, o1⟩ ⟨rfl, rfl, rfl, rfl, rfl, rfl, trivial⟩ (fun w hw => ?_)
              have hA : (kOp (askW t.kind).1 (kOf l env f t.l)).1 = (kOf l env f t.l).1 := by unfold kOp; rw [if_neg w0]
              have hB : (kOp (askW t.kind).2.1 (kOf l env f t.r)).1 = (kOf l env f t.r).1 := by unfold kOp; rw [if_neg w1]
              rw [hA, hB]; exact hw
    ·
      intro _ hI
      refine TC.mid (ι := Unit) (V := fun _ => []) (K := [(5, _), (6, _), (7, _), (9, _), (10, _)]) ⟨rfl, rfl, rfl, rfl, rfl, trivial⟩ (L := fun _ => St [] w0 H H ((b10, [.int .i64 (kOp (askW t.kind).1 (kOf l env f t.l)).1, .int .i64 (kOp (askW t.kind).2.1 (kOf l env f t.r)).1]) :: (b8, [.int .i64 (askW t.kind).1, .int .i64 (askW t.kind).2.1]) :: (b7, t.cells) :: [])) (I := fun _ => kFin1 (askW t.kind).1 (kOp (askW t.kind).1 (kOf l env f t.l)).1 = false ∧ kFin1 (askW t.kind).2.1 (kOp (askW t.kind).2.1 (kOf l env f t.r)).1 = false) ?_ ?_
      ·
        refine TC.seq ?_
        refine TC.region ?_
        refine TL.run (pr_pure rfl) rfl ?_
        refine TL.nil ?_
        refine TX.seqN ?_
        refine TC.block ?_
        refine TC.rounds 3 ?_
        refine TR.succ ?_
        refine TC.seq ?_
        refine TC.region ?_
        refine TL.run (pr_pure rfl) rfl ?_
        refine TL.nil ?_
        refine TX.seqN ?_
        refine TC.seq ?_
        refine TC.condT rfl ?_
        refine TC.skip ?_
        refine TX.seqN ?_
        refine TC.seq ?_
        refine TC.block ?_
        refine TC.seq ?_
        refine TC.region ?_
        refine TL.run (pr_pure rfl) rfl ?_
        refine TL.run (pr_pure rfl) rfl ?_
        refine TL.nil ?_
        refine TX.seqN ?_
        refine TC.seq ?_
        refine TC.quiet (by kernel_rfl) (by kernel_rfl) ?_
        refine TQ.run (pr_pure rfl) rfl ?_
        refine TQ.run (pr_indexArr rfl rfl (by omega) (by omega)) rfl ?_
        refine TQ.run (pr_own1 rfl (.there _ (.here _)) rfl) rfl ?_
        refine TQ.run (pr_pure rfl) rfl ?_
        refine TQ.run (pr_pure rfl) rfl ?_
        refine TQ.split (s := 68) rfl (fun g68_0 => ?_) (fun g68_0 => ?_)
        ·
          have q68_0 := of_decide_eq_true g68_0
          refine TQ.gdY rfl rfl (pr_pure rfl) rfl ?_
          refine TQ.gdY rfl rfl (pr_indexArr rfl rfl (by omega) (by omega)) rfl ?_
          refine TQ.gdY rfl rfl (pr_own1 rfl (.here _) rfl) rfl ?_
          refine TQ.gdY rfl rfl (pr_pure rfl) rfl ?_
          refine TQ.gdY rfl rfl (pr_indexArr rfl rfl (by omega) (by omega)) rfl ?_
          refine TQ.gdY rfl rfl (pr_own1 rfl (.there _ (.here _)) rfl) rfl ?_
          refine TQ.gdY rfl rfl (pr_pure rfl) rfl ?_
          refine TQ.run (pr_pure rfl) rfl ?_
          refine TQ.nil ?_
          refine TX.seqN ?_
          refine TC.condND rfl (fun c76_0 => ?_) (fun c76_0 => ?_)
          ·
            refine TC.seq ?_
            refine TC.region ?_
            refine TL.run (pr_pure rfl) rfl ?_
            refine TL.run (pr_pure rfl) rfl ?_
            refine TL.nil ?_
            refine TX.seqN ?_
            refine TC.ret ?_
            refine TX.blkR ?_
            refine TX.thenR ?_
            refine TX.thenR ?_
            refine TX.blkR ?_
            refine TX.thenR ?_
            refine TX.finS (.inr rfl) (results2 rfl (RVal.tmp rfl) (RVal.tmp rfl)) ?_
            first
              | exact pair_ret (kOf_var hx c22)
              | exact pair_ret ((kOf_a hx c22 (by unfold kOp; rw [if_neg w0]; exact c55_0)).trans (by unfold kOp; rw [if_neg w0]))
              | exact pair_ret ((kOf_b hx c22 o0 (by unfold kOp; rw [if_neg w1]; exact c55_1)).trans (by unfold kOp; rw [if_neg w1]))
              | exact pair_ret ((kOf_f hx c22 hI.1 hI.2).trans (by unfold kFin; rw [if_pos (by unfold kFin1; rw [g68_0]; simpa using c76_0)]))
              | exact pair_ret ((kOf_f hx c22 hI.1 hI.2).trans (by unfold kFin; rw [if_neg (by rw [p0]; decide), if_pos (by unfold kFin1; rw [g68_1]; simpa using c76_1)]))
              | exact pair_ret ((kOf_f hx c22 hI.1 hI.2).trans (by unfold kFin; rw [if_neg (by rw [hJ.1]; decide), if_neg (by rw [hJ.2]; decide)]; unfold kFinB; rw [if_pos c107]))
              | exact pair_ret ((kOf_f hx c22 hI.1 hI.2).trans (by unfold kFin; rw [if_neg (by rw [hJ.1]; decide), if_neg (by rw [hJ.2]; decide)]; unfold kFinB; rw [if_neg (by rw [c107]; decide)]))
          ·
            refine TC.skip ?_
            refine TX.blkN ?_
            refine TX.seqN ?_
            refine TC.region ?_
            refine TL.run (pr_add rfl rfl (by omega) (by omega)) rfl ?_
            refine TL.run (pr_pure rfl) rfl ?_
            refine TL.nil ?_
            have p0 : kFin1 (askW t.kind).1 (kOp (askW t.kind).1 (kOf l env f t.l)).1 = false := by unfold kFin1; first | (rw [g68_0]; rfl) | (rw [g68_0]; simpa using c76_0)
            refine TX.rnd ?_
            refine TR.succ ?_
            refine TC.seq ?_
            refine TC.region ?_
            refine TL.run (pr_pure rfl) rfl ?_
            refine TL.nil ?_
            refine TX.seqN ?_
            refine TC.seq ?_
            refine TC.condT rfl ?_
            refine TC.skip ?_
            refine TX.seqN ?_
            refine TC.seq ?_
            refine TC.block ?_
            refine TC.seq ?_
            refine TC.region ?_
            refine TL.run (pr_pure rfl) rfl ?_
            refine TL.run (pr_pure rfl) rfl ?_
            refine TL.nil ?_
            refine TX.seqN ?_
            refine TC.seq ?_
            refine TC.quiet (by kernel_rfl) (by kernel_rfl) ?_
            refine TQ.run (pr_pure rfl) rfl ?_
            refine TQ.run (pr_indexArr rfl rfl (by omega) (by omega)) rfl ?_
            refine TQ.run (pr_own1 rfl (.there _ (.here _)) rfl) rfl ?_
            refine TQ.run (pr_pure rfl) rfl ?_
            refine TQ.run (pr_pure rfl) rfl ?_
            refine TQ.split (s := 68) rfl (fun g68_1 => ?_) (fun g68_1 => ?_)
            ·
              have q68_1 := of_decide_eq_true g68_1
              refine TQ.gdY rfl rfl (pr_pure rfl) rfl ?_
              refine TQ.gdY rfl rfl (pr_indexArr rfl rfl (by omega) (by omega)) rfl ?_
              refine TQ.gdY rfl rfl (pr_own1 rfl (.here _) rfl) rfl ?_
              refine TQ.gdY rfl rfl (pr_pure rfl) rfl ?_
              refine TQ.gdY rfl rfl (pr_indexArr rfl rfl (by omega) (by omega)) rfl ?_
              refine TQ.gdY rfl rfl (pr_own1 rfl (.there _ (.here _)) rfl) rfl ?_
              refine TQ.gdY rfl rfl (pr_pure rfl) rfl ?_
              refine TQ.run (pr_pure rfl) rfl ?_
              refine TQ.nil ?_
              refine TX.seqN ?_
              refine TC.condND rfl (fun c76_1 => ?_) (fun c76_1 => ?_)
              ·
                refine TC.seq ?_
                refine TC.region ?_
                refine TL.run (pr_pure rfl) rfl ?_
                refine TL.run (pr_pure rfl) rfl ?_
                refine TL.nil ?_
                refine TX.seqN ?_
                refine TC.ret ?_
                refine TX.blkR ?_
                refine TX.thenR ?_
                refine TX.thenR ?_
                refine TX.blkR ?_
                refine TX.thenR ?_
                refine TX.finS (.inr rfl) (results2 rfl (RVal.tmp rfl) (RVal.tmp rfl)) ?_
                first
                  | exact pair_ret (kOf_var hx c22)
                  | exact pair_ret ((kOf_a hx c22 (by unfold kOp; rw [if_neg w0]; exact c55_0)).trans (by unfold kOp; rw [if_neg w0]))
                  | exact pair_ret ((kOf_b hx c22 o0 (by unfold kOp; rw [if_neg w1]; exact c55_1)).trans (by unfold kOp; rw [if_neg w1]))
                  | exact pair_ret ((kOf_f hx c22 hI.1 hI.2).trans (by unfold kFin; rw [if_pos (by unfold kFin1; rw [g68_0]; simpa using c76_0)]))
                  | exact pair_ret ((kOf_f hx c22 hI.1 hI.2).trans (by unfold kFin; rw [if_neg (by rw [p0]; decide), if_pos (by unfold kFin1; rw [g68_1]; simpa using c76_1)]))
                  | exact pair_ret ((kOf_f hx c22 hI.1 hI.2).trans (by unfold kFin; rw [if_neg (by rw [hJ.1]; decide), if_neg (by rw [hJ.2]; decide)]; unfold kFinB; rw [if_pos c107]))
                  | exact pair_ret ((kOf_f hx c22 hI.1 hI.2).trans (by unfold kFin; rw [if_neg (by rw [hJ.1]; decide), if_neg (by rw [hJ.2]; decide)]; unfold kFinB; rw [if_neg (by rw [c107]; decide)]))
              ·
                refine TC.skip ?_
                refine TX.blkN ?_
                refine TX.seqN ?_
                refine TC.region ?_
                refine TL.run (pr_add rfl rfl (by omega) (by omega)) rfl ?_
                refine TL.run (pr_pure rfl) rfl ?_
                refine TL.nil ?_
                have p1 : kFin1 (askW t.kind).2.1 (kOp (askW t.kind).2.1 (kOf l env f t.r)).1 = false := by unfold kFin1; first | (rw [g68_1]; rfl) | (rw [g68_1]; simpa using c76_1)
                refine TX.rnd ?_
                refine TR.succ ?_
                refine TC.seq ?_
                refine TC.region ?_
                refine TL.run (pr_pure rfl) rfl ?_
                refine TL.nil ?_
                refine TX.seqN ?_
                refine TC.seq ?_
                refine TC.condF rfl ?_
                refine TC.exit ?_
                refine TX.thenE ?_
                refine TX.thenE ?_
                refine TX.blkHit ?_
                exact TX.mid () ⟨p0, p1⟩ ⟨rfl, rfl, rfl, rfl, rfl, trivial⟩ (fun w hw => hw)
            ·
              have q68_1 := of_decide_eq_false g68_1
              refine TQ.gdN rfl rfl rfl rfl ?_
              refine TQ.gdN rfl rfl rfl rfl ?_
              refine TQ.gdN rfl rfl rfl rfl ?_
              refine TQ.gdN rfl rfl rfl rfl ?_
              refine TQ.gdN rfl rfl rfl rfl ?_
              refine TQ.gdN rfl rfl rfl rfl ?_
              refine TQ.gdN rfl rfl rfl rfl ?_
              refine TQ.run (pr_pure rfl) rfl ?_
              refine TQ.nil ?_
              refine TX.seqN ?_
              refine TC.condF rfl ?_
              refine TC.skip ?_
              refine TX.blkN ?_
              refine TX.seqN ?_
              refine TC.region ?_
              refine TL.run (pr_add rfl rfl (by omega) (by omega)) rfl ?_
              refine TL.run (pr_pure rfl) rfl ?_
              refine TL.nil ?_
              have p1 : kFin1 (askW t.kind).2.1 (kOp (askW t.kind).2.1 (kOf l env f t.r)).1 = false := by unfold kFin1; first | (rw [g68_1]; rfl) | (rw [g68_1]; simpa using c76_1)
              refine TX.rnd ?_
              refine TR.succ ?_
              refine TC.seq ?_
              refine TC.region ?_
              refine TL.run (pr_pure rfl) rfl ?_
              refine TL.nil ?_
              refine TX.seqN ?_
              refine TC.seq ?_
              refine TC.condF rfl ?_
              refine TC.exit ?_
              refine TX.thenE ?_
              refine TX.thenE ?_
              refine TX.blkHit ?_
              exact TX.mid () ⟨p0, p1⟩ ⟨rfl, rfl, rfl, rfl, rfl, trivial⟩ (fun w hw => hw)
        ·
          have q68_0 := of_decide_eq_false g68_0
          refine TQ.gdN rfl rfl rfl rfl ?_
          refine TQ.gdN rfl rfl rfl rfl ?_
          refine TQ.gdN rfl rfl rfl rfl ?_
          refine TQ.gdN rfl rfl rfl rfl ?_
          refine TQ.gdN rfl rfl rfl rfl ?_
          refine TQ.gdN rfl rfl rfl rfl ?_
          refine TQ.gdN rfl rfl rfl rfl ?_
          refine TQ.run (pr_pure rfl) rfl ?_
          refine TQ.nil ?_
          refine TX.seqN ?_
          refine TC.condF rfl ?_
          refine TC.skip ?_
          refine TX.blkN ?_
          refine TX.seqN ?_
          refine TC.region ?_
          refine TL.run (pr_add rfl rfl (by omega) (by omega)) rfl ?_
          refine TL.run (pr_pure rfl) rfl ?_
          refine TL.nil ?_
          have p0 : kFin1 (askW t.kind).1 (kOp (askW t.kind).1 (kOf l env f t.l)).1 = false := by unfold kFin1; first | (rw [g68_0]; rfl) | (rw [g68_0]; simpa using c76_0)
          refine TX.rnd ?_
          refine TR.succ ?_
          refine TC.seq ?_
          refine TC.region ?_
          refine TL.run (pr_pure rfl) rfl ?_
          refine TL.nil ?_
          refine TX.seqN ?_
          refine TC.seq ?_
          refine TC.condT rfl ?_
          refine TC.skip ?_
          refine TX.seqN ?_
          refine TC.seq ?_
          refine TC.block ?_
          refine TC.seq ?_
          refine TC.region ?_
          refine TL.run (pr_pure rfl) rfl ?_
          refine TL.run (pr_pure rfl) rfl ?_
          refine TL.nil ?_
          refine TX.seqN ?_
          refine TC.seq ?_
          refine TC.quiet (by kernel_rfl) (by kernel_rfl) ?_
          refine TQ.run (pr_pure rfl) rfl ?_
          refine TQ.run (pr_indexArr rfl rfl (by omega) (by omega)) rfl ?_
          refine TQ.run (pr_own1 rfl (.there _ (.here _)) rfl) rfl ?_
          refine TQ.run (pr_pure rfl) rfl ?_
          refine TQ.run (pr_pure rfl) rfl ?_
          refine TQ.split (s := 68) rfl (fun g68_1 => ?_) (fun g68_1 => ?_)
          ·
            have q68_1 := of_decide_eq_true g68_1
            refine TQ.gdY rfl rfl (pr_pure rfl) rfl ?_
            refine TQ.gdY rfl rfl (pr_indexArr rfl rfl (by omega) (by omega)) rfl ?_
            refine TQ.gdY rfl rfl (pr_own1 rfl (.here _) rfl) rfl ?_
            refine TQ.gdY rfl rfl (pr_pure rfl) rfl ?_
            refine TQ.gdY rfl rfl (pr_indexArr rfl rfl (by omega) (by omega)) rfl ?_
            refine TQ.gdY rfl rfl (pr_own1 rfl (.there _ (.here _)) rfl) rfl ?_
            refine TQ.gdY rfl rfl (pr_pure rfl) rfl ?_
            refine TQ.run (pr_pure rfl) rfl ?_
            refine TQ.nil ?_
            refine TX.seqN ?_
            refine TC.condND rfl (fun c76_1 => ?_) (fun c76_1 => ?_)
            ·
              refine TC.seq ?_
              refine TC.region ?_
              refine TL.run (pr_pure rfl) rfl ?_
              refine TL.run (pr_pure rfl) rfl ?_
              refine TL.nil ?_
              refine TX.seqN ?_
              refine TC.ret ?_
              refine TX.blkR ?_
              refine TX.thenR ?_
              refine TX.thenR ?_
              refine TX.blkR ?_
              refine TX.thenR ?_
              refine TX.finS (.inr rfl) (results2 rfl (RVal.tmp rfl) (RVal.tmp rfl)) ?_
              first
                | exact pair_ret (kOf_var hx c22)
                | exact pair_ret ((kOf_a hx c22 (by unfold kOp; rw [if_neg w0]; exact c55_0)).trans (by unfold kOp; rw [if_neg w0]))
                | exact pair_ret ((kOf_b hx c22 o0 (by unfold kOp; rw [if_neg w1]; exact c55_1)).trans (by unfold kOp; rw [if_neg w1]))
                | exact pair_ret ((kOf_f hx c22 hI.1 hI.2).trans (by unfold kFin; rw [if_pos (by unfold kFin1; rw [g68_0]; simpa using c76_0)]))
                | exact pair_ret ((kOf_f hx c22 hI.1 hI.2).trans (by unfold kFin; rw [if_neg (by rw [p0]; decide), if_pos (by unfold kFin1; rw [g68_1]; simpa using c76_1)]))
                | exact pair_ret ((kOf_f hx c22 hI.1 hI.2).trans (by unfold kFin; rw [if_neg (by rw [hJ.1]; decide), if_neg (by rw [hJ.2]; decide)]; unfold kFinB; rw [if_pos c107]))
                | exact pair_ret ((kOf_f hx c22 hI.1 hI.2).trans (by unfold kFin; rw [if_neg (by rw [hJ.1]; decide), if_neg (by rw [hJ.2]; decide)]; unfold kFinB; rw [if_neg (by rw [c107]; decide)]))
            ·
              refine TC.skip ?_
              refine TX.blkN ?_
              refine TX.seqN ?_
              refine TC.region ?_
              refine TL.run (pr_add rfl rfl (by omega) (by omega)) rfl ?_
              refine TL.run (pr_pure rfl) rfl ?_
              refine TL.nil ?_
              have p1 : kFin1 (askW t.kind).2.1 (kOp (askW t.kind).2.1 (kOf l env f t.r)).1 = false := by unfold kFin1; first | (rw [g68_1]; rfl) | (rw [g68_1]; simpa using c76_1)
              refine TX.rnd ?_
              refine TR.succ ?_
              refine TC.seq ?_
              refine TC.region ?_
              refine TL.run (pr_pure rfl) rfl ?_
              refine TL.nil ?_
              refine TX.seqN ?_
              refine TC.seq ?_
              refine TC.condF rfl ?_
              refine TC.exit ?_
              refine TX.thenE ?_
              refine TX.thenE ?_
              refine TX.blkHit ?_
              exact TX.mid () ⟨p0, p1⟩ ⟨rfl, rfl, rfl, rfl, rfl, trivial⟩ (fun w hw => hw)
          ·
            have q68_1 := of_decide_eq_false g68_1
            refine TQ.gdN rfl rfl rfl rfl ?_
            refine TQ.gdN rfl rfl rfl rfl ?_
            refine TQ.gdN rfl rfl rfl rfl ?_
            refine TQ.gdN rfl rfl rfl rfl ?_
            refine TQ.gdN rfl rfl rfl rfl ?_
            refine TQ.gdN rfl rfl rfl rfl ?_
            refine TQ.gdN rfl rfl rfl rfl ?_
            refine TQ.run (pr_pure rfl) rfl ?_
            refine TQ.nil ?_
            refine TX.seqN ?_
            refine TC.condF rfl ?_
            refine TC.skip ?_
            refine TX.blkN ?_
            refine TX.seqN ?_
            refine TC.region ?_
            refine TL.run (pr_add rfl rfl (by omega) (by omega)) rfl ?_
            refine TL.run (pr_pure rfl) rfl ?_
            refine TL.nil ?_
            have p1 : kFin1 (askW t.kind).2.1 (kOp (askW t.kind).2.1 (kOf l env f t.r)).1 = false := by unfold kFin1; first | (rw [g68_1]; rfl) | (rw [g68_1]; simpa using c76_1)
            refine TX.rnd ?_
            refine TR.succ ?_
            refine TC.seq ?_
            refine TC.region ?_
            refine TL.run (pr_pure rfl) rfl ?_
            refine TL.nil ?_
            refine TX.seqN ?_
            refine TC.seq ?_
            refine TC.condF rfl ?_
            refine TC.exit ?_
            refine TX.thenE ?_
            refine TX.thenE ?_
            refine TX.blkHit ?_
            exact TX.mid () ⟨p0, p1⟩ ⟨rfl, rfl, rfl, rfl, rfl, trivial⟩ (fun w hw => hw)
      ·
        intro _ hJ
        refine TC.seq ?_
        refine TC.sw (kFin2 t.kind (kOp (askW t.kind).1 (kOf l env f t.l)).1 (kOp (askW t.kind).2.1 (kOf l env f t.r)).1) 107 [(5, _), (6, _), (9, _)] ⟨rfl, rfl, rfl, trivial⟩ ?_ ?_
        ·
          refine TC.region ?_
          refine TL.run (pr_field rfl) rfl ?_
          refine TL.run (pr_own1 rfl (.there _ (.there _ (.here _))) rfl) rfl ?_
          refine TL.run (pr_pure rfl) rfl ?_
          refine TL.run (pr_pure rfl) rfl ?_
          refine TL.split (s := 81) rfl (fun g81 => ?_) (fun g81 => ?_)
          ·
            have q81 := of_decide_eq_true g81
            refine TL.gdY rfl rfl (pr_indexArr rfl rfl (by omega) (by omega)) rfl ?_
            refine TL.gdY rfl rfl (pr_own1 rfl (.here _) rfl) rfl ?_
            refine TL.gdY rfl rfl (pr_indexArr rfl rfl (by omega) (by omega)) rfl ?_
            refine TL.gdY rfl rfl (pr_own1 rfl (.here _) rfl) rfl ?_
            refine TL.gdY rfl rfl (pr_pure rfl) rfl ?_
            refine TL.gdY rfl rfl (pr_pure rfl) rfl ?_
            refine TL.split (s := 87) rfl (fun g87 => ?_) (fun g87 => ?_)
            ·
              have q87 := of_ndec_true g87
              refine TL.gdN rfl rfl rfl rfl ?_
              refine TL.gdN rfl rfl rfl rfl ?_
              refine TL.gdN rfl rfl rfl rfl ?_
              refine TL.gdY rfl rfl (pr_pure rfl) rfl ?_
              refine TL.run (pr_pure rfl) rfl ?_
              refine TL.run (pr_pure rfl) rfl ?_
              refine TL.gdN rfl rfl rfl rfl ?_
              refine TL.gdN rfl rfl rfl rfl ?_
              refine TL.gdN rfl rfl rfl rfl ?_
              refine TL.gdN rfl rfl rfl rfl ?_
              refine TL.gdU rfl rfl rfl ?_
              refine TL.gdU rfl rfl rfl ?_
              refine TL.gdU rfl rfl rfl ?_
              refine TL.gdN rfl rfl rfl rfl ?_
              refine TL.gdN rfl rfl rfl rfl ?_
              refine TL.gdU rfl rfl rfl ?_
              refine TL.gdU rfl rfl rfl ?_
              refine TL.gdU rfl rfl rfl ?_
              refine TL.gdN rfl rfl rfl rfl ?_
              refine TL.run (pr_pure rfl) rfl ?_
              refine TL.nil ?_
              exact TX.sw rfl (by unfold kFin2; simp_all) ⟨rfl, rfl, rfl, trivial⟩
            ·
              have q87 := of_ndec_false g87
              refine TL.gdY rfl rfl (pr_indexArr rfl rfl (by omega) (by omega)) rfl ?_
              refine TL.gdY rfl rfl (pr_own1 rfl (.here _) rfl) rfl ?_
              refine TL.gdY rfl rfl (pr_pure rfl) rfl ?_
              refine TL.gdY rfl rfl (pr_pure rfl) rfl ?_
              refine TL.run (pr_pure rfl) rfl ?_
              refine TL.run (pr_pure rfl) rfl ?_
              refine TL.split (s := 93) rfl (fun g93 => ?_) (fun g93 => ?_)
              ·
                have q93 := of_decide_eq_true g93
                refine TL.gdN rfl rfl rfl rfl ?_
                refine TL.gdN rfl rfl rfl rfl ?_
                refine TL.gdN rfl rfl rfl rfl ?_
                refine TL.gdN rfl rfl rfl rfl ?_
                refine TL.gdU rfl rfl rfl ?_
                refine TL.gdU rfl rfl rfl ?_
                refine TL.gdU rfl rfl rfl ?_
                refine TL.gdN rfl rfl rfl rfl ?_
                refine TL.gdN rfl rfl rfl rfl ?_
                refine TL.gdU rfl rfl rfl ?_
                refine TL.gdU rfl rfl rfl ?_
                refine TL.gdU rfl rfl rfl ?_
                refine TL.gdN rfl rfl rfl rfl ?_
                refine TL.run (pr_pure rfl) rfl ?_
                refine TL.nil ?_
                exact TX.sw rfl (by unfold kFin2; simp_all) ⟨rfl, rfl, rfl, trivial⟩
              ·
                have q93 := of_decide_eq_false g93
                refine TL.gdY rfl rfl (pr_field rfl) rfl ?_
                refine TL.gdY rfl rfl (pr_own1 rfl (.there _ (.there _ (.here _))) rfl) rfl ?_
                refine TL.gdY rfl rfl (pr_pure rfl) rfl ?_
                refine TL.gdY rfl rfl (pr_pure rfl) rfl ?_
                refine TL.split (s := 97) rfl (fun g97 => ?_) (fun g97 => ?_)
                ·
                  have q97 := of_decide_eq_true g97
                  refine TL.gdY rfl rfl (pr_indexArr rfl rfl (by omega) (by omega)) rfl ?_
                  refine TL.gdY rfl rfl (pr_own1 rfl (.here _) rfl) rfl ?_
                  refine TL.gdY rfl rfl (pr_pure rfl) rfl ?_
                  refine TL.gdY rfl rfl (pr_pure rfl) rfl ?_
                  refine TL.gdY rfl rfl (pr_pure rfl) rfl ?_
                  refine TL.split (s := 102) rfl (fun g102 => ?_) (fun g102 => ?_)
                  ·
                    have q102 := of_ndec_true g102
                    refine TL.gdY rfl rfl (pr_indexArr rfl rfl (by omega) (by omega)) rfl ?_
                    refine TL.gdY rfl rfl (pr_own1 rfl (.here _) rfl) rfl ?_
                    refine TL.gdY rfl rfl (pr_pure rfl) rfl ?_
                    refine TL.gdY rfl rfl (pr_pure rfl) rfl ?_
                    refine TL.run (pr_pure rfl) rfl ?_
                    refine TL.nil ?_
                    exact TX.sw rfl (by unfold kFin2; simp_all) ⟨rfl, rfl, rfl, trivial⟩
                  ·
                    have q102 := of_ndec_false g102
                    refine TL.gdN rfl rfl rfl rfl ?_
                    refine TL.gdN rfl rfl rfl rfl ?_
                    refine TL.gdN rfl rfl rfl rfl ?_
                    refine TL.gdY rfl rfl (pr_pure rfl) rfl ?_
                    refine TL.run (pr_pure rfl) rfl ?_
                    refine TL.nil ?_
                    exact TX.sw rfl (by unfold kFin2; simp_all) ⟨rfl, rfl, rfl, trivial⟩
                ·
                  have q97 := of_decide_eq_false g97
                  refine TL.gdN rfl rfl rfl rfl ?_
                  refine TL.gdN rfl rfl rfl rfl ?_
                  refine TL.gdN rfl rfl rfl rfl ?_
                  refine TL.gdY rfl rfl (pr_pure rfl) rfl ?_
                  refine TL.gdY rfl rfl (pr_pure rfl) rfl ?_
                  refine TL.gdN rfl rfl rfl rfl ?_
                  refine TL.gdN rfl rfl rfl rfl ?_
                  refine TL.gdN rfl rfl rfl rfl ?_
                  refine TL.gdY rfl rfl (pr_pure rfl) rfl ?_
                  refine TL.run (pr_pure rfl) rfl ?_
                  refine TL.nil ?_
                  exact TX.sw rfl (by unfold kFin2; simp_all) ⟨rfl, rfl, rfl, trivial⟩
          ·
            have q81 := of_decide_eq_false g81
            refine TL.gdN rfl rfl rfl rfl ?_
            refine TL.gdN rfl rfl rfl rfl ?_
            refine TL.gdN rfl rfl rfl rfl ?_
            refine TL.gdN rfl rfl rfl rfl ?_
            refine TL.gdN rfl rfl rfl rfl ?_
            refine TL.gdN rfl rfl rfl rfl ?_
            refine TL.gdU rfl rfl rfl ?_
            refine TL.gdU rfl rfl rfl ?_
            refine TL.gdU rfl rfl rfl ?_
            refine TL.gdN rfl rfl rfl rfl ?_
            refine TL.run (pr_pure rfl) rfl ?_
            refine TL.run (pr_pure rfl) rfl ?_
            refine TL.gdY rfl rfl (pr_field rfl) rfl ?_
            refine TL.gdY rfl rfl (pr_own1 rfl (.there _ (.there _ (.here _))) rfl) rfl ?_
            refine TL.gdY rfl rfl (pr_pure rfl) rfl ?_
            refine TL.gdY rfl rfl (pr_pure rfl) rfl ?_
            refine TL.split (s := 97) rfl (fun g97 => ?_) (fun g97 => ?_)
            ·
              have q97 := of_decide_eq_true g97
              refine TL.gdY rfl rfl (pr_indexArr rfl rfl (by omega) (by omega)) rfl ?_
              refine TL.gdY rfl rfl (pr_own1 rfl (.here _) rfl) rfl ?_
              refine TL.gdY rfl rfl (pr_pure rfl) rfl ?_
              refine TL.gdY rfl rfl (pr_pure rfl) rfl ?_
              refine TL.gdY rfl rfl (pr_pure rfl) rfl ?_
              refine TL.split (s := 102) rfl (fun g102 => ?_) (fun g102 => ?_)
              ·
                have q102 := of_ndec_true g102
                refine TL.gdY rfl rfl (pr_indexArr rfl rfl (by omega) (by omega)) rfl ?_
                refine TL.gdY rfl rfl (pr_own1 rfl (.here _) rfl) rfl ?_
                refine TL.gdY rfl rfl (pr_pure rfl) rfl ?_
                refine TL.gdY rfl rfl (pr_pure rfl) rfl ?_
                refine TL.run (pr_pure rfl) rfl ?_
                refine TL.nil ?_
                exact TX.sw rfl (by unfold kFin2; simp_all) ⟨rfl, rfl, rfl, trivial⟩
              ·
                have q102 := of_ndec_false g102
                refine TL.gdN rfl rfl rfl rfl ?_
                refine TL.gdN rfl rfl rfl rfl ?_
                refine TL.gdN rfl rfl rfl rfl ?_
                refine TL.gdY rfl rfl (pr_pure rfl) rfl ?_
                refine TL.run (pr_pure rfl) rfl ?_
                refine TL.nil ?_
                exact TX.sw rfl (by unfold kFin2; simp_all) ⟨rfl, rfl, rfl, trivial⟩
            ·
              have q97 := of_decide_eq_false g97
              refine TL.gdN rfl rfl rfl rfl ?_
              refine TL.gdN rfl rfl rfl rfl ?_
              refine TL.gdN rfl rfl rfl rfl ?_
              refine TL.gdY rfl rfl (pr_pure rfl) rfl ?_
              refine TL.gdY rfl rfl (pr_pure rfl) rfl ?_
              refine TL.gdN rfl rfl rfl rfl ?_
              refine TL.gdN rfl rfl rfl rfl ?_
              refine TL.gdN rfl rfl rfl rfl ?_
              refine TL.gdY rfl rfl (pr_pure rfl) rfl ?_
              refine TL.run (pr_pure rfl) rfl ?_
              refine TL.nil ?_
              exact TX.sw rfl (by unfold kFin2; simp_all) ⟨rfl, rfl, rfl, trivial⟩
        refine TC.cond rfl (fun c107 => ?_) (fun c107 => ?_)
        ·
          refine TC.seq ?_
          refine TC.region ?_
          refine TL.run (pr_pure rfl) rfl ?_
          refine TL.run (pr_pure rfl) rfl ?_
          refine TL.nil ?_
          refine TX.seqN ?_
          refine TC.ret ?_
          refine TX.thenR ?_
          refine TX.finS (.inr rfl) (results2 rfl (RVal.tmp rfl) (RVal.tmp rfl)) ?_
          first
            | exact pair_ret (kOf_var hx c22)
            | exact pair_ret ((kOf_a hx c22 (by unfold kOp; rw [if_neg w0]; exact c55_0)).trans (by unfold kOp; rw [if_neg w0]))
            | exact pair_ret ((kOf_b hx c22 o0 (by unfold kOp; rw [if_neg w1]; exact c55_1)).trans (by unfold kOp; rw [if_neg w1]))
            | exact pair_ret ((kOf_f hx c22 hI.1 hI.2).trans (by unfold kFin; rw [if_pos (by unfold kFin1; rw [g68_0]; simpa using c76_0)]))
            | exact pair_ret ((kOf_f hx c22 hI.1 hI.2).trans (by unfold kFin; rw [if_neg (by rw [p0]; decide), if_pos (by unfold kFin1; rw [g68_1]; simpa using c76_1)]))
            | exact pair_ret ((kOf_f hx c22 hI.1 hI.2).trans (by unfold kFin; rw [if_neg (by rw [hJ.1]; decide), if_neg (by rw [hJ.2]; decide)]; unfold kFinB; rw [if_pos c107]))
            | exact pair_ret ((kOf_f hx c22 hI.1 hI.2).trans (by unfold kFin; rw [if_neg (by rw [hJ.1]; decide), if_neg (by rw [hJ.2]; decide)]; unfold kFinB; rw [if_neg (by rw [c107]; decide)]))
        ·
          refine TC.skip ?_
          refine TX.seqN ?_
          refine TC.seq ?_
          refine TC.region ?_
          refine TL.run (pr_pure rfl) rfl ?_
          refine TL.run (pr_pure rfl) rfl ?_
          refine TL.run (pr_pure rfl) rfl ?_
          refine TL.nil ?_
          refine TX.seqN ?_
          refine TC.ret ?_
          refine TX.finS (.inr rfl) (results2 rfl (RVal.tmp rfl) (RVal.tmp rfl)) ?_
          first
            | exact pair_ret (kOf_var hx c22)
            | exact pair_ret ((kOf_a hx c22 (by unfold kOp; rw [if_neg w0]; exact c55_0)).trans (by unfold kOp; rw [if_neg w0]))
            | exact pair_ret ((kOf_b hx c22 o0 (by unfold kOp; rw [if_neg w1]; exact c55_1)).trans (by unfold kOp; rw [if_neg w1]))
            | exact pair_ret ((kOf_f hx c22 hI.1 hI.2).trans (by unfold kFin; rw [if_pos (by unfold kFin1; rw [g68_0]; simpa using c76_0)]))
            | exact pair_ret ((kOf_f hx c22 hI.1 hI.2).trans (by unfold kFin; rw [if_neg (by rw [p0]; decide), if_pos (by unfold kFin1; rw [g68_1]; simpa using c76_1)]))
            | exact pair_ret ((kOf_f hx c22 hI.1 hI.2).trans (by unfold kFin; rw [if_neg (by rw [hJ.1]; decide), if_neg (by rw [hJ.2]; decide)]; unfold kFinB; rw [if_pos c107]))
            | exact pair_ret ((kOf_f hx c22 hI.1 hI.2).trans (by unfold kFin; rw [if_neg (by rw [hJ.1]; decide), if_neg (by rw [hJ.2]; decide)]; unfold kFinB; rw [if_neg (by rw [c107]; decide)]))

set_option maxRecDepth 100000 in
set_option maxHeartbeats 1000000 in
theorem Of_ok {H : Hp} {l : List Term} {env : List Typing} {v ve : Value} (root : Int) (hT : RdSl H 6 Term.cells v l) (hE : RdSl H 3 Typing.cells ve env) (hnames : ∀ t ∈ l, t.name.length ≤ 9223372036854775807) :
    FnS Try.prog 9 [v, .int .i64 root, ve] H (pairV (ofS l root env)) := by
  have one1 := hT.isOne
  have one2 := hE.isOne
  refine FnS.enter Try.func9 Try.ntmps9 rfl rfl (fun w0 => ?_)
  refine TC.seq ?_
  refine TC.region ?_
  refine TL.box1 rfl rfl (fun b3 => ?_)
  refine TL.box1 rfl rfl (fun b5 => ?_)
  refine TL.run (pr_pure rfl) rfl ?_
  refine TL.run (pr_pure rfl) rfl ?_
  refine TL.nil ?_
  refine TX.seqN ?_
  refine TC.seq ?_
  refine TC.seq ?_
  refine TC.region ?_
  refine TL.run (pr_own1 rfl (.there _ (.here _)) rfl) rfl ?_
  refine TL.run (pr_pure rfl) rfl ?_
  refine TL.callS (enters rfl rfl rfl rfl) (May_ok root hT hnames) rfl ?_
  refine TL.run (pr_pure rfl) rfl ?_
  refine TL.nil ?_
  refine TX.seqN ?_
  refine TC.cond rfl (fun c12 => ?_) (fun c12 => ?_)
  ·
    refine TC.seq ?_
    refine TC.region ?_
    refine TL.run (pr_pure rfl) rfl ?_
    refine TL.run (pr_pure rfl) rfl ?_
    refine TL.nil ?_
    refine TX.seqN ?_
    refine TC.ret ?_
    refine TX.thenR ?_
    exact TX.finS (.inr rfl) (results2 rfl (RVal.tmp rfl) (RVal.tmp rfl)) (pair_ret (by first | (unfold ofS; rw [if_neg (by simpa using c12)]; done) | (unfold ofS; rw [if_pos hm]; done)))
  ·
    refine TC.skip ?_
    refine TX.seqN ?_
    refine TC.seq ?_
    refine TC.region ?_
    refine TL.alloc rfl (fun b8 => ?_)
    refine TL.nil ?_
    refine TX.seqN ?_
    refine TC.seq ?_
    refine TC.region ?_
    refine TL.run (pr_pure rfl) rfl ?_
    refine TL.storeV rfl rfl rfl (.here _) rfl ?_
    refine TL.nil ?_
    refine TX.seqN ?_
    refine TC.seq ?_
    refine TC.region ?_
    refine TL.pub (by simp) (fun H_b8 le_b8 rd_b8 => ?_)
    refine TL.pub (by simp) (fun H_b5 le_b5 rd_b5 => ?_)
    refine TL.pub (by simp) (fun H_b3 le_b3 rd_b3 => ?_)
    have hT2 := ((hT.le le_b8).le le_b5).le le_b3
    have hE2 := ((hE.le le_b8).le le_b5).le le_b3
    have hl : H_b3 b3 0 = some v := rd_b3 0 _ rfl
    have hv := le_b3 _ _ _ (rd_b5 0 _ rfl)
    have hw := le_b3 _ _ _ (le_b5 _ _ _ (rd_b8 0 _ rfl))
    have hm : mayB l root = true := by simpa using c12
    refine TL.run (pr_hp1 rfl hw) rfl ?_
    refine TL.run (pr_pure rfl) rfl ?_
    refine TL.callS (enters rfl rfl rfl rfl) (ofW_ok hT2 hE2 hl hv hw (root.toNat + 1) root (mayB_Tr hm)) rfl ?_
    refine TL.run (pr_pure rfl) rfl ?_
    refine TL.run (pr_pure rfl) rfl ?_
    refine TL.run (pr_pure rfl) rfl ?_
    refine TL.run (pr_pure rfl) rfl ?_
    refine TL.nil ?_
    refine TX.seqN ?_
    refine TC.ret ?_
    exact TX.finS (.inr rfl) (results2 rfl (RVal.tmp rfl) (RVal.tmp rfl)) (pair_ret (by first | (unfold ofS; rw [if_neg (by simpa using c12)]; done) | (unfold ofS; rw [if_pos hm]; done)))
end Go.Sx
