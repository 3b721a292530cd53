import Derived.Test.YtmlgpjficicagaaDoorWRlx
import Derived.Test.YtmlgpjficicagaaDoorWVal
import Derived.Test.YtmlgpjficicagaaDoorPureDg
import Derived.Test.YtmlgpjficicagaaDoorPureD3
import Derived.Test.YtmlgpjficicagaaDoorSxB
set_option linter.unusedVariables false
set_option linter.unusedSimpArgs false
namespace Go.Sx
open Go Go.Proofs
set_option maxRecDepth 100000 in
set_option maxHeartbeats 1000000 in
theorem digits0_ok {H : Hp} (n : Int) (h0 : -9223372036854775808 ≤ n) (h1 : n ≤ 9223372036854775807) (hn : ¬ n < 0) :
    FnS Tryd.prog 39 [.int .i64 n] H (gs (Lib.itoa n)) := by
  refine FnS.enter Tryd.func39 Tryd.ntmps39 rfl rfl (fun w0 => ?_)
  refine TC.seq ?_
  refine TC.region ?_
  refine TL.run (pr_pure rfl) rfl ?_
  refine TL.nil ?_
  refine TX.seqN ?_
  refine TC.seq ?_
  refine TC.region ?_
  refine TL.run (pr_pure rfl) rfl ?_
  refine TL.run (PR.to (pr_conv rfl) (congrArg (Value.int .u64) (dig_pos h0 h1 hn))) rfl ?_
  refine TL.run (pr_pure rfl) rfl ?_
  refine TL.nil ?_
  refine TX.seqN ?_
  refine TC.seq ?_
  refine TC.seq ?_
  refine TC.region ?_
  refine TL.run (pr_pure rfl) rfl ?_
  refine TL.run (pr_pure rfl) rfl ?_
  refine TL.nil ?_
  refine TX.seqN ?_
  refine TC.condD rfl (fun c8 => ?_) (fun c8 => ?_)
  ·
    exact absurd c8 hn
  ·
    refine TC.skip ?_
    refine TX.seqN ?_
    refine TC.seq ?_
    refine TC.region ?_
    refine TL.run (pr_pure rfl) rfl ?_
    refine TL.nil ?_
    refine TX.seqN ?_
    refine TC.seq ?_
    refine TC.block ?_
    refine TC.loop4 (V := fun (p : Nat × Nat) v ob H1 => [(3, .int .u64 (p.1 : Int)), (4, v)]) (K := [(0, _), (2, _)]) (L := fun (p : Nat × Nat) v ob H1 => St [] w0 H H ob) (I := fun (p : Nat × Nat) v ob H1 => ∃ o : Str, OwnSl 1 U8.cells v o ob ∧ DigI n.natAbs p.1 p.2 o) (μ := fun (p : Nat × Nat) => p.1 + p.2) (n.natAbs, 1) (.slice none 0 0) [] H ⟨rfl, rfl, rfl, rfl, trivial⟩ ⟨[], OwnSl.nil, DigI.zero h0 h1⟩ (fun w hw => hw) (fun p v ob H1 hI => ?_)
    obtain ⟨o, hO, hD⟩ := hI
    obtain ⟨va, vc, rfl⟩ := hO.form
    refine TC.seq ?_
    refine TC.sw (decide (0 < p.1) || decide (o.length = 0)) 17 [(0, _), (2, _), (3, _), (4, _)] ⟨rfl, rfl, rfl, rfl, trivial⟩ ?_ ?_
    ·
      refine TC.region ?_
      refine TL.run (pr_pure rfl) rfl ?_
      refine TL.run (pr_pure rfl) rfl ?_
      refine TL.run (pr_pure rfl) rfl ?_
      refine TL.split (s := 13) rfl (fun g13 => ?_) (fun g13 => ?_)
      ·
        have q13 := of_decide_eq_true g13
        refine TL.gdN rfl rfl rfl rfl ?_
        refine TL.gdN rfl rfl rfl rfl ?_
        refine TL.gdN rfl rfl rfl rfl ?_
        refine TL.run (pr_pure rfl) rfl ?_
        refine TL.nil ?_
        exact TX.sw rfl (by first | exact dgo_1 g13 | exact dgo_2 g13) ⟨rfl, rfl, rfl, rfl, trivial⟩
      ·
        have q13 := of_decide_eq_false g13
        refine TL.gdY rfl rfl (pr_pure rfl) rfl ?_
        refine TL.gdY rfl rfl (pr_lenO rfl rfl hO) rfl ?_
        refine TL.gdY rfl rfl (pr_pure rfl) rfl ?_
        refine TL.run (pr_pure rfl) rfl ?_
        refine TL.nil ?_
        exact TX.sw rfl (by first | exact dgo_1 g13 | exact dgo_2 g13) ⟨rfl, rfl, rfl, rfl, trivial⟩
    refine TC.cond rfl (fun c17 => ?_) (fun c17 => ?_)
    ·
      have hgo := dgo_T c17
      refine TC.skip ?_
      refine TX.seqN ?_
      refine TC.block ?_
      refine TC.seq ?_
      refine TC.region ?_
      refine TL.run (pr_pure rfl) rfl ?_
      refine TL.run (pr_rem rfl rfl (by decide)) rfl ?_
      refine TL.run (pr_pure rfl) rfl ?_
      refine TL.run (PR.to (pr_conv rfl) (congrArg (Value.int .u8) (dig_byte p.1))) rfl ?_
      refine TL.bslice rfl rfl rfl rfl (fun b22 => ?_)
      refine TL.run (pr_pure rfl) rfl ?_
      refine TL.append (enc := U8.cells) rfl rfl rfl (OwnSl.blk (enc := U8.cells) [UInt8.ofNat (48 + p.1 % 10)] rfl rfl (by decide)) (Src.og hO (.skip _ .all)) (by have := hD.len; simp; omega) rfl (.take (.here _) rfl) rfl (fun a24 c24 ob24 hO24 => ?_)
      refine TL.run (pr_pure rfl) rfl ?_
      refine TL.nil ?_
      refine TX.seqN ?_
      refine TC.region ?_
      refine TL.run (pr_pure rfl) rfl ?_
      refine TL.run (PR.to (pr_quo rfl rfl (by decide)) (congrArg (Value.int .u64) (dig_quo hD.lt))) rfl ?_
      refine TL.run (pr_pure rfl) rfl ?_
      refine TL.nil ?_
      refine TX.blkN ?_
      exact TX.round4 (p.1 / 10, 0) _ ob24 H1 ⟨_, hO24, hD.next hgo⟩ ⟨rfl, rfl, rfl, rfl, trivial⟩ (fun w hw => hw.dropN) (hD.down hgo)
    ·
      have hend := dgo_F c17
      refine TC.exit ?_
      refine TX.thenE ?_
      refine TX.thenE ?_
      refine TX.blkHit ?_
      refine TX.seqN ?_
      refine TC.seq ?_
      refine TC.seq ?_
      refine TC.region ?_
      refine TL.run (pr_pure rfl) rfl ?_
      refine TL.run (pr_pure rfl) rfl ?_
      refine TL.nil ?_
      refine TX.seqN ?_
      refine TC.condD rfl (fun c28 => ?_) (fun c28 => ?_)
      ·
        refine TC.seq ?_
        refine TC.region ?_
        refine TL.run (pr_pure rfl) rfl ?_
        refine TL.run (pr_bytes rfl hO .all) rfl ?_
        refine TL.run (pr_concat rfl rfl (by have := hD.len; simp; omega)) rfl ?_
        refine TL.run (pr_pure rfl) rfl ?_
        refine TL.nil ?_
        refine TX.seqN ?_
        refine TC.ret ?_
        refine TX.thenR ?_
        exact TX.finS (.inr rfl) (results1 rfl (RVal.tmp rfl)) (congrArg gs (by first | exact digN_neg hD hend c28 | exact digN_pos hD hend c28))
      ·
        refine TC.skip ?_
        refine TX.seqN ?_
        refine TC.seq ?_
        refine TC.region ?_
        refine TL.run (pr_pure rfl) rfl ?_
        refine TL.run (pr_bytes rfl hO .all) rfl ?_
        refine TL.run (pr_pure rfl) rfl ?_
        refine TL.nil ?_
        refine TX.seqN ?_
        refine TC.ret ?_
        exact TX.finS (.inr rfl) (results1 rfl (RVal.tmp rfl)) (congrArg gs (by first | exact digN_neg hD hend c28 | exact digN_pos hD hend c28))

set_option maxRecDepth 100000 in
set_option maxHeartbeats 1000000 in
theorem digits1_ok {H : Hp} (n : Int) (h0 : -9223372036854775808 ≤ n) (h1 : n ≤ 9223372036854775807) (hn : n < 0) :
    FnS Tryd.prog 39 [.int .i64 n] H (gs (Lib.itoa n)) := by
  refine FnS.enter Tryd.func39 Tryd.ntmps39 rfl rfl (fun w0 => ?_)
  refine TC.seq ?_
  refine TC.region ?_
  refine TL.run (pr_pure rfl) rfl ?_
  refine TL.nil ?_
  refine TX.seqN ?_
  refine TC.seq ?_
  refine TC.region ?_
  refine TL.run (pr_pure rfl) rfl ?_
  refine TL.run (pr_conv rfl) rfl ?_
  refine TL.run (pr_pure rfl) rfl ?_
  refine TL.nil ?_
  refine TX.seqN ?_
  refine TC.seq ?_
  refine TC.seq ?_
  refine TC.region ?_
  refine TL.run (pr_pure rfl) rfl ?_
  refine TL.run (pr_pure rfl) rfl ?_
  refine TL.nil ?_
  refine TX.seqN ?_
  refine TC.condD rfl (fun c8 => ?_) (fun c8 => ?_)
  ·
    refine TC.region ?_
    refine TL.run (pr_pure rfl) rfl ?_
    refine TL.run (PR.to (pr_pure rfl) (congrArg (Value.int .u64) (dig_neg h0 h1 hn))) rfl ?_
    refine TL.run (pr_pure rfl) rfl ?_
    refine TL.nil ?_
    refine TX.seqN ?_
    refine TC.seq ?_
    refine TC.region ?_
    refine TL.run (pr_pure rfl) rfl ?_
    refine TL.nil ?_
    refine TX.seqN ?_
    refine TC.seq ?_
    refine TC.block ?_
    refine TC.loop4 (V := fun (p : Nat × Nat) v ob H1 => [(3, .int .u64 (p.1 : Int)), (4, v)]) (K := [(0, _), (2, _)]) (L := fun (p : Nat × Nat) v ob H1 => St [] w0 H H ob) (I := fun (p : Nat × Nat) v ob H1 => ∃ o : Str, OwnSl 1 U8.cells v o ob ∧ DigI n.natAbs p.1 p.2 o) (μ := fun (p : Nat × Nat) => p.1 + p.2) (n.natAbs, 1) (.slice none 0 0) [] H ⟨rfl, rfl, rfl, rfl, trivial⟩ ⟨[], OwnSl.nil, DigI.zero h0 h1⟩ (fun w hw => hw) (fun p v ob H1 hI => ?_)
    obtain ⟨o, hO, hD⟩ := hI
    obtain ⟨va, vc, rfl⟩ := hO.form
    refine TC.seq ?_
    refine TC.sw (decide (0 < p.1) || decide (o.length = 0)) 17 [(0, _), (2, _), (3, _), (4, _)] ⟨rfl, rfl, rfl, rfl, trivial⟩ ?_ ?_
    ·
      refine TC.region ?_
      refine TL.run (pr_pure rfl) rfl ?_
      refine TL.run (pr_pure rfl) rfl ?_
      refine TL.run (pr_pure rfl) rfl ?_
      refine TL.split (s := 13) rfl (fun g13 => ?_) (fun g13 => ?_)
      ·
        have q13 := of_decide_eq_true g13
        refine TL.gdN rfl rfl rfl rfl ?_
        refine TL.gdN rfl rfl rfl rfl ?_
        refine TL.gdN rfl rfl rfl rfl ?_
        refine TL.run (pr_pure rfl) rfl ?_
        refine TL.nil ?_
        exact TX.sw rfl (by first | exact dgo_1 g13 | exact dgo_2 g13) ⟨rfl, rfl, rfl, rfl, trivial⟩
      ·
        have q13 := of_decide_eq_false g13
        refine TL.gdY rfl rfl (pr_pure rfl) rfl ?_
        refine TL.gdY rfl rfl (pr_lenO rfl rfl hO) rfl ?_
        refine TL.gdY rfl rfl (pr_pure rfl) rfl ?_
        refine TL.run (pr_pure rfl) rfl ?_
        refine TL.nil ?_
        exact TX.sw rfl (by first | exact dgo_1 g13 | exact dgo_2 g13) ⟨rfl, rfl, rfl, rfl, trivial⟩
    refine TC.cond rfl (fun c17 => ?_) (fun c17 => ?_)
    ·
      have hgo := dgo_T c17
      refine TC.skip ?_
      refine TX.seqN ?_
      refine TC.block ?_
      refine TC.seq ?_
      refine TC.region ?_
      refine TL.run (pr_pure rfl) rfl ?_
      refine TL.run (pr_rem rfl rfl (by decide)) rfl ?_
      refine TL.run (pr_pure rfl) rfl ?_
      refine TL.run (PR.to (pr_conv rfl) (congrArg (Value.int .u8) (dig_byte p.1))) rfl ?_
      refine TL.bslice rfl rfl rfl rfl (fun b22 => ?_)
      refine TL.run (pr_pure rfl) rfl ?_
      refine TL.append (enc := U8.cells) rfl rfl rfl (OwnSl.blk (enc := U8.cells) [UInt8.ofNat (48 + p.1 % 10)] rfl rfl (by decide)) (Src.og hO (.skip _ .all)) (by have := hD.len; simp; omega) rfl (.take (.here _) rfl) rfl (fun a24 c24 ob24 hO24 => ?_)
      refine TL.run (pr_pure rfl) rfl ?_
      refine TL.nil ?_
      refine TX.seqN ?_
      refine TC.region ?_
      refine TL.run (pr_pure rfl) rfl ?_
      refine TL.run (PR.to (pr_quo rfl rfl (by decide)) (congrArg (Value.int .u64) (dig_quo hD.lt))) rfl ?_
      refine TL.run (pr_pure rfl) rfl ?_
      refine TL.nil ?_
      refine TX.blkN ?_
      exact TX.round4 (p.1 / 10, 0) _ ob24 H1 ⟨_, hO24, hD.next hgo⟩ ⟨rfl, rfl, rfl, rfl, trivial⟩ (fun w hw => hw.dropN) (hD.down hgo)
    ·
      have hend := dgo_F c17
      refine TC.exit ?_
      refine TX.thenE ?_
      refine TX.thenE ?_
      refine TX.blkHit ?_
      refine TX.seqN ?_
      refine TC.seq ?_
      refine TC.seq ?_
      refine TC.region ?_
      refine TL.run (pr_pure rfl) rfl ?_
      refine TL.run (pr_pure rfl) rfl ?_
      refine TL.nil ?_
      refine TX.seqN ?_
      refine TC.condD rfl (fun c28 => ?_) (fun c28 => ?_)
      ·
        refine TC.seq ?_
        refine TC.region ?_
        refine TL.run (pr_pure rfl) rfl ?_
        refine TL.run (pr_bytes rfl hO .all) rfl ?_
        refine TL.run (pr_concat rfl rfl (by have := hD.len; simp; omega)) rfl ?_
        refine TL.run (pr_pure rfl) rfl ?_
        refine TL.nil ?_
        refine TX.seqN ?_
        refine TC.ret ?_
        refine TX.thenR ?_
        exact TX.finS (.inr rfl) (results1 rfl (RVal.tmp rfl)) (congrArg gs (by first | exact digN_neg hD hend c28 | exact digN_pos hD hend c28))
      ·
        refine TC.skip ?_
        refine TX.seqN ?_
        refine TC.seq ?_
        refine TC.region ?_
        refine TL.run (pr_pure rfl) rfl ?_
        refine TL.run (pr_bytes rfl hO .all) rfl ?_
        refine TL.run (pr_pure rfl) rfl ?_
        refine TL.nil ?_
        refine TX.seqN ?_
        refine TC.ret ?_
        exact TX.finS (.inr rfl) (results1 rfl (RVal.tmp rfl)) (congrArg gs (by first | exact digN_neg hD hend c28 | exact digN_pos hD hend c28))
  ·
    exact absurd hn c8

theorem digits_ok {H : Hp} (n : Int) (h0 : -9223372036854775808 ≤ n) (h1 : n ≤ 9223372036854775807) : FnS Tryd.prog 39 [.int .i64 n] H (gs (Lib.itoa n)) := by
  by_cases hn : n < 0
  · exact digits1_ok n h0 h1 hn
  · exact digits0_ok n h0 h1 hn

set_option maxRecDepth 100000 in
set_option maxHeartbeats 1000000 in
theorem rMay_ok {H : Hp} {x : Val} {lv : Value} (hV : RdV H lv x) :
    FnS Tryd.prog 16 [.agg (x.cells lv).toArray] H (.bool (mayV x)) := by
  refine FnS.enter Tryd.func16 Tryd.ntmps16 rfl rfl (fun w0 => ?_)
  refine TC.seq ?_
  refine TC.region ?_
  refine TL.box rfl rfl (fun b1 => ?_)
  refine TL.run (pr_pure rfl) rfl ?_
  refine TL.nil ?_
  refine TX.seqN ?_
  refine TC.seq ?_
  refine TC.seq ?_
  refine TC.region ?_
  refine TL.run (pr_field rfl) rfl ?_
  refine TL.run (pr_own1 rfl (.here _) rfl) rfl ?_
  refine TL.nil ?_
  refine TX.seqN ?_
  refine TC.block ?_
  refine TC.seq ?_
  refine TC.region ?_
  refine TL.run (pr_pure rfl) rfl ?_
  refine TL.run (pr_pure rfl) rfl ?_
  refine TL.nil ?_
  refine TX.seqN ?_
  refine TC.condD rfl (fun c5 => ?_) (fun c5 => ?_)
  ·
    refine TC.seq ?_
    refine TC.region ?_
    refine TL.run (pr_field rfl) rfl ?_
    refine TL.run (pr_own1 rfl (.here _) rfl) rfl ?_
    refine TL.run (pr_pure rfl) rfl ?_
    refine TL.run (pr_pure rfl) rfl ?_
    refine TL.split (s := 10) rfl (fun g10 => ?_) (fun g10 => ?_)
    ·
      have q10 := of_decide_eq_true g10
      refine TL.gdY rfl rfl (pr_field rfl) rfl ?_
      refine TL.gdY rfl rfl (pr_own1 rfl (.here _) rfl) rfl ?_
      refine TL.gdY rfl rfl (pr_str rfl rfl rfl) rfl ?_
      refine TL.run (pr_pure rfl) rfl ?_
      refine TL.run (pr_pure rfl) rfl ?_
      refine TL.split (s := 15) rfl (fun g15 => ?_) (fun g15 => ?_)
      ·
        have q15 := of_decide_eq_true g15
        refine TL.gdY rfl rfl (pr_field rfl) rfl ?_
        refine TL.gdY rfl rfl (pr_own1 rfl (.here _) rfl) rfl ?_
        refine TL.gdY rfl rfl (pr_lenSl rfl rfl hV) rfl ?_
        refine TL.gdY rfl rfl (pr_pure rfl) rfl ?_
        refine TL.run (pr_pure rfl) rfl ?_
        refine TL.run (pr_pure rfl) rfl ?_
        refine TL.nil ?_
        refine TX.seqN ?_
        refine TC.ret ?_
        refine TX.blkR ?_
        refine TX.thenR ?_
        exact TX.finS (.inr rfl) (results1 rfl (RVal.tmp rfl)) (congrArg Value.bool (by unfold mayV; simp_all <;> (intros; omega)))
      ·
        have q15 := of_decide_eq_false g15
        refine TL.gdN rfl rfl rfl rfl ?_
        refine TL.gdN rfl rfl rfl rfl ?_
        refine TL.gdN rfl rfl rfl rfl ?_
        refine TL.gdN rfl rfl rfl rfl ?_
        refine TL.run (pr_pure rfl) rfl ?_
        refine TL.run (pr_pure rfl) rfl ?_
        refine TL.nil ?_
        refine TX.seqN ?_
        refine TC.ret ?_
        refine TX.blkR ?_
        refine TX.thenR ?_
        exact TX.finS (.inr rfl) (results1 rfl (RVal.tmp rfl)) (congrArg Value.bool (by unfold mayV; simp_all <;> (intros; omega)))
    ·
      have q10 := of_decide_eq_false g10
      refine TL.gdN rfl rfl rfl rfl ?_
      refine TL.gdN rfl rfl rfl rfl ?_
      refine TL.gdN rfl rfl rfl rfl ?_
      refine TL.run (pr_pure rfl) rfl ?_
      refine TL.run (pr_pure rfl) rfl ?_
      refine TL.gdN rfl rfl rfl rfl ?_
      refine TL.gdN rfl rfl rfl rfl ?_
      refine TL.gdN rfl rfl rfl rfl ?_
      refine TL.gdN rfl rfl rfl rfl ?_
      refine TL.run (pr_pure rfl) rfl ?_
      refine TL.run (pr_pure rfl) rfl ?_
      refine TL.nil ?_
      refine TX.seqN ?_
      refine TC.ret ?_
      refine TX.blkR ?_
      refine TX.thenR ?_
      exact TX.finS (.inr rfl) (results1 rfl (RVal.tmp rfl)) (congrArg Value.bool (by unfold mayV; simp_all <;> (intros; omega)))
  ·
    refine TC.seq ?_
    refine TC.region ?_
    refine TL.run (pr_pure rfl) rfl ?_
    refine TL.run (pr_pure rfl) rfl ?_
    refine TL.nil ?_
    refine TX.seqN ?_
    refine TC.condD rfl (fun c21 => ?_) (fun c21 => ?_)
    ·
      refine TC.seq ?_
      refine TC.region ?_
      refine TL.run (pr_field rfl) rfl ?_
      refine TL.run (pr_own1 rfl (.here _) rfl) rfl ?_
      refine TL.run (pr_str rfl rfl rfl) rfl ?_
      refine TL.run (pr_pure rfl) rfl ?_
      refine TL.split (s := 26) rfl (fun g26 => ?_) (fun g26 => ?_)
      ·
        have q26 := of_decide_eq_true g26
        refine TL.gdY rfl rfl (pr_field rfl) rfl ?_
        refine TL.gdY rfl rfl (pr_own1 rfl (.here _) rfl) rfl ?_
        refine TL.gdY rfl rfl (pr_lenSl rfl rfl hV) rfl ?_
        refine TL.gdY rfl rfl (pr_pure rfl) rfl ?_
        refine TL.run (pr_pure rfl) rfl ?_
        refine TL.run (pr_pure rfl) rfl ?_
        refine TL.nil ?_
        refine TX.seqN ?_
        refine TC.ret ?_
        refine TX.blkR ?_
        refine TX.thenR ?_
        exact TX.finS (.inr rfl) (results1 rfl (RVal.tmp rfl)) (congrArg Value.bool (by unfold mayV; simp_all <;> (intros; omega)))
      ·
        have q26 := of_decide_eq_false g26
        refine TL.gdN rfl rfl rfl rfl ?_
        refine TL.gdN rfl rfl rfl rfl ?_
        refine TL.gdN rfl rfl rfl rfl ?_
        refine TL.gdN rfl rfl rfl rfl ?_
        refine TL.run (pr_pure rfl) rfl ?_
        refine TL.run (pr_pure rfl) rfl ?_
        refine TL.nil ?_
        refine TX.seqN ?_
        refine TC.ret ?_
        refine TX.blkR ?_
        refine TX.thenR ?_
        exact TX.finS (.inr rfl) (results1 rfl (RVal.tmp rfl)) (congrArg Value.bool (by unfold mayV; simp_all <;> (intros; omega)))
    ·
      refine TC.seq ?_
      refine TC.region ?_
      refine TL.run (pr_pure rfl) rfl ?_
      refine TL.run (pr_pure rfl) rfl ?_
      refine TL.nil ?_
      refine TX.seqN ?_
      refine TC.condD rfl (fun c32 => ?_) (fun c32 => ?_)
      ·
        refine TC.seq ?_
        refine TC.region ?_
        refine TL.run (pr_field rfl) rfl ?_
        refine TL.run (pr_own1 rfl (.here _) rfl) rfl ?_
        refine TL.run (pr_pure rfl) rfl ?_
        refine TL.run (pr_pure rfl) rfl ?_
        refine TL.split (s := 37) rfl (fun g37 => ?_) (fun g37 => ?_)
        ·
          have q37 := of_decide_eq_true g37
          refine TL.gdN rfl rfl rfl rfl ?_
          refine TL.gdN rfl rfl rfl rfl ?_
          refine TL.gdN rfl rfl rfl rfl ?_
          refine TL.run (pr_pure rfl) rfl ?_
          refine TL.run (pr_pure rfl) rfl ?_
          refine TL.gdY rfl rfl (pr_field rfl) rfl ?_
          refine TL.gdY rfl rfl (pr_own1 rfl (.here _) rfl) rfl ?_
          refine TL.gdY rfl rfl (pr_str rfl rfl rfl) rfl ?_
          refine TL.run (pr_pure rfl) rfl ?_
          refine TL.run (pr_pure rfl) rfl ?_
          refine TL.split (s := 47) rfl (fun g47 => ?_) (fun g47 => ?_)
          ·
            have q47 := of_decide_eq_true g47
            refine TL.gdY rfl rfl (pr_field rfl) rfl ?_
            refine TL.gdY rfl rfl (pr_own1 rfl (.here _) rfl) rfl ?_
            refine TL.gdY rfl rfl (pr_lenSl rfl rfl hV) rfl ?_
            refine TL.gdY rfl rfl (pr_pure rfl) rfl ?_
            refine TL.run (pr_pure rfl) rfl ?_
            refine TL.run (pr_pure rfl) rfl ?_
            refine TL.nil ?_
            refine TX.seqN ?_
            refine TC.ret ?_
            refine TX.blkR ?_
            refine TX.thenR ?_
            exact TX.finS (.inr rfl) (results1 rfl (RVal.tmp rfl)) (congrArg Value.bool (by unfold mayV; simp_all <;> (intros; omega)))
          ·
            have q47 := of_decide_eq_false g47
            refine TL.gdN rfl rfl rfl rfl ?_
            refine TL.gdN rfl rfl rfl rfl ?_
            refine TL.gdN rfl rfl rfl rfl ?_
            refine TL.gdN rfl rfl rfl rfl ?_
            refine TL.run (pr_pure rfl) rfl ?_
            refine TL.run (pr_pure rfl) rfl ?_
            refine TL.nil ?_
            refine TX.seqN ?_
            refine TC.ret ?_
            refine TX.blkR ?_
            refine TX.thenR ?_
            exact TX.finS (.inr rfl) (results1 rfl (RVal.tmp rfl)) (congrArg Value.bool (by unfold mayV; simp_all <;> (intros; omega)))
        ·
          have q37 := of_decide_eq_false g37
          refine TL.gdY rfl rfl (pr_field rfl) rfl ?_
          refine TL.gdY rfl rfl (pr_own1 rfl (.here _) rfl) rfl ?_
          refine TL.gdY rfl rfl (pr_pure rfl) rfl ?_
          refine TL.run (pr_pure rfl) rfl ?_
          refine TL.run (pr_pure rfl) rfl ?_
          refine TL.split (s := 42) rfl (fun g42 => ?_) (fun g42 => ?_)
          ·
            have q42 := of_decide_eq_true g42
            refine TL.gdY rfl rfl (pr_field rfl) rfl ?_
            refine TL.gdY rfl rfl (pr_own1 rfl (.here _) rfl) rfl ?_
            refine TL.gdY rfl rfl (pr_str rfl rfl rfl) rfl ?_
            refine TL.run (pr_pure rfl) rfl ?_
            refine TL.run (pr_pure rfl) rfl ?_
            refine TL.split (s := 47) rfl (fun g47 => ?_) (fun g47 => ?_)
            ·
              have q47 := of_decide_eq_true g47
              refine TL.gdY rfl rfl (pr_field rfl) rfl ?_
              refine TL.gdY rfl rfl (pr_own1 rfl (.here _) rfl) rfl ?_
              refine TL.gdY rfl rfl (pr_lenSl rfl rfl hV) rfl ?_
              refine TL.gdY rfl rfl (pr_pure rfl) rfl ?_
              refine TL.run (pr_pure rfl) rfl ?_
              refine TL.run (pr_pure rfl) rfl ?_
              refine TL.nil ?_
              refine TX.seqN ?_
              refine TC.ret ?_
              refine TX.blkR ?_
              refine TX.thenR ?_
              exact TX.finS (.inr rfl) (results1 rfl (RVal.tmp rfl)) (congrArg Value.bool (by unfold mayV; simp_all <;> (intros; omega)))
            ·
              have q47 := of_decide_eq_false g47
              refine TL.gdN rfl rfl rfl rfl ?_
              refine TL.gdN rfl rfl rfl rfl ?_
              refine TL.gdN rfl rfl rfl rfl ?_
              refine TL.gdN rfl rfl rfl rfl ?_
              refine TL.run (pr_pure rfl) rfl ?_
              refine TL.run (pr_pure rfl) rfl ?_
              refine TL.nil ?_
              refine TX.seqN ?_
              refine TC.ret ?_
              refine TX.blkR ?_
              refine TX.thenR ?_
              exact TX.finS (.inr rfl) (results1 rfl (RVal.tmp rfl)) (congrArg Value.bool (by unfold mayV; simp_all <;> (intros; omega)))
          ·
            have q42 := of_decide_eq_false g42
            refine TL.gdN rfl rfl rfl rfl ?_
            refine TL.gdN rfl rfl rfl rfl ?_
            refine TL.gdN rfl rfl rfl rfl ?_
            refine TL.run (pr_pure rfl) rfl ?_
            refine TL.run (pr_pure rfl) rfl ?_
            refine TL.gdN rfl rfl rfl rfl ?_
            refine TL.gdN rfl rfl rfl rfl ?_
            refine TL.gdN rfl rfl rfl rfl ?_
            refine TL.gdN rfl rfl rfl rfl ?_
            refine TL.run (pr_pure rfl) rfl ?_
            refine TL.run (pr_pure rfl) rfl ?_
            refine TL.nil ?_
            refine TX.seqN ?_
            refine TC.ret ?_
            refine TX.blkR ?_
            refine TX.thenR ?_
            exact TX.finS (.inr rfl) (results1 rfl (RVal.tmp rfl)) (congrArg Value.bool (by unfold mayV; simp_all <;> (intros; omega)))
      ·
        refine TC.seq ?_
        refine TC.region ?_
        refine TL.run (pr_pure rfl) rfl ?_
        refine TL.run (pr_pure rfl) rfl ?_
        refine TL.nil ?_
        refine TX.seqN ?_
        refine TC.condD rfl (fun c53 => ?_) (fun c53 => ?_)
        ·
          refine TC.seq ?_
          refine TC.region ?_
          refine TL.run (pr_field rfl) rfl ?_
          refine TL.run (pr_own1 rfl (.here _) rfl) rfl ?_
          refine TL.run (pr_pure rfl) rfl ?_
          refine TL.run (pr_pure rfl) rfl ?_
          refine TL.split (s := 58) rfl (fun g58 => ?_) (fun g58 => ?_)
          ·
            have q58 := of_decide_eq_true g58
            refine TL.gdY rfl rfl (pr_field rfl) rfl ?_
            refine TL.gdY rfl rfl (pr_own1 rfl (.here _) rfl) rfl ?_
            refine TL.gdY rfl rfl (pr_lenStr rfl rfl) rfl ?_
            refine TL.gdY rfl rfl (pr_pure rfl) rfl ?_
            refine TL.run (pr_pure rfl) rfl ?_
            refine TL.run (pr_pure rfl) rfl ?_
            refine TL.split (s := 64) rfl (fun g64 => ?_) (fun g64 => ?_)
            ·
              have q64 := of_decide_eq_true g64
              refine TL.gdY rfl rfl (pr_field rfl) rfl ?_
              refine TL.gdY rfl rfl (pr_own1 rfl (.here _) rfl) rfl ?_
              refine TL.gdY rfl rfl (pr_lenSl rfl rfl hV) rfl ?_
              refine TL.gdY rfl rfl (pr_pure rfl) rfl ?_
              refine TL.run (pr_pure rfl) rfl ?_
              refine TL.run (pr_pure rfl) rfl ?_
              refine TL.nil ?_
              refine TX.seqN ?_
              refine TC.ret ?_
              refine TX.blkR ?_
              refine TX.thenR ?_
              exact TX.finS (.inr rfl) (results1 rfl (RVal.tmp rfl)) (congrArg Value.bool (by unfold mayV; simp_all <;> (intros; omega)))
            ·
              have q64 := of_decide_eq_false g64
              refine TL.gdN rfl rfl rfl rfl ?_
              refine TL.gdN rfl rfl rfl rfl ?_
              refine TL.gdN rfl rfl rfl rfl ?_
              refine TL.gdN rfl rfl rfl rfl ?_
              refine TL.run (pr_pure rfl) rfl ?_
              refine TL.run (pr_pure rfl) rfl ?_
              refine TL.nil ?_
              refine TX.seqN ?_
              refine TC.ret ?_
              refine TX.blkR ?_
              refine TX.thenR ?_
              exact TX.finS (.inr rfl) (results1 rfl (RVal.tmp rfl)) (congrArg Value.bool (by unfold mayV; simp_all <;> (intros; omega)))
          ·
            have q58 := of_decide_eq_false g58
            refine TL.gdN rfl rfl rfl rfl ?_
            refine TL.gdN rfl rfl rfl rfl ?_
            refine TL.gdN rfl rfl rfl rfl ?_
            refine TL.gdN rfl rfl rfl rfl ?_
            refine TL.run (pr_pure rfl) rfl ?_
            refine TL.run (pr_pure rfl) rfl ?_
            refine TL.gdN rfl rfl rfl rfl ?_
            refine TL.gdN rfl rfl rfl rfl ?_
            refine TL.gdN rfl rfl rfl rfl ?_
            refine TL.gdN rfl rfl rfl rfl ?_
            refine TL.run (pr_pure rfl) rfl ?_
            refine TL.run (pr_pure rfl) rfl ?_
            refine TL.nil ?_
            refine TX.seqN ?_
            refine TC.ret ?_
            refine TX.blkR ?_
            refine TX.thenR ?_
            exact TX.finS (.inr rfl) (results1 rfl (RVal.tmp rfl)) (congrArg Value.bool (by unfold mayV; simp_all <;> (intros; omega)))
        ·
          refine TC.seq ?_
          refine TC.region ?_
          refine TL.run (pr_pure rfl) rfl ?_
          refine TL.run (pr_pure rfl) rfl ?_
          refine TL.nil ?_
          refine TX.seqN ?_
          refine TC.condD rfl (fun c70 => ?_) (fun c70 => ?_)
          ·
            refine TC.seq ?_
            refine TC.region ?_
            refine TL.run (pr_field rfl) rfl ?_
            refine TL.run (pr_own1 rfl (.here _) rfl) rfl ?_
            refine TL.run (pr_pure rfl) rfl ?_
            refine TL.run (pr_pure rfl) rfl ?_
            refine TL.split (s := 75) rfl (fun g75 => ?_) (fun g75 => ?_)
            ·
              have q75 := of_decide_eq_true g75
              refine TL.gdY rfl rfl (pr_field rfl) rfl ?_
              refine TL.gdY rfl rfl (pr_own1 rfl (.here _) rfl) rfl ?_
              refine TL.gdY rfl rfl (pr_str rfl rfl rfl) rfl ?_
              refine TL.run (pr_pure rfl) rfl ?_
              refine TL.run (pr_pure rfl) rfl ?_
              refine TL.split (s := 80) rfl (fun g80 => ?_) (fun g80 => ?_)
              ·
                have q80 := of_decide_eq_true g80
                refine TL.gdY rfl rfl (pr_field rfl) rfl ?_
                refine TL.gdY rfl rfl (pr_own1 rfl (.here _) rfl) rfl ?_
                refine TL.gdY rfl rfl (pr_lenSl rfl rfl hV) rfl ?_
                refine TL.gdY rfl rfl (pr_pure rfl) rfl ?_
                refine TL.run (pr_pure rfl) rfl ?_
                refine TL.run (pr_pure rfl) rfl ?_
                refine TL.nil ?_
                refine TX.seqN ?_
                refine TC.ret ?_
                refine TX.blkR ?_
                refine TX.thenR ?_
                exact TX.finS (.inr rfl) (results1 rfl (RVal.tmp rfl)) (congrArg Value.bool (by unfold mayV; simp_all <;> (intros; omega)))
              ·
                have q80 := of_decide_eq_false g80
                refine TL.gdN rfl rfl rfl rfl ?_
                refine TL.gdN rfl rfl rfl rfl ?_
                refine TL.gdN rfl rfl rfl rfl ?_
                refine TL.gdN rfl rfl rfl rfl ?_
                refine TL.run (pr_pure rfl) rfl ?_
                refine TL.run (pr_pure rfl) rfl ?_
                refine TL.nil ?_
                refine TX.seqN ?_
                refine TC.ret ?_
                refine TX.blkR ?_
                refine TX.thenR ?_
                exact TX.finS (.inr rfl) (results1 rfl (RVal.tmp rfl)) (congrArg Value.bool (by unfold mayV; simp_all <;> (intros; omega)))
            ·
              have q75 := of_decide_eq_false g75
              refine TL.gdN rfl rfl rfl rfl ?_
              refine TL.gdN rfl rfl rfl rfl ?_
              refine TL.gdN rfl rfl rfl rfl ?_
              refine TL.run (pr_pure rfl) rfl ?_
              refine TL.run (pr_pure rfl) rfl ?_
              refine TL.gdN rfl rfl rfl rfl ?_
              refine TL.gdN rfl rfl rfl rfl ?_
              refine TL.gdN rfl rfl rfl rfl ?_
              refine TL.gdN rfl rfl rfl rfl ?_
              refine TL.run (pr_pure rfl) rfl ?_
              refine TL.run (pr_pure rfl) rfl ?_
              refine TL.nil ?_
              refine TX.seqN ?_
              refine TC.ret ?_
              refine TX.blkR ?_
              refine TX.thenR ?_
              exact TX.finS (.inr rfl) (results1 rfl (RVal.tmp rfl)) (congrArg Value.bool (by unfold mayV; simp_all <;> (intros; omega)))
          ·
            refine TC.seq ?_
            refine TC.region ?_
            refine TL.run (pr_pure rfl) rfl ?_
            refine TL.run (pr_pure rfl) rfl ?_
            refine TL.nil ?_
            refine TX.seqN ?_
            refine TC.condD rfl (fun c86 => ?_) (fun c86 => ?_)
            ·
              refine TC.seq ?_
              refine TC.region ?_
              refine TL.run (pr_field rfl) rfl ?_
              refine TL.run (pr_own1 rfl (.here _) rfl) rfl ?_
              refine TL.run (pr_str rfl rfl rfl) rfl ?_
              refine TL.run (pr_pure rfl) rfl ?_
              refine TL.split (s := 91) rfl (fun g91 => ?_) (fun g91 => ?_)
              ·
                have q91 := of_ndec_true g91
                refine TL.gdY rfl rfl (pr_field rfl) rfl ?_
                refine TL.gdY rfl rfl (pr_own1 rfl (.here _) rfl) rfl ?_
                refine TL.gdY rfl rfl (pr_pure rfl) rfl ?_
                refine TL.run (pr_pure rfl) rfl ?_
                refine TL.run (pr_pure rfl) rfl ?_
                refine TL.split (s := 96) rfl (fun g96 => ?_) (fun g96 => ?_)
                ·
                  have q96 := of_decide_eq_true g96
                  refine TL.gdY rfl rfl (pr_field rfl) rfl ?_
                  refine TL.gdY rfl rfl (pr_own1 rfl (.here _) rfl) rfl ?_
                  refine TL.gdY rfl rfl (pr_pure rfl) rfl ?_
                  refine TL.run (pr_pure rfl) rfl ?_
                  refine TL.run (pr_pure rfl) rfl ?_
                  refine TL.split (s := 101) rfl (fun g101 => ?_) (fun g101 => ?_)
                  ·
                    have q101 := of_decide_eq_true g101
                    refine TL.gdY rfl rfl (pr_field rfl) rfl ?_
                    refine TL.gdY rfl rfl (pr_own1 rfl (.here _) rfl) rfl ?_
                    refine TL.gdY rfl rfl (pr_lenSl rfl rfl hV) rfl ?_
                    refine TL.gdY rfl rfl (pr_pure rfl) rfl ?_
                    refine TL.run (pr_pure rfl) rfl ?_
                    refine TL.run (pr_pure rfl) rfl ?_
                    refine TL.nil ?_
                    refine TX.seqN ?_
                    refine TC.ret ?_
                    refine TX.blkR ?_
                    refine TX.thenR ?_
                    exact TX.finS (.inr rfl) (results1 rfl (RVal.tmp rfl)) (congrArg Value.bool (by unfold mayV; simp_all <;> (intros; omega)))
                  ·
                    have q101 := of_decide_eq_false g101
                    refine TL.gdN rfl rfl rfl rfl ?_
                    refine TL.gdN rfl rfl rfl rfl ?_
                    refine TL.gdN rfl rfl rfl rfl ?_
                    refine TL.gdN rfl rfl rfl rfl ?_
                    refine TL.run (pr_pure rfl) rfl ?_
                    refine TL.run (pr_pure rfl) rfl ?_
                    refine TL.nil ?_
                    refine TX.seqN ?_
                    refine TC.ret ?_
                    refine TX.blkR ?_
                    refine TX.thenR ?_
                    exact TX.finS (.inr rfl) (results1 rfl (RVal.tmp rfl)) (congrArg Value.bool (by unfold mayV; simp_all <;> (intros; omega)))
                ·
                  have q96 := of_decide_eq_false g96
                  refine TL.gdN rfl rfl rfl rfl ?_
                  refine TL.gdN rfl rfl rfl rfl ?_
                  refine TL.gdN rfl rfl rfl rfl ?_
                  refine TL.run (pr_pure rfl) rfl ?_
                  refine TL.run (pr_pure rfl) rfl ?_
                  refine TL.gdN rfl rfl rfl rfl ?_
                  refine TL.gdN rfl rfl rfl rfl ?_
                  refine TL.gdN rfl rfl rfl rfl ?_
                  refine TL.gdN rfl rfl rfl rfl ?_
                  refine TL.run (pr_pure rfl) rfl ?_
                  refine TL.run (pr_pure rfl) rfl ?_
                  refine TL.nil ?_
                  refine TX.seqN ?_
                  refine TC.ret ?_
                  refine TX.blkR ?_
                  refine TX.thenR ?_
                  exact TX.finS (.inr rfl) (results1 rfl (RVal.tmp rfl)) (congrArg Value.bool (by unfold mayV; simp_all <;> (intros; omega)))
              ·
                have q91 := of_ndec_false g91
                refine TL.gdN rfl rfl rfl rfl ?_
                refine TL.gdN rfl rfl rfl rfl ?_
                refine TL.gdN rfl rfl rfl rfl ?_
                refine TL.run (pr_pure rfl) rfl ?_
                refine TL.run (pr_pure rfl) rfl ?_
                refine TL.gdN rfl rfl rfl rfl ?_
                refine TL.gdN rfl rfl rfl rfl ?_
                refine TL.gdN rfl rfl rfl rfl ?_
                refine TL.run (pr_pure rfl) rfl ?_
                refine TL.run (pr_pure rfl) rfl ?_
                refine TL.gdN rfl rfl rfl rfl ?_
                refine TL.gdN rfl rfl rfl rfl ?_
                refine TL.gdN rfl rfl rfl rfl ?_
                refine TL.gdN rfl rfl rfl rfl ?_
                refine TL.run (pr_pure rfl) rfl ?_
                refine TL.run (pr_pure rfl) rfl ?_
                refine TL.nil ?_
                refine TX.seqN ?_
                refine TC.ret ?_
                refine TX.blkR ?_
                refine TX.thenR ?_
                exact TX.finS (.inr rfl) (results1 rfl (RVal.tmp rfl)) (congrArg Value.bool (by unfold mayV; simp_all <;> (intros; omega)))
            ·
              refine TC.skip ?_
              refine TX.blkN ?_
              refine TX.seqN ?_
              refine TC.seq ?_
              refine TC.region ?_
              refine TL.run (pr_pure rfl) rfl ?_
              refine TL.nil ?_
              refine TX.seqN ?_
              refine TC.ret ?_
              exact TX.finS (.inr rfl) (results1 rfl (RVal.tmp rfl)) (congrArg Value.bool (by unfold mayV; simp_all <;> (intros; omega)))

set_option maxRecDepth 100000 in
set_option maxHeartbeats 1000000 in
theorem rnums_ok {H : Hp} {a b : List Int} {va vb : Value} (hA : RdSl H 1 I64.cells va a) (hB : RdSl H 1 I64.cells vb b) :
    FnS Tryd.prog 37 [va, vb] H (.bool (decide (a = b))) := by
  have hma := hA.max
  refine FnS.enter Tryd.func37 Tryd.ntmps37 rfl rfl (fun w0 => ?_)
  refine TC.seq ?_
  refine TC.region ?_
  refine TL.run (pr_pure rfl) rfl ?_
  refine TL.nil ?_
  refine TX.seqN ?_
  refine TC.seq ?_
  refine TC.seq ?_
  refine TC.region ?_
  refine TL.run (pr_pure rfl) rfl ?_
  refine TL.run (pr_lenSl rfl rfl hA) rfl ?_
  refine TL.run (pr_pure rfl) rfl ?_
  refine TL.run (pr_lenSl rfl rfl hB) rfl ?_
  refine TL.run (pr_pure rfl) rfl ?_
  refine TL.nil ?_
  refine TX.seqN ?_
  refine TC.condND rfl (fun c10 => ?_) (fun c10 => ?_)
  ·
    refine TC.seq ?_
    refine TC.region ?_
    refine TL.run (pr_pure rfl) rfl ?_
    refine TL.nil ?_
    refine TX.seqN ?_
    refine TC.ret ?_
    refine TX.thenR ?_
    exact TX.finS (.inr rfl) (results1 rfl (RVal.tmp rfl)) (congrArg Value.bool (by first | exact (decide_eq_true (same_end hI.2.2 hl c14 hI.1)).symm | exact (decide_eq_false (same_ne hx hy (by simpa using c25))).symm | exact (decide_eq_false (fun e => c10 (by rw [e]))).symm))
  ·
    have hl : (a.length : Int) = b.length := by omega
    refine TC.skip ?_
    refine TX.seqN ?_
    refine TC.seq ?_
    refine TC.seq ?_
    refine TC.region ?_
    refine TL.run (pr_pure rfl) rfl ?_
    refine TL.nil ?_
    refine TX.seqN ?_
    refine TC.block ?_
    refine TC.loop (V := fun k => [(5, .int .i64 k)]) (K := [(0, _), (1, _), (4, _)]) (L := fun k => _) (I := fun k => 0 ≤ k ∧ k ≤ a.length ∧ a.take k.toNat = b.take k.toNat) (μ := fun k => (a.length - k).toNat) (i := (0 : Int)) ⟨rfl, rfl, rfl, rfl, trivial⟩ ⟨by omega, by omega, rfl⟩ (fun w hw => hw) (fun k hI => ?_)
    refine TC.seq ?_
    refine TC.seq ?_
    refine TC.region ?_
    refine TL.run (pr_pure rfl) rfl ?_
    refine TL.run (pr_pure rfl) rfl ?_
    refine TL.run (pr_lenSl rfl rfl hA) rfl ?_
    refine TL.run (pr_pure rfl) rfl ?_
    refine TL.nil ?_
    refine TX.seqN ?_
    refine TC.condD rfl (fun c14 => ?_) (fun c14 => ?_)
    ·
      obtain ⟨x, hx⟩ := getSome (l := a) hI.1 c14
      obtain ⟨y, hy⟩ := getSome (l := b) hI.1 (by omega)
      refine TC.skip ?_
      refine TX.seqN ?_
      refine TC.seq ?_
      refine TC.block ?_
      refine TC.seq ?_
      refine TC.quiet (by kernel_rfl) (by kernel_rfl) ?_
      refine TQ.run (pr_pure rfl) rfl ?_
      refine TQ.run (pr_pure rfl) rfl ?_
      refine TQ.run (pr_indexSl rfl hA rfl (by omega) (by omega)) rfl ?_
      refine TQ.run (pr_el0 hA hx rfl rfl) rfl ?_
      refine TQ.run (pr_pure rfl) rfl ?_
      refine TQ.run (pr_pure rfl) rfl ?_
      refine TQ.run (pr_indexSl rfl hB rfl (by omega) (by omega)) rfl ?_
      refine TQ.run (pr_el0 hB hy rfl rfl) rfl ?_
      refine TQ.run (pr_pure rfl) rfl ?_
      refine TQ.nil ?_
      refine TX.seqN ?_
      refine TC.condND rfl (fun c25 => ?_) (fun c25 => ?_)
      ·
        refine TC.seq ?_
        refine TC.region ?_
        refine TL.run (pr_pure rfl) rfl ?_
        refine TL.nil ?_
        refine TX.seqN ?_
        refine TC.ret ?_
        refine TX.blkR ?_
        refine TX.thenR ?_
        refine TX.thenR ?_
        refine TX.blkR ?_
        refine TX.thenR ?_
        exact TX.finS (.inr rfl) (results1 rfl (RVal.tmp rfl)) (congrArg Value.bool (by first | exact (decide_eq_true (same_end hI.2.2 hl c14 hI.1)).symm | exact (decide_eq_false (same_ne hx hy (by simpa using c25))).symm | exact (decide_eq_false (fun e => c10 (by rw [e]))).symm))
      ·
        refine TC.skip ?_
        refine TX.blkN ?_
        refine TX.seqN ?_
        refine TC.region ?_
        refine TL.run (pr_pure rfl) rfl ?_
        refine TL.run ((by first | exact pr_add rfl rfl (by omega) (by omega) | exact pr_pure rfl)) rfl ?_
        refine TL.run (pr_pure rfl) rfl ?_
        refine TL.nil ?_
        exact TX.round (k + 1) ⟨by omega, by omega, by rw [take_snoc hI.1 hx, take_snoc hI.1 hy, hI.2.2, (by simpa using c25 : x = y)]⟩ ⟨rfl, rfl, rfl, rfl, trivial⟩ (fun w hw => hw) (by omega)
    ·
      refine TC.exit ?_
      refine TX.thenE ?_
      refine TX.thenE ?_
      refine TX.blkHit ?_
      refine TX.seqN ?_
      refine TC.seq ?_
      refine TC.region ?_
      refine TL.run (pr_pure rfl) rfl ?_
      refine TL.nil ?_
      refine TX.seqN ?_
      refine TC.ret ?_
      exact TX.finS (.inr rfl) (results1 rfl (RVal.tmp rfl)) (congrArg Value.bool (by first | exact (decide_eq_true (same_end hI.2.2 hl c14 hI.1)).symm | exact (decide_eq_false (same_ne hx hy (by simpa using c25))).symm | exact (decide_eq_false (fun e => c10 (by rw [e]))).symm))

set_option maxRecDepth 100000 in
set_option maxHeartbeats 1000000 in
theorem rsame_ok {H : Hp} {a b : Val} {la lb : Value} (hA : RdV H la a) (hB : RdV H lb b) :
    FnS Tryd.prog 17 [.agg (a.cells la).toArray, .agg (b.cells lb).toArray] H (.bool (sameV a b)) := by
  refine FnS.enter Tryd.func17 Tryd.ntmps17 rfl rfl (fun w0 => ?_)
  refine TC.seq ?_
  refine TC.region ?_
  refine TL.box rfl rfl (fun b2 => ?_)
  refine TL.box rfl rfl (fun b3 => ?_)
  refine TL.run (pr_pure rfl) rfl ?_
  refine TL.nil ?_
  refine TX.seqN ?_
  refine TC.seq ?_
  refine TC.region ?_
  refine TL.run (pr_field rfl) rfl ?_
  refine TL.run (pr_own1 rfl (.there _ (.here _)) rfl) rfl ?_
  refine TL.run (pr_field rfl) rfl ?_
  refine TL.run (pr_own1 rfl (.here _) rfl) rfl ?_
  refine TL.run (pr_pure rfl) rfl ?_
  refine TL.run (pr_pure rfl) rfl ?_
  refine TL.split (s := 10) rfl (fun g10 => ?_) (fun g10 => ?_)
  ·
    have q10 := of_decide_eq_true g10
    refine TL.gdY rfl rfl (pr_field rfl) rfl ?_
    refine TL.gdY rfl rfl (pr_own1 rfl (.there _ (.here _)) rfl) rfl ?_
    refine TL.gdY rfl rfl (pr_field rfl) rfl ?_
    refine TL.gdY rfl rfl (pr_own1 rfl (.here _) rfl) rfl ?_
    refine TL.gdY rfl rfl (pr_pure rfl) rfl ?_
    refine TL.run (pr_pure rfl) rfl ?_
    refine TL.run (pr_pure rfl) rfl ?_
    refine TL.split (s := 17) rfl (fun g17 => ?_) (fun g17 => ?_)
    ·
      have q17 := of_decide_eq_true g17
      refine TL.gdY rfl rfl (pr_field rfl) rfl ?_
      refine TL.gdY rfl rfl (pr_own1 rfl (.there _ (.here _)) rfl) rfl ?_
      refine TL.gdY rfl rfl (pr_field rfl) rfl ?_
      refine TL.gdY rfl rfl (pr_own1 rfl (.here _) rfl) rfl ?_
      refine TL.gdY rfl rfl (pr_str rfl rfl rfl) rfl ?_
      refine TL.run (pr_pure rfl) rfl ?_
      refine TL.run (pr_pure rfl) rfl ?_
      refine TL.split (s := 24) rfl (fun g24 => ?_) (fun g24 => ?_)
      ·
        have q24 := of_decide_eq_true g24
        refine TL.gdY rfl rfl (pr_field rfl) rfl ?_
        refine TL.gdY rfl rfl (pr_own1 rfl (.there _ (.here _)) rfl) rfl ?_
        refine TL.gdY rfl rfl (pr_field rfl) rfl ?_
        refine TL.gdY rfl rfl (pr_own1 rfl (.here _) rfl) rfl ?_
        refine TL.callSY rfl rfl (enters rfl rfl rfl rfl) (rnums_ok (a := a.l) (b := b.l) (va := la) (vb := lb) hA hB) rfl ?_
        refine TL.run (pr_pure rfl) rfl ?_
        refine TL.run (pr_pure rfl) rfl ?_
        refine TL.nil ?_
        refine TX.seqN ?_
        refine TC.ret ?_
        exact TX.finS (.inr rfl) (results1 rfl (RVal.tmp rfl)) (congrArg Value.bool (by unfold sameV; simp_all))
      ·
        have q24 := of_decide_eq_false g24
        refine TL.gdN rfl rfl rfl rfl ?_
        refine TL.gdN rfl rfl rfl rfl ?_
        refine TL.gdN rfl rfl rfl rfl ?_
        refine TL.gdN rfl rfl rfl rfl ?_
        refine TL.gdN rfl rfl rfl rfl ?_
        refine TL.run (pr_pure rfl) rfl ?_
        refine TL.run (pr_pure rfl) rfl ?_
        refine TL.nil ?_
        refine TX.seqN ?_
        refine TC.ret ?_
        exact TX.finS (.inr rfl) (results1 rfl (RVal.tmp rfl)) (congrArg Value.bool (by unfold sameV; simp_all))
    ·
      have q17 := of_decide_eq_false g17
      refine TL.gdN rfl rfl rfl rfl ?_
      refine TL.gdN rfl rfl rfl rfl ?_
      refine TL.gdN rfl rfl rfl rfl ?_
      refine TL.gdN rfl rfl rfl rfl ?_
      refine TL.gdN rfl rfl rfl rfl ?_
      refine TL.run (pr_pure rfl) rfl ?_
      refine TL.run (pr_pure rfl) rfl ?_
      refine TL.gdN rfl rfl rfl rfl ?_
      refine TL.gdN rfl rfl rfl rfl ?_
      refine TL.gdN rfl rfl rfl rfl ?_
      refine TL.gdN rfl rfl rfl rfl ?_
      refine TL.gdN rfl rfl rfl rfl ?_
      refine TL.run (pr_pure rfl) rfl ?_
      refine TL.run (pr_pure rfl) rfl ?_
      refine TL.nil ?_
      refine TX.seqN ?_
      refine TC.ret ?_
      exact TX.finS (.inr rfl) (results1 rfl (RVal.tmp rfl)) (congrArg Value.bool (by unfold sameV; simp_all))
  ·
    have q10 := of_decide_eq_false g10
    refine TL.gdN rfl rfl rfl rfl ?_
    refine TL.gdN rfl rfl rfl rfl ?_
    refine TL.gdN rfl rfl rfl rfl ?_
    refine TL.gdN rfl rfl rfl rfl ?_
    refine TL.gdN rfl rfl rfl rfl ?_
    refine TL.run (pr_pure rfl) rfl ?_
    refine TL.run (pr_pure rfl) rfl ?_
    refine TL.gdN rfl rfl rfl rfl ?_
    refine TL.gdN rfl rfl rfl rfl ?_
    refine TL.gdN rfl rfl rfl rfl ?_
    refine TL.gdN rfl rfl rfl rfl ?_
    refine TL.gdN rfl rfl rfl rfl ?_
    refine TL.run (pr_pure rfl) rfl ?_
    refine TL.run (pr_pure rfl) rfl ?_
    refine TL.gdN rfl rfl rfl rfl ?_
    refine TL.gdN rfl rfl rfl rfl ?_
    refine TL.gdN rfl rfl rfl rfl ?_
    refine TL.gdN rfl rfl rfl rfl ?_
    refine TL.gdN rfl rfl rfl rfl ?_
    refine TL.run (pr_pure rfl) rfl ?_
    refine TL.run (pr_pure rfl) rfl ?_
    refine TL.nil ?_
    refine TX.seqN ?_
    refine TC.ret ?_
    exact TX.finS (.inr rfl) (results1 rfl (RVal.tmp rfl)) (congrArg Value.bool (by unfold sameV; simp_all))

set_option maxRecDepth 100000 in
set_option maxHeartbeats 1000000 in
theorem rlessn_ok {H : Hp} {a b : List Int} {va vb : Value} (hA : RdSl H 1 I64.cells va a) (hB : RdSl H 1 I64.cells vb b) :
    FnS Tryd.prog 38 [va, vb] H (.bool (lessLL a b)) := by
  have hma := hA.max
  refine FnS.enter Tryd.func38 Tryd.ntmps38 rfl rfl (fun w0 => ?_)
  refine TC.seq ?_
  refine TC.region ?_
  refine TL.run (pr_pure rfl) rfl ?_
  refine TL.nil ?_
  refine TX.seqN ?_
  refine TC.seq ?_
  refine TC.seq ?_
  refine TC.region ?_
  refine TL.run (pr_pure rfl) rfl ?_
  refine TL.nil ?_
  refine TX.seqN ?_
  refine TC.block ?_
  refine TC.loop (V := fun k => [(5, .int .i64 k)]) (K := [(0, _), (1, _), (4, _)]) (L := fun k => _) (I := fun k => 0 ≤ k ∧ k ≤ a.length ∧ k ≤ b.length ∧ lessLL a b = lessLL (a.drop k.toNat) (b.drop k.toNat)) (μ := fun k => (a.length - k).toNat) (i := (0 : Int)) ⟨rfl, rfl, rfl, rfl, trivial⟩ ⟨by omega, by omega, by omega, rfl⟩ (fun w hw => hw) (fun k hI => ?_)
  refine TC.seq ?_
  refine TC.sw (decide (k < a.length) && decide (k < b.length)) 15 [(0, _), (1, _), (4, _), (5, _)] ⟨rfl, rfl, rfl, rfl, trivial⟩ ?_ ?_
  ·
    refine TC.region ?_
    refine TL.run (pr_pure rfl) rfl ?_
    refine TL.run (pr_pure rfl) rfl ?_
    refine TL.run (pr_lenSl rfl rfl hA) rfl ?_
    refine TL.run (pr_pure rfl) rfl ?_
    refine TL.run (pr_pure rfl) rfl ?_
    refine TL.split (s := 10) rfl (fun g10 => ?_) (fun g10 => ?_)
    ·
      have q10 := of_decide_eq_true g10
      refine TL.gdY rfl rfl (pr_pure rfl) rfl ?_
      refine TL.gdY rfl rfl (pr_pure rfl) rfl ?_
      refine TL.gdY rfl rfl (pr_lenSl rfl rfl hB) rfl ?_
      refine TL.gdY rfl rfl (pr_pure rfl) rfl ?_
      refine TL.run (pr_pure rfl) rfl ?_
      refine TL.nil ?_
      exact TX.sw rfl (by first | simp [g10] | simp [q10] | (simp [g10]; done) | simp_all) ⟨rfl, rfl, rfl, rfl, trivial⟩
    ·
      have q10 := of_decide_eq_false g10
      refine TL.gdN rfl rfl rfl rfl ?_
      refine TL.gdN rfl rfl rfl rfl ?_
      refine TL.gdN rfl rfl rfl rfl ?_
      refine TL.gdN rfl rfl rfl rfl ?_
      refine TL.run (pr_pure rfl) rfl ?_
      refine TL.nil ?_
      exact TX.sw rfl (by first | simp [g10] | simp [q10] | (simp [g10]; done) | simp_all) ⟨rfl, rfl, rfl, rfl, trivial⟩
  refine TC.cond rfl (fun c15 => ?_) (fun c15 => ?_)
  ·
    have hkk : k < a.length ∧ k < b.length := by simpa using c15
    obtain ⟨x, hx⟩ := getSome (l := a) hI.1 hkk.1
    obtain ⟨y, hy⟩ := getSome (l := b) hI.1 hkk.2
    refine TC.skip ?_
    refine TX.seqN ?_
    refine TC.seq ?_
    refine TC.block ?_
    refine TC.seq ?_
    refine TC.quiet (by kernel_rfl) (by kernel_rfl) ?_
    refine TQ.run (pr_pure rfl) rfl ?_
    refine TQ.run (pr_pure rfl) rfl ?_
    refine TQ.run (pr_indexSl rfl hA rfl (by omega) (by omega)) rfl ?_
    refine TQ.run (pr_el0 hA hx rfl rfl) rfl ?_
    refine TQ.run (pr_pure rfl) rfl ?_
    refine TQ.run (pr_pure rfl) rfl ?_
    refine TQ.run (pr_indexSl rfl hB rfl (by omega) (by omega)) rfl ?_
    refine TQ.run (pr_el0 hB hy rfl rfl) rfl ?_
    refine TQ.run (pr_pure rfl) rfl ?_
    refine TQ.nil ?_
    refine TX.seqN ?_
    refine TC.condND rfl (fun c26 => ?_) (fun c26 => ?_)
    ·
      refine TC.seq ?_
      refine TC.quiet (by kernel_rfl) (by kernel_rfl) ?_
      refine TQ.run (pr_pure rfl) rfl ?_
      refine TQ.run (pr_pure rfl) rfl ?_
      refine TQ.run (pr_indexSl rfl hA rfl (by omega) (by omega)) rfl ?_
      refine TQ.run (pr_el0 hA hx rfl rfl) rfl ?_
      refine TQ.run (pr_pure rfl) rfl ?_
      refine TQ.run (pr_pure rfl) rfl ?_
      refine TQ.run (pr_indexSl rfl hB rfl (by omega) (by omega)) rfl ?_
      refine TQ.run (pr_el0 hB hy rfl rfl) rfl ?_
      refine TQ.run (pr_pure rfl) rfl ?_
      refine TQ.run (pr_pure rfl) rfl ?_
      refine TQ.nil ?_
      refine TX.seqN ?_
      refine TC.ret ?_
      refine TX.blkR ?_
      refine TX.thenR ?_
      refine TX.thenR ?_
      refine TX.blkR ?_
      refine TX.thenR ?_
      exact TX.finS (.inr rfl) (results1 rfl (RVal.tmp rfl)) (congrArg Value.bool (by first | exact (less_ne hI.1 hx hy c26 hI.2.2.2).symm | exact (less_end2 hI.1 hI.2.1 hI.2.2.1 hkk hI.2.2.2).symm))
    ·
      refine TC.skip ?_
      refine TX.blkN ?_
      refine TX.seqN ?_
      refine TC.region ?_
      refine TL.run (pr_pure rfl) rfl ?_
      refine TL.run ((by first | exact pr_add rfl rfl (by omega) (by omega) | exact pr_pure rfl)) rfl ?_
      refine TL.run (pr_pure rfl) rfl ?_
      refine TL.nil ?_
      exact TX.round (k + 1) ⟨by omega, by omega, by omega, less_next hI.1 hx hy c26 hI.2.2.2⟩ ⟨rfl, rfl, rfl, rfl, trivial⟩ (fun w hw => hw) (by omega)
  ·
    have hkk : ¬ (k < a.length ∧ k < b.length) := by simpa using c15
    refine TC.exit ?_
    refine TX.thenE ?_
    refine TX.thenE ?_
    refine TX.blkHit ?_
    refine TX.seqN ?_
    refine TC.seq ?_
    refine TC.region ?_
    refine TL.run (pr_pure rfl) rfl ?_
    refine TL.run (pr_lenSl rfl rfl hA) rfl ?_
    refine TL.run (pr_pure rfl) rfl ?_
    refine TL.run (pr_lenSl rfl rfl hB) rfl ?_
    refine TL.run (pr_pure rfl) rfl ?_
    refine TL.run (pr_pure rfl) rfl ?_
    refine TL.nil ?_
    refine TX.seqN ?_
    refine TC.ret ?_
    exact TX.finS (.inr rfl) (results1 rfl (RVal.tmp rfl)) (congrArg Value.bool (by first | exact (less_ne hI.1 hx hy c26 hI.2.2.2).symm | exact (less_end2 hI.1 hI.2.1 hI.2.2.1 hkk hI.2.2.2).symm))

set_option maxRecDepth 100000 in
set_option maxHeartbeats 1000000 in
theorem rless_ok {H : Hp} {a b : Val} {la lb : Value} (hA : RdV H la a) (hB : RdV H lb b) :
    FnS Tryd.prog 19 [.agg (a.cells la).toArray, .agg (b.cells lb).toArray] H (.bool (lessV a b)) := by
  refine FnS.enter Tryd.func19 Tryd.ntmps19 rfl rfl (fun w0 => ?_)
  refine TC.seq ?_
  refine TC.region ?_
  refine TL.box rfl rfl (fun b2 => ?_)
  refine TL.box rfl rfl (fun b3 => ?_)
  refine TL.run (pr_pure rfl) rfl ?_
  refine TL.nil ?_
  refine TX.seqN ?_
  refine TC.seq ?_
  refine TC.block ?_
  refine TC.seq ?_
  refine TC.region ?_
  refine TL.run (pr_field rfl) rfl ?_
  refine TL.run (pr_own1 rfl (.there _ (.here _)) rfl) rfl ?_
  refine TL.run (pr_field rfl) rfl ?_
  refine TL.run (pr_own1 rfl (.here _) rfl) rfl ?_
  refine TL.run (pr_pure rfl) rfl ?_
  refine TL.run (pr_pure rfl) rfl ?_
  refine TL.nil ?_
  refine TX.seqN ?_
  refine TC.condND rfl (fun c5 => ?_) (fun c5 => ?_)
  ·
    refine TC.seq ?_
    refine TC.region ?_
    refine TL.run (pr_field rfl) rfl ?_
    refine TL.run (pr_own1 rfl (.there _ (.here _)) rfl) rfl ?_
    refine TL.run (pr_field rfl) rfl ?_
    refine TL.run (pr_own1 rfl (.here _) rfl) rfl ?_
    refine TL.run (pr_pure rfl) rfl ?_
    refine TL.run (pr_pure rfl) rfl ?_
    refine TL.nil ?_
    refine TX.seqN ?_
    refine TC.ret ?_
    refine TX.blkR ?_
    refine TX.thenR ?_
    exact TX.finS (.inr rfl) (results1 rfl (RVal.tmp rfl)) (congrArg Value.bool (by unfold lessV; first | (rw [if_neg c5]; done) | (rw [if_pos c5, if_neg c16]; done) | (rw [if_pos c5, if_pos c16, if_neg c27]; done) | (rw [if_pos c5, if_pos c16, if_pos c27]; done)))
  ·
    refine TC.seq ?_
    refine TC.region ?_
    refine TL.run (pr_field rfl) rfl ?_
    refine TL.run (pr_own1 rfl (.there _ (.here _)) rfl) rfl ?_
    refine TL.run (pr_field rfl) rfl ?_
    refine TL.run (pr_own1 rfl (.here _) rfl) rfl ?_
    refine TL.run (pr_pure rfl) rfl ?_
    refine TL.run (pr_pure rfl) rfl ?_
    refine TL.nil ?_
    refine TX.seqN ?_
    refine TC.condND rfl (fun c16 => ?_) (fun c16 => ?_)
    ·
      refine TC.seq ?_
      refine TC.region ?_
      refine TL.run (pr_field rfl) rfl ?_
      refine TL.run (pr_own1 rfl (.there _ (.here _)) rfl) rfl ?_
      refine TL.run (pr_field rfl) rfl ?_
      refine TL.run (pr_own1 rfl (.here _) rfl) rfl ?_
      refine TL.run (pr_pure rfl) rfl ?_
      refine TL.run (pr_pure rfl) rfl ?_
      refine TL.nil ?_
      refine TX.seqN ?_
      refine TC.ret ?_
      refine TX.blkR ?_
      refine TX.thenR ?_
      exact TX.finS (.inr rfl) (results1 rfl (RVal.tmp rfl)) (congrArg Value.bool (by unfold lessV; first | (rw [if_neg c5]; done) | (rw [if_pos c5, if_neg c16]; done) | (rw [if_pos c5, if_pos c16, if_neg c27]; done) | (rw [if_pos c5, if_pos c16, if_pos c27]; done)))
    ·
      refine TC.seq ?_
      refine TC.region ?_
      refine TL.run (pr_field rfl) rfl ?_
      refine TL.run (pr_own1 rfl (.there _ (.here _)) rfl) rfl ?_
      refine TL.run (pr_field rfl) rfl ?_
      refine TL.run (pr_own1 rfl (.here _) rfl) rfl ?_
      refine TL.run (pr_str rfl rfl rfl) rfl ?_
      refine TL.run (pr_pure rfl) rfl ?_
      refine TL.nil ?_
      refine TX.seqN ?_
      refine TC.condND rfl (fun c27 => ?_) (fun c27 => ?_)
      ·
        refine TC.seq ?_
        refine TC.region ?_
        refine TL.run (pr_field rfl) rfl ?_
        refine TL.run (pr_own1 rfl (.there _ (.here _)) rfl) rfl ?_
        refine TL.run (pr_field rfl) rfl ?_
        refine TL.run (pr_own1 rfl (.here _) rfl) rfl ?_
        refine TL.run (pr_str rfl rfl rfl) rfl ?_
        refine TL.run (pr_pure rfl) rfl ?_
        refine TL.nil ?_
        refine TX.seqN ?_
        refine TC.ret ?_
        refine TX.blkR ?_
        refine TX.thenR ?_
        exact TX.finS (.inr rfl) (results1 rfl (RVal.tmp rfl)) (congrArg Value.bool (by unfold lessV; first | (rw [if_neg c5]; done) | (rw [if_pos c5, if_neg c16]; done) | (rw [if_pos c5, if_pos c16, if_neg c27]; done) | (rw [if_pos c5, if_pos c16, if_pos c27]; done)))
      ·
        refine TC.skip ?_
        refine TX.blkN ?_
        refine TX.seqN ?_
        refine TC.seq ?_
        refine TC.region ?_
        refine TL.run (pr_field rfl) rfl ?_
        refine TL.run (pr_own1 rfl (.there _ (.here _)) rfl) rfl ?_
        refine TL.run (pr_field rfl) rfl ?_
        refine TL.run (pr_own1 rfl (.here _) rfl) rfl ?_
        refine TL.callS (enters rfl rfl rfl rfl) (rlessn_ok (a := a.l) (b := b.l) (va := la) (vb := lb) hA hB) rfl ?_
        refine TL.run (pr_pure rfl) rfl ?_
        refine TL.nil ?_
        refine TX.seqN ?_
        refine TC.ret ?_
        exact TX.finS (.inr rfl) (results1 rfl (RVal.tmp rfl)) (congrArg Value.bool (by unfold lessV; first | (rw [if_neg c5]; done) | (rw [if_pos c5, if_neg c16]; done) | (rw [if_pos c5, if_pos c16, if_neg c27]; done) | (rw [if_pos c5, if_pos c16, if_pos c27]; done)))

set_option maxRecDepth 100000 in
set_option maxHeartbeats 1000000 in
theorem rInt_ok {H : Hp} (s : Str) (hmax : s.length ≤ 9223372036854775000) :
    FnS Tryd.prog 36 [gs s] H (.int .i64 (intR s)) := by
  refine FnS.enter Tryd.func36 Tryd.ntmps36 rfl rfl (fun w0 => ?_)
  refine TC.seq ?_
  refine TC.region ?_
  refine TL.run (pr_pure rfl) rfl ?_
  refine TL.nil ?_
  refine TX.seqN ?_
  refine TC.seq ?_
  refine TC.region ?_
  refine TL.run (pr_pure rfl) rfl ?_
  refine TL.nil ?_
  refine TX.seqN ?_
  refine TC.seq ?_
  refine TC.seq ?_
  refine TC.region ?_
  refine TL.run (pr_pure rfl) rfl ?_
  refine TL.nil ?_
  refine TX.seqN ?_
  refine TC.block ?_
  refine TC.loop (V := fun (p : Int × Nat) => [(3, .int .u64 (p.2 : Int)), (4, .int .i64 p.1)]) (K := [(0, _), (2, _)]) (L := fun (p : Int × Nat) => _) (I := fun (p : Int × Nat) => 0 ≤ p.1 ∧ p.1 ≤ s.length ∧ p.2 < 18446744073709551616 ∧ absR s = (s.drop p.1.toNat).foldl absStep p.2) (μ := fun (p : Int × Nat) => (s.length - p.1).toNat) (i := ((0 : Int), (0 : Nat))) ⟨rfl, rfl, rfl, rfl, trivial⟩ ⟨by omega, by omega, by decide, rfl⟩ (fun w hw => hw) (fun (p : Int × Nat) hI => ?_)
  refine TC.seq ?_
  refine TC.seq ?_
  refine TC.region ?_
  refine TL.run (pr_pure rfl) rfl ?_
  refine TL.run (pr_pure rfl) rfl ?_
  refine TL.run (pr_lenStr rfl rfl) rfl ?_
  refine TL.run (pr_pure rfl) rfl ?_
  refine TL.nil ?_
  refine TX.seqN ?_
  refine TC.condD rfl (fun c8 => ?_) (fun c8 => ?_)
  ·
    obtain ⟨c, hc⟩ := getSome (l := s) hI.1 c8
    refine TC.skip ?_
    refine TX.seqN ?_
    refine TC.seq ?_
    refine TC.block ?_
    refine TC.seq ?_
    refine TC.region ?_
    refine TL.run (pr_pure rfl) rfl ?_
    refine TL.run (pr_pure rfl) rfl ?_
    refine TL.run (pr_strIx rfl rfl (by omega) hc) rfl ?_
    refine TL.callS (enters rfl rfl rfl rfl) (r_digit_ok c) rfl ?_
    refine TL.nil ?_
    refine TX.seqN ?_
    refine TC.cond rfl (fun c14 => ?_) (fun c14 => ?_)
    ·
      have hd14 : digitB c = true := c14
      refine TC.region ?_
      refine TL.run (pr_pure rfl) rfl ?_
      refine TL.run (pr_pure rfl) rfl ?_
      refine TL.run (pr_pure rfl) rfl ?_
      refine TL.run (pr_pure rfl) rfl ?_
      refine TL.run (pr_strIx rfl rfl (by omega) hc) rfl ?_
      refine TL.run (pr_pure rfl) rfl ?_
      refine TL.run (pr_conv rfl) rfl ?_
      refine TL.run (PR.to (pr_pure rfl) (congrArg (Value.int .u64) (abs_byte hd14))) rfl ?_
      refine TL.run (pr_pure rfl) rfl ?_
      refine TL.nil ?_
      refine TX.blkN ?_
      refine TX.seqN ?_
      refine TC.region ?_
      refine TL.run (pr_pure rfl) rfl ?_
      refine TL.run ((by first | exact pr_add rfl rfl (by omega) (by omega) | exact pr_pure rfl)) rfl ?_
      refine TL.run (pr_pure rfl) rfl ?_
      refine TL.nil ?_
      exact TX.round (p.1 + 1, absStep p.2 c) ⟨by omega, by omega, absStep_lt hI.2.2.1, abs_take hI.1 hc hI.2.2.2⟩ ⟨rfl, rfl, rfl, rfl, trivial⟩ (fun w hw => hw) (by omega)
    ·
      refine TC.skip ?_
      refine TX.blkN ?_
      refine TX.seqN ?_
      refine TC.region ?_
      refine TL.run (pr_pure rfl) rfl ?_
      refine TL.run ((by first | exact pr_add rfl rfl (by omega) (by omega) | exact pr_pure rfl)) rfl ?_
      refine TL.run (pr_pure rfl) rfl ?_
      refine TL.nil ?_
      exact TX.round (p.1 + 1, p.2) ⟨by omega, by omega, hI.2.2.1, abs_skip hI.1 hc c14 hI.2.2.2⟩ ⟨rfl, rfl, rfl, rfl, trivial⟩ (fun w hw => hw) (by omega)
  ·
    have hab := abs_end c8 hI.1 hI.2.2.2
    refine TC.exit ?_
    refine TX.thenE ?_
    refine TX.thenE ?_
    refine TX.blkHit ?_
    refine TX.seqN ?_
    refine TC.seq ?_
    refine TC.seq ?_
    refine TC.region ?_
    refine TL.run (pr_pure rfl) rfl ?_
    refine TL.run (pr_str rfl rfl rfl) rfl ?_
    refine TL.run (pr_pure rfl) rfl ?_
    refine TL.split (s := 25) rfl (fun g25 => ?_) (fun g25 => ?_)
    ·
      have q25 := of_ndec_true g25
      obtain ⟨z, hz⟩ := getSome (l := s) (i := 0) (by decide) (pos_of q25)
      refine TL.gdY rfl rfl (pr_pure rfl) rfl ?_
      refine TL.gdY rfl rfl (pr_strIx rfl rfl (by omega) hz) rfl ?_
      refine TL.gdY rfl rfl (pr_pure rfl) rfl ?_
      refine TL.run (pr_pure rfl) rfl ?_
      refine TL.nil ?_
      refine TX.seqN ?_
      refine TC.condD rfl (fun c29 => ?_) (fun c29 => ?_)
      ·
        have hh45 : s.head? = some 45 := head_is hz c29
        refine TC.region ?_
        refine TL.run (pr_pure rfl) rfl ?_
        refine TL.run (pr_pure rfl) rfl ?_
        refine TL.run (pr_pure rfl) rfl ?_
        refine TL.nil ?_
        refine TX.seqN ?_
        refine TC.seq ?_
        refine TC.region ?_
        refine TL.run (pr_pure rfl) rfl ?_
        refine TL.run (pr_conv rfl) rfl ?_
        refine TL.run (pr_pure rfl) rfl ?_
        refine TL.nil ?_
        refine TX.seqN ?_
        refine TC.ret ?_
        exact TX.finS (.inr rfl) (results1 rfl (RVal.tmp rfl)) (congrArg (Value.int .i64) (by unfold intR; first | rw [if_pos hh45, ← hab] | rw [if_neg hh45, ← hab]))
      ·
        have hh45 : ¬ s.head? = some 45 := head_not hz c29
        refine TC.skip ?_
        refine TX.seqN ?_
        refine TC.seq ?_
        refine TC.region ?_
        refine TL.run (pr_pure rfl) rfl ?_
        refine TL.run (pr_conv rfl) rfl ?_
        refine TL.run (pr_pure rfl) rfl ?_
        refine TL.nil ?_
        refine TX.seqN ?_
        refine TC.ret ?_
        exact TX.finS (.inr rfl) (results1 rfl (RVal.tmp rfl)) (congrArg (Value.int .i64) (by unfold intR; first | rw [if_pos hh45, ← hab] | rw [if_neg hh45, ← hab]))
    ·
      have q25 := of_ndec_false g25
      have hh45 : ¬ s.head? = some 45 := by rw [q25]; simp
      refine TL.gdN rfl rfl rfl rfl ?_
      refine TL.gdN rfl rfl rfl rfl ?_
      refine TL.gdN rfl rfl rfl rfl ?_
      refine TL.run (pr_pure rfl) rfl ?_
      refine TL.nil ?_
      refine TX.seqN ?_
      refine TC.condF rfl ?_
      refine TC.skip ?_
      refine TX.seqN ?_
      refine TC.seq ?_
      refine TC.region ?_
      refine TL.run (pr_pure rfl) rfl ?_
      refine TL.run (pr_conv rfl) rfl ?_
      refine TL.run (pr_pure rfl) rfl ?_
      refine TL.nil ?_
      refine TX.seqN ?_
      refine TC.ret ?_
      exact TX.finS (.inr rfl) (results1 rfl (RVal.tmp rfl)) (congrArg (Value.int .i64) (by unfold intR; first | rw [if_pos hh45, ← hab] | rw [if_neg hh45, ← hab]))
end Go.Sx
