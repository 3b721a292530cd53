import Derived.Test.YticophnilpjdlaaWKref
import Derived.Test.YticophnilpjdlaaWKind
set_option linter.unusedVariables false
set_option linter.unusedSimpArgs false
namespace Go.Sx
open Go Go.Proofs
set_option maxRecDepth 100000 in
set_option maxHeartbeats 1000000 in
theorem first5_ok {H : Hp} :
    FnS Try.prog 8 [] H (.bool true) := by
  have hN : ∀ t ∈ ([⟨0, [120], 0, [], -1, -1⟩, ⟨1, [], 1, [], -1, -1⟩, ⟨6, [], 0, [], 0, 1⟩] : List Term), t.name.length ≤ 9223372036854775807 := by decide
  refine FnS.enter Try.func8 Try.ntmps8 rfl rfl (fun w0 => ?_)
  refine TC.seq ?_
  refine TC.region ?_
  refine TL.run (pr_pure rfl) rfl ?_
  refine TL.nil ?_
  refine TX.seqN ?_
  refine TC.seq ?_
  refine TC.region ?_
  refine TL.run (pr_build rfl rfl) rfl ?_
  refine TL.run (pr_build rfl rfl) rfl ?_
  refine TL.run (pr_build rfl rfl) rfl ?_
  refine TL.bslice rfl rfl rfl rfl (fun b11 => ?_)
  refine TL.run (pr_pure rfl) rfl ?_
  refine TL.nil ?_
  refine TX.pub (by simp) (fun H_b11 le_b11 rd_b11 => ?_)
  have hT : RdSl H_b11 6 Term.cells _ [⟨0, [120], 0, [], -1, -1⟩, ⟨1, [], 1, [], -1, -1⟩, ⟨6, [], 0, [], 0, 1⟩] := RdSl.blk (cap := 3) rd_b11 (by intro x hx; rfl) rfl (by decide)
  refine TX.seqN ?_
  refine TC.seq ?_
  refine TC.region ?_
  refine TL.run (pr_pure rfl) rfl ?_
  refine TL.run (pr_build rfl rfl) rfl ?_
  refine TL.run (pr_build rfl rfl) rfl ?_
  refine TL.bslice rfl rfl rfl rfl (fun b16 => ?_)
  refine TL.pub (by simp) (fun H_b16 le_b16 rd_b16 => ?_)
  have hE : RdSl H_b16 3 Typing.cells _ [⟨[120], 2, 0⟩] := RdSl.blk (cap := 1) rd_b16 (by intro x hx; rfl) rfl (by decide)
  replace hT := hT.le le_b16
  have e17 := Of_ok 2 hT hE hN
  rw [show ofS [⟨0, [120], 0, [], -1, -1⟩, ⟨1, [], 1, [], -1, -1⟩, ⟨6, [], 0, [], 0, 1⟩] 2 [⟨[120], 2, 0⟩] = (0, 502) by decide +kernel] at e17
  refine TL.callS (enters rfl rfl rfl rfl) e17 rfl ?_
  refine TL.run (pr_pure rfl) rfl ?_
  refine TL.run (pr_pure (v := .int .i64 0) rfl) rfl ?_
  refine TL.run (pr_pure (v := .int .i64 502) rfl) rfl ?_
  refine TL.run (pr_pure rfl) rfl ?_
  refine TL.run (pr_pure rfl) rfl ?_
  refine TL.nil ?_
  refine TX.seqN ?_
  refine TC.seq ?_
  refine TC.region ?_
  refine TL.run (pr_pure rfl) rfl ?_
  refine TL.run (pr_build rfl rfl) rfl ?_
  refine TL.run (pr_build rfl rfl) rfl ?_
  refine TL.bslice rfl rfl rfl rfl (fun b24 => ?_)
  refine TL.pub (by simp) (fun H_b24 le_b24 rd_b24 => ?_)
  have hE : RdSl H_b24 3 Typing.cells _ [⟨[120], 1, 0⟩] := RdSl.blk (cap := 1) rd_b24 (by intro x hx; rfl) rfl (by decide)
  replace hT := hT.le le_b24
  have e25 := Of_ok 2 hT hE hN
  rw [show ofS [⟨0, [120], 0, [], -1, -1⟩, ⟨1, [], 1, [], -1, -1⟩, ⟨6, [], 0, [], 0, 1⟩] 2 [⟨[120], 1, 0⟩] = (1, 0) by decide +kernel] at e25
  refine TL.callS (enters rfl rfl rfl rfl) e25 rfl ?_
  refine TL.run (pr_pure rfl) rfl ?_
  refine TL.run (pr_pure (v := .int .i64 1) rfl) rfl ?_
  refine TL.run (pr_pure (v := .int .i64 0) rfl) rfl ?_
  refine TL.run (pr_pure rfl) rfl ?_
  refine TL.run (pr_pure rfl) rfl ?_
  refine TL.nil ?_
  refine TX.seqN ?_
  refine TC.seq ?_
  refine TC.region ?_
  refine TL.run (pr_pure rfl) rfl ?_
  have hE : RdSl H_b24 3 Typing.cells (.slice none 0 0) [] := RdSl.nil
  have e30 := Of_ok 2 hT hE hN
  rw [show ofS [⟨0, [120], 0, [], -1, -1⟩, ⟨1, [], 1, [], -1, -1⟩, ⟨6, [], 0, [], 0, 1⟩] 2 [] = (0, 501) by decide +kernel] at e30
  refine TL.callS (enters rfl rfl rfl rfl) e30 rfl ?_
  refine TL.run (pr_pure rfl) rfl ?_
  refine TL.run (pr_pure (v := .int .i64 0) rfl) rfl ?_
  refine TL.run (pr_pure (v := .int .i64 501) rfl) rfl ?_
  refine TL.run (pr_pure rfl) rfl ?_
  refine TL.run (pr_pure rfl) rfl ?_
  refine TL.nil ?_
  refine TX.seqN ?_
  refine TC.seq ?_
  refine TC.region ?_
  refine TL.run (pr_pure rfl) rfl ?_
  refine TL.run (pr_pure rfl) rfl ?_
  refine TL.run (pr_pure rfl) rfl ?_
  refine TL.gdY rfl rfl (pr_pure rfl) rfl ?_
  refine TL.gdY rfl rfl (pr_pure rfl) rfl ?_
  refine TL.run (pr_pure rfl) rfl ?_
  refine TL.run (pr_pure rfl) rfl ?_
  refine TL.gdY rfl rfl (pr_pure rfl) rfl ?_
  refine TL.gdY rfl rfl (pr_pure rfl) rfl ?_
  refine TL.run (pr_pure rfl) rfl ?_
  refine TL.run (pr_pure rfl) rfl ?_
  refine TL.gdY rfl rfl (pr_pure rfl) rfl ?_
  refine TL.gdY rfl rfl (pr_pure rfl) rfl ?_
  refine TL.run (pr_pure rfl) rfl ?_
  refine TL.run (pr_pure rfl) rfl ?_
  refine TL.nil ?_
  refine TX.seqN ?_
  refine TC.ret ?_
  exact TX.finS (.inr rfl) (results1 rfl (RVal.tmp rfl)) rfl

set_option maxRecDepth 100000 in
set_option maxHeartbeats 1000000 in
theorem KindTells_ok {H : Hp} {l : List Term} {env : List Typing} {v ve : Value} (root : Int) (hT : RdSl H 6 Term.cells v l) (hE : RdSl H 3 Typing.cells ve env) (hN : ∀ t ∈ l, t.name.length ≤ 9223372036854775807) :
    FnS Try.prog 3 [v, .int .i64 root, ve] H (.bool true) := by
  refine FnS.enter Try.func3 Try.ntmps3 rfl rfl (fun w0 => ?_)
  refine TC.seq ?_
  refine TC.region ?_
  refine TL.run (pr_pure rfl) rfl ?_
  refine TL.nil ?_
  refine TX.seqN ?_
  refine TC.seq ?_
  refine TC.seq ?_
  refine TC.region ?_
  refine TL.callS (enters rfl rfl rfl rfl) (first5_ok) rfl ?_
  refine TL.run (pr_pure rfl) rfl ?_
  refine TL.nil ?_
  refine TX.seqN ?_
  refine TC.cond rfl (fun c12 => ?_) (fun c12 => ?_)
  ·
    exact absurd c12 (by decide)
  ·
    refine TC.skip ?_
    refine TX.seqN ?_
    refine TC.seq ?_
    refine TC.seq ?_
    refine TC.region ?_
    refine TL.run (pr_pure rfl) rfl ?_
    refine TL.run (pr_lenSl rfl rfl hT) rfl ?_
    refine TL.run (pr_pure rfl) rfl ?_
    refine TL.run (pr_pure rfl) rfl ?_
    refine TL.split (s := 16) rfl (fun g16 => ?_) (fun g16 => ?_)
    ·
      have q16 := of_decide_eq_true g16
      refine TL.gdN rfl rfl rfl rfl ?_
      refine TL.gdN rfl rfl rfl rfl ?_
      refine TL.gdN rfl rfl rfl rfl ?_
      refine TL.run (pr_pure rfl) rfl ?_
      refine TL.nil ?_
      refine TX.seqN ?_
      refine TC.condT rfl ?_
      refine TC.seq ?_
      refine TC.region ?_
      refine TL.run (pr_pure rfl) rfl ?_
      refine TL.nil ?_
      refine TX.seqN ?_
      refine TC.ret ?_
      refine TX.thenR ?_
      exact TX.finS (.inr rfl) (results1 rfl (RVal.tmp rfl)) (congrArg Value.bool (by first | rfl | simp_all [of_kind]))
    ·
      have q16 := of_decide_eq_false g16
      refine TL.gdY rfl rfl (pr_pure rfl) rfl ?_
      refine TL.gdY rfl rfl (pr_lenSl rfl rfl hE) rfl ?_
      refine TL.gdY rfl rfl (pr_pure rfl) rfl ?_
      refine TL.run (pr_pure rfl) rfl ?_
      refine TL.nil ?_
      refine TX.seqN ?_
      refine TC.condD rfl (fun c20 => ?_) (fun c20 => ?_)
      ·
        refine TC.seq ?_
        refine TC.region ?_
        refine TL.run (pr_pure rfl) rfl ?_
        refine TL.nil ?_
        refine TX.seqN ?_
        refine TC.ret ?_
        refine TX.thenR ?_
        exact TX.finS (.inr rfl) (results1 rfl (RVal.tmp rfl)) (congrArg Value.bool (by first | rfl | simp_all [of_kind]))
      ·
        refine TC.skip ?_
        refine TX.seqN ?_
        refine TC.seq ?_
        refine TC.region ?_
        refine TL.run (pr_pure rfl) rfl ?_
        refine TL.run (pr_pure rfl) rfl ?_
        refine TL.run (pr_pure rfl) rfl ?_
        refine TL.callS (enters rfl rfl rfl rfl) (Of_ok root hT hE hN) rfl ?_
        refine TL.run (pr_pure rfl) rfl ?_
        refine TL.run (pr_pure rfl) rfl ?_
        refine TL.run (pr_pure rfl) rfl ?_
        refine TL.run (pr_pure rfl) rfl ?_
        refine TL.run (pr_pure rfl) rfl ?_
        refine TL.nil ?_
        refine TX.seqN ?_
        refine TC.seq ?_
        refine TC.region ?_
        refine TL.run (pr_pure rfl) rfl ?_
        refine TL.run (pr_pure rfl) rfl ?_
        refine TL.run (pr_pure rfl) rfl ?_
        refine TL.callS (enters rfl rfl rfl rfl) (Kind_ok root hT hE hN) rfl ?_
        refine TL.run (pr_pure rfl) rfl ?_
        refine TL.run (pr_pure rfl) rfl ?_
        refine TL.run (pr_pure rfl) rfl ?_
        refine TL.run (pr_pure rfl) rfl ?_
        refine TL.run (pr_pure rfl) rfl ?_
        refine TL.nil ?_
        refine TX.seqN ?_
        refine TC.seq ?_
        refine TC.region ?_
        refine TL.run (pr_pure rfl) rfl ?_
        refine TL.run (pr_pure rfl) rfl ?_
        refine TL.run (pr_pure rfl) rfl ?_
        refine TL.run (pr_pure rfl) rfl ?_
        refine TL.split (s := 38) rfl (fun g38 => ?_) (fun g38 => ?_)
        ·
          have q38 := of_decide_eq_true g38
          refine TL.gdY rfl rfl (pr_pure rfl) rfl ?_
          refine TL.gdY rfl rfl (pr_pure rfl) rfl ?_
          refine TL.gdY rfl rfl (pr_pure rfl) rfl ?_
          refine TL.run (pr_pure rfl) rfl ?_
          refine TL.run (pr_pure rfl) rfl ?_
          refine TL.nil ?_
          refine TX.seqN ?_
          refine TC.ret ?_
          exact TX.finS (.inr rfl) (results1 rfl (RVal.tmp rfl)) (congrArg Value.bool (by first | rfl | simp_all [of_kind]))
        ·
          have q38 := of_decide_eq_false g38
          refine TL.gdN rfl rfl rfl rfl ?_
          refine TL.gdN rfl rfl rfl rfl ?_
          refine TL.gdN rfl rfl rfl rfl ?_
          refine TL.run (pr_pure rfl) rfl ?_
          refine TL.run (pr_pure rfl) rfl ?_
          refine TL.nil ?_
          refine TX.seqN ?_
          refine TC.ret ?_
          exact TX.finS (.inr rfl) (results1 rfl (RVal.tmp rfl)) (congrArg Value.bool (by first | rfl | simp_all [of_kind]))
end Go.Sx
