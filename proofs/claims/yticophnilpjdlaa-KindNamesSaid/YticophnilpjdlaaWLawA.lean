import Derived.Test.YticophnilpjdlaaWKref
import Derived.Test.YticophnilpjdlaaWKind
import Derived.Test.YticophnilpjdlaaPureE
import Derived.Test.YticophnilpjdlaaSx7
set_option linter.unusedVariables false
set_option linter.unusedSimpArgs false
namespace Go.Sx
open Go Go.Proofs
set_option maxRecDepth 100000 in
set_option maxHeartbeats 1000000 in
theorem first5_ok {H : Hp} :
    FnS Try.prog 8 [] H (.bool true) := by
  have hN : ∀ t ∈ ([⟨0, [120], 0, [], -1, -1⟩, ⟨1, [], 1, [], -1, -1⟩, ⟨6, [], 0, [], 0, 1⟩] : List Term), t.name.length ≤ 9223372036854775807 := by decide
  refine FnS.enter Try.func8 Try.ntmps8 rfl rfl (fun w0 => ?_)
  refine TC.seq ?_
  refine TC.region ?_
  refine TL.run (pr_pure rfl) rfl ?_
  refine TL.nil ?_
  refine TX.seqN ?_
  refine TC.seq ?_
  refine TC.region ?_
  refine TL.run (pr_build rfl rfl) rfl ?_
  refine TL.run (pr_build rfl rfl) rfl ?_
  refine TL.run (pr_build rfl rfl) rfl ?_
  refine TL.bslice rfl rfl rfl rfl (fun b11 => ?_)
  refine TL.run (pr_pure rfl) rfl ?_
  refine TL.nil ?_
  refine TX.pub (by simp) (fun H_b11 le_b11 rd_b11 => ?_)
  have hT : RdSl H_b11 6 Term.cells _ [⟨0, [120], 0, [], -1, -1⟩, ⟨1, [], 1, [], -1, -1⟩, ⟨6, [], 0, [], 0, 1⟩] := RdSl.blk (cap := 3) rd_b11 (by intro x hx; rfl) rfl (by decide)
  refine TX.seqN ?_
  refine TC.seq ?_
  refine TC.region ?_
  refine TL.run (pr_pure rfl) rfl ?_
  refine TL.run (pr_build rfl rfl) rfl ?_
  refine TL.run (pr_build rfl rfl) rfl ?_
  refine TL.bslice rfl rfl rfl rfl (fun b16 => ?_)
  refine TL.pub (by simp) (fun H_b16 le_b16 rd_b16 => ?_)
  have hE : RdSl H_b16 3 Typing.cells _ [⟨[120], 2, 0⟩] := RdSl.blk (cap := 1) rd_b16 (by intro x hx; rfl) rfl (by decide)
  replace hT := hT.le le_b16
  have e17 := Of_ok 2 hT hE hN
  rw [show ofS [⟨0, [120], 0, [], -1, -1⟩, ⟨1, [], 1, [], -1, -1⟩, ⟨6, [], 0, [], 0, 1⟩] 2 [⟨[120], 2, 0⟩] = (0, 502) by decide +kernel] at e17
  refine TL.callS (enters rfl rfl rfl rfl) e17 rfl ?_
  refine TL.run (pr_pure rfl) rfl ?_
  refine TL.run (pr_pure (v := .int .i64 0) rfl) rfl ?_
  refine TL.run (pr_pure (v := .int .i64 502) rfl) rfl ?_
  refine TL.run (pr_pure rfl) rfl ?_
  refine TL.run (pr_pure rfl) rfl ?_
  refine TL.nil ?_
  refine TX.seqN ?_
  refine TC.seq ?_
  refine TC.region ?_
  refine TL.run (pr_pure rfl) rfl ?_
  refine TL.run (pr_build rfl rfl) rfl ?_
  refine TL.run (pr_build rfl rfl) rfl ?_
  refine TL.bslice rfl rfl rfl rfl (fun b24 => ?_)
  refine TL.pub (by simp) (fun H_b24 le_b24 rd_b24 => ?_)
  have hE : RdSl H_b24 3 Typing.cells _ [⟨[120], 1, 0⟩] := RdSl.blk (cap := 1) rd_b24 (by intro x hx; rfl) rfl (by decide)
  replace hT := hT.le le_b24
  have e25 := Of_ok 2 hT hE hN
  rw [show ofS [⟨0, [120], 0, [], -1, -1⟩, ⟨1, [], 1, [], -1, -1⟩, ⟨6, [], 0, [], 0, 1⟩] 2 [⟨[120], 1, 0⟩] = (1, 0) by decide +kernel] at e25
  refine TL.callS (enters rfl rfl rfl rfl) e25 rfl ?_
  refine TL.run (pr_pure rfl) rfl ?_
  refine TL.run (pr_pure (v := .int .i64 1) rfl) rfl ?_
  refine TL.run (pr_pure (v := .int .i64 0) rfl) rfl ?_
  refine TL.run (pr_pure rfl) rfl ?_
  refine TL.run (pr_pure rfl) rfl ?_
  refine TL.nil ?_
  refine TX.seqN ?_
  refine TC.seq ?_
  refine TC.region ?_
  refine TL.run (pr_pure rfl) rfl ?_
  have hE : RdSl H_b24 3 Typing.cells (.slice none 0 0) [] := RdSl.nil
  have e30 := Of_ok 2 hT hE hN
  rw [show ofS [⟨0, [120], 0, [], -1, -1⟩, ⟨1, [], 1, [], -1, -1⟩, ⟨6, [], 0, [], 0, 1⟩] 2 [] = (0, 501) by decide +kernel] at e30
  refine TL.callS (enters rfl rfl rfl rfl) e30 rfl ?_
  refine TL.run (pr_pure rfl) rfl ?_
  refine TL.run (pr_pure (v := .int .i64 0) rfl) rfl ?_
  refine TL.run (pr_pure (v := .int .i64 501) rfl) rfl ?_
  refine TL.run (pr_pure rfl) rfl ?_
  refine TL.run (pr_pure rfl) rfl ?_
  refine TL.nil ?_
  refine TX.seqN ?_
  refine TC.seq ?_
  refine TC.region ?_
  refine TL.run (pr_pure rfl) rfl ?_
  refine TL.run (pr_pure rfl) rfl ?_
  refine TL.run (pr_pure rfl) rfl ?_
  refine TL.gdY rfl rfl (pr_pure rfl) rfl ?_
  refine TL.gdY rfl rfl (pr_pure rfl) rfl ?_
  refine TL.run (pr_pure rfl) rfl ?_
  refine TL.run (pr_pure rfl) rfl ?_
  refine TL.gdY rfl rfl (pr_pure rfl) rfl ?_
  refine TL.gdY rfl rfl (pr_pure rfl) rfl ?_
  refine TL.run (pr_pure rfl) rfl ?_
  refine TL.run (pr_pure rfl) rfl ?_
  refine TL.gdY rfl rfl (pr_pure rfl) rfl ?_
  refine TL.gdY rfl rfl (pr_pure rfl) rfl ?_
  refine TL.run (pr_pure rfl) rfl ?_
  refine TL.run (pr_pure rfl) rfl ?_
  refine TL.nil ?_
  refine TX.seqN ?_
  refine TC.ret ?_
  exact TX.finS (.inr rfl) (results1 rfl (RVal.tmp rfl)) rfl

set_option maxRecDepth 100000 in
set_option maxHeartbeats 1000000 in
theorem KindTells_ok {H : Hp} {l : List Term} {env : List Typing} {v ve : Value} (root : Int) (hT : RdSl H 6 Term.cells v l) (hE : RdSl H 3 Typing.cells ve env) (hN : ∀ t ∈ l, t.name.length ≤ 9223372036854775807) :
    FnS Try.prog 3 [v, .int .i64 root, ve] H (.bool true) := by
  refine FnS.enter Try.func3 Try.ntmps3 rfl rfl (fun w0 => ?_)
  refine TC.seq ?_
  refine TC.region ?_
  refine TL.run (pr_pure rfl) rfl ?_
  refine TL.nil ?_
  refine TX.seqN ?_
  refine TC.seq ?_
  refine TC.seq ?_
  refine TC.region ?_
  refine TL.callS (enters rfl rfl rfl rfl) (first5_ok) rfl ?_
  refine TL.run (pr_pure rfl) rfl ?_
  refine TL.nil ?_
  refine TX.seqN ?_
  refine TC.cond rfl (fun c12 => ?_) (fun c12 => ?_)
  ·
    exact absurd c12 (by decide)
  ·
    refine TC.skip ?_
    refine TX.seqN ?_
    refine TC.seq ?_
    refine TC.seq ?_
    refine TC.region ?_
    refine TL.run (pr_pure rfl) rfl ?_
    refine TL.run (pr_lenSl rfl rfl hT) rfl ?_
    refine TL.run (pr_pure rfl) rfl ?_
    refine TL.run (pr_pure rfl) rfl ?_
    refine TL.split (s := 16) rfl (fun g16 => ?_) (fun g16 => ?_)
    ·
      have q16 := of_decide_eq_true g16
      refine TL.gdN rfl rfl rfl rfl ?_
      refine TL.gdN rfl rfl rfl rfl ?_
      refine TL.gdN rfl rfl rfl rfl ?_
      refine TL.run (pr_pure rfl) rfl ?_
      refine TL.nil ?_
      refine TX.seqN ?_
      refine TC.condT rfl ?_
      refine TC.seq ?_
      refine TC.region ?_
      refine TL.run (pr_pure rfl) rfl ?_
      refine TL.nil ?_
      refine TX.seqN ?_
      refine TC.ret ?_
      refine TX.thenR ?_
      exact TX.finS (.inr rfl) (results1 rfl (RVal.tmp rfl)) (congrArg Value.bool (by first | rfl | simp_all [of_kind]))
    ·
      have q16 := of_decide_eq_false g16
      refine TL.gdY rfl rfl (pr_pure rfl) rfl ?_
      refine TL.gdY rfl rfl (pr_lenSl rfl rfl hE) rfl ?_
      refine TL.gdY rfl rfl (pr_pure rfl) rfl ?_
      refine TL.run (pr_pure rfl) rfl ?_
      refine TL.nil ?_
      refine TX.seqN ?_
      refine TC.condD rfl (fun c20 => ?_) (fun c20 => ?_)
      ·
        refine TC.seq ?_
        refine TC.region ?_
        refine TL.run (pr_pure rfl) rfl ?_
        refine TL.nil ?_
        refine TX.seqN ?_
        refine TC.ret ?_
        refine TX.thenR ?_
        exact TX.finS (.inr rfl) (results1 rfl (RVal.tmp rfl)) (congrArg Value.bool (by first | rfl | simp_all [of_kind]))
      ·
        refine TC.skip ?_
        refine TX.seqN ?_
        refine TC.seq ?_
        refine TC.region ?_
        refine TL.run (pr_pure rfl) rfl ?_
        refine TL.run (pr_pure rfl) rfl ?_
        refine TL.run (pr_pure rfl) rfl ?_
        refine TL.callS (enters rfl rfl rfl rfl) (Of_ok root hT hE hN) rfl ?_
        refine TL.run (pr_pure rfl) rfl ?_
        refine TL.run (pr_pure rfl) rfl ?_
        refine TL.run (pr_pure rfl) rfl ?_
        refine TL.run (pr_pure rfl) rfl ?_
        refine TL.run (pr_pure rfl) rfl ?_
        refine TL.nil ?_
        refine TX.seqN ?_
        refine TC.seq ?_
        refine TC.region ?_
        refine TL.run (pr_pure rfl) rfl ?_
        refine TL.run (pr_pure rfl) rfl ?_
        refine TL.run (pr_pure rfl) rfl ?_
        refine TL.callS (enters rfl rfl rfl rfl) (Kind_ok root hT hE hN) rfl ?_
        refine TL.run (pr_pure rfl) rfl ?_
        refine TL.run (pr_pure rfl) rfl ?_
        refine TL.run (pr_pure rfl) rfl ?_
        refine TL.run (pr_pure rfl) rfl ?_
        refine TL.run (pr_pure rfl) rfl ?_
        refine TL.nil ?_
        refine TX.seqN ?_
        refine TC.seq ?_
        refine TC.region ?_
        refine TL.run (pr_pure rfl) rfl ?_
        refine TL.run (pr_pure rfl) rfl ?_
        refine TL.run (pr_pure rfl) rfl ?_
        refine TL.run (pr_pure rfl) rfl ?_
        refine TL.split (s := 38) rfl (fun g38 => ?_) (fun g38 => ?_)
        ·
          have q38 := of_decide_eq_true g38
          refine TL.gdY rfl rfl (pr_pure rfl) rfl ?_
          refine TL.gdY rfl rfl (pr_pure rfl) rfl ?_
          refine TL.gdY rfl rfl (pr_pure rfl) rfl ?_
          refine TL.run (pr_pure rfl) rfl ?_
          refine TL.run (pr_pure rfl) rfl ?_
          refine TL.nil ?_
          refine TX.seqN ?_
          refine TC.ret ?_
          exact TX.finS (.inr rfl) (results1 rfl (RVal.tmp rfl)) (congrArg Value.bool (by first | rfl | simp_all [of_kind]))
        ·
          have q38 := of_decide_eq_false g38
          refine TL.gdN rfl rfl rfl rfl ?_
          refine TL.gdN rfl rfl rfl rfl ?_
          refine TL.gdN rfl rfl rfl rfl ?_
          refine TL.run (pr_pure rfl) rfl ?_
          refine TL.run (pr_pure rfl) rfl ?_
          refine TL.nil ?_
          refine TX.seqN ?_
          refine TC.ret ?_
          exact TX.finS (.inr rfl) (results1 rfl (RVal.tmp rfl)) (congrArg Value.bool (by first | rfl | simp_all [of_kind]))

set_option maxRecDepth 100000 in
set_option maxHeartbeats 1000000 in
theorem KindEnds_ok {H : Hp} (kd at_ n : Int) (left : Bool) :
    FnS Try.prog 4 [.int .i64 kd, .bool left, .int .i64 at_, .int .i64 n] H (.bool true) := by
  have hk : 6 ≤ 6 + kd % 18446744073709551616 % 14 ∧ 6 + kd % 18446744073709551616 % 14 ≤ 19 := by omega
  refine FnS.enter Try.func4 Try.ntmps4 rfl rfl (fun w0 => ?_)
  refine TC.seq ?_
  refine TC.region ?_
  refine TL.run (pr_pure rfl) rfl ?_
  refine TL.nil ?_
  refine TX.seqN ?_
  refine TC.seq ?_
  refine TC.seq ?_
  refine TC.region ?_
  refine TL.callS (enters rfl rfl rfl rfl) (first5_ok) rfl ?_
  refine TL.run (pr_pure rfl) rfl ?_
  refine TL.nil ?_
  refine TX.seqN ?_
  refine TC.cond rfl (fun c20 => ?_) (fun c20 => ?_)
  ·
    exact absurd c20 (by decide)
  ·
    refine TC.skip ?_
    refine TX.seqN ?_
    refine TC.seq ?_
    refine TC.region ?_
    refine TL.run (pr_pure rfl) rfl ?_
    refine TL.run (pr_build rfl rfl) rfl ?_
    refine TL.run (pr_build rfl rfl) rfl ?_
    refine TL.bslice rfl rfl rfl rfl (fun b24 => ?_)
    refine TL.run (pr_pure rfl) rfl ?_
    refine TL.nil ?_
    refine TX.seqN ?_
    refine TC.seq ?_
    refine TC.region ?_
    refine TL.run (pr_build rfl rfl) rfl ?_
    refine TL.alloc rfl (fun b10 => ?_)
    refine TL.storeA rfl rfl rfl rfl rfl (.here _) rfl rfl ?_
    refine TL.nil ?_
    refine TX.seqN ?_
    refine TC.seq ?_
    refine TC.region ?_
    refine TL.run (pr_pure rfl) rfl ?_
    refine TL.run (pr_build rfl rfl) rfl ?_
    refine TL.alloc rfl (fun b11 => ?_)
    refine TL.storeA rfl rfl rfl rfl rfl (.here _) rfl rfl ?_
    refine TL.nil ?_
    refine TX.seqN ?_
    refine TC.seq ?_
    refine TC.region ?_
    refine TL.run (pr_ownA rfl (.there _ (.here _)) rfl) rfl ?_
    refine TL.bslice rfl rfl rfl rfl (fun b30 => ?_)
    refine TL.run (pr_pure rfl) rfl ?_
    refine TL.front (.there _ (.there _ (.there _ (.here _)))) ?_
    refine TL.pub (by simp) (fun H_b24 le_b24 rd_b24 => ?_)
    refine TL.pub (by simp) (fun H_b30 le_b30 rd_b30 => ?_)
    have hE : RdSl H_b24 3 Typing.cells _ [⟨[99], 5, at_⟩] := RdSl.blk (cap := 1) rd_b24 (by intro x hx; rfl) rfl (by simp)
    replace hE := hE.le le_b30
    have hT : RdSl H_b30 6 Term.cells _ [⟨0, [99], 0, [], -1, -1⟩] := RdSl.blk (cap := 1) rd_b30 (by intro x hx; rfl) rfl (by decide)
    have e32 := Of_ok 0 hT hE (by simp)
    rw [ends_c] at e32
    refine TL.callS (enters rfl rfl rfl rfl) e32 rfl ?_
    refine TL.run (pr_pure rfl) rfl ?_
    refine TL.run (pr_pure (v := .int .i64 5) rfl) rfl ?_
    refine TL.run (pr_pure (v := .int .i64 0) rfl) rfl ?_
    refine TL.run (pr_pure rfl) rfl ?_
    refine TL.run (pr_pure rfl) rfl ?_
    refine TL.nil ?_
    refine TX.seqN ?_
    refine TC.seq ?_
    refine TC.region ?_
    refine TL.run (pr_pure rfl) rfl ?_
    refine TL.run (pr_conv rfl) rfl ?_
    refine TL.run (pr_rem rfl rfl (by decide)) rfl ?_
    refine TL.run (PR.to (pr_conv rfl) (congrArg (Value.int .i64) (mod_conv kd (m := 14) (by decide) (by decide)))) rfl ?_
    refine TL.run (pr_add rfl rfl (by omega) (by omega)) rfl ?_
    refine TL.run (pr_pure rfl) rfl ?_
    refine TL.nil ?_
    refine TX.seqN ?_
    refine TC.seq ?_
    refine TC.region ?_
    refine TL.run (pr_pure rfl) rfl ?_
    refine TL.run (pr_build rfl rfl) rfl ?_
    refine TL.alloc rfl (fun b15 => ?_)
    refine TL.storeA rfl rfl rfl rfl rfl (.here _) rfl rfl ?_
    refine TL.nil ?_
    refine TX.seqN ?_
    refine TC.seq ?_
    refine TC.region ?_
    refine TL.run (pr_ownA rfl (.there _ (.there _ (.here _))) rfl) rfl ?_
    refine TL.run (pr_ownA rfl (.there _ (.here _)) rfl) rfl ?_
    refine TL.run (pr_ownA rfl (.here _) rfl) rfl ?_
    refine TL.bslice rfl rfl rfl rfl (fun b45 => ?_)
    refine TL.run (pr_pure rfl) rfl ?_
    refine TL.nil ?_
    refine TX.seqN ?_
    refine TC.seq ?_
    refine TC.seq ?_
    refine TC.region ?_
    refine TL.run (pr_pure rfl) rfl ?_
    refine TL.run (pr_pure rfl) rfl ?_
    refine TL.nil ?_
    refine TX.seqN ?_
    refine TC.cond rfl (fun c47 => ?_) (fun c47 => ?_)
    ·
      refine TC.region ?_
      refine TL.run (pr_ownA rfl (.there _ (.there _ (.here _))) rfl) rfl ?_
      refine TL.run (pr_ownA rfl (.there _ (.there _ (.there _ (.here _)))) rfl) rfl ?_
      refine TL.run (pr_ownA rfl (.there _ (.here _)) rfl) rfl ?_
      refine TL.bslice rfl rfl rfl rfl (fun b51 => ?_)
      refine TL.run (pr_pure rfl) rfl ?_
      refine TL.nil ?_
      refine TX.seqN ?_
      refine TC.seq ?_
      refine TC.seq ?_
      refine TC.region ?_
      refine TL.run (pr_pure rfl) rfl ?_
      refine TL.run (pr_pure rfl) rfl ?_
      refine TL.run (pr_pure rfl) rfl ?_
      refine TL.split (s := 54) rfl (fun g54 => ?_) (fun g54 => ?_)
      ·
        have q54 := of_decide_eq_true g54
        refine TL.gdN rfl rfl rfl rfl ?_
        refine TL.gdN rfl rfl rfl rfl ?_
        refine TL.run (pr_pure rfl) rfl ?_
        refine TL.nil ?_
        refine TX.seqN ?_
        refine TC.condT rfl ?_
        refine TC.region ?_
        refine TL.run (pr_ownA rfl (.there _ (.there _ (.there _ (.there _ (.here _))))) rfl) rfl ?_
        refine TL.run (pr_pure rfl) rfl ?_
        refine TL.run (pr_build rfl rfl) rfl ?_
        refine TL.bslice rfl rfl rfl rfl (fun b61 => ?_)
        refine TL.run (pr_pure rfl) rfl ?_
        refine TL.nil ?_
        refine TX.seqN ?_
        refine TC.seq ?_
        refine TC.region ?_
        refine TL.run (pr_pure rfl) rfl ?_
        refine TL.run (pr_pure rfl) rfl ?_
        refine TL.run (pr_lenS rfl rfl) rfl ?_
        refine TL.run (pr_sub rfl rfl (by omega) (by omega)) rfl ?_
        refine TL.run (pr_pure rfl) rfl ?_
        refine TL.pub (by simp) (fun H_b61 le_b61 rd_b61 => ?_)
        have hT2 : RdSl H_b61 6 Term.cells _ [⟨0, [99], 0, [], -1, -1⟩, ⟨6 + kd % 18446744073709551616 % 14, [], 0, [], 0, -1⟩] := RdSl.blk (cap := 2) rd_b61 (by intro x hx; rfl) rfl (by simp)
        have e68 := Of_ok 1 hT2 (hE.le le_b61) (by simp)
        rw [ends_1 at_ (by first | exact .inl q54 | exact .inr c57)] at e68
        refine TL.callS (enters rfl rfl rfl rfl) e68 rfl ?_
        refine TL.run (pr_pure rfl) rfl ?_
        refine TL.run (pr_pure (v := .int .i64 0) rfl) rfl ?_
        refine TL.run (pr_pure (v := .int .i64 502) rfl) rfl ?_
        refine TL.run (pr_pure rfl) rfl ?_
        refine TL.run (pr_pure rfl) rfl ?_
        refine TL.nil ?_
        refine TX.seqN ?_
        refine TC.seq ?_
        refine TC.region ?_
        refine TL.run (pr_pure rfl) rfl ?_
        refine TL.run (pr_pure rfl) rfl ?_
        refine TL.run (pr_pure rfl) rfl ?_
        refine TL.gdY rfl rfl (pr_pure rfl) rfl ?_
        refine TL.gdY rfl rfl (pr_pure rfl) rfl ?_
        refine TL.run (pr_pure rfl) rfl ?_
        refine TL.run (pr_pure rfl) rfl ?_
        refine TL.gdY rfl rfl (pr_pure rfl) rfl ?_
        refine TL.gdY rfl rfl (pr_pure rfl) rfl ?_
        refine TL.run (pr_pure rfl) rfl ?_
        refine TL.run (pr_pure rfl) rfl ?_
        refine TL.nil ?_
        refine TX.seqN ?_
        refine TC.ret ?_
        exact TX.finS (.inr rfl) (results1 rfl (RVal.tmp rfl)) rfl
      ·
        have q54 := of_decide_eq_false g54
        refine TL.gdY rfl rfl (pr_pure rfl) rfl ?_
        refine TL.gdY rfl rfl (pr_pure rfl) rfl ?_
        refine TL.run (pr_pure rfl) rfl ?_
        refine TL.nil ?_
        refine TX.seqN ?_
        refine TC.condD rfl (fun c57 => ?_) (fun c57 => ?_)
        ·
          refine TC.region ?_
          refine TL.run (pr_ownA rfl (.there _ (.there _ (.there _ (.there _ (.here _))))) rfl) rfl ?_
          refine TL.run (pr_pure rfl) rfl ?_
          refine TL.run (pr_build rfl rfl) rfl ?_
          refine TL.bslice rfl rfl rfl rfl (fun b61 => ?_)
          refine TL.run (pr_pure rfl) rfl ?_
          refine TL.nil ?_
          refine TX.seqN ?_
          refine TC.seq ?_
          refine TC.region ?_
          refine TL.run (pr_pure rfl) rfl ?_
          refine TL.run (pr_pure rfl) rfl ?_
          refine TL.run (pr_lenS rfl rfl) rfl ?_
          refine TL.run (pr_sub rfl rfl (by omega) (by omega)) rfl ?_
          refine TL.run (pr_pure rfl) rfl ?_
          refine TL.pub (by simp) (fun H_b61 le_b61 rd_b61 => ?_)
          have hT2 : RdSl H_b61 6 Term.cells _ [⟨0, [99], 0, [], -1, -1⟩, ⟨6 + kd % 18446744073709551616 % 14, [], 0, [], 0, -1⟩] := RdSl.blk (cap := 2) rd_b61 (by intro x hx; rfl) rfl (by simp)
          have e68 := Of_ok 1 hT2 (hE.le le_b61) (by simp)
          rw [ends_1 at_ (by first | exact .inl q54 | exact .inr c57)] at e68
          refine TL.callS (enters rfl rfl rfl rfl) e68 rfl ?_
          refine TL.run (pr_pure rfl) rfl ?_
          refine TL.run (pr_pure (v := .int .i64 0) rfl) rfl ?_
          refine TL.run (pr_pure (v := .int .i64 502) rfl) rfl ?_
          refine TL.run (pr_pure rfl) rfl ?_
          refine TL.run (pr_pure rfl) rfl ?_
          refine TL.nil ?_
          refine TX.seqN ?_
          refine TC.seq ?_
          refine TC.region ?_
          refine TL.run (pr_pure rfl) rfl ?_
          refine TL.run (pr_pure rfl) rfl ?_
          refine TL.run (pr_pure rfl) rfl ?_
          refine TL.gdY rfl rfl (pr_pure rfl) rfl ?_
          refine TL.gdY rfl rfl (pr_pure rfl) rfl ?_
          refine TL.run (pr_pure rfl) rfl ?_
          refine TL.run (pr_pure rfl) rfl ?_
          refine TL.gdY rfl rfl (pr_pure rfl) rfl ?_
          refine TL.gdY rfl rfl (pr_pure rfl) rfl ?_
          refine TL.run (pr_pure rfl) rfl ?_
          refine TL.run (pr_pure rfl) rfl ?_
          refine TL.nil ?_
          refine TX.seqN ?_
          refine TC.ret ?_
          exact TX.finS (.inr rfl) (results1 rfl (RVal.tmp rfl)) rfl
        ·
          refine TC.skip ?_
          refine TX.seqN ?_
          refine TC.seq ?_
          refine TC.region ?_
          refine TL.run (pr_pure rfl) rfl ?_
          refine TL.run (pr_pure rfl) rfl ?_
          refine TL.run (pr_lenS rfl rfl) rfl ?_
          refine TL.run (pr_sub rfl rfl (by omega) (by omega)) rfl ?_
          refine TL.run (pr_pure rfl) rfl ?_
          refine TL.pub (by simp) (fun H_b51 le_b51 rd_b51 => ?_)
          have hT2 : RdSl H_b51 6 Term.cells _ [⟨1, [], n, [], -1, -1⟩, ⟨0, [99], 0, [], -1, -1⟩, ⟨6 + kd % 18446744073709551616 % 14, [], 0, [], 0, 1⟩] := RdSl.blk (cap := 3) rd_b51 (by intro x hx; rfl) rfl (by simp)
          have e68 := Of_ok 2 hT2 (hE.le le_b51) (by simp)
          rw [ends_r n at_ hk q54 c57] at e68
          refine TL.callS (enters rfl rfl rfl rfl) e68 rfl ?_
          refine TL.run (pr_pure rfl) rfl ?_
          refine TL.run (pr_pure (v := .int .i64 0) rfl) rfl ?_
          refine TL.run (pr_pure (v := .int .i64 502) rfl) rfl ?_
          refine TL.run (pr_pure rfl) rfl ?_
          refine TL.run (pr_pure rfl) rfl ?_
          refine TL.nil ?_
          refine TX.seqN ?_
          refine TC.seq ?_
          refine TC.region ?_
          refine TL.run (pr_pure rfl) rfl ?_
          refine TL.run (pr_pure rfl) rfl ?_
          refine TL.run (pr_pure rfl) rfl ?_
          refine TL.gdY rfl rfl (pr_pure rfl) rfl ?_
          refine TL.gdY rfl rfl (pr_pure rfl) rfl ?_
          refine TL.run (pr_pure rfl) rfl ?_
          refine TL.run (pr_pure rfl) rfl ?_
          refine TL.gdY rfl rfl (pr_pure rfl) rfl ?_
          refine TL.gdY rfl rfl (pr_pure rfl) rfl ?_
          refine TL.run (pr_pure rfl) rfl ?_
          refine TL.run (pr_pure rfl) rfl ?_
          refine TL.nil ?_
          refine TX.seqN ?_
          refine TC.ret ?_
          exact TX.finS (.inr rfl) (results1 rfl (RVal.tmp rfl)) rfl
    ·
      refine TC.skip ?_
      refine TX.seqN ?_
      refine TC.seq ?_
      refine TC.seq ?_
      refine TC.region ?_
      refine TL.run (pr_pure rfl) rfl ?_
      refine TL.run (pr_pure rfl) rfl ?_
      refine TL.run (pr_pure rfl) rfl ?_
      refine TL.split (s := 54) rfl (fun g54 => ?_) (fun g54 => ?_)
      ·
        have q54 := of_decide_eq_true g54
        refine TL.gdN rfl rfl rfl rfl ?_
        refine TL.gdN rfl rfl rfl rfl ?_
        refine TL.run (pr_pure rfl) rfl ?_
        refine TL.nil ?_
        refine TX.seqN ?_
        refine TC.condT rfl ?_
        refine TC.region ?_
        refine TL.run (pr_ownA rfl (.there _ (.there _ (.there _ (.here _)))) rfl) rfl ?_
        refine TL.run (pr_pure rfl) rfl ?_
        refine TL.run (pr_build rfl rfl) rfl ?_
        refine TL.bslice rfl rfl rfl rfl (fun b61 => ?_)
        refine TL.run (pr_pure rfl) rfl ?_
        refine TL.nil ?_
        refine TX.seqN ?_
        refine TC.seq ?_
        refine TC.region ?_
        refine TL.run (pr_pure rfl) rfl ?_
        refine TL.run (pr_pure rfl) rfl ?_
        refine TL.run (pr_lenS rfl rfl) rfl ?_
        refine TL.run (pr_sub rfl rfl (by omega) (by omega)) rfl ?_
        refine TL.run (pr_pure rfl) rfl ?_
        refine TL.pub (by simp) (fun H_b61 le_b61 rd_b61 => ?_)
        have hT2 : RdSl H_b61 6 Term.cells _ [⟨0, [99], 0, [], -1, -1⟩, ⟨6 + kd % 18446744073709551616 % 14, [], 0, [], 0, -1⟩] := RdSl.blk (cap := 2) rd_b61 (by intro x hx; rfl) rfl (by simp)
        have e68 := Of_ok 1 hT2 (hE.le le_b61) (by simp)
        rw [ends_1 at_ (by first | exact .inl q54 | exact .inr c57)] at e68
        refine TL.callS (enters rfl rfl rfl rfl) e68 rfl ?_
        refine TL.run (pr_pure rfl) rfl ?_
        refine TL.run (pr_pure (v := .int .i64 0) rfl) rfl ?_
        refine TL.run (pr_pure (v := .int .i64 502) rfl) rfl ?_
        refine TL.run (pr_pure rfl) rfl ?_
        refine TL.run (pr_pure rfl) rfl ?_
        refine TL.nil ?_
        refine TX.seqN ?_
        refine TC.seq ?_
        refine TC.region ?_
        refine TL.run (pr_pure rfl) rfl ?_
        refine TL.run (pr_pure rfl) rfl ?_
        refine TL.run (pr_pure rfl) rfl ?_
        refine TL.gdY rfl rfl (pr_pure rfl) rfl ?_
        refine TL.gdY rfl rfl (pr_pure rfl) rfl ?_
        refine TL.run (pr_pure rfl) rfl ?_
        refine TL.run (pr_pure rfl) rfl ?_
        refine TL.gdY rfl rfl (pr_pure rfl) rfl ?_
        refine TL.gdY rfl rfl (pr_pure rfl) rfl ?_
        refine TL.run (pr_pure rfl) rfl ?_
        refine TL.run (pr_pure rfl) rfl ?_
        refine TL.nil ?_
        refine TX.seqN ?_
        refine TC.ret ?_
        exact TX.finS (.inr rfl) (results1 rfl (RVal.tmp rfl)) rfl
      ·
        have q54 := of_decide_eq_false g54
        refine TL.gdY rfl rfl (pr_pure rfl) rfl ?_
        refine TL.gdY rfl rfl (pr_pure rfl) rfl ?_
        refine TL.run (pr_pure rfl) rfl ?_
        refine TL.nil ?_
        refine TX.seqN ?_
        refine TC.condD rfl (fun c57 => ?_) (fun c57 => ?_)
        ·
          refine TC.region ?_
          refine TL.run (pr_ownA rfl (.there _ (.there _ (.there _ (.here _)))) rfl) rfl ?_
          refine TL.run (pr_pure rfl) rfl ?_
          refine TL.run (pr_build rfl rfl) rfl ?_
          refine TL.bslice rfl rfl rfl rfl (fun b61 => ?_)
          refine TL.run (pr_pure rfl) rfl ?_
          refine TL.nil ?_
          refine TX.seqN ?_
          refine TC.seq ?_
          refine TC.region ?_
          refine TL.run (pr_pure rfl) rfl ?_
          refine TL.run (pr_pure rfl) rfl ?_
          refine TL.run (pr_lenS rfl rfl) rfl ?_
          refine TL.run (pr_sub rfl rfl (by omega) (by omega)) rfl ?_
          refine TL.run (pr_pure rfl) rfl ?_
          refine TL.pub (by simp) (fun H_b61 le_b61 rd_b61 => ?_)
          have hT2 : RdSl H_b61 6 Term.cells _ [⟨0, [99], 0, [], -1, -1⟩, ⟨6 + kd % 18446744073709551616 % 14, [], 0, [], 0, -1⟩] := RdSl.blk (cap := 2) rd_b61 (by intro x hx; rfl) rfl (by simp)
          have e68 := Of_ok 1 hT2 (hE.le le_b61) (by simp)
          rw [ends_1 at_ (by first | exact .inl q54 | exact .inr c57)] at e68
          refine TL.callS (enters rfl rfl rfl rfl) e68 rfl ?_
          refine TL.run (pr_pure rfl) rfl ?_
          refine TL.run (pr_pure (v := .int .i64 0) rfl) rfl ?_
          refine TL.run (pr_pure (v := .int .i64 502) rfl) rfl ?_
          refine TL.run (pr_pure rfl) rfl ?_
          refine TL.run (pr_pure rfl) rfl ?_
          refine TL.nil ?_
          refine TX.seqN ?_
          refine TC.seq ?_
          refine TC.region ?_
          refine TL.run (pr_pure rfl) rfl ?_
          refine TL.run (pr_pure rfl) rfl ?_
          refine TL.run (pr_pure rfl) rfl ?_
          refine TL.gdY rfl rfl (pr_pure rfl) rfl ?_
          refine TL.gdY rfl rfl (pr_pure rfl) rfl ?_
          refine TL.run (pr_pure rfl) rfl ?_
          refine TL.run (pr_pure rfl) rfl ?_
          refine TL.gdY rfl rfl (pr_pure rfl) rfl ?_
          refine TL.gdY rfl rfl (pr_pure rfl) rfl ?_
          refine TL.run (pr_pure rfl) rfl ?_
          refine TL.run (pr_pure rfl) rfl ?_
          refine TL.nil ?_
          refine TX.seqN ?_
          refine TC.ret ?_
          exact TX.finS (.inr rfl) (results1 rfl (RVal.tmp rfl)) rfl
        ·
          refine TC.skip ?_
          refine TX.seqN ?_
          refine TC.seq ?_
          refine TC.region ?_
          refine TL.run (pr_pure rfl) rfl ?_
          refine TL.run (pr_pure rfl) rfl ?_
          refine TL.run (pr_lenS rfl rfl) rfl ?_
          refine TL.run (pr_sub rfl rfl (by omega) (by omega)) rfl ?_
          refine TL.run (pr_pure rfl) rfl ?_
          refine TL.pub (by simp) (fun H_b45 le_b45 rd_b45 => ?_)
          have hT2 : RdSl H_b45 6 Term.cells _ [⟨0, [99], 0, [], -1, -1⟩, ⟨1, [], n, [], -1, -1⟩, ⟨6 + kd % 18446744073709551616 % 14, [], 0, [], 0, 1⟩] := RdSl.blk (cap := 3) rd_b45 (by intro x hx; rfl) rfl (by simp)
          have e68 := Of_ok 2 hT2 (hE.le le_b45) (by simp)
          rw [ends_l n at_ hk q54 c57] at e68
          refine TL.callS (enters rfl rfl rfl rfl) e68 rfl ?_
          refine TL.run (pr_pure rfl) rfl ?_
          refine TL.run (pr_pure (v := .int .i64 0) rfl) rfl ?_
          refine TL.run (pr_pure (v := .int .i64 502) rfl) rfl ?_
          refine TL.run (pr_pure rfl) rfl ?_
          refine TL.run (pr_pure rfl) rfl ?_
          refine TL.nil ?_
          refine TX.seqN ?_
          refine TC.seq ?_
          refine TC.region ?_
          refine TL.run (pr_pure rfl) rfl ?_
          refine TL.run (pr_pure rfl) rfl ?_
          refine TL.run (pr_pure rfl) rfl ?_
          refine TL.gdY rfl rfl (pr_pure rfl) rfl ?_
          refine TL.gdY rfl rfl (pr_pure rfl) rfl ?_
          refine TL.run (pr_pure rfl) rfl ?_
          refine TL.run (pr_pure rfl) rfl ?_
          refine TL.gdY rfl rfl (pr_pure rfl) rfl ?_
          refine TL.gdY rfl rfl (pr_pure rfl) rfl ?_
          refine TL.run (pr_pure rfl) rfl ?_
          refine TL.run (pr_pure rfl) rfl ?_
          refine TL.nil ?_
          refine TX.seqN ?_
          refine TC.ret ?_
          exact TX.finS (.inr rfl) (results1 rfl (RVal.tmp rfl)) rfl
end Go.Sx
