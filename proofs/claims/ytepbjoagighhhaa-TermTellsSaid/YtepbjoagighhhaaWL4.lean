import Derived.Test.YtepbjoagighhhaaWVal
import Derived.Test.YtepbjoagighhhaaPureL4
import Derived.Test.YtepbjoagighhhaaSx13
set_option linter.unusedVariables false
set_option linter.unusedSimpArgs false
namespace Go.Sx
open Go Go.Proofs
set_option maxRecDepth 100000 in
set_option maxHeartbeats 1000000 in
theorem num4_ok {H : Hp} (n : Int) :
    FnS Try.prog 22 [.int .i64 n] H (.agg (numT n).cells.toArray) := by
  refine FnS.enter Try.func22 Try.ntmps22 rfl rfl (fun w0 => ?_)
  refine TC.seq ?_
  refine TC.region ?_
  refine TL.alloc rfl (fun b2 => ?_)
  refine TL.nil ?_
  refine TX.seqN ?_
  refine TC.seq ?_
  refine TC.region ?_
  refine TL.run (pr_pure rfl) rfl ?_
  refine TL.run (pr_build rfl rfl) rfl ?_
  refine TL.storeA rfl rfl rfl rfl rfl (.here _) rfl rfl ?_
  refine TL.nil ?_
  refine TX.seqN ?_
  refine TC.ret ?_
  exact TX.finS (.inr rfl) (results1 rfl (RVal.cellA rfl (.here _) rfl)) rfl

set_option maxRecDepth 100000 in
set_option maxHeartbeats 1000000 in
theorem var4_ok {H : Hp} (s : Str) :
    FnS Try.prog 20 [gs s] H (.agg (varT s).cells.toArray) := by
  refine FnS.enter Try.func20 Try.ntmps20 rfl rfl (fun w0 => ?_)
  refine TC.seq ?_
  refine TC.region ?_
  refine TL.alloc rfl (fun b2 => ?_)
  refine TL.nil ?_
  refine TX.seqN ?_
  refine TC.seq ?_
  refine TC.region ?_
  refine TL.run (pr_pure rfl) rfl ?_
  refine TL.run (pr_build rfl rfl) rfl ?_
  refine TL.storeA rfl rfl rfl rfl rfl (.here _) rfl rfl ?_
  refine TL.nil ?_
  refine TX.seqN ?_
  refine TC.ret ?_
  exact TX.finS (.inr rfl) (results1 rfl (RVal.cellA rfl (.here _) rfl)) rfl

set_option maxRecDepth 100000 in
set_option maxHeartbeats 1000000 in
theorem two4_ok {H : Hp} (k l r : Int) :
    FnS Try.prog 21 [.int .i64 k, .int .i64 l, .int .i64 r] H (.agg (twoT k l r).cells.toArray) := by
  refine FnS.enter Try.func21 Try.ntmps21 rfl rfl (fun w0 => ?_)
  refine TC.seq ?_
  refine TC.region ?_
  refine TL.alloc rfl (fun b6 => ?_)
  refine TL.nil ?_
  refine TX.seqN ?_
  refine TC.seq ?_
  refine TC.region ?_
  refine TL.run (pr_pure rfl) rfl ?_
  refine TL.run (pr_pure rfl) rfl ?_
  refine TL.run (pr_pure rfl) rfl ?_
  refine TL.run (pr_build rfl rfl) rfl ?_
  refine TL.storeA rfl rfl rfl rfl rfl (.here _) rfl rfl ?_
  refine TL.nil ?_
  refine TX.seqN ?_
  refine TC.ret ?_
  exact TX.finS (.inr rfl) (results1 rfl (RVal.cellA rfl (.here _) rfl)) rfl

set_option maxRecDepth 100000 in
set_option maxHeartbeats 1000000 in
theorem some4_ok {H : Hp} {env : List Bind} {v : Value} (hE : RdSl H 5 Bind.cells v env) (hEv : EnvOk H env) :
    FnS Try.prog 14 [v] H (.bool (someB env)) := by
  have hmax := hE.max
  refine FnS.enter Try.func14 Try.ntmps14 rfl rfl (fun w0 => ?_)
  refine TC.seq ?_
  refine TC.region ?_
  refine TL.run (pr_pure rfl) rfl ?_
  refine TL.nil ?_
  refine TX.seqN ?_
  refine TC.seq ?_
  refine TC.seq ?_
  refine TC.region ?_
  refine TL.run (pr_pure rfl) rfl ?_
  refine TL.nil ?_
  refine TX.seqN ?_
  refine TC.block ?_
  refine TC.loop (V := fun k => [(3, .int .i64 k)]) (K := [(0, _), (2, _)]) (L := fun k => _) (I := fun k => 0 ≤ k ∧ k ≤ env.length ∧ someL (env.take k.toNat) = true) (μ := fun k => (env.length - k).toNat) (i := (0 : Int)) ⟨rfl, rfl, rfl, trivial⟩ ⟨by omega, by omega, rfl⟩ (fun w hw => hw) (fun k hI => ?_)
  refine TC.seq ?_
  refine TC.seq ?_
  refine TC.region ?_
  refine TL.run (pr_pure rfl) rfl ?_
  refine TL.run (pr_pure rfl) rfl ?_
  refine TL.run (pr_lenSl rfl rfl hE) rfl ?_
  refine TL.run (pr_pure rfl) rfl ?_
  refine TL.nil ?_
  refine TX.seqN ?_
  refine TC.condD rfl (fun c7 => ?_) (fun c7 => ?_)
  ·
    refine TC.skip ?_
    refine TX.seqN ?_
    refine TC.seq ?_
    refine TC.block ?_
    refine TC.seq ?_
    refine TC.region ?_
    obtain ⟨x, hx⟩ := getSome (l := env) hI.1 c7
    have hV : RdSl H 1 I64.cells x.lv x.v.l := hEv x (List.mem_of_getElem? hx)
    have hVm := hV.max
    refine TL.run (pr_pure rfl) rfl ?_
    refine TL.run (pr_pure rfl) rfl ?_
    refine TL.run (pr_indexSl rfl hE rfl (by omega) (by omega)) rfl ?_
    refine TL.run (pr_field rfl) rfl ?_
    refine TL.run (pr_field rfl) rfl ?_
    refine TL.run (pr_el2 hE hx rfl rfl) rfl ?_
    refine TL.run (pr_lenSl rfl rfl hV) rfl ?_
    refine TL.run (pr_pure rfl) rfl ?_
    refine TL.nil ?_
    refine TX.seqN ?_
    refine TC.condD rfl (fun c17 => ?_) (fun c17 => ?_)
    ·
      refine TC.seq ?_
      refine TC.region ?_
      refine TL.run (pr_pure rfl) rfl ?_
      refine TL.nil ?_
      refine TX.seqN ?_
      refine TC.ret ?_
      refine TX.blkR ?_
      refine TX.thenR ?_
      refine TX.thenR ?_
      refine TX.blkR ?_
      refine TX.thenR ?_
      exact TX.finS (.inr rfl) (results1 rfl (RVal.tmp rfl)) (congrArg Value.bool (by first | exact (someB_F hx c17).symm | exact (someB_end (by rw [← take_all c7 hI.1]; exact hI.2.2)).symm))
    ·
      refine TC.skip ?_
      refine TX.blkN ?_
      refine TX.seqN ?_
      refine TC.region ?_
      refine TL.run (pr_pure rfl) rfl ?_
      refine TL.run ((by first | exact pr_add rfl rfl (by omega) (by omega) | exact pr_pure rfl)) rfl ?_
      refine TL.run (pr_pure rfl) rfl ?_
      refine TL.nil ?_
      exact TX.round (k + 1) ⟨by omega, by omega, by rw [take_snoc hI.1 hx]; exact someL_snoc hI.2.2 c17⟩ ⟨rfl, rfl, rfl, trivial⟩ (fun w hw => hw) (by omega)
  ·
    refine TC.exit ?_
    refine TX.thenE ?_
    refine TX.thenE ?_
    refine TX.blkHit ?_
    refine TX.seqN ?_
    refine TC.seq ?_
    refine TC.region ?_
    refine TL.run (pr_pure rfl) rfl ?_
    refine TL.run (pr_lenSl rfl rfl hE) rfl ?_
    refine TL.run (pr_pure rfl) rfl ?_
    refine TL.run (pr_pure rfl) rfl ?_
    refine TL.nil ?_
    refine TX.seqN ?_
    refine TC.ret ?_
    exact TX.finS (.inr rfl) (results1 rfl (RVal.tmp rfl)) (congrArg Value.bool (by first | exact (someB_F hx c17).symm | exact (someB_end (by rw [← take_all c7 hI.1]; exact hI.2.2)).symm))

set_option maxRecDepth 100000 in
set_option maxHeartbeats 1000000 in
theorem first4_ok {H : Hp} :
    FnS Try.prog 13 [] H (.bool true) := by
  refine FnS.enter Try.func13 Try.ntmps13 rfl rfl (fun w0 => ?_)
  refine TC.seq ?_
  refine TC.region ?_
  refine TL.run (pr_pure rfl) rfl ?_
  refine TL.nil ?_
  refine TX.seqN ?_
  refine TC.seq ?_
  refine TC.region ?_
  refine TL.callS (enters rfl rfl rfl rfl) (num4_ok _) rfl ?_
  refine TL.callS (enters rfl rfl rfl rfl) (num4_ok _) rfl ?_
  refine TL.callS (enters rfl rfl rfl rfl) (two4_ok _ _ _) rfl ?_
  refine TL.bslice rfl rfl rfl rfl (fun b9 => ?_)
  refine TL.pub (by simp) (fun H_b9 le_b9 rd_b9 => ?_)
  have hT : RdSl H_b9 6 Term.cells _ ([numT 7, numT 0, twoT 9 0 1]) := RdSl.blk (cap := 3) rd_b9 (by intro x hx; rfl) (by kernel_rfl) (by show 3 ≤ 9223372036854775807; decide)
  clear rd_b9
  refine TL.call (enters rfl rfl rfl rfl) (Eval_ok 2 hT binds_nil EnvOk.nil lens_nil (by decide)) rfl (fun v10 H10 hle10 hp10 => ?_)
  obtain ⟨lv10, rfl, hR10⟩ := hp10
  replace hT := hT.le hle10
  obtain ⟨la10, lc10, rfl⟩ := RdSl.len hR10
  refine TL.run (pr_pure rfl) rfl ?_
  refine TL.run (pr_pure rfl) rfl ?_
  refine TL.run (pr_pure rfl) rfl ?_
  refine TL.alloc rfl (fun b1 => ?_)
  refine TL.storeA rfl rfl rfl rfl rfl (.here _) rfl rfl ?_
  refine TL.run (pr_pure rfl) rfl ?_
  refine TL.nil ?_
  refine TX.seqN ?_
  refine TC.seq ?_
  refine TC.region ?_
  refine TL.callS (enters rfl rfl rfl rfl) (num4_ok _) rfl ?_
  refine TL.callS (enters rfl rfl rfl rfl) (var4_ok _) rfl ?_
  refine TL.callS (enters rfl rfl rfl rfl) (two4_ok _ _ _) rfl ?_
  refine TL.bslice rfl rfl rfl rfl (fun b17 => ?_)
  refine TL.run (pr_build rfl rfl) rfl ?_
  refine TL.run (pr_build rfl rfl) rfl ?_
  refine TL.bslice rfl rfl rfl rfl (fun b20 => ?_)
  refine TL.pub (by simp) (fun H_b20 le_b20 rd_b20 => ?_)
  replace hT := hT.le le_b20
  replace hR10 := hR10.le le_b20
  have hX : RdSl H_b20 5 Bind.cells _ ([⟨[120], ⟨1, 5, [], []⟩, .slice none 0 0⟩]) := RdSl.blk (cap := 1) rd_b20 (by intro x hx; rfl) (by kernel_rfl) (by show 1 ≤ 9223372036854775807; decide)
  clear rd_b20
  refine TL.pub (by simp) (fun H_b17 le_b17 rd_b17 => ?_)
  replace hT := hT.le le_b17
  replace hR10 := hR10.le le_b17
  replace hX := hX.le le_b17
  have hU : RdSl H_b17 6 Term.cells _ ([numT 7, varT [120], twoT 6 0 1]) := RdSl.blk (cap := 3) rd_b17 (by intro x hx; rfl) (by kernel_rfl) (by show 3 ≤ 9223372036854775807; decide)
  clear rd_b17
  refine TL.call (enters rfl rfl rfl rfl) (Eval_ok 2 hU hX (by intro b hb; simp at hb; subst hb; exact RdSl.nil) (by simp) (by decide)) rfl (fun v21 H21 hle21 hp21 => ?_)
  obtain ⟨lv21, rfl, hR21⟩ := hp21
  replace hT := hT.le hle21
  replace hR10 := hR10.le hle21
  replace hX := hX.le hle21
  replace hU := hU.le hle21
  obtain ⟨la21, lc21, rfl⟩ := RdSl.len hR21
  refine TL.run (pr_pure rfl) rfl ?_
  refine TL.run (pr_pure rfl) rfl ?_
  refine TL.run (pr_pure rfl) rfl ?_
  refine TL.alloc rfl (fun b3 => ?_)
  refine TL.storeA rfl rfl rfl rfl rfl (.here _) rfl rfl ?_
  refine TL.run (pr_pure rfl) rfl ?_
  refine TL.nil ?_
  refine TX.seqN ?_
  refine TC.seq ?_
  refine TC.region ?_
  refine TL.run (pr_pure rfl) rfl ?_
  refine TL.run (pr_pure rfl) rfl ?_
  refine TL.run (pr_pure rfl) rfl ?_
  refine TL.split (s := 26) rfl (fun g26 => ?_) (fun g26 => ?_)
  ·
    have q26 := of_decide_eq_true g26
    refine TL.gdY rfl rfl (pr_pure rfl) rfl ?_
    refine TL.gdY rfl rfl (pr_pure rfl) rfl ?_
    refine TL.run (pr_pure rfl) rfl ?_
    refine TL.run (pr_pure rfl) rfl ?_
    refine TL.split (s := 30) rfl (fun g30 => ?_) (fun g30 => ?_)
    ·
      have q30 := of_decide_eq_true g30
      refine TL.gdY rfl rfl (pr_field rfl) rfl ?_
      refine TL.gdY rfl rfl (pr_own1 rfl (.here _) rfl) rfl ?_
      refine TL.gdY rfl rfl (pr_pure rfl) rfl ?_
      refine TL.run (pr_pure rfl) rfl ?_
      refine TL.run (pr_pure rfl) rfl ?_
      refine TL.split (s := 35) rfl (fun g35 => ?_) (fun g35 => ?_)
      ·
        have q35 := of_decide_eq_true g35
        refine TL.gdY rfl rfl (pr_field rfl) rfl ?_
        refine TL.gdY rfl rfl (pr_own1 rfl (.here _) rfl) rfl ?_
        refine TL.gdY rfl rfl (pr_pure rfl) rfl ?_
        refine TL.run (pr_pure rfl) rfl ?_
        refine TL.run (pr_pure rfl) rfl ?_
        refine TL.split (s := 40) rfl (fun g40 => ?_) (fun g40 => ?_)
        ·
          have q40 := of_decide_eq_true g40
          refine TL.callSY rfl rfl (enters rfl rfl rfl rfl) (num4_ok _) rfl ?_
          refine TL.gd rfl rfl ?_
          refine TL.bslice rfl rfl rfl rfl (fun b42 => ?_)
          refine TL.pub (by simp) (fun H_b42 le_b42 rd_b42 => ?_)
          replace hT := hT.le le_b42
          replace hR10 := hR10.le le_b42
          replace hX := hX.le le_b42
          replace hU := hU.le le_b42
          replace hR21 := hR21.le le_b42
          have hW : RdSl H_b42 6 Term.cells _ ([numT 1]) := RdSl.blk (cap := 1) rd_b42 (by intro x hx; rfl) (by kernel_rfl) (by show 1 ≤ 9223372036854775807; decide)
          clear rd_b42
          refine TL.callSY rfl rfl (enters rfl rfl rfl rfl) (May_ok 0 hW (by decide)) rfl ?_
          refine TL.run (pr_pure rfl) rfl ?_
          refine TL.run (pr_pure rfl) rfl ?_
          refine TL.split (s := 45) rfl (fun g45 => ?_) (fun g45 => ?_)
          ·
            refine TL.callSY rfl rfl (enters rfl rfl rfl rfl) (May_ok 0 RdSl.nil (by decide)) rfl ?_
            refine TL.gdY rfl rfl (pr_pure rfl) rfl ?_
            refine TL.run (pr_pure rfl) rfl ?_
            refine TL.run (pr_pure rfl) rfl ?_
            refine TL.nil ?_
            refine TX.seqN ?_
            refine TC.ret ?_
            exact TX.finS (.inr rfl) (results1 rfl (RVal.tmp rfl)) (congrArg Value.bool (by first | rfl | (exfalso; simp_all [first4_a, first4_b, first4_c, first4_d]; done)))
          ·
            refine TL.gdN rfl rfl rfl rfl ?_
            refine TL.gdN rfl rfl rfl rfl ?_
            refine TL.run (pr_pure rfl) rfl ?_
            refine TL.run (pr_pure rfl) rfl ?_
            refine TL.nil ?_
            refine TX.seqN ?_
            refine TC.ret ?_
            exact TX.finS (.inr rfl) (results1 rfl (RVal.tmp rfl)) (congrArg Value.bool (by first | rfl | (exfalso; simp_all [first4_a, first4_b, first4_c, first4_d]; done)))
        ·
          have q40 := of_decide_eq_false g40
          refine TL.gdN rfl rfl rfl rfl ?_
          refine TL.gdN rfl rfl rfl rfl ?_
          refine TL.gdN rfl rfl rfl rfl ?_
          refine TL.run (pr_pure rfl) rfl ?_
          refine TL.run (pr_pure rfl) rfl ?_
          refine TL.gdN rfl rfl rfl rfl ?_
          refine TL.gdN rfl rfl rfl rfl ?_
          refine TL.run (pr_pure rfl) rfl ?_
          refine TL.run (pr_pure rfl) rfl ?_
          refine TL.nil ?_
          refine TX.seqN ?_
          refine TC.ret ?_
          exact TX.finS (.inr rfl) (results1 rfl (RVal.tmp rfl)) (congrArg Value.bool (by first | rfl | (exfalso; simp_all [first4_a, first4_b, first4_c, first4_d]; done)))
      ·
        have q35 := of_decide_eq_false g35
        refine TL.gdN rfl rfl rfl rfl ?_
        refine TL.gdN rfl rfl rfl rfl ?_
        refine TL.gdN rfl rfl rfl rfl ?_
        refine TL.run (pr_pure rfl) rfl ?_
        refine TL.run (pr_pure rfl) rfl ?_
        refine TL.gdN rfl rfl rfl rfl ?_
        refine TL.gdN rfl rfl rfl rfl ?_
        refine TL.gdN rfl rfl rfl rfl ?_
        refine TL.run (pr_pure rfl) rfl ?_
        refine TL.run (pr_pure rfl) rfl ?_
        refine TL.gdN rfl rfl rfl rfl ?_
        refine TL.gdN rfl rfl rfl rfl ?_
        refine TL.run (pr_pure rfl) rfl ?_
        refine TL.run (pr_pure rfl) rfl ?_
        refine TL.nil ?_
        refine TX.seqN ?_
        refine TC.ret ?_
        exact TX.finS (.inr rfl) (results1 rfl (RVal.tmp rfl)) (congrArg Value.bool (by first | rfl | (exfalso; simp_all [first4_a, first4_b, first4_c, first4_d]; done)))
    ·
      have q30 := of_decide_eq_false g30
      refine TL.gdN rfl rfl rfl rfl ?_
      refine TL.gdN rfl rfl rfl rfl ?_
      refine TL.gdN rfl rfl rfl rfl ?_
      refine TL.run (pr_pure rfl) rfl ?_
      refine TL.run (pr_pure rfl) rfl ?_
      refine TL.gdN rfl rfl rfl rfl ?_
      refine TL.gdN rfl rfl rfl rfl ?_
      refine TL.gdN rfl rfl rfl rfl ?_
      refine TL.run (pr_pure rfl) rfl ?_
      refine TL.run (pr_pure rfl) rfl ?_
      refine TL.gdN rfl rfl rfl rfl ?_
      refine TL.gdN rfl rfl rfl rfl ?_
      refine TL.gdN rfl rfl rfl rfl ?_
      refine TL.run (pr_pure rfl) rfl ?_
      refine TL.run (pr_pure rfl) rfl ?_
      refine TL.gdN rfl rfl rfl rfl ?_
      refine TL.gdN rfl rfl rfl rfl ?_
      refine TL.run (pr_pure rfl) rfl ?_
      refine TL.run (pr_pure rfl) rfl ?_
      refine TL.nil ?_
      refine TX.seqN ?_
      refine TC.ret ?_
      exact TX.finS (.inr rfl) (results1 rfl (RVal.tmp rfl)) (congrArg Value.bool (by first | rfl | (exfalso; simp_all [first4_a, first4_b, first4_c, first4_d]; done)))
  ·
    have q26 := of_decide_eq_false g26
    refine TL.gdN rfl rfl rfl rfl ?_
    refine TL.gdN rfl rfl rfl rfl ?_
    refine TL.run (pr_pure rfl) rfl ?_
    refine TL.run (pr_pure rfl) rfl ?_
    refine TL.gdN rfl rfl rfl rfl ?_
    refine TL.gdN rfl rfl rfl rfl ?_
    refine TL.gdN rfl rfl rfl rfl ?_
    refine TL.run (pr_pure rfl) rfl ?_
    refine TL.run (pr_pure rfl) rfl ?_
    refine TL.gdN rfl rfl rfl rfl ?_
    refine TL.gdN rfl rfl rfl rfl ?_
    refine TL.gdN rfl rfl rfl rfl ?_
    refine TL.run (pr_pure rfl) rfl ?_
    refine TL.run (pr_pure rfl) rfl ?_
    refine TL.gdN rfl rfl rfl rfl ?_
    refine TL.gdN rfl rfl rfl rfl ?_
    refine TL.gdN rfl rfl rfl rfl ?_
    refine TL.run (pr_pure rfl) rfl ?_
    refine TL.run (pr_pure rfl) rfl ?_
    refine TL.gdN rfl rfl rfl rfl ?_
    refine TL.gdN rfl rfl rfl rfl ?_
    refine TL.run (pr_pure rfl) rfl ?_
    refine TL.run (pr_pure rfl) rfl ?_
    refine TL.nil ?_
    refine TX.seqN ?_
    refine TC.ret ?_
    exact TX.finS (.inr rfl) (results1 rfl (RVal.tmp rfl)) (congrArg Value.bool (by first | rfl | (exfalso; simp_all [first4_a, first4_b, first4_c, first4_d]; done)))
end Go.Sx
