import Derived.Test.YtepbjoagighhhaaWL4
import Derived.Test.YtepbjoagighhhaaWRefE
import Derived.Test.YtepbjoagighhhaaWRefV
import Derived.Test.YtepbjoagighhhaaWVars
set_option linter.unusedVariables false
set_option linter.unusedSimpArgs false
namespace Go.Sx
open Go Go.Proofs
set_option maxRecDepth 100000 in
set_option maxHeartbeats 4000000 in
theorem TermTells_ok {H : Hp} {l : List Term} {env : List Bind} {v ve : Value} (root : Int) (hT : RdSl H 6 Term.cells v l) (hE : RdSl H 5 Bind.cells ve env) (hEv : EnvOk H env) (hN : ∀ t ∈ l, t.name.length ≤ 9223372036854775807) :
    FnS Try.prog 9 [v, .int .i64 root, ve] H (.bool true) := by
  obtain ⟨ta, tc, rfl⟩ := hT.len
  obtain ⟨ea, ec, rfl⟩ := hE.len
  have hmx1 := hE.max
  have hmay := tree_may (l := l) (root := root)
  have hvr := varsR_eq l root
  have hsv := sameV_refl (evalS l root env).1
  refine FnS.enter Try.func9 Try.ntmps9 rfl rfl (fun w0 => ?_)
  refine TC.seq ?_
  refine TC.region ?_
  refine TL.run (pr_pure rfl) rfl ?_
  refine TL.nil ?_
  refine TX.seqN ?_
  refine TC.seq ?_
  refine TC.seq ?_
  refine TC.region ?_
  refine TL.callS (enters rfl rfl rfl rfl) (first4_ok) rfl ?_
  refine TL.run (pr_pure rfl) rfl ?_
  refine TL.nil ?_
  refine TX.seqN ?_
  refine TC.cond rfl (fun c12 => ?_) (fun c12 => ?_)
  ·
    exact absurd c12 (by decide)
  ·
    refine TC.skip ?_
    refine TX.seqN ?_
    refine TC.seq ?_
    refine TC.seq ?_
    refine TC.region ?_
    refine TL.run (pr_pure rfl) rfl ?_
    refine TL.run (pr_lenSl rfl rfl hT) rfl ?_
    refine TL.run (pr_pure rfl) rfl ?_
    refine TL.run (pr_pure rfl) rfl ?_
    refine TL.split (s := 16) rfl (fun g16 => ?_) (fun g16 => ?_)
    ·
      have q16 := of_decide_eq_true g16
      refine TL.gdN rfl rfl rfl rfl ?_
      refine TL.gdN rfl rfl rfl rfl ?_
      refine TL.gdN rfl rfl rfl rfl ?_
      refine TL.run (pr_pure rfl) rfl ?_
      refine TL.nil ?_
      refine TX.seqN ?_
      refine TC.condT rfl ?_
      refine TC.seq ?_
      refine TC.region ?_
      refine TL.run (pr_pure rfl) rfl ?_
      refine TL.nil ?_
      refine TX.seqN ?_
      refine TC.ret ?_
      refine TX.thenR ?_
      exact TX.finS (.inr rfl) (results1 rfl (RVal.tmp rfl)) (congrArg Value.bool (by first | rfl | (simp_all; done)))
    ·
      have q16 := of_decide_eq_false g16
      refine TL.gdY rfl rfl (pr_pure rfl) rfl ?_
      refine TL.callSY rfl rfl (enters rfl rfl rfl rfl) (some4_ok hE hEv) rfl ?_
      refine TL.gdY rfl rfl (pr_pure rfl) rfl ?_
      refine TL.run (pr_pure rfl) rfl ?_
      refine TL.nil ?_
      refine TX.seqN ?_
      refine TC.cond rfl (fun c20 => ?_) (fun c20 => ?_)
      ·
        refine TC.seq ?_
        refine TC.region ?_
        refine TL.run (pr_pure rfl) rfl ?_
        refine TL.nil ?_
        refine TX.seqN ?_
        refine TC.ret ?_
        refine TX.thenR ?_
        exact TX.finS (.inr rfl) (results1 rfl (RVal.tmp rfl)) (congrArg Value.bool (by first | rfl | (simp_all; done)))
      ·
        have hsm : ¬ (200 : Int) < l.length ∧ someB env = true := by simp_all
        have hl : (l.length : Int) ≤ 100000 := by omega
        obtain ⟨hle1, hlen⟩ := someB_T hsm.2
        refine TC.skip ?_
        refine TX.seqN ?_
        refine TC.seq ?_
        refine TC.region ?_
        refine TL.run (pr_pure rfl) rfl ?_
        refine TL.run (pr_pure rfl) rfl ?_
        refine TL.run (pr_pure rfl) rfl ?_
        refine TL.call (enters rfl rfl rfl rfl) (Eval_ok root hT hE hEv hlen hN) rfl (fun v25 H25 hle25 hp25 => ?_)
        obtain ⟨lv25, rfl, hR25⟩ := hp25
        replace hT := hT.le hle25
        replace hE := hE.le hle25
        replace hEv := hEv.le hle25
        obtain ⟨la25, lc25, rfl⟩ := RdSl.len hR25
        refine TL.run (pr_pure rfl) rfl ?_
        refine TL.run (pr_pure rfl) rfl ?_
        refine TL.run (pr_pure rfl) rfl ?_
        refine TL.alloc rfl (fun b7 => ?_)
        refine TL.storeA rfl rfl rfl rfl rfl (.here _) rfl rfl ?_
        refine TL.run (pr_pure rfl) rfl ?_
        refine TL.nil ?_
        refine TX.seqN ?_
        refine TC.seq ?_
        refine TC.region ?_
        refine TL.run (pr_pure rfl) rfl ?_
        refine TL.run (pr_pure rfl) rfl ?_
        refine TL.run (pr_pure rfl) rfl ?_
        refine TL.call (enters rfl rfl rfl rfl) (rEval_ok root hT hE hEv hlen hN) rfl (fun v32 H32 hle32 hp32 => ?_)
        obtain ⟨lv32, rfl, hR32⟩ := hp32
        replace hT := hT.le hle32
        replace hE := hE.le hle32
        replace hEv := hEv.le hle32
        replace hR25 := hR25.le hle32
        obtain ⟨la32, lc32, rfl⟩ := RdSl.len hR32
        refine TL.run (pr_pure rfl) rfl ?_
        refine TL.run (pr_pure rfl) rfl ?_
        refine TL.run (pr_pure rfl) rfl ?_
        refine TL.alloc rfl (fun b9 => ?_)
        refine TL.storeA rfl rfl rfl rfl rfl (.here _) rfl rfl ?_
        refine TL.run (pr_pure rfl) rfl ?_
        refine TL.nil ?_
        refine TX.seqN ?_
        refine TC.seq ?_
        refine TC.region ?_
        refine TL.run (pr_pure rfl) rfl ?_
        refine TL.run (pr_pure rfl) rfl ?_
        refine TL.callS (enters rfl rfl rfl rfl) (May_ok root hT hN) rfl ?_
        refine TL.run (pr_pure rfl) rfl ?_
        refine TL.run (pr_pure rfl) rfl ?_
        refine TL.callS (enters rfl rfl rfl rfl) (TermMay_ok root hT hN) rfl ?_
        refine TL.run (pr_bool rfl rfl rfl) rfl ?_
        refine TL.run (pr_pure rfl) rfl ?_
        refine TL.split (s := 42) rfl (fun g42 => ?_) (fun g42 => ?_)
        ·
          have q42 := of_decide_eq_true g42
          refine TL.gdY rfl rfl (pr_pure rfl) rfl ?_
          refine TL.gdY rfl rfl (pr_pure rfl) rfl ?_
          refine TL.callY rfl rfl (enters rfl rfl rfl rfl) (Vars_ok root hT hN) rfl (fun v45 H45 hle45 hp45 => ?_)
          replace hT := hT.le hle45
          replace hE := hE.le hle45
          replace hEv := hEv.le hle45
          replace hR25 := hR25.le hle45
          replace hR32 := hR32.le hle45
          have hV45 : RdSl H45 1 Str.cells v45 (varsS l root) := hp45
          refine TL.gdY rfl rfl (pr_pure rfl) rfl ?_
          refine TL.gdY rfl rfl (pr_pure rfl) rfl ?_
          refine TL.callY rfl rfl (enters rfl rfl rfl rfl) (rVars_ok root hT hN hl) rfl (fun v48 H48 hle48 hp48 => ?_)
          replace hT := hT.le hle48
          replace hE := hE.le hle48
          replace hEv := hEv.le hle48
          replace hR25 := hR25.le hle48
          replace hR32 := hR32.le hle48
          replace hV45 := hV45.le hle48
          have hV48 : RdSl H48 1 Str.cells v48 (varsR l root) := hp48
          refine TL.callSY rfl rfl (enters rfl rfl rfl rfl) (sameN_ok hV45 hV48) rfl ?_
          refine TL.run (pr_pure rfl) rfl ?_
          refine TL.run (pr_pure rfl) rfl ?_
          refine TL.split (s := 51) rfl (fun g51 => ?_) (fun g51 => ?_)
          ·
            refine TL.gdY rfl rfl (pr_pure rfl) rfl ?_
            refine TL.gdY rfl rfl (pr_pure rfl) rfl ?_
            refine TL.gdY rfl rfl (pr_pure rfl) rfl ?_
            refine TL.run (pr_pure rfl) rfl ?_
            refine TL.run (pr_pure rfl) rfl ?_
            refine TL.split (s := 56) rfl (fun g56 => ?_) (fun g56 => ?_)
            ·
              have q56 := of_decide_eq_true g56
              refine TL.gdY rfl rfl (pr_ownA rfl (.there _ (.here _)) rfl) rfl ?_
              refine TL.gdY rfl rfl (pr_ownA rfl (.here _) rfl) rfl ?_
              refine TL.callSY rfl rfl (enters rfl rfl rfl rfl) (rsame_ok hR25 hR32) rfl ?_
              refine TL.run (pr_pure rfl) rfl ?_
              refine TL.run (pr_pure rfl) rfl ?_
              refine TL.nil ?_
              refine TX.seqN ?_
              refine TC.ret ?_
              exact TX.finS (.inr rfl) (results1 rfl (RVal.tmp rfl)) (congrArg Value.bool (by first | rfl | (simp_all; done)))
            ·
              have q56 := of_decide_eq_false g56
              refine TL.gdN rfl rfl rfl rfl ?_
              refine TL.gdN rfl rfl rfl rfl ?_
              refine TL.gdN rfl rfl rfl rfl ?_
              refine TL.run (pr_pure rfl) rfl ?_
              refine TL.run (pr_pure rfl) rfl ?_
              refine TL.nil ?_
              refine TX.seqN ?_
              refine TC.ret ?_
              exact TX.finS (.inr rfl) (results1 rfl (RVal.tmp rfl)) (congrArg Value.bool (by first | rfl | (simp_all; done)))
          ·
            refine TL.gdN rfl rfl rfl rfl ?_
            refine TL.gdN rfl rfl rfl rfl ?_
            refine TL.gdN rfl rfl rfl rfl ?_
            refine TL.run (pr_pure rfl) rfl ?_
            refine TL.run (pr_pure rfl) rfl ?_
            refine TL.gdN rfl rfl rfl rfl ?_
            refine TL.gdN rfl rfl rfl rfl ?_
            refine TL.gdN rfl rfl rfl rfl ?_
            refine TL.run (pr_pure rfl) rfl ?_
            refine TL.run (pr_pure rfl) rfl ?_
            refine TL.nil ?_
            refine TX.seqN ?_
            refine TC.ret ?_
            exact TX.finS (.inr rfl) (results1 rfl (RVal.tmp rfl)) (congrArg Value.bool (by first | rfl | (simp_all; done)))
        ·
          have q42 := of_decide_eq_false g42
          refine TL.gdN rfl rfl rfl rfl ?_
          refine TL.gdN rfl rfl rfl rfl ?_
          refine TL.gdN rfl rfl rfl rfl ?_
          refine TL.gdN rfl rfl rfl rfl ?_
          refine TL.gdN rfl rfl rfl rfl ?_
          refine TL.gdN rfl rfl rfl rfl ?_
          refine TL.gdN rfl rfl rfl rfl ?_
          refine TL.run (pr_pure rfl) rfl ?_
          refine TL.run (pr_pure rfl) rfl ?_
          refine TL.gdN rfl rfl rfl rfl ?_
          refine TL.gdN rfl rfl rfl rfl ?_
          refine TL.gdN rfl rfl rfl rfl ?_
          refine TL.run (pr_pure rfl) rfl ?_
          refine TL.run (pr_pure rfl) rfl ?_
          refine TL.gdN rfl rfl rfl rfl ?_
          refine TL.gdN rfl rfl rfl rfl ?_
          refine TL.gdN rfl rfl rfl rfl ?_
          refine TL.run (pr_pure rfl) rfl ?_
          refine TL.run (pr_pure rfl) rfl ?_
          refine TL.nil ?_
          refine TX.seqN ?_
          refine TC.ret ?_
          exact TX.finS (.inr rfl) (results1 rfl (RVal.tmp rfl)) (congrArg Value.bool (by first | rfl | (simp_all; done)))
end Go.Sx
