import Derived.Test.YtepbjoagighhhaaWL4
import Derived.Test.YtepbjoagighhhaaWTq
import Derived.Test.YtepbjoagighhhaaWVars
set_option linter.unusedVariables false
set_option linter.unusedSimpArgs false
namespace Go.Sx
open Go Go.Proofs
set_option maxRecDepth 100000 in
set_option maxHeartbeats 4000000 in
theorem TermTrees_ok {H : Hp} {l : List Term} {t : Term} {v : Value} (root : Int) (hT : RdSl H 6 Term.cells v l) (hN : ∀ t ∈ l, t.name.length ≤ 9223372036854775807) (ht : t.name.length ≤ 9223372036854775807) :
    FnS Try.prog 10 [v, .int .i64 root, .agg t.cells.toArray] H (.bool true) := by
  obtain ⟨ta, tc, rfl⟩ := hT.len
  have hv0 : mayB l root = false → varsS l root = [] := fun h => varsS_none (by rw [h]; decide)
  refine FnS.enter Try.func10 Try.ntmps10 rfl rfl (fun w0 => ?_)
  refine TC.seq ?_
  refine TC.region ?_
  refine TL.box rfl rfl (fun b5 => ?_)
  refine TL.run (pr_pure rfl) rfl ?_
  refine TL.nil ?_
  refine TX.seqN ?_
  refine TC.seq ?_
  refine TC.seq ?_
  refine TC.region ?_
  refine TL.callS (enters rfl rfl rfl rfl) (first4_ok) rfl ?_
  refine TL.run (pr_pure rfl) rfl ?_
  refine TL.nil ?_
  refine TX.seqN ?_
  refine TC.cond rfl (fun c15 => ?_) (fun c15 => ?_)
  ·
    exact absurd c15 (by decide)
  ·
    refine TC.skip ?_
    refine TX.seqN ?_
    refine TC.seq ?_
    refine TC.seq ?_
    refine TC.region ?_
    refine TL.run (pr_pure rfl) rfl ?_
    refine TL.run (pr_lenSl rfl rfl hT) rfl ?_
    refine TL.run (pr_pure rfl) rfl ?_
    refine TL.run (pr_pure rfl) rfl ?_
    refine TL.split (s := 19) rfl (fun g19 => ?_) (fun g19 => ?_)
    ·
      have q19 := of_decide_eq_true g19
      refine TL.gdN rfl rfl rfl rfl ?_
      refine TL.gdN rfl rfl rfl rfl ?_
      refine TL.gdN rfl rfl rfl rfl ?_
      refine TL.gdN rfl rfl rfl rfl ?_
      refine TL.run (pr_pure rfl) rfl ?_
      refine TL.nil ?_
      refine TX.seqN ?_
      refine TC.condT rfl ?_
      refine TC.seq ?_
      refine TC.region ?_
      refine TL.run (pr_pure rfl) rfl ?_
      refine TL.run (pr_lenSl rfl rfl hT) rfl ?_
      refine TL.run (pr_pure rfl) rfl ?_
      refine TL.run (pr_pure rfl) rfl ?_
      refine TL.split (s := 28) rfl (fun g28 => ?_) (fun g28 => ?_)
      ·
        have q28 := of_decide_eq_true g28
        refine TL.gdN rfl rfl rfl rfl ?_
        refine TL.gdN rfl rfl rfl rfl ?_
        refine TL.gdN rfl rfl rfl rfl ?_
        refine TL.gdN rfl rfl rfl rfl ?_
        refine TL.gdN rfl rfl rfl rfl ?_
        refine TL.run (pr_pure rfl) rfl ?_
        refine TL.run (pr_pure rfl) rfl ?_
        refine TL.nil ?_
        refine TX.seqN ?_
        refine TC.ret ?_
        refine TX.thenR ?_
        exact TX.finS (.inr rfl) (results1 rfl (RVal.tmp rfl)) (congrArg Value.bool (by first | rfl | (simp_all; done) | (simp_all; omega)))
      ·
        have q28 := of_decide_eq_false g28
        refine TL.gdY rfl rfl (pr_pure rfl) rfl ?_
        refine TL.gdY rfl rfl (pr_pure rfl) rfl ?_
        refine TL.callY rfl rfl (enters rfl rfl rfl rfl) (Vars_ok root hT hN) rfl (fun v31 H31 hle31 hp31 => ?_)
        replace hT := hT.le hle31
        have hV31 : RdSl H31 1 Str.cells v31 _ := hp31
        obtain ⟨va31, vc31, rfl⟩ := hV31.len
        refine TL.gdY rfl rfl (pr_lenSl rfl rfl hV31) rfl ?_
        refine TL.gdY rfl rfl (pr_pure rfl) rfl ?_
        refine TL.run (pr_pure rfl) rfl ?_
        refine TL.run (pr_pure rfl) rfl ?_
        refine TL.nil ?_
        refine TX.seqN ?_
        refine TC.ret ?_
        refine TX.thenR ?_
        exact TX.finS (.inr rfl) (results1 rfl (RVal.tmp rfl)) (congrArg Value.bool (by first | rfl | (simp_all; done) | (simp_all; omega)))
    ·
      have q19 := of_decide_eq_false g19
      refine TL.gdY rfl rfl (pr_pure rfl) rfl ?_
      refine TL.gdY rfl rfl (pr_pure rfl) rfl ?_
      refine TL.callSY rfl rfl (enters rfl rfl rfl rfl) (May_ok root hT hN) rfl ?_
      refine TL.gdY rfl rfl (pr_pure rfl) rfl ?_
      refine TL.run (pr_pure rfl) rfl ?_
      refine TL.nil ?_
      refine TX.seqN ?_
      refine TC.cond rfl (fun c24 => ?_) (fun c24 => ?_)
      ·
        refine TC.seq ?_
        refine TC.region ?_
        refine TL.run (pr_pure rfl) rfl ?_
        refine TL.run (pr_lenSl rfl rfl hT) rfl ?_
        refine TL.run (pr_pure rfl) rfl ?_
        refine TL.run (pr_pure rfl) rfl ?_
        refine TL.split (s := 28) rfl (fun g28 => ?_) (fun g28 => ?_)
        ·
          have q28 := of_decide_eq_true g28
          refine TL.gdN rfl rfl rfl rfl ?_
          refine TL.gdN rfl rfl rfl rfl ?_
          refine TL.gdN rfl rfl rfl rfl ?_
          refine TL.gdN rfl rfl rfl rfl ?_
          refine TL.gdN rfl rfl rfl rfl ?_
          refine TL.run (pr_pure rfl) rfl ?_
          refine TL.run (pr_pure rfl) rfl ?_
          refine TL.nil ?_
          refine TX.seqN ?_
          refine TC.ret ?_
          refine TX.thenR ?_
          exact TX.finS (.inr rfl) (results1 rfl (RVal.tmp rfl)) (congrArg Value.bool (by first | rfl | (simp_all; done) | (simp_all; omega)))
        ·
          have q28 := of_decide_eq_false g28
          refine TL.gdY rfl rfl (pr_pure rfl) rfl ?_
          refine TL.gdY rfl rfl (pr_pure rfl) rfl ?_
          refine TL.callY rfl rfl (enters rfl rfl rfl rfl) (Vars_ok root hT hN) rfl (fun v31 H31 hle31 hp31 => ?_)
          replace hT := hT.le hle31
          have hV31 : RdSl H31 1 Str.cells v31 _ := hp31
          obtain ⟨va31, vc31, rfl⟩ := hV31.len
          refine TL.gdY rfl rfl (pr_lenSl rfl rfl hV31) rfl ?_
          refine TL.gdY rfl rfl (pr_pure rfl) rfl ?_
          refine TL.run (pr_pure rfl) rfl ?_
          refine TL.run (pr_pure rfl) rfl ?_
          refine TL.nil ?_
          refine TX.seqN ?_
          refine TC.ret ?_
          refine TX.thenR ?_
          exact TX.finS (.inr rfl) (results1 rfl (RVal.tmp rfl)) (congrArg Value.bool (by first | rfl | (simp_all; done) | (simp_all; omega)))
      ·
        have hm : mayB l root = true := by simp_all
        have hl1 : (l.length : Int) ≤ 100 := by simp_all
        have hrg := (mayB_iff.1 hm).1
        have f1 := more_may (r := [t]) (env := []) hm (by simp; omega)
        have f2 := twice_no (l := l) hrg.2.1
        have f3 := more_may (r := [⟨16, [], 0, [], root, -1⟩]) (env := []) hm (by simp; omega)
        have f4 := varsS_more (r := [t]) hm (by simp; omega)
        have f5 := once_may hm hl1
        have hs := sameV_refl (evalS l root []).1
        refine TC.skip ?_
        refine TX.seqN ?_
        refine TC.seq ?_
        refine TC.drawn (by kernel_rfl) (by kernel_rfl) ?_
        refine TD.part 2 1 rfl rfl rfl ?_ ?_
        ·
          refine TD.part 1 3 rfl rfl rfl ?_ ?_
          ·
            refine TD.leaf [(0, 1), (2, 2), (1, 0), (3, 3), (4, 0), (5, 1)] (by kernel_rfl) (by kernel_rfl) ?_
            refine TF.pure (pr_pure rfl) rfl ?_
            refine TF.still (pr_ownA rfl (.here _) rfl) rfl ?_
            refine TF.loud ?_
            refine TL.append (enc := Term.cells) rfl rfl rfl (OwnSl.nil (enc := Term.cells)) (Src.sl hT) (by simp; omega) rfl (.new _ rfl) rfl (fun a36 c36 ob36 hO36 => ?_)
            refine TF.back ?_
            refine TF.bslice rfl rfl rfl rfl (fun b38 => ?_)
            refine TF.loud ?_
            refine TL.append (enc := Term.cells) rfl rfl rfl hO36 (Src.own [t] (.here _) rfl rfl) (by simp; omega) rfl (.skip _ (.skip _ .all)) rfl (fun a39 c39 ob39 hO39 => ?_)
            refine TF.back ?_
            refine TF.pure (pr_pure rfl) rfl ?_
            refine TF.nil ?_
            refine TX.pubO hO39 (.skip _ (.skip _ .all)) (by simp) (fun HM leM hM => ?_)
            replace hT := hT.le leM
            have hMN : ∀ u ∈ (([] ++ l) ++ [t]), u.name.length ≤ 9223372036854775807 := snoc_names hN ht
            refine TX.seqN ?_
            refine TC.seq ?_
            refine TC.region ?_
            refine TL.run (pr_pure rfl) rfl ?_
            refine TL.append (enc := Term.cells) rfl rfl rfl (OwnSl.nil (enc := Term.cells)) (Src.sl hT) (by simp; omega) rfl (.new _ rfl) rfl (fun a41 c41 ob41 hO41 => ?_)
            refine TL.run (pr_pure rfl) rfl ?_
            refine TL.run (pr_pure rfl) rfl ?_
            refine TL.callS (enters rfl rfl rfl rfl) (two4_ok _ _ _) rfl ?_
            refine TL.bslice rfl rfl rfl rfl (fun b45 => ?_)
            refine TL.append (enc := Term.cells) rfl rfl rfl hO41 (Src.own [twoT 6 root root] (.here _) rfl rfl) (by simp; omega) rfl (.skip _ (.skip _ (.skip _ .all))) rfl (fun a46 c46 ob46 hO46 => ?_)
            refine TL.run (pr_pure rfl) rfl ?_
            refine TL.nil ?_
            refine TX.pubO hO46 (.skip _ (.skip _ (.skip _ .all))) (by simp) (fun HW leW hW => ?_)
            replace hT := hT.le leW
            replace hM := hM.le leW
            have hWN : ∀ u ∈ (([] ++ l) ++ [twoT 6 root root]), u.name.length ≤ 9223372036854775807 := snoc_names hN (by simp [twoT])
            refine TX.seqN ?_
            refine TC.seq ?_
            refine TC.region ?_
            refine TL.run (pr_pure rfl) rfl ?_
            refine TL.append (enc := Term.cells) rfl rfl rfl (OwnSl.nil (enc := Term.cells)) (Src.sl hT) (by simp; omega) rfl (.new _ rfl) rfl (fun a48 c48 ob48 hO48 => ?_)
            refine TL.run (pr_pure rfl) rfl ?_
            refine TL.run (pr_build rfl rfl) rfl ?_
            refine TL.bslice rfl rfl rfl rfl (fun b51 => ?_)
            refine TL.append (enc := Term.cells) rfl rfl rfl hO48 (Src.own [⟨16, [], 0, [], root, -1⟩] (.here _) rfl rfl) (by simp; omega) rfl (.skip _ (.skip _ (.skip _ (.skip _ .all)))) rfl (fun a52 c52 ob52 hO52 => ?_)
            refine TL.run (pr_pure rfl) rfl ?_
            refine TL.nil ?_
            refine TX.pubO hO52 (.skip _ (.skip _ (.skip _ (.skip _ .all)))) (by simp) (fun HO leO hO => ?_)
            replace hT := hT.le leO
            replace hM := hM.le leO
            replace hW := hW.le leO
            have hON : ∀ u ∈ (([] ++ l) ++ [⟨16, [], 0, [], root, -1⟩]), u.name.length ≤ 9223372036854775807 := snoc_names hN (by simp)
            refine TX.seqN ?_
            refine TC.seq ?_
            refine TC.region ?_
            refine TL.run (pr_pure rfl) rfl ?_
            refine TL.run (pr_pure rfl) rfl ?_
            refine TL.call (enters rfl rfl rfl rfl) (Eval_ok root hT binds_nil EnvOk.nil lens_nil hN) rfl (fun v56 H56 hle56 hp56 => ?_)
            obtain ⟨lv56, rfl, hR56⟩ := hp56
            replace hT := hT.le hle56
            replace hM := hM.le hle56
            replace hW := hW.le hle56
            replace hO := hO.le hle56
            obtain ⟨la56, lc56, rfl⟩ := RdSl.len hR56
            refine TL.run (pr_pure rfl) rfl ?_
            refine TL.run (pr_pure rfl) rfl ?_
            refine TL.run (pr_pure rfl) rfl ?_
            refine TL.alloc rfl (fun b10 => ?_)
            refine TL.storeA rfl rfl rfl rfl rfl (.here _) rfl rfl ?_
            refine TL.run (pr_pure rfl) rfl ?_
            refine TL.nil ?_
            refine TX.seqN ?_
            refine TC.seq ?_
            refine TC.region ?_
            refine TL.run (pr_pure rfl) rfl ?_
            refine TL.run (pr_pure rfl) rfl ?_
            refine TL.call (enters rfl rfl rfl rfl) (Eval_ok root hM binds_nil EnvOk.nil lens_nil hMN) rfl (fun v62 H62 hle62 hp62 => ?_)
            obtain ⟨lv62, rfl, hR62⟩ := hp62
            replace hT := hT.le hle62
            replace hM := hM.le hle62
            replace hW := hW.le hle62
            replace hO := hO.le hle62
            replace hR56 := hR56.le hle62
            obtain ⟨la62, lc62, rfl⟩ := RdSl.len hR62
            refine TL.run (pr_pure rfl) rfl ?_
            refine TL.run (pr_pure rfl) rfl ?_
            refine TL.run (pr_pure rfl) rfl ?_
            refine TL.alloc rfl (fun b12 => ?_)
            refine TL.storeA rfl rfl rfl rfl rfl (.here _) rfl rfl ?_
            refine TL.run (pr_pure rfl) rfl ?_
            refine TL.nil ?_
            refine TX.seqN ?_
            refine TC.seq ?_
            refine TC.region ?_
            refine TL.run (pr_pure rfl) rfl ?_
            refine TL.run (pr_pure rfl) rfl ?_
            refine TL.callS (enters rfl rfl rfl rfl) (May_ok root hM hMN) rfl ?_
            refine TL.run (pr_pure rfl) rfl ?_
            refine TL.split (s := 68) rfl (fun g68 => ?_) (fun g68 => ?_)
            ·
              refine TL.gdY rfl rfl (pr_pure rfl) rfl ?_
              refine TL.gdY rfl rfl (pr_pure rfl) rfl ?_
              refine TL.gdY rfl rfl (pr_pure rfl) rfl ?_
              refine TL.run (pr_pure rfl) rfl ?_
              refine TL.run (pr_pure rfl) rfl ?_
              refine TL.split (s := 73) rfl (fun g73 => ?_) (fun g73 => ?_)
              ·
                have q73 := of_decide_eq_true g73
                refine TL.gdY rfl rfl (pr_ownA rfl (.there _ (.here _)) rfl) rfl ?_
                refine TL.gdY rfl rfl (pr_ownA rfl (.here _) rfl) rfl ?_
                refine TL.callSY rfl rfl (enters rfl rfl rfl rfl) (dSame_ok hR56 hR62) rfl ?_
                refine TL.run (pr_pure rfl) rfl ?_
                refine TL.run (pr_pure rfl) rfl ?_
                refine TL.split (s := 78) rfl (fun g78 => ?_) (fun g78 => ?_)
                ·
                  refine TL.gdY rfl rfl (pr_pure rfl) rfl ?_
                  refine TL.gdY rfl rfl (pr_pure rfl) rfl ?_
                  refine TL.gdY rfl rfl (pr_lenSl rfl rfl hT) rfl ?_
                  refine TL.callSY rfl rfl (enters rfl rfl rfl rfl) (May_ok l.length hW hWN) rfl ?_
                  refine TL.gdY rfl rfl (pr_pure rfl) rfl ?_
                  refine TL.run (pr_pure rfl) rfl ?_
                  refine TL.run (pr_pure rfl) rfl ?_
                  refine TL.split (s := 85) rfl (fun g85 => ?_) (fun g85 => ?_)
                  ·
                    refine TL.gdY rfl rfl (pr_pure rfl) rfl ?_
                    refine TL.gdY rfl rfl (pr_pure rfl) rfl ?_
                    refine TL.gdY rfl rfl (pr_lenSl rfl rfl hT) rfl ?_
                    refine TL.callSY rfl rfl (enters rfl rfl rfl rfl) (May_ok l.length hO hON) rfl ?_
                    refine TL.gdY rfl rfl (pr_pure rfl) rfl ?_
                    refine TL.split (s := 90) rfl (fun g90 => ?_) (fun g90 => ?_)
                    ·
                      refine TL.gdN rfl rfl rfl rfl ?_
                      refine TL.gdN rfl rfl rfl rfl ?_
                      refine TL.gdN rfl rfl rfl rfl ?_
                      refine TL.gdN rfl rfl rfl rfl ?_
                      refine TL.gdY rfl rfl (pr_pure rfl) rfl ?_
                      refine TL.gdY rfl rfl (pr_pure rfl) rfl ?_
                      refine TL.gdN rfl rfl rfl rfl ?_
                      refine TL.gdN rfl rfl rfl rfl ?_
                      refine TL.gdN rfl rfl rfl rfl ?_
                      refine TL.gdY rfl rfl (pr_pure rfl) rfl ?_
                      refine TL.run (pr_pure rfl) rfl ?_
                      refine TL.run (pr_pure rfl) rfl ?_
                      refine TL.gdY rfl rfl (pr_pure rfl) rfl ?_
                      refine TL.gdY rfl rfl (pr_pure rfl) rfl ?_
                      refine TL.callY rfl rfl (enters rfl rfl rfl rfl) (Vars_ok root hM hMN) rfl (fun v105 H105 hle105 hp105 => ?_)
                      replace hT := hT.le hle105
                      replace hM := hM.le hle105
                      replace hW := hW.le hle105
                      replace hO := hO.le hle105
                      replace hR56 := hR56.le hle105
                      replace hR62 := hR62.le hle105
                      have hV105 : RdSl H105 1 Str.cells v105 _ := hp105
                      obtain ⟨va105, vc105, rfl⟩ := hV105.len
                      refine TL.gdY rfl rfl (pr_pure rfl) rfl ?_
                      refine TL.gdY rfl rfl (pr_pure rfl) rfl ?_
                      refine TL.callY rfl rfl (enters rfl rfl rfl rfl) (Vars_ok root hT hN) rfl (fun v108 H108 hle108 hp108 => ?_)
                      replace hT := hT.le hle108
                      replace hM := hM.le hle108
                      replace hW := hW.le hle108
                      replace hO := hO.le hle108
                      replace hR56 := hR56.le hle108
                      replace hR62 := hR62.le hle108
                      replace hV105 := hV105.le hle108
                      have hV108 : RdSl H108 1 Str.cells v108 _ := hp108
                      obtain ⟨va108, vc108, rfl⟩ := hV108.len
                      refine TL.callSY rfl rfl (enters rfl rfl rfl rfl) (sameN_ok hV105 hV108) rfl ?_
                      refine TL.run (pr_pure rfl) rfl ?_
                      refine TL.run (pr_pure rfl) rfl ?_
                      refine TL.nil ?_
                      refine TX.seqN ?_
                      refine TC.ret ?_
                      exact TX.finS (.inr rfl) (results1 rfl (RVal.tmp rfl)) (congrArg Value.bool (by first | rfl | (simp_all; done) | (simp_all; omega)))
                    ·
                      refine TL.gdY rfl rfl (pr_pure rfl) rfl ?_
                      refine TL.gdY rfl rfl (pr_pure rfl) rfl ?_
                      refine TL.callSY rfl rfl (enters rfl rfl rfl rfl) (May_ok root hO hON) rfl ?_
                      refine TL.gdY rfl rfl (pr_pure rfl) rfl ?_
                      refine TL.gdY rfl rfl (pr_pure rfl) rfl ?_
                      refine TL.gdY rfl rfl (pr_pure rfl) rfl ?_
                      refine TL.split (s := 96) rfl (fun g96 => ?_) (fun g96 => ?_)
                      ·
                        refine TL.gdN rfl rfl rfl rfl ?_
                        refine TL.gdN rfl rfl rfl rfl ?_
                        refine TL.gdN rfl rfl rfl rfl ?_
                        refine TL.gdY rfl rfl (pr_pure rfl) rfl ?_
                        refine TL.run (pr_pure rfl) rfl ?_
                        refine TL.run (pr_pure rfl) rfl ?_
                        refine TL.gdY rfl rfl (pr_pure rfl) rfl ?_
                        refine TL.gdY rfl rfl (pr_pure rfl) rfl ?_
                        refine TL.callY rfl rfl (enters rfl rfl rfl rfl) (Vars_ok root hM hMN) rfl (fun v105 H105 hle105 hp105 => ?_)
                        replace hT := hT.le hle105
                        replace hM := hM.le hle105
                        replace hW := hW.le hle105
                        replace hO := hO.le hle105
                        replace hR56 := hR56.le hle105
                        replace hR62 := hR62.le hle105
                        have hV105 : RdSl H105 1 Str.cells v105 _ := hp105
                        obtain ⟨va105, vc105, rfl⟩ := hV105.len
                        refine TL.gdY rfl rfl (pr_pure rfl) rfl ?_
                        refine TL.gdY rfl rfl (pr_pure rfl) rfl ?_
                        refine TL.callY rfl rfl (enters rfl rfl rfl rfl) (Vars_ok root hT hN) rfl (fun v108 H108 hle108 hp108 => ?_)
                        replace hT := hT.le hle108
                        replace hM := hM.le hle108
                        replace hW := hW.le hle108
                        replace hO := hO.le hle108
                        replace hR56 := hR56.le hle108
                        replace hR62 := hR62.le hle108
                        replace hV105 := hV105.le hle108
                        have hV108 : RdSl H108 1 Str.cells v108 _ := hp108
                        obtain ⟨va108, vc108, rfl⟩ := hV108.len
                        refine TL.callSY rfl rfl (enters rfl rfl rfl rfl) (sameN_ok hV105 hV108) rfl ?_
                        refine TL.run (pr_pure rfl) rfl ?_
                        refine TL.run (pr_pure rfl) rfl ?_
                        refine TL.nil ?_
                        refine TX.seqN ?_
                        refine TC.ret ?_
                        exact TX.finS (.inr rfl) (results1 rfl (RVal.tmp rfl)) (congrArg Value.bool (by first | rfl | (simp_all; done) | (simp_all; omega)))
                      ·
                        refine TL.gdY rfl rfl (pr_pure rfl) rfl ?_
                        refine TL.gdY rfl rfl (pr_lenSl rfl rfl hT) rfl ?_
                        refine TL.gdY rfl rfl (pr_pure rfl) rfl ?_
                        refine TL.gdY rfl rfl (pr_pure rfl) rfl ?_
                        refine TL.run (pr_pure rfl) rfl ?_
                        refine TL.run (pr_pure rfl) rfl ?_
                        refine TL.split (s := 102) rfl (fun g102 => ?_) (fun g102 => ?_)
                        ·
                          have q102 := of_decide_eq_true g102
                          refine TL.gdY rfl rfl (pr_pure rfl) rfl ?_
                          refine TL.gdY rfl rfl (pr_pure rfl) rfl ?_
                          refine TL.callY rfl rfl (enters rfl rfl rfl rfl) (Vars_ok root hM hMN) rfl (fun v105 H105 hle105 hp105 => ?_)
                          replace hT := hT.le hle105
                          replace hM := hM.le hle105
                          replace hW := hW.le hle105
                          replace hO := hO.le hle105
                          replace hR56 := hR56.le hle105
                          replace hR62 := hR62.le hle105
                          have hV105 : RdSl H105 1 Str.cells v105 _ := hp105
                          obtain ⟨va105, vc105, rfl⟩ := hV105.len
                          refine TL.gdY rfl rfl (pr_pure rfl) rfl ?_
                          refine TL.gdY rfl rfl (pr_pure rfl) rfl ?_
                          refine TL.callY rfl rfl (enters rfl rfl rfl rfl) (Vars_ok root hT hN) rfl (fun v108 H108 hle108 hp108 => ?_)
                          replace hT := hT.le hle108
                          replace hM := hM.le hle108
                          replace hW := hW.le hle108
                          replace hO := hO.le hle108
                          replace hR56 := hR56.le hle108
                          replace hR62 := hR62.le hle108
                          replace hV105 := hV105.le hle108
                          have hV108 : RdSl H108 1 Str.cells v108 _ := hp108
                          obtain ⟨va108, vc108, rfl⟩ := hV108.len
                          refine TL.callSY rfl rfl (enters rfl rfl rfl rfl) (sameN_ok hV105 hV108) rfl ?_
                          refine TL.run (pr_pure rfl) rfl ?_
                          refine TL.run (pr_pure rfl) rfl ?_
                          refine TL.nil ?_
                          refine TX.seqN ?_
                          refine TC.ret ?_
                          exact TX.finS (.inr rfl) (results1 rfl (RVal.tmp rfl)) (congrArg Value.bool (by first | rfl | (simp_all; done) | (simp_all; omega)))
                        ·
                          have q102 := of_decide_eq_false g102
                          refine TL.gdN rfl rfl rfl rfl ?_
                          refine TL.gdN rfl rfl rfl rfl ?_
                          refine TL.gdN rfl rfl rfl rfl ?_
                          refine TL.gdN rfl rfl rfl rfl ?_
                          refine TL.gdN rfl rfl rfl rfl ?_
                          refine TL.gdN rfl rfl rfl rfl ?_
                          refine TL.gdN rfl rfl rfl rfl ?_
                          refine TL.run (pr_pure rfl) rfl ?_
                          refine TL.run (pr_pure rfl) rfl ?_
                          refine TL.nil ?_
                          refine TX.seqN ?_
                          refine TC.ret ?_
                          exact TX.finS (.inr rfl) (results1 rfl (RVal.tmp rfl)) (congrArg Value.bool (by first | rfl | (simp_all; done) | (simp_all; omega)))
                  ·
                    refine TL.gdN rfl rfl rfl rfl ?_
                    refine TL.gdN rfl rfl rfl rfl ?_
                    refine TL.gdN rfl rfl rfl rfl ?_
                    refine TL.gdN rfl rfl rfl rfl ?_
                    refine TL.gdN rfl rfl rfl rfl ?_
                    refine TL.gdU rfl rfl rfl ?_
                    refine TL.gdU rfl rfl rfl ?_
                    refine TL.gdU rfl rfl rfl ?_
                    refine TL.gdU rfl rfl rfl ?_
                    refine TL.gdN rfl rfl rfl rfl ?_
                    refine TL.gdN rfl rfl rfl rfl ?_
                    refine TL.gdU rfl rfl rfl ?_
                    refine TL.gdU rfl rfl rfl ?_
                    refine TL.gdU rfl rfl rfl ?_
                    refine TL.gdN rfl rfl rfl rfl ?_
                    refine TL.run (pr_pure rfl) rfl ?_
                    refine TL.run (pr_pure rfl) rfl ?_
                    refine TL.gdN rfl rfl rfl rfl ?_
                    refine TL.gdN rfl rfl rfl rfl ?_
                    refine TL.gdN rfl rfl rfl rfl ?_
                    refine TL.gdN rfl rfl rfl rfl ?_
                    refine TL.gdN rfl rfl rfl rfl ?_
                    refine TL.gdN rfl rfl rfl rfl ?_
                    refine TL.gdN rfl rfl rfl rfl ?_
                    refine TL.run (pr_pure rfl) rfl ?_
                    refine TL.run (pr_pure rfl) rfl ?_
                    refine TL.nil ?_
                    refine TX.seqN ?_
                    refine TC.ret ?_
                    exact TX.finS (.inr rfl) (results1 rfl (RVal.tmp rfl)) (congrArg Value.bool (by first | rfl | (simp_all; done) | (simp_all; omega)))
                ·
                  refine TL.gdN rfl rfl rfl rfl ?_
                  refine TL.gdN rfl rfl rfl rfl ?_
                  refine TL.gdN rfl rfl rfl rfl ?_
                  refine TL.gdN rfl rfl rfl rfl ?_
                  refine TL.gdN rfl rfl rfl rfl ?_
                  refine TL.run (pr_pure rfl) rfl ?_
                  refine TL.run (pr_pure rfl) rfl ?_
                  refine TL.gdN rfl rfl rfl rfl ?_
                  refine TL.gdN rfl rfl rfl rfl ?_
                  refine TL.gdN rfl rfl rfl rfl ?_
                  refine TL.gdN rfl rfl rfl rfl ?_
                  refine TL.gdN rfl rfl rfl rfl ?_
                  refine TL.gdU rfl rfl rfl ?_
                  refine TL.gdU rfl rfl rfl ?_
                  refine TL.gdU rfl rfl rfl ?_
                  refine TL.gdU rfl rfl rfl ?_
                  refine TL.gdN rfl rfl rfl rfl ?_
                  refine TL.gdN rfl rfl rfl rfl ?_
                  refine TL.gdU rfl rfl rfl ?_
                  refine TL.gdU rfl rfl rfl ?_
                  refine TL.gdU rfl rfl rfl ?_
                  refine TL.gdN rfl rfl rfl rfl ?_
                  refine TL.run (pr_pure rfl) rfl ?_
                  refine TL.run (pr_pure rfl) rfl ?_
                  refine TL.gdN rfl rfl rfl rfl ?_
                  refine TL.gdN rfl rfl rfl rfl ?_
                  refine TL.gdN rfl rfl rfl rfl ?_
                  refine TL.gdN rfl rfl rfl rfl ?_
                  refine TL.gdN rfl rfl rfl rfl ?_
                  refine TL.gdN rfl rfl rfl rfl ?_
                  refine TL.gdN rfl rfl rfl rfl ?_
                  refine TL.run (pr_pure rfl) rfl ?_
                  refine TL.run (pr_pure rfl) rfl ?_
                  refine TL.nil ?_
                  refine TX.seqN ?_
                  refine TC.ret ?_
                  exact TX.finS (.inr rfl) (results1 rfl (RVal.tmp rfl)) (congrArg Value.bool (by first | rfl | (simp_all; done) | (simp_all; omega)))
              ·
                have q73 := of_decide_eq_false g73
                refine TL.gdN rfl rfl rfl rfl ?_
                refine TL.gdN rfl rfl rfl rfl ?_
                refine TL.gdN rfl rfl rfl rfl ?_
                refine TL.run (pr_pure rfl) rfl ?_
                refine TL.run (pr_pure rfl) rfl ?_
                refine TL.gdN rfl rfl rfl rfl ?_
                refine TL.gdN rfl rfl rfl rfl ?_
                refine TL.gdN rfl rfl rfl rfl ?_
                refine TL.gdN rfl rfl rfl rfl ?_
                refine TL.gdN rfl rfl rfl rfl ?_
                refine TL.run (pr_pure rfl) rfl ?_
                refine TL.run (pr_pure rfl) rfl ?_
                refine TL.gdN rfl rfl rfl rfl ?_
                refine TL.gdN rfl rfl rfl rfl ?_
                refine TL.gdN rfl rfl rfl rfl ?_
                refine TL.gdN rfl rfl rfl rfl ?_
                refine TL.gdN rfl rfl rfl rfl ?_
                refine TL.gdU rfl rfl rfl ?_
                refine TL.gdU rfl rfl rfl ?_
                refine TL.gdU rfl rfl rfl ?_
                refine TL.gdU rfl rfl rfl ?_
                refine TL.gdN rfl rfl rfl rfl ?_
                refine TL.gdN rfl rfl rfl rfl ?_
                refine TL.gdU rfl rfl rfl ?_
                refine TL.gdU rfl rfl rfl ?_
                refine TL.gdU rfl rfl rfl ?_
                refine TL.gdN rfl rfl rfl rfl ?_
                refine TL.run (pr_pure rfl) rfl ?_
                refine TL.run (pr_pure rfl) rfl ?_
                refine TL.gdN rfl rfl rfl rfl ?_
                refine TL.gdN rfl rfl rfl rfl ?_
                refine TL.gdN rfl rfl rfl rfl ?_
                refine TL.gdN rfl rfl rfl rfl ?_
                refine TL.gdN rfl rfl rfl rfl ?_
                refine TL.gdN rfl rfl rfl rfl ?_
                refine TL.gdN rfl rfl rfl rfl ?_
                refine TL.run (pr_pure rfl) rfl ?_
                refine TL.run (pr_pure rfl) rfl ?_
                refine TL.nil ?_
                refine TX.seqN ?_
                refine TC.ret ?_
                exact TX.finS (.inr rfl) (results1 rfl (RVal.tmp rfl)) (congrArg Value.bool (by first | rfl | (simp_all; done) | (simp_all; omega)))
            ·
              refine TL.gdN rfl rfl rfl rfl ?_
              refine TL.gdN rfl rfl rfl rfl ?_
              refine TL.gdN rfl rfl rfl rfl ?_
              refine TL.run (pr_pure rfl) rfl ?_
              refine TL.run (pr_pure rfl) rfl ?_
              refine TL.gdN rfl rfl rfl rfl ?_
              refine TL.gdN rfl rfl rfl rfl ?_
              refine TL.gdN rfl rfl rfl rfl ?_
              refine TL.run (pr_pure rfl) rfl ?_
              refine TL.run (pr_pure rfl) rfl ?_
              refine TL.gdN rfl rfl rfl rfl ?_
              refine TL.gdN rfl rfl rfl rfl ?_
              refine TL.gdN rfl rfl rfl rfl ?_
              refine TL.gdN rfl rfl rfl rfl ?_
              refine TL.gdN rfl rfl rfl rfl ?_
              refine TL.run (pr_pure rfl) rfl ?_
              refine TL.run (pr_pure rfl) rfl ?_
              refine TL.gdN rfl rfl rfl rfl ?_
              refine TL.gdN rfl rfl rfl rfl ?_
              refine TL.gdN rfl rfl rfl rfl ?_
              refine TL.gdN rfl rfl rfl rfl ?_
              refine TL.gdN rfl rfl rfl rfl ?_
              refine TL.gdU rfl rfl rfl ?_
              refine TL.gdU rfl rfl rfl ?_
              refine TL.gdU rfl rfl rfl ?_
              refine TL.gdU rfl rfl rfl ?_
              refine TL.gdN rfl rfl rfl rfl ?_
              refine TL.gdN rfl rfl rfl rfl ?_
              refine TL.gdU rfl rfl rfl ?_
              refine TL.gdU rfl rfl rfl ?_
              refine TL.gdU rfl rfl rfl ?_
              refine TL.gdN rfl rfl rfl rfl ?_
              refine TL.run (pr_pure rfl) rfl ?_
              refine TL.run (pr_pure rfl) rfl ?_
              refine TL.gdN rfl rfl rfl rfl ?_
              refine TL.gdN rfl rfl rfl rfl ?_
              refine TL.gdN rfl rfl rfl rfl ?_
              refine TL.gdN rfl rfl rfl rfl ?_
              refine TL.gdN rfl rfl rfl rfl ?_
              refine TL.gdN rfl rfl rfl rfl ?_
              refine TL.gdN rfl rfl rfl rfl ?_
              refine TL.run (pr_pure rfl) rfl ?_
              refine TL.run (pr_pure rfl) rfl ?_
              refine TL.nil ?_
              refine TX.seqN ?_
              refine TC.ret ?_
              exact TX.finS (.inr rfl) (results1 rfl (RVal.tmp rfl)) (congrArg Value.bool (by first | rfl | (simp_all; done) | (simp_all; omega)))
          ·
            refine TD.leaf [(0, 1), (2, 2), (3, 3), (1, 0), (4, 0), (5, 1)] (by kernel_rfl) (by kernel_rfl) ?_
            refine TF.pure (pr_pure rfl) rfl ?_
            refine TF.still (pr_ownA rfl (.here _) rfl) rfl ?_
            refine TF.bslice rfl rfl rfl rfl (fun b38 => ?_)
            refine TF.loud ?_
            refine TL.append (enc := Term.cells) rfl rfl rfl (OwnSl.nil (enc := Term.cells)) (Src.sl hT) (by simp; omega) rfl (.new _ rfl) rfl (fun a36 c36 ob36 hO36 => ?_)
            refine TF.back ?_
            refine TF.loud ?_
            refine TL.append (enc := Term.cells) rfl rfl rfl hO36 (Src.own [t] (.here _) rfl rfl) (by simp; omega) rfl (.skip _ (.skip _ .all)) rfl (fun a39 c39 ob39 hO39 => ?_)
            refine TF.back ?_
            refine TF.pure (pr_pure rfl) rfl ?_
            refine TF.nil ?_
            refine TX.pubO hO39 (.skip _ (.skip _ .all)) (by simp) (fun HM leM hM => ?_)
            replace hT := hT.le leM
            have hMN : ∀ u ∈ (([] ++ l) ++ [t]), u.name.length ≤ 9223372036854775807 := snoc_names hN ht
            refine TX.seqN ?_
            refine TC.seq ?_
            refine TC.region ?_
            refine TL.run (pr_pure rfl) rfl ?_
            refine TL.append (enc := Term.cells) rfl rfl rfl (OwnSl.nil (enc := Term.cells)) (Src.sl hT) (by simp; omega) rfl (.new _ rfl) rfl (fun a41 c41 ob41 hO41 => ?_)
            refine TL.run (pr_pure rfl) rfl ?_
            refine TL.run (pr_pure rfl) rfl ?_
            refine TL.callS (enters rfl rfl rfl rfl) (two4_ok _ _ _) rfl ?_
            refine TL.bslice rfl rfl rfl rfl (fun b45 => ?_)
            refine TL.append (enc := Term.cells) rfl rfl rfl hO41 (Src.own [twoT 6 root root] (.here _) rfl rfl) (by simp; omega) rfl (.skip _ (.skip _ (.skip _ .all))) rfl (fun a46 c46 ob46 hO46 => ?_)
            refine TL.run (pr_pure rfl) rfl ?_
            refine TL.nil ?_
            refine TX.pubO hO46 (.skip _ (.skip _ (.skip _ .all))) (by simp) (fun HW leW hW => ?_)
            replace hT := hT.le leW
            replace hM := hM.le leW
            have hWN : ∀ u ∈ (([] ++ l) ++ [twoT 6 root root]), u.name.length ≤ 9223372036854775807 := snoc_names hN (by simp [twoT])
            refine TX.seqN ?_
            refine TC.seq ?_
            refine TC.region ?_
            refine TL.run (pr_pure rfl) rfl ?_
            refine TL.append (enc := Term.cells) rfl rfl rfl (OwnSl.nil (enc := Term.cells)) (Src.sl hT) (by simp; omega) rfl (.new _ rfl) rfl (fun a48 c48 ob48 hO48 => ?_)
            refine TL.run (pr_pure rfl) rfl ?_
            refine TL.run (pr_build rfl rfl) rfl ?_
            refine TL.bslice rfl rfl rfl rfl (fun b51 => ?_)
            refine TL.append (enc := Term.cells) rfl rfl rfl hO48 (Src.own [⟨16, [], 0, [], root, -1⟩] (.here _) rfl rfl) (by simp; omega) rfl (.skip _ (.skip _ (.skip _ (.skip _ .all)))) rfl (fun a52 c52 ob52 hO52 => ?_)
            refine TL.run (pr_pure rfl) rfl ?_
            refine TL.nil ?_
            refine TX.pubO hO52 (.skip _ (.skip _ (.skip _ (.skip _ .all)))) (by simp) (fun HO leO hO => ?_)
            replace hT := hT.le leO
            replace hM := hM.le leO
            replace hW := hW.le leO
            have hON : ∀ u ∈ (([] ++ l) ++ [⟨16, [], 0, [], root, -1⟩]), u.name.length ≤ 9223372036854775807 := snoc_names hN (by simp)
            refine TX.seqN ?_
            refine TC.seq ?_
            refine TC.region ?_
            refine TL.run (pr_pure rfl) rfl ?_
            refine TL.run (pr_pure rfl) rfl ?_
            refine TL.call (enters rfl rfl rfl rfl) (Eval_ok root hT binds_nil EnvOk.nil lens_nil hN) rfl (fun v56 H56 hle56 hp56 => ?_)
            obtain ⟨lv56, rfl, hR56⟩ := hp56
            replace hT := hT.le hle56
            replace hM := hM.le hle56
            replace hW := hW.le hle56
            replace hO := hO.le hle56
            obtain ⟨la56, lc56, rfl⟩ := RdSl.len hR56
            refine TL.run (pr_pure rfl) rfl ?_
            refine TL.run (pr_pure rfl) rfl ?_
            refine TL.run (pr_pure rfl) rfl ?_
            refine TL.alloc rfl (fun b10 => ?_)
            refine TL.storeA rfl rfl rfl rfl rfl (.here _) rfl rfl ?_
            refine TL.run (pr_pure rfl) rfl ?_
            refine TL.nil ?_
            refine TX.seqN ?_
            refine TC.seq ?_
            refine TC.region ?_
            refine TL.run (pr_pure rfl) rfl ?_
            refine TL.run (pr_pure rfl) rfl ?_
            refine TL.call (enters rfl rfl rfl rfl) (Eval_ok root hM binds_nil EnvOk.nil lens_nil hMN) rfl (fun v62 H62 hle62 hp62 => ?_)
            obtain ⟨lv62, rfl, hR62⟩ := hp62
            replace hT := hT.le hle62
            replace hM := hM.le hle62
            replace hW := hW.le hle62
            replace hO := hO.le hle62
            replace hR56 := hR56.le hle62
            obtain ⟨la62, lc62, rfl⟩ := RdSl.len hR62
            refine TL.run (pr_pure rfl) rfl ?_
            refine TL.run (pr_pure rfl) rfl ?_
            refine TL.run (pr_pure rfl) rfl ?_
            refine TL.alloc rfl (fun b12 => ?_)
            refine TL.storeA rfl rfl rfl rfl rfl (.here _) rfl rfl ?_
            refine TL.run (pr_pure rfl) rfl ?_
            refine TL.nil ?_
            refine TX.seqN ?_
            refine TC.seq ?_
            refine TC.region ?_
            refine TL.run (pr_pure rfl) rfl ?_
            refine TL.run (pr_pure rfl) rfl ?_
            refine TL.callS (enters rfl rfl rfl rfl) (May_ok root hM hMN) rfl ?_
            refine TL.run (pr_pure rfl) rfl ?_
            refine TL.split (s := 68) rfl (fun g68 => ?_) (fun g68 => ?_)
            ·
              refine TL.gdY rfl rfl (pr_pure rfl) rfl ?_
              refine TL.gdY rfl rfl (pr_pure rfl) rfl ?_
              refine TL.gdY rfl rfl (pr_pure rfl) rfl ?_
              refine TL.run (pr_pure rfl) rfl ?_
              refine TL.run (pr_pure rfl) rfl ?_
              refine TL.split (s := 73) rfl (fun g73 => ?_) (fun g73 => ?_)
              ·
                have q73 := of_decide_eq_true g73
                refine TL.gdY rfl rfl (pr_ownA rfl (.there _ (.here _)) rfl) rfl ?_
                refine TL.gdY rfl rfl (pr_ownA rfl (.here _) rfl) rfl ?_
                refine TL.callSY rfl rfl (enters rfl rfl rfl rfl) (dSame_ok hR56 hR62) rfl ?_
                refine TL.run (pr_pure rfl) rfl ?_
                refine TL.run (pr_pure rfl) rfl ?_
                refine TL.split (s := 78) rfl (fun g78 => ?_) (fun g78 => ?_)
                ·
                  refine TL.gdY rfl rfl (pr_pure rfl) rfl ?_
                  refine TL.gdY rfl rfl (pr_pure rfl) rfl ?_
                  refine TL.gdY rfl rfl (pr_lenSl rfl rfl hT) rfl ?_
                  refine TL.callSY rfl rfl (enters rfl rfl rfl rfl) (May_ok l.length hW hWN) rfl ?_
                  refine TL.gdY rfl rfl (pr_pure rfl) rfl ?_
                  refine TL.run (pr_pure rfl) rfl ?_
                  refine TL.run (pr_pure rfl) rfl ?_
                  refine TL.split (s := 85) rfl (fun g85 => ?_) (fun g85 => ?_)
                  ·
                    refine TL.gdY rfl rfl (pr_pure rfl) rfl ?_
                    refine TL.gdY rfl rfl (pr_pure rfl) rfl ?_
                    refine TL.gdY rfl rfl (pr_lenSl rfl rfl hT) rfl ?_
                    refine TL.callSY rfl rfl (enters rfl rfl rfl rfl) (May_ok l.length hO hON) rfl ?_
                    refine TL.gdY rfl rfl (pr_pure rfl) rfl ?_
                    refine TL.split (s := 90) rfl (fun g90 => ?_) (fun g90 => ?_)
                    ·
                      refine TL.gdN rfl rfl rfl rfl ?_
                      refine TL.gdN rfl rfl rfl rfl ?_
                      refine TL.gdN rfl rfl rfl rfl ?_
                      refine TL.gdN rfl rfl rfl rfl ?_
                      refine TL.gdY rfl rfl (pr_pure rfl) rfl ?_
                      refine TL.gdY rfl rfl (pr_pure rfl) rfl ?_
                      refine TL.gdN rfl rfl rfl rfl ?_
                      refine TL.gdN rfl rfl rfl rfl ?_
                      refine TL.gdN rfl rfl rfl rfl ?_
                      refine TL.gdY rfl rfl (pr_pure rfl) rfl ?_
                      refine TL.run (pr_pure rfl) rfl ?_
                      refine TL.run (pr_pure rfl) rfl ?_
                      refine TL.gdY rfl rfl (pr_pure rfl) rfl ?_
                      refine TL.gdY rfl rfl (pr_pure rfl) rfl ?_
                      refine TL.callY rfl rfl (enters rfl rfl rfl rfl) (Vars_ok root hM hMN) rfl (fun v105 H105 hle105 hp105 => ?_)
                      replace hT := hT.le hle105
                      replace hM := hM.le hle105
                      replace hW := hW.le hle105
                      replace hO := hO.le hle105
                      replace hR56 := hR56.le hle105
                      replace hR62 := hR62.le hle105
                      have hV105 : RdSl H105 1 Str.cells v105 _ := hp105
                      obtain ⟨va105, vc105, rfl⟩ := hV105.len
                      refine TL.gdY rfl rfl (pr_pure rfl) rfl ?_
                      refine TL.gdY rfl rfl (pr_pure rfl) rfl ?_
                      refine TL.callY rfl rfl (enters rfl rfl rfl rfl) (Vars_ok root hT hN) rfl (fun v108 H108 hle108 hp108 => ?_)
                      replace hT := hT.le hle108
                      replace hM := hM.le hle108
                      replace hW := hW.le hle108
                      replace hO := hO.le hle108
                      replace hR56 := hR56.le hle108
                      replace hR62 := hR62.le hle108
                      replace hV105 := hV105.le hle108
                      have hV108 : RdSl H108 1 Str.cells v108 _ := hp108
                      obtain ⟨va108, vc108, rfl⟩ := hV108.len
                      refine TL.callSY rfl rfl (enters rfl rfl rfl rfl) (sameN_ok hV105 hV108) rfl ?_
                      refine TL.run (pr_pure rfl) rfl ?_
                      refine TL.run (pr_pure rfl) rfl ?_
                      refine TL.nil ?_
                      refine TX.seqN ?_
                      refine TC.ret ?_
                      exact TX.finS (.inr rfl) (results1 rfl (RVal.tmp rfl)) (congrArg Value.bool (by first | rfl | (simp_all; done) | (simp_all; omega)))
                    ·
                      refine TL.gdY rfl rfl (pr_pure rfl) rfl ?_
                      refine TL.gdY rfl rfl (pr_pure rfl) rfl ?_
                      refine TL.callSY rfl rfl (enters rfl rfl rfl rfl) (May_ok root hO hON) rfl ?_
                      refine TL.gdY rfl rfl (pr_pure rfl) rfl ?_
                      refine TL.gdY rfl rfl (pr_pure rfl) rfl ?_
                      refine TL.gdY rfl rfl (pr_pure rfl) rfl ?_
                      refine TL.split (s := 96) rfl (fun g96 => ?_) (fun g96 => ?_)
                      ·
                        refine TL.gdN rfl rfl rfl rfl ?_
                        refine TL.gdN rfl rfl rfl rfl ?_
                        refine TL.gdN rfl rfl rfl rfl ?_
                        refine TL.gdY rfl rfl (pr_pure rfl) rfl ?_
                        refine TL.run (pr_pure rfl) rfl ?_
                        refine TL.run (pr_pure rfl) rfl ?_
                        refine TL.gdY rfl rfl (pr_pure rfl) rfl ?_
                        refine TL.gdY rfl rfl (pr_pure rfl) rfl ?_
                        refine TL.callY rfl rfl (enters rfl rfl rfl rfl) (Vars_ok root hM hMN) rfl (fun v105 H105 hle105 hp105 => ?_)
                        replace hT := hT.le hle105
                        replace hM := hM.le hle105
                        replace hW := hW.le hle105
                        replace hO := hO.le hle105
                        replace hR56 := hR56.le hle105
                        replace hR62 := hR62.le hle105
                        have hV105 : RdSl H105 1 Str.cells v105 _ := hp105
                        obtain ⟨va105, vc105, rfl⟩ := hV105.len
                        refine TL.gdY rfl rfl (pr_pure rfl) rfl ?_
                        refine TL.gdY rfl rfl (pr_pure rfl) rfl ?_
                        refine TL.callY rfl rfl (enters rfl rfl rfl rfl) (Vars_ok root hT hN) rfl (fun v108 H108 hle108 hp108 => ?_)
                        replace hT := hT.le hle108
                        replace hM := hM.le hle108
                        replace hW := hW.le hle108
                        replace hO := hO.le hle108
                        replace hR56 := hR56.le hle108
                        replace hR62 := hR62.le hle108
                        replace hV105 := hV105.le hle108
                        have hV108 : RdSl H108 1 Str.cells v108 _ := hp108
                        obtain ⟨va108, vc108, rfl⟩ := hV108.len
                        refine TL.callSY rfl rfl (enters rfl rfl rfl rfl) (sameN_ok hV105 hV108) rfl ?_
                        refine TL.run (pr_pure rfl) rfl ?_
                        refine TL.run (pr_pure rfl) rfl ?_
                        refine TL.nil ?_
                        refine TX.seqN ?_
                        refine TC.ret ?_
                        exact TX.finS (.inr rfl) (results1 rfl (RVal.tmp rfl)) (congrArg Value.bool (by first | rfl | (simp_all; done) | (simp_all; omega)))
                      ·
                        refine TL.gdY rfl rfl (pr_pure rfl) rfl ?_
                        refine TL.gdY rfl rfl (pr_lenSl rfl rfl hT) rfl ?_
                        refine TL.gdY rfl rfl (pr_pure rfl) rfl ?_
                        refine TL.gdY rfl rfl (pr_pure rfl) rfl ?_
                        refine TL.run (pr_pure rfl) rfl ?_
                        refine TL.run (pr_pure rfl) rfl ?_
                        refine TL.split (s := 102) rfl (fun g102 => ?_) (fun g102 => ?_)
                        ·
                          have q102 := of_decide_eq_true g102
                          refine TL.gdY rfl rfl (pr_pure rfl) rfl ?_
                          refine TL.gdY rfl rfl (pr_pure rfl) rfl ?_
                          refine TL.callY rfl rfl (enters rfl rfl rfl rfl) (Vars_ok root hM hMN) rfl (fun v105 H105 hle105 hp105 => ?_)
                          replace hT := hT.le hle105
                          replace hM := hM.le hle105
                          replace hW := hW.le hle105
                          replace hO := hO.le hle105
                          replace hR56 := hR56.le hle105
                          replace hR62 := hR62.le hle105
                          have hV105 : RdSl H105 1 Str.cells v105 _ := hp105
                          obtain ⟨va105, vc105, rfl⟩ := hV105.len
                          refine TL.gdY rfl rfl (pr_pure rfl) rfl ?_
                          refine TL.gdY rfl rfl (pr_pure rfl) rfl ?_
                          refine TL.callY rfl rfl (enters rfl rfl rfl rfl) (Vars_ok root hT hN) rfl (fun v108 H108 hle108 hp108 => ?_)
                          replace hT := hT.le hle108
                          replace hM := hM.le hle108
                          replace hW := hW.le hle108
                          replace hO := hO.le hle108
                          replace hR56 := hR56.le hle108
                          replace hR62 := hR62.le hle108
                          replace hV105 := hV105.le hle108
                          have hV108 : RdSl H108 1 Str.cells v108 _ := hp108
                          obtain ⟨va108, vc108, rfl⟩ := hV108.len
                          refine TL.callSY rfl rfl (enters rfl rfl rfl rfl) (sameN_ok hV105 hV108) rfl ?_
                          refine TL.run (pr_pure rfl) rfl ?_
                          refine TL.run (pr_pure rfl) rfl ?_
                          refine TL.nil ?_
                          refine TX.seqN ?_
                          refine TC.ret ?_
                          exact TX.finS (.inr rfl) (results1 rfl (RVal.tmp rfl)) (congrArg Value.bool (by first | rfl | (simp_all; done) | (simp_all; omega)))
                        ·
                          have q102 := of_decide_eq_false g102
                          refine TL.gdN rfl rfl rfl rfl ?_
                          refine TL.gdN rfl rfl rfl rfl ?_
                          refine TL.gdN rfl rfl rfl rfl ?_
                          refine TL.gdN rfl rfl rfl rfl ?_
                          refine TL.gdN rfl rfl rfl rfl ?_
                          refine TL.gdN rfl rfl rfl rfl ?_
                          refine TL.gdN rfl rfl rfl rfl ?_
                          refine TL.run (pr_pure rfl) rfl ?_
                          refine TL.run (pr_pure rfl) rfl ?_
                          refine TL.nil ?_
                          refine TX.seqN ?_
                          refine TC.ret ?_
                          exact TX.finS (.inr rfl) (results1 rfl (RVal.tmp rfl)) (congrArg Value.bool (by first | rfl | (simp_all; done) | (simp_all; omega)))
                  ·
                    refine TL.gdN rfl rfl rfl rfl ?_
                    refine TL.gdN rfl rfl rfl rfl ?_
                    refine TL.gdN rfl rfl rfl rfl ?_
                    refine TL.gdN rfl rfl rfl rfl ?_
                    refine TL.gdN rfl rfl rfl rfl ?_
                    refine TL.gdU rfl rfl rfl ?_
                    refine TL.gdU rfl rfl rfl ?_
                    refine TL.gdU rfl rfl rfl ?_
                    refine TL.gdU rfl rfl rfl ?_
                    refine TL.gdN rfl rfl rfl rfl ?_
                    refine TL.gdN rfl rfl rfl rfl ?_
                    refine TL.gdU rfl rfl rfl ?_
                    refine TL.gdU rfl rfl rfl ?_
                    refine TL.gdU rfl rfl rfl ?_
                    refine TL.gdN rfl rfl rfl rfl ?_
                    refine TL.run (pr_pure rfl) rfl ?_
                    refine TL.run (pr_pure rfl) rfl ?_
                    refine TL.gdN rfl rfl rfl rfl ?_
                    refine TL.gdN rfl rfl rfl rfl ?_
                    refine TL.gdN rfl rfl rfl rfl ?_
                    refine TL.gdN rfl rfl rfl rfl ?_
                    refine TL.gdN rfl rfl rfl rfl ?_
                    refine TL.gdN rfl rfl rfl rfl ?_
                    refine TL.gdN rfl rfl rfl rfl ?_
                    refine TL.run (pr_pure rfl) rfl ?_
                    refine TL.run (pr_pure rfl) rfl ?_
                    refine TL.nil ?_
                    refine TX.seqN ?_
                    refine TC.ret ?_
                    exact TX.finS (.inr rfl) (results1 rfl (RVal.tmp rfl)) (congrArg Value.bool (by first | rfl | (simp_all; done) | (simp_all; omega)))
                ·
                  refine TL.gdN rfl rfl rfl rfl ?_
                  refine TL.gdN rfl rfl rfl rfl ?_
                  refine TL.gdN rfl rfl rfl rfl ?_
                  refine TL.gdN rfl rfl rfl rfl ?_
                  refine TL.gdN rfl rfl rfl rfl ?_
                  refine TL.run (pr_pure rfl) rfl ?_
                  refine TL.run (pr_pure rfl) rfl ?_
                  refine TL.gdN rfl rfl rfl rfl ?_
                  refine TL.gdN rfl rfl rfl rfl ?_
                  refine TL.gdN rfl rfl rfl rfl ?_
                  refine TL.gdN rfl rfl rfl rfl ?_
                  refine TL.gdN rfl rfl rfl rfl ?_
                  refine TL.gdU rfl rfl rfl ?_
                  refine TL.gdU rfl rfl rfl ?_
                  refine TL.gdU rfl rfl rfl ?_
                  refine TL.gdU rfl rfl rfl ?_
                  refine TL.gdN rfl rfl rfl rfl ?_
                  refine TL.gdN rfl rfl rfl rfl ?_
                  refine TL.gdU rfl rfl rfl ?_
                  refine TL.gdU rfl rfl rfl ?_
                  refine TL.gdU rfl rfl rfl ?_
                  refine TL.gdN rfl rfl rfl rfl ?_
                  refine TL.run (pr_pure rfl) rfl ?_
                  refine TL.run (pr_pure rfl) rfl ?_
                  refine TL.gdN rfl rfl rfl rfl ?_
                  refine TL.gdN rfl rfl rfl rfl ?_
                  refine TL.gdN rfl rfl rfl rfl ?_
                  refine TL.gdN rfl rfl rfl rfl ?_
                  refine TL.gdN rfl rfl rfl rfl ?_
                  refine TL.gdN rfl rfl rfl rfl ?_
                  refine TL.gdN rfl rfl rfl rfl ?_
                  refine TL.run (pr_pure rfl) rfl ?_
                  refine TL.run (pr_pure rfl) rfl ?_
                  refine TL.nil ?_
                  refine TX.seqN ?_
                  refine TC.ret ?_
                  exact TX.finS (.inr rfl) (results1 rfl (RVal.tmp rfl)) (congrArg Value.bool (by first | rfl | (simp_all; done) | (simp_all; omega)))
              ·
                have q73 := of_decide_eq_false g73
                refine TL.gdN rfl rfl rfl rfl ?_
                refine TL.gdN rfl rfl rfl rfl ?_
                refine TL.gdN rfl rfl rfl rfl ?_
                refine TL.run (pr_pure rfl) rfl ?_
                refine TL.run (pr_pure rfl) rfl ?_
                refine TL.gdN rfl rfl rfl rfl ?_
                refine TL.gdN rfl rfl rfl rfl ?_
                refine TL.gdN rfl rfl rfl rfl ?_
                refine TL.gdN rfl rfl rfl rfl ?_
                refine TL.gdN rfl rfl rfl rfl ?_
                refine TL.run (pr_pure rfl) rfl ?_
                refine TL.run (pr_pure rfl) rfl ?_
                refine TL.gdN rfl rfl rfl rfl ?_
                refine TL.gdN rfl rfl rfl rfl ?_
                refine TL.gdN rfl rfl rfl rfl ?_
                refine TL.gdN rfl rfl rfl rfl ?_
                refine TL.gdN rfl rfl rfl rfl ?_
                refine TL.gdU rfl rfl rfl ?_
                refine TL.gdU rfl rfl rfl ?_
                refine TL.gdU rfl rfl rfl ?_
                refine TL.gdU rfl rfl rfl ?_
                refine TL.gdN rfl rfl rfl rfl ?_
                refine TL.gdN rfl rfl rfl rfl ?_
                refine TL.gdU rfl rfl rfl ?_
                refine TL.gdU rfl rfl rfl ?_
                refine TL.gdU rfl rfl rfl ?_
                refine TL.gdN rfl rfl rfl rfl ?_
                refine TL.run (pr_pure rfl) rfl ?_
                refine TL.run (pr_pure rfl) rfl ?_
                refine TL.gdN rfl rfl rfl rfl ?_
                refine TL.gdN rfl rfl rfl rfl ?_
                refine TL.gdN rfl rfl rfl rfl ?_
                refine TL.gdN rfl rfl rfl rfl ?_
                refine TL.gdN rfl rfl rfl rfl ?_
                refine TL.gdN rfl rfl rfl rfl ?_
                refine TL.gdN rfl rfl rfl rfl ?_
                refine TL.run (pr_pure rfl) rfl ?_
                refine TL.run (pr_pure rfl) rfl ?_
                refine TL.nil ?_
                refine TX.seqN ?_
                refine TC.ret ?_
                exact TX.finS (.inr rfl) (results1 rfl (RVal.tmp rfl)) (congrArg Value.bool (by first | rfl | (simp_all; done) | (simp_all; omega)))
            ·
              refine TL.gdN rfl rfl rfl rfl ?_
              refine TL.gdN rfl rfl rfl rfl ?_
              refine TL.gdN rfl rfl rfl rfl ?_
              refine TL.run (pr_pure rfl) rfl ?_
              refine TL.run (pr_pure rfl) rfl ?_
              refine TL.gdN rfl rfl rfl rfl ?_
              refine TL.gdN rfl rfl rfl rfl ?_
              refine TL.gdN rfl rfl rfl rfl ?_
              refine TL.run (pr_pure rfl) rfl ?_
              refine TL.run (pr_pure rfl) rfl ?_
              refine TL.gdN rfl rfl rfl rfl ?_
              refine TL.gdN rfl rfl rfl rfl ?_
              refine TL.gdN rfl rfl rfl rfl ?_
              refine TL.gdN rfl rfl rfl rfl ?_
              refine TL.gdN rfl rfl rfl rfl ?_
              refine TL.run (pr_pure rfl) rfl ?_
              refine TL.run (pr_pure rfl) rfl ?_
              refine TL.gdN rfl rfl rfl rfl ?_
              refine TL.gdN rfl rfl rfl rfl ?_
              refine TL.gdN rfl rfl rfl rfl ?_
              refine TL.gdN rfl rfl rfl rfl ?_
              refine TL.gdN rfl rfl rfl rfl ?_
              refine TL.gdU rfl rfl rfl ?_
              refine TL.gdU rfl rfl rfl ?_
              refine TL.gdU rfl rfl rfl ?_
              refine TL.gdU rfl rfl rfl ?_
              refine TL.gdN rfl rfl rfl rfl ?_
              refine TL.gdN rfl rfl rfl rfl ?_
              refine TL.gdU rfl rfl rfl ?_
              refine TL.gdU rfl rfl rfl ?_
              refine TL.gdU rfl rfl rfl ?_
              refine TL.gdN rfl rfl rfl rfl ?_
              refine TL.run (pr_pure rfl) rfl ?_
              refine TL.run (pr_pure rfl) rfl ?_
              refine TL.gdN rfl rfl rfl rfl ?_
              refine TL.gdN rfl rfl rfl rfl ?_
              refine TL.gdN rfl rfl rfl rfl ?_
              refine TL.gdN rfl rfl rfl rfl ?_
              refine TL.gdN rfl rfl rfl rfl ?_
              refine TL.gdN rfl rfl rfl rfl ?_
              refine TL.gdN rfl rfl rfl rfl ?_
              refine TL.run (pr_pure rfl) rfl ?_
              refine TL.run (pr_pure rfl) rfl ?_
              refine TL.nil ?_
              refine TX.seqN ?_
              refine TC.ret ?_
              exact TX.finS (.inr rfl) (results1 rfl (RVal.tmp rfl)) (congrArg Value.bool (by first | rfl | (simp_all; done) | (simp_all; omega)))
        ·
          refine TD.leaf [(0, 1), (1, 0), (2, 2), (3, 3), (4, 0), (5, 1)] (by kernel_rfl) (by kernel_rfl) ?_
          refine TF.pure (pr_pure rfl) rfl ?_
          refine TF.loud ?_
          refine TL.append (enc := Term.cells) rfl rfl rfl (OwnSl.nil (enc := Term.cells)) (Src.sl hT) (by simp; omega) rfl (.new _ rfl) rfl (fun a36 c36 ob36 hO36 => ?_)
          refine TF.back ?_
          refine TF.still (pr_ownA rfl (.here _) rfl) rfl ?_
          refine TF.bslice rfl rfl rfl rfl (fun b38 => ?_)
          refine TF.loud ?_
          refine TL.append (enc := Term.cells) rfl rfl rfl hO36 (Src.own [t] (.here _) rfl rfl) (by simp; omega) rfl (.skip _ (.skip _ .all)) rfl (fun a39 c39 ob39 hO39 => ?_)
          refine TF.back ?_
          refine TF.pure (pr_pure rfl) rfl ?_
          refine TF.nil ?_
          refine TX.pubO hO39 (.skip _ (.skip _ .all)) (by simp) (fun HM leM hM => ?_)
          replace hT := hT.le leM
          have hMN : ∀ u ∈ (([] ++ l) ++ [t]), u.name.length ≤ 9223372036854775807 := snoc_names hN ht
          refine TX.seqN ?_
          refine TC.seq ?_
          refine TC.region ?_
          refine TL.run (pr_pure rfl) rfl ?_
          refine TL.append (enc := Term.cells) rfl rfl rfl (OwnSl.nil (enc := Term.cells)) (Src.sl hT) (by simp; omega) rfl (.new _ rfl) rfl (fun a41 c41 ob41 hO41 => ?_)
          refine TL.run (pr_pure rfl) rfl ?_
          refine TL.run (pr_pure rfl) rfl ?_
          refine TL.callS (enters rfl rfl rfl rfl) (two4_ok _ _ _) rfl ?_
          refine TL.bslice rfl rfl rfl rfl (fun b45 => ?_)
          refine TL.append (enc := Term.cells) rfl rfl rfl hO41 (Src.own [twoT 6 root root] (.here _) rfl rfl) (by simp; omega) rfl (.skip _ (.skip _ (.skip _ .all))) rfl (fun a46 c46 ob46 hO46 => ?_)
          refine TL.run (pr_pure rfl) rfl ?_
          refine TL.nil ?_
          refine TX.pubO hO46 (.skip _ (.skip _ (.skip _ .all))) (by simp) (fun HW leW hW => ?_)
          replace hT := hT.le leW
          replace hM := hM.le leW
          have hWN : ∀ u ∈ (([] ++ l) ++ [twoT 6 root root]), u.name.length ≤ 9223372036854775807 := snoc_names hN (by simp [twoT])
          refine TX.seqN ?_
          refine TC.seq ?_
          refine TC.region ?_
          refine TL.run (pr_pure rfl) rfl ?_
          refine TL.append (enc := Term.cells) rfl rfl rfl (OwnSl.nil (enc := Term.cells)) (Src.sl hT) (by simp; omega) rfl (.new _ rfl) rfl (fun a48 c48 ob48 hO48 => ?_)
          refine TL.run (pr_pure rfl) rfl ?_
          refine TL.run (pr_build rfl rfl) rfl ?_
          refine TL.bslice rfl rfl rfl rfl (fun b51 => ?_)
          refine TL.append (enc := Term.cells) rfl rfl rfl hO48 (Src.own [⟨16, [], 0, [], root, -1⟩] (.here _) rfl rfl) (by simp; omega) rfl (.skip _ (.skip _ (.skip _ (.skip _ .all)))) rfl (fun a52 c52 ob52 hO52 => ?_)
          refine TL.run (pr_pure rfl) rfl ?_
          refine TL.nil ?_
          refine TX.pubO hO52 (.skip _ (.skip _ (.skip _ (.skip _ .all)))) (by simp) (fun HO leO hO => ?_)
          replace hT := hT.le leO
          replace hM := hM.le leO
          replace hW := hW.le leO
          have hON : ∀ u ∈ (([] ++ l) ++ [⟨16, [], 0, [], root, -1⟩]), u.name.length ≤ 9223372036854775807 := snoc_names hN (by simp)
          refine TX.seqN ?_
          refine TC.seq ?_
          refine TC.region ?_
          refine TL.run (pr_pure rfl) rfl ?_
          refine TL.run (pr_pure rfl) rfl ?_
          refine TL.call (enters rfl rfl rfl rfl) (Eval_ok root hT binds_nil EnvOk.nil lens_nil hN) rfl (fun v56 H56 hle56 hp56 => ?_)
          obtain ⟨lv56, rfl, hR56⟩ := hp56
          replace hT := hT.le hle56
          replace hM := hM.le hle56
          replace hW := hW.le hle56
          replace hO := hO.le hle56
          obtain ⟨la56, lc56, rfl⟩ := RdSl.len hR56
          refine TL.run (pr_pure rfl) rfl ?_
          refine TL.run (pr_pure rfl) rfl ?_
          refine TL.run (pr_pure rfl) rfl ?_
          refine TL.alloc rfl (fun b10 => ?_)
          refine TL.storeA rfl rfl rfl rfl rfl (.here _) rfl rfl ?_
          refine TL.run (pr_pure rfl) rfl ?_
          refine TL.nil ?_
          refine TX.seqN ?_
          refine TC.seq ?_
          refine TC.region ?_
          refine TL.run (pr_pure rfl) rfl ?_
          refine TL.run (pr_pure rfl) rfl ?_
          refine TL.call (enters rfl rfl rfl rfl) (Eval_ok root hM binds_nil EnvOk.nil lens_nil hMN) rfl (fun v62 H62 hle62 hp62 => ?_)
          obtain ⟨lv62, rfl, hR62⟩ := hp62
          replace hT := hT.le hle62
          replace hM := hM.le hle62
          replace hW := hW.le hle62
          replace hO := hO.le hle62
          replace hR56 := hR56.le hle62
          obtain ⟨la62, lc62, rfl⟩ := RdSl.len hR62
          refine TL.run (pr_pure rfl) rfl ?_
          refine TL.run (pr_pure rfl) rfl ?_
          refine TL.run (pr_pure rfl) rfl ?_
          refine TL.alloc rfl (fun b12 => ?_)
          refine TL.storeA rfl rfl rfl rfl rfl (.here _) rfl rfl ?_
          refine TL.run (pr_pure rfl) rfl ?_
          refine TL.nil ?_
          refine TX.seqN ?_
          refine TC.seq ?_
          refine TC.region ?_
          refine TL.run (pr_pure rfl) rfl ?_
          refine TL.run (pr_pure rfl) rfl ?_
          refine TL.callS (enters rfl rfl rfl rfl) (May_ok root hM hMN) rfl ?_
          refine TL.run (pr_pure rfl) rfl ?_
          refine TL.split (s := 68) rfl (fun g68 => ?_) (fun g68 => ?_)
          ·
            refine TL.gdY rfl rfl (pr_pure rfl) rfl ?_
            refine TL.gdY rfl rfl (pr_pure rfl) rfl ?_
            refine TL.gdY rfl rfl (pr_pure rfl) rfl ?_
            refine TL.run (pr_pure rfl) rfl ?_
            refine TL.run (pr_pure rfl) rfl ?_
            refine TL.split (s := 73) rfl (fun g73 => ?_) (fun g73 => ?_)
            ·
              have q73 := of_decide_eq_true g73
              refine TL.gdY rfl rfl (pr_ownA rfl (.there _ (.here _)) rfl) rfl ?_
              refine TL.gdY rfl rfl (pr_ownA rfl (.here _) rfl) rfl ?_
              refine TL.callSY rfl rfl (enters rfl rfl rfl rfl) (dSame_ok hR56 hR62) rfl ?_
              refine TL.run (pr_pure rfl) rfl ?_
              refine TL.run (pr_pure rfl) rfl ?_
              refine TL.split (s := 78) rfl (fun g78 => ?_) (fun g78 => ?_)
              ·
                refine TL.gdY rfl rfl (pr_pure rfl) rfl ?_
                refine TL.gdY rfl rfl (pr_pure rfl) rfl ?_
                refine TL.gdY rfl rfl (pr_lenSl rfl rfl hT) rfl ?_
                refine TL.callSY rfl rfl (enters rfl rfl rfl rfl) (May_ok l.length hW hWN) rfl ?_
                refine TL.gdY rfl rfl (pr_pure rfl) rfl ?_
                refine TL.run (pr_pure rfl) rfl ?_
                refine TL.run (pr_pure rfl) rfl ?_
                refine TL.split (s := 85) rfl (fun g85 => ?_) (fun g85 => ?_)
                ·
                  refine TL.gdY rfl rfl (pr_pure rfl) rfl ?_
                  refine TL.gdY rfl rfl (pr_pure rfl) rfl ?_
                  refine TL.gdY rfl rfl (pr_lenSl rfl rfl hT) rfl ?_
                  refine TL.callSY rfl rfl (enters rfl rfl rfl rfl) (May_ok l.length hO hON) rfl ?_
                  refine TL.gdY rfl rfl (pr_pure rfl) rfl ?_
                  refine TL.split (s := 90) rfl (fun g90 => ?_) (fun g90 => ?_)
                  ·
                    refine TL.gdN rfl rfl rfl rfl ?_
                    refine TL.gdN rfl rfl rfl rfl ?_
                    refine TL.gdN rfl rfl rfl rfl ?_
                    refine TL.gdN rfl rfl rfl rfl ?_
                    refine TL.gdY rfl rfl (pr_pure rfl) rfl ?_
                    refine TL.gdY rfl rfl (pr_pure rfl) rfl ?_
                    refine TL.gdN rfl rfl rfl rfl ?_
                    refine TL.gdN rfl rfl rfl rfl ?_
                    refine TL.gdN rfl rfl rfl rfl ?_
                    refine TL.gdY rfl rfl (pr_pure rfl) rfl ?_
                    refine TL.run (pr_pure rfl) rfl ?_
                    refine TL.run (pr_pure rfl) rfl ?_
                    refine TL.gdY rfl rfl (pr_pure rfl) rfl ?_
                    refine TL.gdY rfl rfl (pr_pure rfl) rfl ?_
                    refine TL.callY rfl rfl (enters rfl rfl rfl rfl) (Vars_ok root hM hMN) rfl (fun v105 H105 hle105 hp105 => ?_)
                    replace hT := hT.le hle105
                    replace hM := hM.le hle105
                    replace hW := hW.le hle105
                    replace hO := hO.le hle105
                    replace hR56 := hR56.le hle105
                    replace hR62 := hR62.le hle105
                    have hV105 : RdSl H105 1 Str.cells v105 _ := hp105
                    obtain ⟨va105, vc105, rfl⟩ := hV105.len
                    refine TL.gdY rfl rfl (pr_pure rfl) rfl ?_
                    refine TL.gdY rfl rfl (pr_pure rfl) rfl ?_
                    refine TL.callY rfl rfl (enters rfl rfl rfl rfl) (Vars_ok root hT hN) rfl (fun v108 H108 hle108 hp108 => ?_)
                    replace hT := hT.le hle108
                    replace hM := hM.le hle108
                    replace hW := hW.le hle108
                    replace hO := hO.le hle108
                    replace hR56 := hR56.le hle108
                    replace hR62 := hR62.le hle108
                    replace hV105 := hV105.le hle108
                    have hV108 : RdSl H108 1 Str.cells v108 _ := hp108
                    obtain ⟨va108, vc108, rfl⟩ := hV108.len
                    refine TL.callSY rfl rfl (enters rfl rfl rfl rfl) (sameN_ok hV105 hV108) rfl ?_
                    refine TL.run (pr_pure rfl) rfl ?_
                    refine TL.run (pr_pure rfl) rfl ?_
                    refine TL.nil ?_
                    refine TX.seqN ?_
                    refine TC.ret ?_
                    exact TX.finS (.inr rfl) (results1 rfl (RVal.tmp rfl)) (congrArg Value.bool (by first | rfl | (simp_all; done) | (simp_all; omega)))
                  ·
                    refine TL.gdY rfl rfl (pr_pure rfl) rfl ?_
                    refine TL.gdY rfl rfl (pr_pure rfl) rfl ?_
                    refine TL.callSY rfl rfl (enters rfl rfl rfl rfl) (May_ok root hO hON) rfl ?_
                    refine TL.gdY rfl rfl (pr_pure rfl) rfl ?_
                    refine TL.gdY rfl rfl (pr_pure rfl) rfl ?_
                    refine TL.gdY rfl rfl (pr_pure rfl) rfl ?_
                    refine TL.split (s := 96) rfl (fun g96 => ?_) (fun g96 => ?_)
                    ·
                      refine TL.gdN rfl rfl rfl rfl ?_
                      refine TL.gdN rfl rfl rfl rfl ?_
                      refine TL.gdN rfl rfl rfl rfl ?_
                      refine TL.gdY rfl rfl (pr_pure rfl) rfl ?_
                      refine TL.run (pr_pure rfl) rfl ?_
                      refine TL.run (pr_pure rfl) rfl ?_
                      refine TL.gdY rfl rfl (pr_pure rfl) rfl ?_
                      refine TL.gdY rfl rfl (pr_pure rfl) rfl ?_
                      refine TL.callY rfl rfl (enters rfl rfl rfl rfl) (Vars_ok root hM hMN) rfl (fun v105 H105 hle105 hp105 => ?_)
                      replace hT := hT.le hle105
                      replace hM := hM.le hle105
                      replace hW := hW.le hle105
                      replace hO := hO.le hle105
                      replace hR56 := hR56.le hle105
                      replace hR62 := hR62.le hle105
                      have hV105 : RdSl H105 1 Str.cells v105 _ := hp105
                      obtain ⟨va105, vc105, rfl⟩ := hV105.len
                      refine TL.gdY rfl rfl (pr_pure rfl) rfl ?_
                      refine TL.gdY rfl rfl (pr_pure rfl) rfl ?_
                      refine TL.callY rfl rfl (enters rfl rfl rfl rfl) (Vars_ok root hT hN) rfl (fun v108 H108 hle108 hp108 => ?_)
                      replace hT := hT.le hle108
                      replace hM := hM.le hle108
                      replace hW := hW.le hle108
                      replace hO := hO.le hle108
                      replace hR56 := hR56.le hle108
                      replace hR62 := hR62.le hle108
                      replace hV105 := hV105.le hle108
                      have hV108 : RdSl H108 1 Str.cells v108 _ := hp108
                      obtain ⟨va108, vc108, rfl⟩ := hV108.len
                      refine TL.callSY rfl rfl (enters rfl rfl rfl rfl) (sameN_ok hV105 hV108) rfl ?_
                      refine TL.run (pr_pure rfl) rfl ?_
                      refine TL.run (pr_pure rfl) rfl ?_
                      refine TL.nil ?_
                      refine TX.seqN ?_
                      refine TC.ret ?_
                      exact TX.finS (.inr rfl) (results1 rfl (RVal.tmp rfl)) (congrArg Value.bool (by first | rfl | (simp_all; done) | (simp_all; omega)))
                    ·
                      refine TL.gdY rfl rfl (pr_pure rfl) rfl ?_
                      refine TL.gdY rfl rfl (pr_lenSl rfl rfl hT) rfl ?_
                      refine TL.gdY rfl rfl (pr_pure rfl) rfl ?_
                      refine TL.gdY rfl rfl (pr_pure rfl) rfl ?_
                      refine TL.run (pr_pure rfl) rfl ?_
                      refine TL.run (pr_pure rfl) rfl ?_
                      refine TL.split (s := 102) rfl (fun g102 => ?_) (fun g102 => ?_)
                      ·
                        have q102 := of_decide_eq_true g102
                        refine TL.gdY rfl rfl (pr_pure rfl) rfl ?_
                        refine TL.gdY rfl rfl (pr_pure rfl) rfl ?_
                        refine TL.callY rfl rfl (enters rfl rfl rfl rfl) (Vars_ok root hM hMN) rfl (fun v105 H105 hle105 hp105 => ?_)
                        replace hT := hT.le hle105
                        replace hM := hM.le hle105
                        replace hW := hW.le hle105
                        replace hO := hO.le hle105
                        replace hR56 := hR56.le hle105
                        replace hR62 := hR62.le hle105
                        have hV105 : RdSl H105 1 Str.cells v105 _ := hp105
                        obtain ⟨va105, vc105, rfl⟩ := hV105.len
                        refine TL.gdY rfl rfl (pr_pure rfl) rfl ?_
                        refine TL.gdY rfl rfl (pr_pure rfl) rfl ?_
                        refine TL.callY rfl rfl (enters rfl rfl rfl rfl) (Vars_ok root hT hN) rfl (fun v108 H108 hle108 hp108 => ?_)
                        replace hT := hT.le hle108
                        replace hM := hM.le hle108
                        replace hW := hW.le hle108
                        replace hO := hO.le hle108
                        replace hR56 := hR56.le hle108
                        replace hR62 := hR62.le hle108
                        replace hV105 := hV105.le hle108
                        have hV108 : RdSl H108 1 Str.cells v108 _ := hp108
                        obtain ⟨va108, vc108, rfl⟩ := hV108.len
                        refine TL.callSY rfl rfl (enters rfl rfl rfl rfl) (sameN_ok hV105 hV108) rfl ?_
                        refine TL.run (pr_pure rfl) rfl ?_
                        refine TL.run (pr_pure rfl) rfl ?_
                        refine TL.nil ?_
                        refine TX.seqN ?_
                        refine TC.ret ?_
                        exact TX.finS (.inr rfl) (results1 rfl (RVal.tmp rfl)) (congrArg Value.bool (by first | rfl | (simp_all; done) | (simp_all; omega)))
                      ·
                        have q102 := of_decide_eq_false g102
                        refine TL.gdN rfl rfl rfl rfl ?_
                        refine TL.gdN rfl rfl rfl rfl ?_
                        refine TL.gdN rfl rfl rfl rfl ?_
                        refine TL.gdN rfl rfl rfl rfl ?_
                        refine TL.gdN rfl rfl rfl rfl ?_
                        refine TL.gdN rfl rfl rfl rfl ?_
                        refine TL.gdN rfl rfl rfl rfl ?_
                        refine TL.run (pr_pure rfl) rfl ?_
                        refine TL.run (pr_pure rfl) rfl ?_
                        refine TL.nil ?_
                        refine TX.seqN ?_
                        refine TC.ret ?_
                        exact TX.finS (.inr rfl) (results1 rfl (RVal.tmp rfl)) (congrArg Value.bool (by first | rfl | (simp_all; done) | (simp_all; omega)))
                ·
                  refine TL.gdN rfl rfl rfl rfl ?_
                  refine TL.gdN rfl rfl rfl rfl ?_
                  refine TL.gdN rfl rfl rfl rfl ?_
                  refine TL.gdN rfl rfl rfl rfl ?_
                  refine TL.gdN rfl rfl rfl rfl ?_
                  refine TL.gdU rfl rfl rfl ?_
                  refine TL.gdU rfl rfl rfl ?_
                  refine TL.gdU rfl rfl rfl ?_
                  refine TL.gdU rfl rfl rfl ?_
                  refine TL.gdN rfl rfl rfl rfl ?_
                  refine TL.gdN rfl rfl rfl rfl ?_
                  refine TL.gdU rfl rfl rfl ?_
                  refine TL.gdU rfl rfl rfl ?_
                  refine TL.gdU rfl rfl rfl ?_
                  refine TL.gdN rfl rfl rfl rfl ?_
                  refine TL.run (pr_pure rfl) rfl ?_
                  refine TL.run (pr_pure rfl) rfl ?_
                  refine TL.gdN rfl rfl rfl rfl ?_
                  refine TL.gdN rfl rfl rfl rfl ?_
                  refine TL.gdN rfl rfl rfl rfl ?_
                  refine TL.gdN rfl rfl rfl rfl ?_
                  refine TL.gdN rfl rfl rfl rfl ?_
                  refine TL.gdN rfl rfl rfl rfl ?_
                  refine TL.gdN rfl rfl rfl rfl ?_
                  refine TL.run (pr_pure rfl) rfl ?_
                  refine TL.run (pr_pure rfl) rfl ?_
                  refine TL.nil ?_
                  refine TX.seqN ?_
                  refine TC.ret ?_
                  exact TX.finS (.inr rfl) (results1 rfl (RVal.tmp rfl)) (congrArg Value.bool (by first | rfl | (simp_all; done) | (simp_all; omega)))
              ·
                refine TL.gdN rfl rfl rfl rfl ?_
                refine TL.gdN rfl rfl rfl rfl ?_
                refine TL.gdN rfl rfl rfl rfl ?_
                refine TL.gdN rfl rfl rfl rfl ?_
                refine TL.gdN rfl rfl rfl rfl ?_
                refine TL.run (pr_pure rfl) rfl ?_
                refine TL.run (pr_pure rfl) rfl ?_
                refine TL.gdN rfl rfl rfl rfl ?_
                refine TL.gdN rfl rfl rfl rfl ?_
                refine TL.gdN rfl rfl rfl rfl ?_
                refine TL.gdN rfl rfl rfl rfl ?_
                refine TL.gdN rfl rfl rfl rfl ?_
                refine TL.gdU rfl rfl rfl ?_
                refine TL.gdU rfl rfl rfl ?_
                refine TL.gdU rfl rfl rfl ?_
                refine TL.gdU rfl rfl rfl ?_
                refine TL.gdN rfl rfl rfl rfl ?_
                refine TL.gdN rfl rfl rfl rfl ?_
                refine TL.gdU rfl rfl rfl ?_
                refine TL.gdU rfl rfl rfl ?_
                refine TL.gdU rfl rfl rfl ?_
                refine TL.gdN rfl rfl rfl rfl ?_
                refine TL.run (pr_pure rfl) rfl ?_
                refine TL.run (pr_pure rfl) rfl ?_
                refine TL.gdN rfl rfl rfl rfl ?_
                refine TL.gdN rfl rfl rfl rfl ?_
                refine TL.gdN rfl rfl rfl rfl ?_
                refine TL.gdN rfl rfl rfl rfl ?_
                refine TL.gdN rfl rfl rfl rfl ?_
                refine TL.gdN rfl rfl rfl rfl ?_
                refine TL.gdN rfl rfl rfl rfl ?_
                refine TL.run (pr_pure rfl) rfl ?_
                refine TL.run (pr_pure rfl) rfl ?_
                refine TL.nil ?_
                refine TX.seqN ?_
                refine TC.ret ?_
                exact TX.finS (.inr rfl) (results1 rfl (RVal.tmp rfl)) (congrArg Value.bool (by first | rfl | (simp_all; done) | (simp_all; omega)))
            ·
              have q73 := of_decide_eq_false g73
              refine TL.gdN rfl rfl rfl rfl ?_
              refine TL.gdN rfl rfl rfl rfl ?_
              refine TL.gdN rfl rfl rfl rfl ?_
              refine TL.run (pr_pure rfl) rfl ?_
              refine TL.run (pr_pure rfl) rfl ?_
              refine TL.gdN rfl rfl rfl rfl ?_
              refine TL.gdN rfl rfl rfl rfl ?_
              refine TL.gdN rfl rfl rfl rfl ?_
              refine TL.gdN rfl rfl rfl rfl ?_
              refine TL.gdN rfl rfl rfl rfl ?_
              refine TL.run (pr_pure rfl) rfl ?_
              refine TL.run (pr_pure rfl) rfl ?_
              refine TL.gdN rfl rfl rfl rfl ?_
              refine TL.gdN rfl rfl rfl rfl ?_
              refine TL.gdN rfl rfl rfl rfl ?_
              refine TL.gdN rfl rfl rfl rfl ?_
              refine TL.gdN rfl rfl rfl rfl ?_
              refine TL.gdU rfl rfl rfl ?_
              refine TL.gdU rfl rfl rfl ?_
              refine TL.gdU rfl rfl rfl ?_
              refine TL.gdU rfl rfl rfl ?_
              refine TL.gdN rfl rfl rfl rfl ?_
              refine TL.gdN rfl rfl rfl rfl ?_
              refine TL.gdU rfl rfl rfl ?_
              refine TL.gdU rfl rfl rfl ?_
              refine TL.gdU rfl rfl rfl ?_
              refine TL.gdN rfl rfl rfl rfl ?_
              refine TL.run (pr_pure rfl) rfl ?_
              refine TL.run (pr_pure rfl) rfl ?_
              refine TL.gdN rfl rfl rfl rfl ?_
              refine TL.gdN rfl rfl rfl rfl ?_
              refine TL.gdN rfl rfl rfl rfl ?_
              refine TL.gdN rfl rfl rfl rfl ?_
              refine TL.gdN rfl rfl rfl rfl ?_
              refine TL.gdN rfl rfl rfl rfl ?_
              refine TL.gdN rfl rfl rfl rfl ?_
              refine TL.run (pr_pure rfl) rfl ?_
              refine TL.run (pr_pure rfl) rfl ?_
              refine TL.nil ?_
              refine TX.seqN ?_
              refine TC.ret ?_
              exact TX.finS (.inr rfl) (results1 rfl (RVal.tmp rfl)) (congrArg Value.bool (by first | rfl | (simp_all; done) | (simp_all; omega)))
          ·
            refine TL.gdN rfl rfl rfl rfl ?_
            refine TL.gdN rfl rfl rfl rfl ?_
            refine TL.gdN rfl rfl rfl rfl ?_
            refine TL.run (pr_pure rfl) rfl ?_
            refine TL.run (pr_pure rfl) rfl ?_
            refine TL.gdN rfl rfl rfl rfl ?_
            refine TL.gdN rfl rfl rfl rfl ?_
            refine TL.gdN rfl rfl rfl rfl ?_
            refine TL.run (pr_pure rfl) rfl ?_
            refine TL.run (pr_pure rfl) rfl ?_
            refine TL.gdN rfl rfl rfl rfl ?_
            refine TL.gdN rfl rfl rfl rfl ?_
            refine TL.gdN rfl rfl rfl rfl ?_
            refine TL.gdN rfl rfl rfl rfl ?_
            refine TL.gdN rfl rfl rfl rfl ?_
            refine TL.run (pr_pure rfl) rfl ?_
            refine TL.run (pr_pure rfl) rfl ?_
            refine TL.gdN rfl rfl rfl rfl ?_
            refine TL.gdN rfl rfl rfl rfl ?_
            refine TL.gdN rfl rfl rfl rfl ?_
            refine TL.gdN rfl rfl rfl rfl ?_
            refine TL.gdN rfl rfl rfl rfl ?_
            refine TL.gdU rfl rfl rfl ?_
            refine TL.gdU rfl rfl rfl ?_
            refine TL.gdU rfl rfl rfl ?_
            refine TL.gdU rfl rfl rfl ?_
            refine TL.gdN rfl rfl rfl rfl ?_
            refine TL.gdN rfl rfl rfl rfl ?_
            refine TL.gdU rfl rfl rfl ?_
            refine TL.gdU rfl rfl rfl ?_
            refine TL.gdU rfl rfl rfl ?_
            refine TL.gdN rfl rfl rfl rfl ?_
            refine TL.run (pr_pure rfl) rfl ?_
            refine TL.run (pr_pure rfl) rfl ?_
            refine TL.gdN rfl rfl rfl rfl ?_
            refine TL.gdN rfl rfl rfl rfl ?_
            refine TL.gdN rfl rfl rfl rfl ?_
            refine TL.gdN rfl rfl rfl rfl ?_
            refine TL.gdN rfl rfl rfl rfl ?_
            refine TL.gdN rfl rfl rfl rfl ?_
            refine TL.gdN rfl rfl rfl rfl ?_
            refine TL.run (pr_pure rfl) rfl ?_
            refine TL.run (pr_pure rfl) rfl ?_
            refine TL.nil ?_
            refine TX.seqN ?_
            refine TC.ret ?_
            exact TX.finS (.inr rfl) (results1 rfl (RVal.tmp rfl)) (congrArg Value.bool (by first | rfl | (simp_all; done) | (simp_all; omega)))
end Go.Sx
