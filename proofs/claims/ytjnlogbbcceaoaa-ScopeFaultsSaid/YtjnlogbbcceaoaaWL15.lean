import Derived.Test.YtjnlogbbcceaoaaWRiD
import Derived.Test.YtjnlogbbcceaoaaPureFa
import Derived.Test.YtjnlogbbcceaoaaSxC
set_option linter.unusedVariables false
set_option linter.unusedSimpArgs false
namespace Go.Sx
open Go Go.Proofs
set_option maxRecDepth 100000 in
set_option maxHeartbeats 1000000 in
theorem stop_ok {H : Hp} :
  Fn Try.prog 7 [] H (fun v H2 => ∃ sp qp, v = .agg (stopP sp qp).cells.toArray ∧ ProgOk H2 (stopP sp qp)) := by
 refine Fn.enter Try.func7 Try.ntmps7 rfl rfl (fun w0 => ?_)
 refine TC.seq (TC.region ?_)
 refine TL.alloc rfl (fun b0 => ?_)
 refine TL.nil (TX.seqN (TC.seq (TC.region (TL.run (pr_build rfl rfl) rfl ?_))))
 refine TL.bslice rfl rfl rfl rfl (fun b2 => ?_)
 refine TL.run (pr_build rfl rfl) rfl ?_
 refine TL.bslice rfl rfl rfl rfl (fun b4 => ?_)
 refine TL.run (pr_build rfl rfl) rfl ?_
 refine TL.storeA rfl rfl rfl rfl rfl (.there _ (.there _ (.here _))) rfl rfl ?_
 refine TL.nil (TX.front (.there _ (.here _)) ?_)
 refine TX.pub (by simp) (fun H_b2 le_b2 rd_b2 => ?_)
 have hS : RdSl H_b2 10 SStep.cells _ ([endS]) := RdSl.blk (cap := 1) rd_b2 (by intro x hx; rfl) (by kernel_rfl) (by show 1 ≤ 9223372036854775807; decide)
 refine TX.pub (by simp) (fun H_b4 le_b4 rd_b4 => ?_)
 replace hS := hS.le le_b4
 have hQ : RdSl H_b4 4 SProc.cells _ ([⟨sMain, [], nS, [], nS, [endS], (some ⟨b2, 0, none⟩, 1)⟩]) := RdSl.blk (cap := 1) rd_b4 (by intro x hx; rfl) (by kernel_rfl) (by show 1 ≤ 9223372036854775807; decide)
 refine TX.seqN (TC.ret (TX.fin0 (.inr rfl) (results1 rfl (RVal.cellA rfl (.here _) rfl)) ⟨(some ⟨b2, 0, none⟩, 1), (some ⟨b4, 0, none⟩, 1), rfl, stop_prog hS hQ⟩))

theorem check_nil {H : Hp} (hM : MaxG H) : Fn Try.prog 6 [.agg #[.slice none 0 0, .slice none 0 0, .slice none 0 0]] H (fun v H2 => v = .agg (SFault.cells ⟨1504, -1, -1⟩).toArray) := by
 have := check_ok (nil_ok H) hM
 rw [nil_check] at this
 exact this

set_option maxRecDepth 100000 in
set_option maxHeartbeats 8000000 in
theorem first15_ok {H : Hp} (hM : MaxG H) :
  Fn Try.prog 4 [] H (fun v H2 => v = .bool true) := by
 refine Fn.enter Try.func4 Try.ntmps4 rfl rfl (fun w0 => ?_)
 refine TC.seq (TC.region (TL.run (pr_pure rfl) rfl (TL.nil (TX.seqN (TC.seq (TC.region ?_))))))
 refine TL.call (enters rfl rfl rfl rfl) (stop_ok) rfl (fun v1 H1 hle1 hp1 => ?_)
 obtain ⟨sp1, qp1, rfl, hP1⟩ := hp1
 replace hM := hM.le hle1
 refine TL.call (enters rfl rfl rfl rfl) (check_ok hP1 hM) rfl (fun v2 H2 hle2 hp2 => ?_)
 replace hM := hM.le hle2
 replace hP1 := hP1.le hle2
 rw [stop_check] at hp2
 subst hp2
 refine TL.run (pr_build rfl rfl) rfl ?_
 refine TL.run (pr_eqA (r := true) rfl rfl (by kernel_rfl) (by kernel_rfl) (by kernel_rfl)) rfl (TL.run (pr_pure rfl) rfl ?_)
 refine TL.split (s := 5) rfl (fun g5 => ?_) (fun g5 => ?_)
 ·
  refine TL.gdY rfl rfl (pr_build rfl rfl) rfl ?_
  refine TL.callY rfl rfl (enters rfl rfl rfl rfl) (check_nil hM) rfl (fun v7 H7 hle7 hp7 => ?_)
  replace hM := hM.le hle7
  replace hP1 := hP1.le hle7
  subst hp7
  refine TL.gdY rfl rfl (pr_build rfl rfl) rfl ?_
  refine TL.gdY rfl rfl (pr_eqA (r := true) rfl rfl (by kernel_rfl) (by kernel_rfl) (by kernel_rfl)) rfl (TL.run (pr_pure rfl) rfl (TL.run (pr_pure rfl) rfl ?_))
  refine TL.split (s := 11) rfl (fun g11 => ?_) (fun g11 => ?_)
  ·
   refine TL.callY rfl rfl (enters rfl rfl rfl rfl) (stop_ok) rfl (fun v12 H12 hle12 hp12 => ?_)
   obtain ⟨sp12, qp12, rfl, hP12⟩ := hp12
   replace hM := hM.le hle12
   replace hP1 := hP1.le hle12
   refine TL.callSY rfl rfl (enters rfl rfl rfl rfl) (sFind_ok sMain hP12) rfl ?_
   refine TL.gdY rfl rfl (pr_pure rfl) rfl (TL.run (pr_pure rfl) rfl (TL.run (pr_pure rfl) rfl ?_))
   refine TL.split (s := 16) rfl (fun g16 => ?_) (fun g16 => ?_)
   ·
    have q16 := of_decide_eq_true g16
    refine TL.callY rfl rfl (enters rfl rfl rfl rfl) (stop_ok) rfl (fun v17 H17 hle17 hp17 => ?_)
    obtain ⟨sp17, qp17, rfl, hP17⟩ := hp17
    replace hM := hM.le hle17
    replace hP1 := hP1.le hle17
    replace hP12 := hP12.le hle17
    refine TL.callSY rfl rfl (enters rfl rfl rfl rfl) (sFind_ok [120] hP17) rfl ?_
    refine TL.gdY rfl rfl (pr_pure rfl) rfl (TL.run (pr_pure rfl) rfl (TL.run (pr_pure rfl) rfl ?_))
    refine TL.split (s := 21) rfl (fun g21 => ?_) (fun g21 => ?_)
    ·
     have q21 := of_decide_eq_true g21
     refine TL.callY rfl rfl (enters rfl rfl rfl rfl) (stop_ok) rfl (fun v22 H22 hle22 hp22 => ?_)
     obtain ⟨sp22, qp22, rfl, hP22⟩ := hp22
     replace hM := hM.le hle22
     replace hP1 := hP1.le hle22
     replace hP12 := hP12.le hle22
     replace hP17 := hP17.le hle22
     refine TL.callY rfl rfl (enters rfl rfl rfl rfl) (rise_ok hP22 hM) rfl (fun v23 H23 hle23 hp23 => ?_)
     obtain ⟨pg23, rfl, hP23, hB23⟩ := hp23
     replace hM := hM.le hle23
     replace hP1 := hP1.le hle23
     replace hP12 := hP12.le hle23
     replace hP17 := hP17.le hle23
     replace hP22 := hP22.le hle23
     have hN23 := stop_rise hB23
     refine TL.gdY rfl rfl (pr_fieldV (off := 2) rfl (by kernel_rfl) rfl) rfl (TL.gdY rfl rfl (pr_lenSl rfl rfl hP23.q) rfl (TL.gdY rfl rfl (pr_pure rfl) rfl (TL.run (pr_pure rfl) rfl (TL.run (pr_pure rfl) rfl (TL.nil (TX.seqN (TC.ret ?_)))))))
     exact TX.fin0 (.inr rfl) (results1 rfl (RVal.tmp rfl)) (congrArg Value.bool (by first | rfl | (rw [hN23]; rfl) | exact absurd (stop_find _ _) q16 | exact absurd (stop_no _ _) q21 | exact absurd g11 (by decide) | exact absurd g5 (by decide)))
    ·
     have q21 := of_decide_eq_false g21
     refine TL.gdN rfl rfl rfl rfl (TL.gdN rfl rfl rfl rfl (TL.gdN rfl rfl rfl rfl (TL.gdN rfl rfl rfl rfl (TL.gdN rfl rfl rfl rfl (TL.run (pr_pure rfl) rfl (TL.run (pr_pure rfl) rfl (TL.nil ?_)))))))
     refine TX.seqN (TC.ret (TX.fin0 (.inr rfl) (results1 rfl (RVal.tmp rfl)) (congrArg Value.bool (by first | rfl | (rw [hN23]; rfl) | exact absurd (stop_find _ _) q16 | exact absurd (stop_no _ _) q21 | exact absurd g11 (by decide) | exact absurd g5 (by decide)))))
   ·
    have q16 := of_decide_eq_false g16
    refine TL.gdN rfl rfl rfl rfl (TL.gdN rfl rfl rfl rfl (TL.gdN rfl rfl rfl rfl (TL.run (pr_pure rfl) rfl (TL.run (pr_pure rfl) rfl (TL.gdN rfl rfl rfl rfl (TL.gdN rfl rfl rfl rfl (TL.gdN rfl rfl rfl rfl ?_)))))))
    refine TL.gdN rfl rfl rfl rfl (TL.gdN rfl rfl rfl rfl (TL.run (pr_pure rfl) rfl (TL.run (pr_pure rfl) rfl (TL.nil (TX.seqN (TC.ret (TX.fin0 (.inr rfl) (results1 rfl (RVal.tmp rfl)) (congrArg Value.bool (by first | rfl | (rw [hN23]; rfl) | exact absurd (stop_find _ _) q16 | exact absurd (stop_no _ _) q21 | exact absurd g11 (by decide) | exact absurd g5 (by decide))))))))))
  ·
   refine TL.gdN rfl rfl rfl rfl (TL.gdN rfl rfl rfl rfl (TL.gdN rfl rfl rfl rfl (TL.run (pr_pure rfl) rfl (TL.run (pr_pure rfl) rfl (TL.gdN rfl rfl rfl rfl (TL.gdN rfl rfl rfl rfl (TL.gdN rfl rfl rfl rfl ?_)))))))
   refine TL.run (pr_pure rfl) rfl (TL.run (pr_pure rfl) rfl (TL.gdN rfl rfl rfl rfl (TL.gdN rfl rfl rfl rfl (TL.gdN rfl rfl rfl rfl (TL.gdN rfl rfl rfl rfl (TL.gdN rfl rfl rfl rfl (TL.run (pr_pure rfl) rfl ?_)))))))
   refine TL.run (pr_pure rfl) rfl (TL.nil (TX.seqN (TC.ret (TX.fin0 (.inr rfl) (results1 rfl (RVal.tmp rfl)) (congrArg Value.bool (by first | rfl | (rw [hN23]; rfl) | exact absurd (stop_find _ _) q16 | exact absurd (stop_no _ _) q21 | exact absurd g11 (by decide) | exact absurd g5 (by decide)))))))
 ·
  refine TL.gdN rfl rfl rfl rfl (TL.gdN rfl rfl rfl rfl (TL.gdN rfl rfl rfl rfl (TL.gdN rfl rfl rfl rfl (TL.run (pr_pure rfl) rfl (TL.run (pr_pure rfl) rfl (TL.gdN rfl rfl rfl rfl (TL.gdN rfl rfl rfl rfl ?_)))))))
  refine TL.gdN rfl rfl rfl rfl (TL.run (pr_pure rfl) rfl (TL.run (pr_pure rfl) rfl (TL.gdN rfl rfl rfl rfl (TL.gdN rfl rfl rfl rfl (TL.gdN rfl rfl rfl rfl (TL.run (pr_pure rfl) rfl (TL.run (pr_pure rfl) rfl ?_)))))))
  refine TL.gdN rfl rfl rfl rfl (TL.gdN rfl rfl rfl rfl (TL.gdN rfl rfl rfl rfl (TL.gdN rfl rfl rfl rfl (TL.gdN rfl rfl rfl rfl (TL.run (pr_pure rfl) rfl (TL.run (pr_pure rfl) rfl (TL.nil ?_)))))))
  refine TX.seqN (TC.ret (TX.fin0 (.inr rfl) (results1 rfl (RVal.tmp rfl)) (congrArg Value.bool (by first | rfl | (rw [hN23]; rfl) | exact absurd (stop_find _ _) q16 | exact absurd (stop_no _ _) q21 | exact absurd g11 (by decide) | exact absurd g5 (by decide)))))
end Go.Sx
