import Derived.Test.YtgagehpnkecmkaaDoorWL1
set_option linter.unusedVariables false
set_option linter.unusedSimpArgs false
namespace Go.Sx
open Go Go.Proofs
set_option maxRecDepth 100000 in
set_option maxHeartbeats 4000000 in
theorem NamesBytes_ok {H : Hp} (s : Str) (at_ : Int) (c : UInt8) (hs : s.length ≤ 9223372036854775807) :
    FnS Tryd.prog 3 [gs s, .int .i64 at_, .int .u8 (c.toNat : Int)] H (.bool true) := by
  refine FnS.enter Tryd.func3 Tryd.ntmps3 rfl rfl (fun w0 => ?_)
  refine TC.seq ?_
  refine TC.region ?_
  refine TL.run (pr_pure rfl) rfl ?_
  refine TL.nil ?_
  refine TX.seqN ?_
  refine TC.seq ?_
  refine TC.seq ?_
  refine TC.region ?_
  refine TL.callS (enters rfl rfl rfl rfl) (first1_ok) rfl ?_
  refine TL.run (pr_pure rfl) rfl ?_
  refine TL.nil ?_
  refine TX.seqN ?_
  refine TC.cond rfl (fun c12 => ?_) (fun c12 => ?_)
  ·
    exact absurd c12 (by decide)
  ·
    refine TC.skip ?_
    refine TX.seqN ?_
    refine TC.seq ?_
    refine TC.seq ?_
    refine TC.region ?_
    refine TL.run (pr_pure rfl) rfl ?_
    refine TL.callS (enters rfl rfl rfl rfl) (n_May_ok s hs) rfl ?_
    refine TL.run (pr_pure rfl) rfl ?_
    refine TL.nil ?_
    refine TX.seqN ?_
    refine TC.cond rfl (fun c15 => ?_) (fun c15 => ?_)
    ·
      refine TC.seq ?_
      refine TC.region ?_
      refine TL.run (pr_pure rfl) rfl ?_
      refine TL.nil ?_
      refine TX.seqN ?_
      refine TC.ret ?_
      refine TX.thenR ?_
      exact TX.finS (.inr rfl) (results1 rfl (RVal.tmp rfl)) (congrArg Value.bool (by first | rfl | exact name_long hn1 | exact name_bad1 c80 | exact (name_bad2 c80 g99)))
    ·
      have hm : nameMay s = true := by simpa using c15
      obtain ⟨hn1, hn2, hn3⟩ := name_facts hm
      refine TC.skip ?_
      refine TX.seqN ?_
      refine TC.seq ?_
      refine TC.sw false 23 [(0, _), (1, _), (2, _), (6, _)] ⟨rfl, rfl, rfl, rfl, trivial⟩ ?_ ?_
      ·
        refine TC.region ?_
        refine TL.run (pr_pure rfl) rfl ?_
        refine TL.run (pr_lenStr rfl rfl) rfl ?_
        refine TL.run (pr_pure rfl) rfl ?_
        refine TL.run (pr_pure rfl) rfl ?_
        refine TL.split (s := 19) rfl (fun g19 => ?_) (fun g19 => ?_)
        ·
          have q19 := of_decide_eq_true g19
          refine TL.gdN rfl rfl rfl rfl ?_
          refine TL.gdN rfl rfl rfl rfl ?_
          refine TL.gdN rfl rfl rfl rfl ?_
          refine TL.run (pr_pure rfl) rfl ?_
          refine TL.nil ?_
          exact TX.sw rfl (by first | exact absurd (of_decide_eq_true g19) (by omega) | exact decide_eq_false (by omega)) ⟨rfl, rfl, rfl, rfl, trivial⟩
        ·
          have q19 := of_decide_eq_false g19
          refine TL.gdY rfl rfl (pr_pure rfl) rfl ?_
          refine TL.gdY rfl rfl (pr_lenStr rfl rfl) rfl ?_
          refine TL.gdY rfl rfl (pr_pure rfl) rfl ?_
          refine TL.run (pr_pure rfl) rfl ?_
          refine TL.nil ?_
          exact TX.sw rfl (by first | exact absurd (of_decide_eq_true g19) (by omega) | exact decide_eq_false (by omega)) ⟨rfl, rfl, rfl, rfl, trivial⟩
      refine TC.cond rfl (fun c23 => ?_) (fun c23 => ?_)
      ·
        exact absurd c23 (by decide)
      ·
        refine TC.skip ?_
        refine TX.seqN ?_
        refine TC.seq ?_
        refine TC.seq ?_
        refine TC.region ?_
        refine TL.run (pr_pure rfl) rfl ?_
        refine TL.nil ?_
        refine TX.seqN ?_
        refine TC.block ?_
        refine TC.loop (V := fun k => [(7, .int .i64 k)]) (K := [(0, _), (1, _), (2, _), (6, _)]) (L := fun k => _) (I := fun k => 0 ≤ k ∧ k ≤ s.length) (μ := fun k => (s.length - k).toNat) (i := (0 : Int)) ⟨rfl, rfl, rfl, rfl, rfl, trivial⟩ ⟨by omega, by omega⟩ (fun w hw => hw) (fun k hI => ?_)
        refine TC.seq ?_
        refine TC.seq ?_
        refine TC.region ?_
        refine TL.run (pr_pure rfl) rfl ?_
        refine TL.run (pr_pure rfl) rfl ?_
        refine TL.run (pr_lenStr rfl rfl) rfl ?_
        refine TL.run (pr_pure rfl) rfl ?_
        refine TL.nil ?_
        refine TX.seqN ?_
        refine TC.condD rfl (fun c27 => ?_) (fun c27 => ?_)
        ·
          obtain ⟨d, hd⟩ := getSome (l := s) hI.1 c27
          have hdd := name_at hn3 hI.1 hd
          refine TC.skip ?_
          refine TX.seqN ?_
          refine TC.seq ?_
          refine TC.block ?_
          refine TC.seq ?_
          refine TC.quiet (by kernel_rfl) (by kernel_rfl) ?_
          refine TQ.run (pr_pure rfl) rfl ?_
          refine TQ.run (pr_pure rfl) rfl ?_
          refine TQ.run (pr_strIx rfl rfl (by omega) hd) rfl ?_
          refine TQ.run (pr_pure rfl) rfl ?_
          refine TQ.run (pr_pure rfl) rfl ?_
          refine TQ.split (s := 34) rfl (fun g34 => ?_) (fun g34 => ?_)
          ·
            have q34 := of_decide_eq_true g34
            refine TQ.gdY rfl rfl (pr_pure rfl) rfl ?_
            refine TQ.gdY rfl rfl (pr_pure rfl) rfl ?_
            refine TQ.gdY rfl rfl (pr_strIx rfl rfl (by omega) hd) rfl ?_
            refine TQ.gdY rfl rfl (pr_pure rfl) rfl ?_
            refine TQ.run (pr_pure rfl) rfl ?_
            refine TQ.run (pr_pure rfl) rfl ?_
            refine TQ.run (pr_pure rfl) rfl ?_
            refine TQ.run (pr_strIx rfl rfl (by omega) hd) rfl ?_
            refine TQ.run (pr_pure rfl) rfl ?_
            refine TQ.run (pr_pure rfl) rfl ?_
            refine TQ.split (s := 44) rfl (fun g44 => ?_) (fun g44 => ?_)
            ·
              have q44 := of_decide_eq_true g44
              refine TQ.gdY rfl rfl (pr_pure rfl) rfl ?_
              refine TQ.gdY rfl rfl (pr_pure rfl) rfl ?_
              refine TQ.gdY rfl rfl (pr_strIx rfl rfl (by omega) hd) rfl ?_
              refine TQ.gdY rfl rfl (pr_pure rfl) rfl ?_
              refine TQ.run (pr_pure rfl) rfl ?_
              refine TQ.run (pr_pure rfl) rfl ?_
              refine TQ.run (pr_pure rfl) rfl ?_
              refine TQ.nil ?_
              refine TX.seqN ?_
              refine TC.sw false 59 [(0, _), (1, _), (2, _), (6, _), (7, _), (8, _), (9, _), (24, _), (25, _), (26, _), (27, _), (30, _), (31, _), (32, _), (33, _), (34, _), (35, _), (36, _), (37, _), (38, _), (39, _), (40, _), (41, _), (42, _), (43, _), (44, _), (45, _), (46, _), (47, _), (48, _), (49, _)] ⟨rfl, rfl, rfl, rfl, rfl, rfl, rfl, rfl, rfl, rfl, rfl, rfl, rfl, rfl, rfl, rfl, rfl, rfl, rfl, rfl, rfl, rfl, rfl, rfl, rfl, rfl, rfl, rfl, rfl, rfl, rfl, trivial⟩ ?_ ?_
              ·
                refine TC.region ?_
                refine TL.run (pr_pure rfl) rfl ?_
                refine TL.run (pr_pure rfl) rfl ?_
                refine TL.run (pr_pure rfl) rfl ?_
                refine TL.split (s := 52) rfl (fun g52 => ?_) (fun g52 => ?_)
                ·
                  refine TL.gdY rfl rfl (pr_pure rfl) rfl ?_
                  refine TL.gdY rfl rfl (pr_pure rfl) rfl ?_
                  refine TL.gdY rfl rfl (pr_pure rfl) rfl ?_
                  refine TL.split (s := 55) rfl (fun g55 => ?_) (fun g55 => ?_)
                  ·
                    have q55 := of_decide_eq_true g55
                    refine TL.gdN rfl rfl rfl rfl ?_
                    refine TL.gdN rfl rfl rfl rfl ?_
                    refine TL.gdY rfl rfl (pr_pure rfl) rfl ?_
                    refine TL.run (pr_pure rfl) rfl ?_
                    refine TL.nil ?_
                    exact TX.sw rfl (by rcases hdd with ⟨e1, e2⟩ | ⟨e0, e1, e2⟩ <;> first | rfl | (simp_all; done) | (simp_all; omega)) ⟨rfl, rfl, rfl, rfl, rfl, rfl, rfl, rfl, rfl, rfl, rfl, rfl, rfl, rfl, rfl, rfl, rfl, rfl, rfl, rfl, rfl, rfl, rfl, rfl, rfl, rfl, rfl, rfl, rfl, rfl, rfl, trivial⟩
                  ·
                    have q55 := of_decide_eq_false g55
                    refine TL.gdY rfl rfl (pr_pure rfl) rfl ?_
                    refine TL.gdY rfl rfl (pr_pure rfl) rfl ?_
                    refine TL.gdY rfl rfl (pr_pure rfl) rfl ?_
                    refine TL.run (pr_pure rfl) rfl ?_
                    refine TL.nil ?_
                    exact TX.sw rfl (by rcases hdd with ⟨e1, e2⟩ | ⟨e0, e1, e2⟩ <;> first | rfl | (simp_all; done) | (simp_all; omega)) ⟨rfl, rfl, rfl, rfl, rfl, rfl, rfl, rfl, rfl, rfl, rfl, rfl, rfl, rfl, rfl, rfl, rfl, rfl, rfl, rfl, rfl, rfl, rfl, rfl, rfl, rfl, rfl, rfl, rfl, rfl, rfl, trivial⟩
                ·
                  refine TL.gdN rfl rfl rfl rfl ?_
                  refine TL.gdN rfl rfl rfl rfl ?_
                  refine TL.gdN rfl rfl rfl rfl ?_
                  refine TL.gdU rfl rfl rfl ?_
                  refine TL.gdU rfl rfl rfl ?_
                  refine TL.gdN rfl rfl rfl rfl ?_
                  refine TL.run (pr_pure rfl) rfl ?_
                  refine TL.nil ?_
                  exact TX.sw rfl (by rcases hdd with ⟨e1, e2⟩ | ⟨e0, e1, e2⟩ <;> first | rfl | (simp_all; done) | (simp_all; omega)) ⟨rfl, rfl, rfl, rfl, rfl, rfl, rfl, rfl, rfl, rfl, rfl, rfl, rfl, rfl, rfl, rfl, rfl, rfl, rfl, rfl, rfl, rfl, rfl, rfl, rfl, rfl, rfl, rfl, rfl, rfl, rfl, trivial⟩
              refine TC.cond rfl (fun c59 => ?_) (fun c59 => ?_)
              ·
                exact absurd c59 (by decide)
              ·
                refine TC.skip ?_
                refine TX.blkN ?_
                refine TX.seqN ?_
                refine TC.region ?_
                refine TL.run (pr_pure rfl) rfl ?_
                refine TL.run ((by first | exact pr_add rfl rfl (by omega) (by omega) | exact pr_pure rfl)) rfl ?_
                refine TL.run (pr_pure rfl) rfl ?_
                refine TL.nil ?_
                exact TX.round (k + 1) ⟨by omega, by omega⟩ ⟨rfl, rfl, rfl, rfl, rfl, trivial⟩ (fun w hw => hw) (by omega)
            ·
              have q44 := of_decide_eq_false g44
              refine TQ.gdN rfl rfl rfl rfl ?_
              refine TQ.gdN rfl rfl rfl rfl ?_
              refine TQ.gdN rfl rfl rfl rfl ?_
              refine TQ.gdN rfl rfl rfl rfl ?_
              refine TQ.run (pr_pure rfl) rfl ?_
              refine TQ.run (pr_pure rfl) rfl ?_
              refine TQ.run (pr_pure rfl) rfl ?_
              refine TQ.nil ?_
              refine TX.seqN ?_
              refine TC.sw false 59 [(0, _), (1, _), (2, _), (6, _), (7, _), (8, _), (9, _), (24, _), (25, _), (26, _), (27, _), (30, _), (31, _), (32, _), (33, _), (34, _), (35, _), (36, _), (37, _), (38, _), (39, _), (40, _), (41, _), (42, _), (43, _), (44, _), (49, _)] ⟨rfl, rfl, rfl, rfl, rfl, rfl, rfl, rfl, rfl, rfl, rfl, rfl, rfl, rfl, rfl, rfl, rfl, rfl, rfl, rfl, rfl, rfl, rfl, rfl, rfl, rfl, rfl, trivial⟩ ?_ ?_
              ·
                refine TC.region ?_
                refine TL.run (pr_pure rfl) rfl ?_
                refine TL.run (pr_pure rfl) rfl ?_
                refine TL.run (pr_pure rfl) rfl ?_
                refine TL.split (s := 52) rfl (fun g52 => ?_) (fun g52 => ?_)
                ·
                  refine TL.gdY rfl rfl (pr_pure rfl) rfl ?_
                  refine TL.gdY rfl rfl (pr_pure rfl) rfl ?_
                  refine TL.gdY rfl rfl (pr_pure rfl) rfl ?_
                  refine TL.split (s := 55) rfl (fun g55 => ?_) (fun g55 => ?_)
                  ·
                    have q55 := of_decide_eq_true g55
                    refine TL.gdN rfl rfl rfl rfl ?_
                    refine TL.gdN rfl rfl rfl rfl ?_
                    refine TL.gdY rfl rfl (pr_pure rfl) rfl ?_
                    refine TL.run (pr_pure rfl) rfl ?_
                    refine TL.nil ?_
                    exact TX.sw rfl (by rcases hdd with ⟨e1, e2⟩ | ⟨e0, e1, e2⟩ <;> first | rfl | (simp_all; done) | (simp_all; omega)) ⟨rfl, rfl, rfl, rfl, rfl, rfl, rfl, rfl, rfl, rfl, rfl, rfl, rfl, rfl, rfl, rfl, rfl, rfl, rfl, rfl, rfl, rfl, rfl, rfl, rfl, rfl, rfl, trivial⟩
                  ·
                    have q55 := of_decide_eq_false g55
                    refine TL.gdY rfl rfl (pr_pure rfl) rfl ?_
                    refine TL.gdY rfl rfl (pr_pure rfl) rfl ?_
                    refine TL.gdY rfl rfl (pr_pure rfl) rfl ?_
                    refine TL.run (pr_pure rfl) rfl ?_
                    refine TL.nil ?_
                    exact TX.sw rfl (by rcases hdd with ⟨e1, e2⟩ | ⟨e0, e1, e2⟩ <;> first | rfl | (simp_all; done) | (simp_all; omega)) ⟨rfl, rfl, rfl, rfl, rfl, rfl, rfl, rfl, rfl, rfl, rfl, rfl, rfl, rfl, rfl, rfl, rfl, rfl, rfl, rfl, rfl, rfl, rfl, rfl, rfl, rfl, rfl, trivial⟩
                ·
                  refine TL.gdN rfl rfl rfl rfl ?_
                  refine TL.gdN rfl rfl rfl rfl ?_
                  refine TL.gdN rfl rfl rfl rfl ?_
                  refine TL.gdU rfl rfl rfl ?_
                  refine TL.gdU rfl rfl rfl ?_
                  refine TL.gdN rfl rfl rfl rfl ?_
                  refine TL.run (pr_pure rfl) rfl ?_
                  refine TL.nil ?_
                  exact TX.sw rfl (by rcases hdd with ⟨e1, e2⟩ | ⟨e0, e1, e2⟩ <;> first | rfl | (simp_all; done) | (simp_all; omega)) ⟨rfl, rfl, rfl, rfl, rfl, rfl, rfl, rfl, rfl, rfl, rfl, rfl, rfl, rfl, rfl, rfl, rfl, rfl, rfl, rfl, rfl, rfl, rfl, rfl, rfl, rfl, rfl, trivial⟩
              refine TC.cond rfl (fun c59 => ?_) (fun c59 => ?_)
              ·
                exact absurd c59 (by decide)
              ·
                refine TC.skip ?_
                refine TX.blkN ?_
                refine TX.seqN ?_
                refine TC.region ?_
                refine TL.run (pr_pure rfl) rfl ?_
                refine TL.run ((by first | exact pr_add rfl rfl (by omega) (by omega) | exact pr_pure rfl)) rfl ?_
                refine TL.run (pr_pure rfl) rfl ?_
                refine TL.nil ?_
                exact TX.round (k + 1) ⟨by omega, by omega⟩ ⟨rfl, rfl, rfl, rfl, rfl, trivial⟩ (fun w hw => hw) (by omega)
          ·
            have q34 := of_decide_eq_false g34
            refine TQ.gdN rfl rfl rfl rfl ?_
            refine TQ.gdN rfl rfl rfl rfl ?_
            refine TQ.gdN rfl rfl rfl rfl ?_
            refine TQ.gdN rfl rfl rfl rfl ?_
            refine TQ.run (pr_pure rfl) rfl ?_
            refine TQ.run (pr_pure rfl) rfl ?_
            refine TQ.run (pr_pure rfl) rfl ?_
            refine TQ.run (pr_strIx rfl rfl (by omega) hd) rfl ?_
            refine TQ.run (pr_pure rfl) rfl ?_
            refine TQ.run (pr_pure rfl) rfl ?_
            refine TQ.split (s := 44) rfl (fun g44 => ?_) (fun g44 => ?_)
            ·
              have q44 := of_decide_eq_true g44
              refine TQ.gdY rfl rfl (pr_pure rfl) rfl ?_
              refine TQ.gdY rfl rfl (pr_pure rfl) rfl ?_
              refine TQ.gdY rfl rfl (pr_strIx rfl rfl (by omega) hd) rfl ?_
              refine TQ.gdY rfl rfl (pr_pure rfl) rfl ?_
              refine TQ.run (pr_pure rfl) rfl ?_
              refine TQ.run (pr_pure rfl) rfl ?_
              refine TQ.run (pr_pure rfl) rfl ?_
              refine TQ.nil ?_
              refine TX.seqN ?_
              refine TC.sw false 59 [(0, _), (1, _), (2, _), (6, _), (7, _), (8, _), (9, _), (24, _), (25, _), (26, _), (27, _), (30, _), (31, _), (32, _), (33, _), (34, _), (39, _), (40, _), (41, _), (42, _), (43, _), (44, _), (45, _), (46, _), (47, _), (48, _), (49, _)] ⟨rfl, rfl, rfl, rfl, rfl, rfl, rfl, rfl, rfl, rfl, rfl, rfl, rfl, rfl, rfl, rfl, rfl, rfl, rfl, rfl, rfl, rfl, rfl, rfl, rfl, rfl, rfl, trivial⟩ ?_ ?_
              ·
                refine TC.region ?_
                refine TL.run (pr_pure rfl) rfl ?_
                refine TL.run (pr_pure rfl) rfl ?_
                refine TL.run (pr_pure rfl) rfl ?_
                refine TL.split (s := 52) rfl (fun g52 => ?_) (fun g52 => ?_)
                ·
                  refine TL.gdY rfl rfl (pr_pure rfl) rfl ?_
                  refine TL.gdY rfl rfl (pr_pure rfl) rfl ?_
                  refine TL.gdY rfl rfl (pr_pure rfl) rfl ?_
                  refine TL.split (s := 55) rfl (fun g55 => ?_) (fun g55 => ?_)
                  ·
                    have q55 := of_decide_eq_true g55
                    refine TL.gdN rfl rfl rfl rfl ?_
                    refine TL.gdN rfl rfl rfl rfl ?_
                    refine TL.gdY rfl rfl (pr_pure rfl) rfl ?_
                    refine TL.run (pr_pure rfl) rfl ?_
                    refine TL.nil ?_
                    exact TX.sw rfl (by rcases hdd with ⟨e1, e2⟩ | ⟨e0, e1, e2⟩ <;> first | rfl | (simp_all; done) | (simp_all; omega)) ⟨rfl, rfl, rfl, rfl, rfl, rfl, rfl, rfl, rfl, rfl, rfl, rfl, rfl, rfl, rfl, rfl, rfl, rfl, rfl, rfl, rfl, rfl, rfl, rfl, rfl, rfl, rfl, trivial⟩
                  ·
                    have q55 := of_decide_eq_false g55
                    refine TL.gdY rfl rfl (pr_pure rfl) rfl ?_
                    refine TL.gdY rfl rfl (pr_pure rfl) rfl ?_
                    refine TL.gdY rfl rfl (pr_pure rfl) rfl ?_
                    refine TL.run (pr_pure rfl) rfl ?_
                    refine TL.nil ?_
                    exact TX.sw rfl (by rcases hdd with ⟨e1, e2⟩ | ⟨e0, e1, e2⟩ <;> first | rfl | (simp_all; done) | (simp_all; omega)) ⟨rfl, rfl, rfl, rfl, rfl, rfl, rfl, rfl, rfl, rfl, rfl, rfl, rfl, rfl, rfl, rfl, rfl, rfl, rfl, rfl, rfl, rfl, rfl, rfl, rfl, rfl, rfl, trivial⟩
                ·
                  refine TL.gdN rfl rfl rfl rfl ?_
                  refine TL.gdN rfl rfl rfl rfl ?_
                  refine TL.gdN rfl rfl rfl rfl ?_
                  refine TL.gdU rfl rfl rfl ?_
                  refine TL.gdU rfl rfl rfl ?_
                  refine TL.gdN rfl rfl rfl rfl ?_
                  refine TL.run (pr_pure rfl) rfl ?_
                  refine TL.nil ?_
                  exact TX.sw rfl (by rcases hdd with ⟨e1, e2⟩ | ⟨e0, e1, e2⟩ <;> first | rfl | (simp_all; done) | (simp_all; omega)) ⟨rfl, rfl, rfl, rfl, rfl, rfl, rfl, rfl, rfl, rfl, rfl, rfl, rfl, rfl, rfl, rfl, rfl, rfl, rfl, rfl, rfl, rfl, rfl, rfl, rfl, rfl, rfl, trivial⟩
              refine TC.cond rfl (fun c59 => ?_) (fun c59 => ?_)
              ·
                exact absurd c59 (by decide)
              ·
                refine TC.skip ?_
                refine TX.blkN ?_
                refine TX.seqN ?_
                refine TC.region ?_
                refine TL.run (pr_pure rfl) rfl ?_
                refine TL.run ((by first | exact pr_add rfl rfl (by omega) (by omega) | exact pr_pure rfl)) rfl ?_
                refine TL.run (pr_pure rfl) rfl ?_
                refine TL.nil ?_
                exact TX.round (k + 1) ⟨by omega, by omega⟩ ⟨rfl, rfl, rfl, rfl, rfl, trivial⟩ (fun w hw => hw) (by omega)
            ·
              have q44 := of_decide_eq_false g44
              refine TQ.gdN rfl rfl rfl rfl ?_
              refine TQ.gdN rfl rfl rfl rfl ?_
              refine TQ.gdN rfl rfl rfl rfl ?_
              refine TQ.gdN rfl rfl rfl rfl ?_
              refine TQ.run (pr_pure rfl) rfl ?_
              refine TQ.run (pr_pure rfl) rfl ?_
              refine TQ.run (pr_pure rfl) rfl ?_
              refine TQ.nil ?_
              refine TX.seqN ?_
              refine TC.sw false 59 [(0, _), (1, _), (2, _), (6, _), (7, _), (8, _), (9, _), (24, _), (25, _), (26, _), (27, _), (30, _), (31, _), (32, _), (33, _), (34, _), (39, _), (40, _), (41, _), (42, _), (43, _), (44, _), (49, _)] ⟨rfl, rfl, rfl, rfl, rfl, rfl, rfl, rfl, rfl, rfl, rfl, rfl, rfl, rfl, rfl, rfl, rfl, rfl, rfl, rfl, rfl, rfl, rfl, trivial⟩ ?_ ?_
              ·
                refine TC.region ?_
                refine TL.run (pr_pure rfl) rfl ?_
                refine TL.run (pr_pure rfl) rfl ?_
                refine TL.run (pr_pure rfl) rfl ?_
                refine TL.split (s := 52) rfl (fun g52 => ?_) (fun g52 => ?_)
                ·
                  refine TL.gdY rfl rfl (pr_pure rfl) rfl ?_
                  refine TL.gdY rfl rfl (pr_pure rfl) rfl ?_
                  refine TL.gdY rfl rfl (pr_pure rfl) rfl ?_
                  refine TL.split (s := 55) rfl (fun g55 => ?_) (fun g55 => ?_)
                  ·
                    have q55 := of_decide_eq_true g55
                    refine TL.gdN rfl rfl rfl rfl ?_
                    refine TL.gdN rfl rfl rfl rfl ?_
                    refine TL.gdY rfl rfl (pr_pure rfl) rfl ?_
                    refine TL.run (pr_pure rfl) rfl ?_
                    refine TL.nil ?_
                    exact TX.sw rfl (by rcases hdd with ⟨e1, e2⟩ | ⟨e0, e1, e2⟩ <;> first | rfl | (simp_all; done) | (simp_all; omega)) ⟨rfl, rfl, rfl, rfl, rfl, rfl, rfl, rfl, rfl, rfl, rfl, rfl, rfl, rfl, rfl, rfl, rfl, rfl, rfl, rfl, rfl, rfl, rfl, trivial⟩
                  ·
                    have q55 := of_decide_eq_false g55
                    refine TL.gdY rfl rfl (pr_pure rfl) rfl ?_
                    refine TL.gdY rfl rfl (pr_pure rfl) rfl ?_
                    refine TL.gdY rfl rfl (pr_pure rfl) rfl ?_
                    refine TL.run (pr_pure rfl) rfl ?_
                    refine TL.nil ?_
                    exact TX.sw rfl (by rcases hdd with ⟨e1, e2⟩ | ⟨e0, e1, e2⟩ <;> first | rfl | (simp_all; done) | (simp_all; omega)) ⟨rfl, rfl, rfl, rfl, rfl, rfl, rfl, rfl, rfl, rfl, rfl, rfl, rfl, rfl, rfl, rfl, rfl, rfl, rfl, rfl, rfl, rfl, rfl, trivial⟩
                ·
                  refine TL.gdN rfl rfl rfl rfl ?_
                  refine TL.gdN rfl rfl rfl rfl ?_
                  refine TL.gdN rfl rfl rfl rfl ?_
                  refine TL.gdU rfl rfl rfl ?_
                  refine TL.gdU rfl rfl rfl ?_
                  refine TL.gdN rfl rfl rfl rfl ?_
                  refine TL.run (pr_pure rfl) rfl ?_
                  refine TL.nil ?_
                  exact TX.sw rfl (by rcases hdd with ⟨e1, e2⟩ | ⟨e0, e1, e2⟩ <;> first | rfl | (simp_all; done) | (simp_all; omega)) ⟨rfl, rfl, rfl, rfl, rfl, rfl, rfl, rfl, rfl, rfl, rfl, rfl, rfl, rfl, rfl, rfl, rfl, rfl, rfl, rfl, rfl, rfl, rfl, trivial⟩
              refine TC.cond rfl (fun c59 => ?_) (fun c59 => ?_)
              ·
                exact absurd c59 (by decide)
              ·
                refine TC.skip ?_
                refine TX.blkN ?_
                refine TX.seqN ?_
                refine TC.region ?_
                refine TL.run (pr_pure rfl) rfl ?_
                refine TL.run ((by first | exact pr_add rfl rfl (by omega) (by omega) | exact pr_pure rfl)) rfl ?_
                refine TL.run (pr_pure rfl) rfl ?_
                refine TL.nil ?_
                exact TX.round (k + 1) ⟨by omega, by omega⟩ ⟨rfl, rfl, rfl, rfl, rfl, trivial⟩ (fun w hw => hw) (by omega)
        ·
          have hk0 : 0 ≤ (at_ % 18446744073709551616 % (s.length : Int)) := Int.emod_nonneg _ (by omega)
          have hk1 : (at_ % 18446744073709551616 % (s.length : Int)) < s.length := Int.emod_lt_of_pos _ (by omega)
          refine TC.exit ?_
          refine TX.thenE ?_
          refine TX.thenE ?_
          refine TX.blkHit ?_
          refine TX.seqN ?_
          refine TC.seq ?_
          refine TC.region ?_
          refine TL.run (pr_pure rfl) rfl ?_
          refine TL.run (pr_conv rfl) rfl ?_
          refine TL.run (pr_pure rfl) rfl ?_
          refine TL.run (pr_lenStr rfl rfl) rfl ?_
          refine TL.run (PR.to (pr_conv rfl) (congrArg (Value.int .u64) (wrap_len (by omega) (by omega)))) rfl ?_
          refine TL.run (pr_rem rfl rfl (by omega)) rfl ?_
          refine TL.run (PR.to (pr_conv rfl) (congrArg (Value.int .i64) (mod_conv at_ (m := (s.length : Int)) (by omega) (by omega)))) rfl ?_
          refine TL.run (pr_pure rfl) rfl ?_
          refine TL.nil ?_
          refine TX.seqN ?_
          refine TC.seq ?_
          refine TC.sw (nameC c) 80 [(0, _), (2, _), (6, _), (10, _)] ⟨rfl, rfl, rfl, rfl, trivial⟩ ?_ ?_
          ·
            refine TC.region ?_
            refine TL.run (pr_pure rfl) rfl ?_
            refine TL.run (pr_pure rfl) rfl ?_
            refine TL.run (pr_pure rfl) rfl ?_
            refine TL.split (s := 69) rfl (fun g69 => ?_) (fun g69 => ?_)
            ·
              have q69 := of_decide_eq_true g69
              refine TL.gdY rfl rfl (pr_pure rfl) rfl ?_
              refine TL.gdY rfl rfl (pr_pure rfl) rfl ?_
              refine TL.run (pr_pure rfl) rfl ?_
              refine TL.run (pr_pure rfl) rfl ?_
              refine TL.split (s := 73) rfl (fun g73 => ?_) (fun g73 => ?_)
              ·
                have q73 := of_decide_eq_true g73
                refine TL.gdN rfl rfl rfl rfl ?_
                refine TL.gdN rfl rfl rfl rfl ?_
                refine TL.gdN rfl rfl rfl rfl ?_
                refine TL.gdU rfl rfl rfl ?_
                refine TL.gdU rfl rfl rfl ?_
                refine TL.gdN rfl rfl rfl rfl ?_
                refine TL.run (pr_pure rfl) rfl ?_
                refine TL.nil ?_
                exact TX.sw rfl (by first | (simp_all [nameC, letterB, digitB]; done) | (simp_all [nameC, letterB, digitB]; omega)) ⟨rfl, rfl, rfl, rfl, trivial⟩
              ·
                have q73 := of_decide_eq_false g73
                refine TL.gdY rfl rfl (pr_pure rfl) rfl ?_
                refine TL.gdY rfl rfl (pr_pure rfl) rfl ?_
                refine TL.gdY rfl rfl (pr_pure rfl) rfl ?_
                refine TL.split (s := 76) rfl (fun g76 => ?_) (fun g76 => ?_)
                ·
                  have q76 := of_decide_eq_true g76
                  refine TL.gdY rfl rfl (pr_pure rfl) rfl ?_
                  refine TL.gdY rfl rfl (pr_pure rfl) rfl ?_
                  refine TL.gdY rfl rfl (pr_pure rfl) rfl ?_
                  refine TL.run (pr_pure rfl) rfl ?_
                  refine TL.nil ?_
                  exact TX.sw rfl (by first | (simp_all [nameC, letterB, digitB]; done) | (simp_all [nameC, letterB, digitB]; omega)) ⟨rfl, rfl, rfl, rfl, trivial⟩
                ·
                  have q76 := of_decide_eq_false g76
                  refine TL.gdN rfl rfl rfl rfl ?_
                  refine TL.gdN rfl rfl rfl rfl ?_
                  refine TL.gdY rfl rfl (pr_pure rfl) rfl ?_
                  refine TL.run (pr_pure rfl) rfl ?_
                  refine TL.nil ?_
                  exact TX.sw rfl (by first | (simp_all [nameC, letterB, digitB]; done) | (simp_all [nameC, letterB, digitB]; omega)) ⟨rfl, rfl, rfl, rfl, trivial⟩
            ·
              have q69 := of_decide_eq_false g69
              refine TL.gdN rfl rfl rfl rfl ?_
              refine TL.gdN rfl rfl rfl rfl ?_
              refine TL.run (pr_pure rfl) rfl ?_
              refine TL.run (pr_pure rfl) rfl ?_
              refine TL.gdY rfl rfl (pr_pure rfl) rfl ?_
              refine TL.gdY rfl rfl (pr_pure rfl) rfl ?_
              refine TL.gdY rfl rfl (pr_pure rfl) rfl ?_
              refine TL.split (s := 76) rfl (fun g76 => ?_) (fun g76 => ?_)
              ·
                have q76 := of_decide_eq_true g76
                refine TL.gdY rfl rfl (pr_pure rfl) rfl ?_
                refine TL.gdY rfl rfl (pr_pure rfl) rfl ?_
                refine TL.gdY rfl rfl (pr_pure rfl) rfl ?_
                refine TL.run (pr_pure rfl) rfl ?_
                refine TL.nil ?_
                exact TX.sw rfl (by first | (simp_all [nameC, letterB, digitB]; done) | (simp_all [nameC, letterB, digitB]; omega)) ⟨rfl, rfl, rfl, rfl, trivial⟩
              ·
                have q76 := of_decide_eq_false g76
                refine TL.gdN rfl rfl rfl rfl ?_
                refine TL.gdN rfl rfl rfl rfl ?_
                refine TL.gdY rfl rfl (pr_pure rfl) rfl ?_
                refine TL.run (pr_pure rfl) rfl ?_
                refine TL.nil ?_
                exact TX.sw rfl (by first | (simp_all [nameC, letterB, digitB]; done) | (simp_all [nameC, letterB, digitB]; omega)) ⟨rfl, rfl, rfl, rfl, trivial⟩
          refine TC.cond rfl (fun c80 => ?_) (fun c80 => ?_)
          ·
            refine TC.seq ?_
            refine TC.region ?_
            refine TL.run (pr_pure rfl) rfl ?_
            refine TL.run (pr_concat rfl rfl (by simp; omega)) rfl ?_
            refine TL.callS (enters rfl rfl rfl rfl) (n_May_ok (s ++ [97, 98, 99, 100, 101, 102, 103, 104, 105, 106, 107, 108]) (by simp; omega)) rfl ?_
            refine TL.run (pr_pure rfl) rfl ?_
            refine TL.run (pr_pure rfl) rfl ?_
            refine TL.nil ?_
            refine TX.seqN ?_
            refine TC.ret ?_
            refine TX.thenR ?_
            exact TX.finS (.inr rfl) (results1 rfl (RVal.tmp rfl)) (congrArg Value.bool (by first | rfl | exact name_long hn1 | exact name_bad1 c80 | exact (name_bad2 c80 g99)))
          ·
            refine TC.skip ?_
            refine TX.seqN ?_
            refine TC.seq ?_
            refine TC.drawn (by kernel_rfl) (by kernel_rfl) ?_
            refine TD.leaf [(0, 1), (1, 1), (2, 1), (3, 1), (7, 1), (8, 1), (9, 1), (10, 1), (4, 3), (5, 2), (6, 1), (11, 1), (12, 3), (13, 1), (14, 1), (15, 1), (16, 1), (17, 3), (18, 2), (19, 1), (20, 3), (21, 1), (22, 1), (23, 1)] (by kernel_rfl) (by kernel_rfl) ?_
            refine TF.pure (pr_pure rfl) rfl ?_
            refine TF.pure (pr_pure rfl) rfl ?_
            refine TF.pure (pr_strH rfl rfl (by omega) (by omega)) rfl ?_
            refine TF.pure (pr_pure rfl) rfl ?_
            refine TF.pure (pr_pure rfl) rfl ?_
            refine TF.pure (pr_pure rfl) rfl ?_
            refine TF.pure ((by first | exact pr_add rfl rfl (by omega) (by omega) | exact pr_pure rfl)) rfl ?_
            refine TF.pure (pr_strL rfl rfl (by omega) (by omega)) rfl ?_
            refine TF.bslice rfl rfl rfl rfl (fun b89 => ?_)
            refine TF.still (pr_bytes rfl (OwnSl.blk (enc := U8.cells) [c] rfl rfl (by simp)) (.take (.here _) rfl)) rfl ?_
            refine TF.pure (pr_concat rfl rfl (by simp; omega)) rfl ?_
            refine TF.pure (pr_concat rfl rfl (by simp; omega)) rfl ?_
            refine TF.callS (enters rfl rfl rfl rfl) (n_May_ok ((s.take (at_ % 18446744073709551616 % (s.length : Int)).toNat ++ [c]) ++ s.drop ((at_ % 18446744073709551616 % (s.length : Int)) + 1).toNat) (by simp; omega)) rfl ?_
            refine TF.pure (pr_pure rfl) rfl ?_
            refine TF.pure (pr_pure rfl) rfl ?_
            refine TF.split (s := 99) rfl (fun g99 => ?_) (fun g99 => ?_)
            ·
              refine TF.pureY rfl rfl (pr_pure rfl) rfl ?_
              refine TF.pureY rfl rfl (pr_pure rfl) rfl ?_
              refine TF.gd rfl rfl ?_
              refine TF.bslice rfl rfl rfl rfl (fun b102 => ?_)
              refine TF.stillY rfl rfl (pr_bytes rfl (OwnSl.blk (enc := U8.cells) [c] rfl rfl (by simp)) (.take (.here _) rfl)) rfl ?_
              refine TF.pureY rfl rfl (pr_concat rfl rfl (by simp; omega)) rfl ?_
              refine TF.callSY rfl rfl (enters rfl rfl rfl rfl) (n_May_ok (s ++ [c]) (by simp; omega)) rfl ?_
              refine TF.pureY rfl rfl (pr_pure rfl) rfl ?_
              refine TF.pure (pr_pure rfl) rfl ?_
              refine TF.pure (pr_pure rfl) rfl ?_
              refine TF.nil ?_
              refine TX.seqN ?_
              refine TC.ret ?_
              exact TX.finS (.inr rfl) (results1 rfl (RVal.tmp rfl)) (congrArg Value.bool (by first | rfl | exact name_long hn1 | exact name_bad1 c80 | exact (name_bad2 c80 g99)))
            ·
              refine TF.gdN rfl rfl rfl rfl ?_
              refine TF.gdN rfl rfl rfl rfl ?_
              refine TF.gdN rfl rfl rfl rfl ?_
              refine TF.gdN rfl rfl rfl rfl ?_
              refine TF.gdN rfl rfl rfl rfl ?_
              refine TF.gdN rfl rfl rfl rfl ?_
              refine TF.gdN rfl rfl rfl rfl ?_
              refine TF.pure (pr_pure rfl) rfl ?_
              refine TF.pure (pr_pure rfl) rfl ?_
              refine TF.nil ?_
              refine TX.seqN ?_
              refine TC.ret ?_
              exact TX.finS (.inr rfl) (results1 rfl (RVal.tmp rfl)) (congrArg Value.bool (by first | rfl | exact name_long hn1 | exact name_bad1 c80 | exact (name_bad2 c80 g99)))
end Go.Sx
