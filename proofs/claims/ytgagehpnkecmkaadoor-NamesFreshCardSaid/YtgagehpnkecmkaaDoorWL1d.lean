import Derived.Test.YtgagehpnkecmkaaDoorWL1
set_option linter.unusedVariables false
set_option linter.unusedSimpArgs false
namespace Go.Sx
open Go Go.Proofs
set_option maxRecDepth 100000 in
set_option maxHeartbeats 4000000 in
theorem NamesFresh_ok {H : Hp} {l : List Str} {v : Value} (s : Str) (hs : s.length ≤ 9223372036854775807) (hL : RdSl H 1 Str.cells v l) :
    FnS Tryd.prog 4 [v, gs s] H (.bool true) := by
  obtain ⟨la, lc, rfl⟩ := hL.len
  have hmx := hL.max
  refine FnS.enter Tryd.func4 Tryd.ntmps4 rfl rfl (fun w0 => ?_)
  refine TC.seq ?_
  refine TC.region ?_
  refine TL.run (pr_pure rfl) rfl ?_
  refine TL.nil ?_
  refine TX.seqN ?_
  refine TC.seq ?_
  refine TC.seq ?_
  refine TC.region ?_
  refine TL.callS (enters rfl rfl rfl rfl) (first1_ok) rfl ?_
  refine TL.run (pr_pure rfl) rfl ?_
  refine TL.nil ?_
  refine TX.seqN ?_
  refine TC.cond rfl (fun c8 => ?_) (fun c8 => ?_)
  ·
    exact absurd c8 (by decide)
  ·
    refine TC.skip ?_
    refine TX.seqN ?_
    refine TC.seq ?_
    refine TC.seq ?_
    refine TC.region ?_
    refine TL.run (pr_pure rfl) rfl ?_
    refine TL.run (pr_lenSl rfl rfl hL) rfl ?_
    refine TL.run (pr_pure rfl) rfl ?_
    refine TL.run (pr_pure rfl) rfl ?_
    refine TL.split (s := 12) rfl (fun g12 => ?_) (fun g12 => ?_)
    ·
      have q12 := of_decide_eq_true g12
      refine TL.gdN rfl rfl rfl rfl ?_
      refine TL.gdN rfl rfl rfl rfl ?_
      refine TL.gdN rfl rfl rfl rfl ?_
      refine TL.run (pr_pure rfl) rfl ?_
      refine TL.nil ?_
      refine TX.seqN ?_
      refine TC.condT rfl ?_
      refine TC.seq ?_
      refine TC.region ?_
      refine TL.run (pr_pure rfl) rfl ?_
      refine TL.nil ?_
      refine TX.seqN ?_
      refine TC.ret ?_
      refine TX.thenR ?_
      exact TX.finS (.inr rfl) (results1 rfl (RVal.tmp rfl)) (congrArg Value.bool (by first | rfl | exact fr_head hn3 hx hy))
    ·
      have q12 := of_decide_eq_false g12
      refine TL.gdY rfl rfl (pr_pure rfl) rfl ?_
      refine TL.gdY rfl rfl (pr_lenStr rfl rfl) rfl ?_
      refine TL.gdY rfl rfl (pr_pure rfl) rfl ?_
      refine TL.run (pr_pure rfl) rfl ?_
      refine TL.nil ?_
      refine TX.seqN ?_
      refine TC.condD rfl (fun c16 => ?_) (fun c16 => ?_)
      ·
        refine TC.seq ?_
        refine TC.region ?_
        refine TL.run (pr_pure rfl) rfl ?_
        refine TL.nil ?_
        refine TX.seqN ?_
        refine TC.ret ?_
        refine TX.thenR ?_
        exact TX.finS (.inr rfl) (results1 rfl (RVal.tmp rfl)) (congrArg Value.bool (by first | rfl | exact fr_head hn3 hx hy))
      ·
        have hlen : l.length ≤ 40 := by have h : (l.length : Int) ≤ 40 ∧ (s.length : Int) ≤ 60 := by { simp_all }; omega
        have hf1 := fresh_notin (l := l) (s := s) (by omega)
        have hf2 := fresh_notin (l := [freshS l s] ++ l) (s := s) (by simp; omega)
        refine TC.skip ?_
        refine TX.seqN ?_
        refine TC.seq ?_
        refine TC.region ?_
        refine TL.run (pr_pure rfl) rfl ?_
        refine TL.run (pr_pure rfl) rfl ?_
        refine TL.callS (enters rfl rfl rfl rfl) (n_Fresh_ok s hL (by omega)) rfl ?_
        refine TL.run (pr_pure rfl) rfl ?_
        refine TL.nil ?_
        refine TX.seqN ?_
        refine TC.seq ?_
        refine TC.region ?_
        refine TL.run (pr_pure rfl) rfl ?_
        refine TL.bslice rfl rfl rfl rfl (fun b21 => ?_)
        refine TL.run (pr_pure rfl) rfl ?_
        refine TL.append (enc := Str.cells) rfl rfl rfl (OwnSl.blk (enc := Str.cells) [(freshS l s)] rfl rfl (by decide)) (Src.sl hL) (by simp; omega) rfl (.take (.here _) rfl) rfl (fun a23 c23 ob23 hO23 => ?_)
        refine TL.run (pr_pure rfl) rfl ?_
        refine TL.pubO hO23 .all (by simp) (fun H23 le23 hQ => ?_)
        replace hL := hL.le le23
        refine TL.callS (enters rfl rfl rfl rfl) (n_Fresh_ok s hQ (by simp; omega)) rfl ?_
        refine TL.run (pr_pure rfl) rfl ?_
        refine TL.nil ?_
        refine TX.seqN ?_
        refine TC.seq ?_
        refine TC.sw false 49 [(1, _), (4, _), (5, _)] ⟨rfl, rfl, rfl, trivial⟩ ?_ ?_
        ·
          refine TC.region ?_
          refine TL.run (pr_pure rfl) rfl ?_
          refine TL.run (pr_pure rfl) rfl ?_
          refine TL.callS (enters rfl rfl rfl rfl) (n_Has_ok (freshS l s) hL) rfl ?_
          refine TL.run (pr_pure rfl) rfl ?_
          refine TL.split (s := 29) rfl (fun g29 => ?_) (fun g29 => ?_)
          ·
            refine TL.gdN rfl rfl rfl rfl ?_
            refine TL.gdN rfl rfl rfl rfl ?_
            refine TL.gdN rfl rfl rfl rfl ?_
            refine TL.run (pr_pure rfl) rfl ?_
            refine TL.run (pr_pure rfl) rfl ?_
            refine TL.gdN rfl rfl rfl rfl ?_
            refine TL.gdN rfl rfl rfl rfl ?_
            refine TL.gdN rfl rfl rfl rfl ?_
            refine TL.run (pr_pure rfl) rfl ?_
            refine TL.run (pr_pure rfl) rfl ?_
            refine TL.gdN rfl rfl rfl rfl ?_
            refine TL.gdN rfl rfl rfl rfl ?_
            refine TL.gdN rfl rfl rfl rfl ?_
            refine TL.gdN rfl rfl rfl rfl ?_
            refine TL.gdN rfl rfl rfl rfl ?_
            refine TL.gdU rfl rfl rfl ?_
            refine TL.gdU rfl rfl rfl ?_
            refine TL.gdU rfl rfl rfl ?_
            refine TL.gdN rfl rfl rfl rfl ?_
            refine TL.run (pr_pure rfl) rfl ?_
            refine TL.nil ?_
            exact TX.sw rfl (by first | exact fr_1 hf1 g29 | exact fr_2 hf2 g34 | exact fr_3 hf2 g39 | exact fr_4 g44 | rfl) ⟨rfl, rfl, rfl, trivial⟩
          ·
            refine TL.gdY rfl rfl (pr_pure rfl) rfl ?_
            refine TL.gdY rfl rfl (pr_pure rfl) rfl ?_
            refine TL.callSY rfl rfl (enters rfl rfl rfl rfl) (n_Has_ok (freshS ([freshS l s] ++ l) s) hL) rfl ?_
            refine TL.run (pr_pure rfl) rfl ?_
            refine TL.run (pr_pure rfl) rfl ?_
            refine TL.split (s := 34) rfl (fun g34 => ?_) (fun g34 => ?_)
            ·
              refine TL.gdN rfl rfl rfl rfl ?_
              refine TL.gdN rfl rfl rfl rfl ?_
              refine TL.gdN rfl rfl rfl rfl ?_
              refine TL.run (pr_pure rfl) rfl ?_
              refine TL.run (pr_pure rfl) rfl ?_
              refine TL.gdN rfl rfl rfl rfl ?_
              refine TL.gdN rfl rfl rfl rfl ?_
              refine TL.gdN rfl rfl rfl rfl ?_
              refine TL.gdN rfl rfl rfl rfl ?_
              refine TL.gdN rfl rfl rfl rfl ?_
              refine TL.gdU rfl rfl rfl ?_
              refine TL.gdU rfl rfl rfl ?_
              refine TL.gdU rfl rfl rfl ?_
              refine TL.gdN rfl rfl rfl rfl ?_
              refine TL.run (pr_pure rfl) rfl ?_
              refine TL.nil ?_
              exact TX.sw rfl (by first | exact fr_1 hf1 g29 | exact fr_2 hf2 g34 | exact fr_3 hf2 g39 | exact fr_4 g44 | rfl) ⟨rfl, rfl, rfl, trivial⟩
            ·
              refine TL.gdY rfl rfl (pr_pure rfl) rfl ?_
              refine TL.gdY rfl rfl (pr_pure rfl) rfl ?_
              refine TL.gdY rfl rfl (pr_str rfl rfl rfl) rfl ?_
              refine TL.run (pr_pure rfl) rfl ?_
              refine TL.run (pr_pure rfl) rfl ?_
              refine TL.split (s := 39) rfl (fun g39 => ?_) (fun g39 => ?_)
              ·
                have q39 := of_decide_eq_true g39
                refine TL.gdN rfl rfl rfl rfl ?_
                refine TL.gdN rfl rfl rfl rfl ?_
                refine TL.gdN rfl rfl rfl rfl ?_
                refine TL.gdN rfl rfl rfl rfl ?_
                refine TL.gdN rfl rfl rfl rfl ?_
                refine TL.gdU rfl rfl rfl ?_
                refine TL.gdU rfl rfl rfl ?_
                refine TL.gdU rfl rfl rfl ?_
                refine TL.gdN rfl rfl rfl rfl ?_
                refine TL.run (pr_pure rfl) rfl ?_
                refine TL.nil ?_
                exact TX.sw rfl (by first | exact fr_1 hf1 g29 | exact fr_2 hf2 g34 | exact fr_3 hf2 g39 | exact fr_4 g44 | rfl) ⟨rfl, rfl, rfl, trivial⟩
              ·
                have q39 := of_decide_eq_false g39
                refine TL.gdY rfl rfl (pr_pure rfl) rfl ?_
                refine TL.gdY rfl rfl (pr_pure rfl) rfl ?_
                refine TL.callSY rfl rfl (enters rfl rfl rfl rfl) (n_Has_ok s hL) rfl ?_
                refine TL.gdY rfl rfl (pr_pure rfl) rfl ?_
                refine TL.gdY rfl rfl (pr_pure rfl) rfl ?_
                refine TL.split (s := 44) rfl (fun g44 => ?_) (fun g44 => ?_)
                ·
                  refine TL.gdY rfl rfl (pr_pure rfl) rfl ?_
                  refine TL.gdY rfl rfl (pr_pure rfl) rfl ?_
                  refine TL.gdY rfl rfl (pr_str rfl rfl rfl) rfl ?_
                  refine TL.gdY rfl rfl (pr_pure rfl) rfl ?_
                  refine TL.run (pr_pure rfl) rfl ?_
                  refine TL.nil ?_
                  exact TX.sw rfl (by first | exact fr_1 hf1 g29 | exact fr_2 hf2 g34 | exact fr_3 hf2 g39 | exact fr_4 g44 | rfl) ⟨rfl, rfl, rfl, trivial⟩
                ·
                  refine TL.gdN rfl rfl rfl rfl ?_
                  refine TL.gdN rfl rfl rfl rfl ?_
                  refine TL.gdN rfl rfl rfl rfl ?_
                  refine TL.gdY rfl rfl (pr_pure rfl) rfl ?_
                  refine TL.run (pr_pure rfl) rfl ?_
                  refine TL.nil ?_
                  exact TX.sw rfl (by first | exact fr_1 hf1 g29 | exact fr_2 hf2 g34 | exact fr_3 hf2 g39 | exact fr_4 g44 | rfl) ⟨rfl, rfl, rfl, trivial⟩
        refine TC.cond rfl (fun c49 => ?_) (fun c49 => ?_)
        ·
          exact absurd c49 (by decide)
        ·
          refine TC.skip ?_
          refine TX.seqN ?_
          refine TC.seq ?_
          refine TC.quiet (by kernel_rfl) (by kernel_rfl) ?_
          refine TQ.run (pr_pure rfl) rfl ?_
          refine TQ.callS (enters rfl rfl rfl rfl) (n_May_ok s hs) rfl ?_
          refine TQ.run (pr_pure rfl) rfl ?_
          refine TQ.run (pr_pure rfl) rfl ?_
          refine TQ.split (s := 53) rfl (fun g53 => ?_) (fun g53 => ?_)
          ·
            refine TQ.gdN rfl rfl rfl rfl ?_
            refine TQ.gdN rfl rfl rfl rfl ?_
            refine TQ.gdN rfl rfl rfl rfl ?_
            refine TQ.gdN rfl rfl rfl rfl ?_
            refine TQ.gdU rfl rfl rfl ?_
            refine TQ.gdU rfl rfl rfl ?_
            refine TQ.gdU rfl rfl rfl ?_
            refine TQ.gdN rfl rfl rfl rfl ?_
            refine TQ.gdN rfl rfl rfl rfl ?_
            refine TQ.gdU rfl rfl rfl ?_
            refine TQ.gdU rfl rfl rfl ?_
            refine TQ.gdU rfl rfl rfl ?_
            refine TQ.gdU rfl rfl rfl ?_
            refine TQ.gdU rfl rfl rfl ?_
            refine TQ.gdN rfl rfl rfl rfl ?_
            refine TQ.run (pr_pure rfl) rfl ?_
            refine TQ.run (pr_pure rfl) rfl ?_
            refine TQ.nil ?_
            refine TX.seqN ?_
            refine TC.ret ?_
            exact TX.finS (.inr rfl) (results1 rfl (RVal.tmp rfl)) (congrArg Value.bool (by first | rfl | exact fr_head hn3 hx hy))
          ·
            have hm : nameMay s = true := by simpa using g53
            obtain ⟨hn1, hn2, hn3⟩ := fresh_name (l := l) hm
            refine TQ.gdY rfl rfl (pr_pure rfl) rfl ?_
            refine TQ.gdY rfl rfl (pr_lenStr rfl rfl) rfl ?_
            refine TQ.gdY rfl rfl (pr_pure rfl) rfl ?_
            refine TQ.gdY rfl rfl (pr_pure rfl) rfl ?_
            refine TQ.split (s := 57) rfl (fun g57 => ?_) (fun g57 => ?_)
            ·
              have q57 := of_decide_eq_true g57
              refine TQ.gdY rfl rfl (pr_pure rfl) rfl ?_
              refine TQ.gdY rfl rfl (pr_lenStr rfl rfl) rfl ?_
              refine TQ.gdY rfl rfl (pr_pure rfl) rfl ?_
              refine TQ.gdY rfl rfl (pr_pure rfl) rfl ?_
              refine TQ.gdY rfl rfl (pr_pure rfl) rfl ?_
              refine TQ.split (s := 62) rfl (fun g62 => ?_) (fun g62 => ?_)
              ·
                have q62 := of_decide_eq_true g62
                obtain ⟨x, hx⟩ := getSome (l := freshS l s) (i := 0) (by omega) (by omega)
                obtain ⟨y, hy⟩ := getSome (l := s) (i := 0) (by omega) (name_pos hm)
                refine TQ.gdY rfl rfl (pr_pure rfl) rfl ?_
                refine TQ.gdY rfl rfl (pr_strIx rfl rfl (by omega) hx) rfl ?_
                refine TQ.gdY rfl rfl (pr_pure rfl) rfl ?_
                refine TQ.gdY rfl rfl (pr_strIx rfl rfl (by omega) hy) rfl ?_
                refine TQ.gdY rfl rfl (pr_pure rfl) rfl ?_
                refine TQ.gdY rfl rfl (pr_pure rfl) rfl ?_
                refine TQ.run (pr_pure rfl) rfl ?_
                refine TQ.run (pr_pure rfl) rfl ?_
                refine TQ.nil ?_
                refine TX.seqN ?_
                refine TC.ret ?_
                exact TX.finS (.inr rfl) (results1 rfl (RVal.tmp rfl)) (congrArg Value.bool (by first | rfl | exact fr_head hn3 hx hy))
              ·
                have q62 := of_decide_eq_false g62
                exact absurd (of_decide_eq_false g62) (by omega)
            ·
              have q57 := of_decide_eq_false g57
              exact absurd (of_decide_eq_false g57) (by omega)
end Go.Sx
