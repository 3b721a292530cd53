import Derived.Test.YtgagehpnkecmkaaDoorWL1
set_option linter.unusedVariables false
set_option linter.unusedSimpArgs false
namespace Go.Sx
open Go Go.Proofs
set_option maxRecDepth 100000 in
set_option maxHeartbeats 4000000 in
theorem NamesPut_ok {H : Hp} {l : List Str} {v : Value} (s : Str) (hL : RdSl H 1 Str.cells v l) :
    FnS Tryd.prog 6 [v, gs s] H (.bool true) := by
  obtain ⟨la, lc, rfl⟩ := hL.len
  have hmx := hL.max
  have hpl := putP_len l s
  refine FnS.enter Tryd.func6 Tryd.ntmps6 rfl rfl (fun w0 => ?_)
  refine TC.seq ?_
  refine TC.region ?_
  refine TL.run (pr_pure rfl) rfl ?_
  refine TL.nil ?_
  refine TX.seqN ?_
  refine TC.seq ?_
  refine TC.seq ?_
  refine TC.region ?_
  refine TL.callS (enters rfl rfl rfl rfl) (first1_ok) rfl ?_
  refine TL.run (pr_pure rfl) rfl ?_
  refine TL.nil ?_
  refine TX.seqN ?_
  refine TC.cond rfl (fun c9 => ?_) (fun c9 => ?_)
  ·
    exact absurd c9 (by decide)
  ·
    refine TC.skip ?_
    refine TX.seqN ?_
    refine TC.seq ?_
    refine TC.seq ?_
    refine TC.region ?_
    refine TL.run (pr_pure rfl) rfl ?_
    refine TL.run (pr_lenSl rfl rfl hL) rfl ?_
    refine TL.run (pr_pure rfl) rfl ?_
    refine TL.nil ?_
    refine TX.seqN ?_
    refine TC.condD rfl (fun c12 => ?_) (fun c12 => ?_)
    ·
      refine TC.seq ?_
      refine TC.region ?_
      refine TL.run (pr_pure rfl) rfl ?_
      refine TL.nil ?_
      refine TX.seqN ?_
      refine TC.ret ?_
      refine TX.thenR ?_
      exact TX.finS (.inr rfl) (results1 rfl (RVal.tmp rfl)) (congrArg Value.bool (by first | rfl | exact put_count1 g97 | exact put_count0 g97))
    ·
      refine TC.skip ?_
      refine TX.seqN ?_
      refine TC.seq ?_
      refine TC.region ?_
      refine TL.run (pr_pure rfl) rfl ?_
      refine TL.run (pr_pure rfl) rfl ?_
      refine TL.call (enters rfl rfl rfl rfl) (n_Put_ok s hL (by omega)) rfl (fun v15 H15 hle15 hp15 => ?_)
      replace hL := hL.le hle15
      have hP15 : RdSl H15 1 Str.cells v15 (putP l s) := hp15
      obtain ⟨pa15, pc15, rfl⟩ := hP15.len
      refine TL.run (pr_pure rfl) rfl ?_
      refine TL.nil ?_
      refine TX.seqN ?_
      refine TC.seq ?_
      refine TC.sw false 32 [(0, _), (1, _), (4, _), (5, _)] ⟨rfl, rfl, rfl, rfl, trivial⟩ ?_ ?_
      ·
        refine TC.region ?_
        refine TL.run (pr_pure rfl) rfl ?_
        refine TL.run (pr_pure rfl) rfl ?_
        refine TL.callS (enters rfl rfl rfl rfl) (n_Has_ok s hP15) rfl ?_
        refine TL.run (pr_pure rfl) rfl ?_
        refine TL.run (pr_pure rfl) rfl ?_
        refine TL.split (s := 20) rfl (fun g20 => ?_) (fun g20 => ?_)
        ·
          refine TL.gdN rfl rfl rfl rfl ?_
          refine TL.gdN rfl rfl rfl rfl ?_
          refine TL.gdN rfl rfl rfl rfl ?_
          refine TL.run (pr_pure rfl) rfl ?_
          refine TL.run (pr_pure rfl) rfl ?_
          refine TL.gdN rfl rfl rfl rfl ?_
          refine TL.gdN rfl rfl rfl rfl ?_
          refine TL.gdN rfl rfl rfl rfl ?_
          refine TL.gdN rfl rfl rfl rfl ?_
          refine TL.gdN rfl rfl rfl rfl ?_
          refine TL.gdN rfl rfl rfl rfl ?_
          refine TL.run (pr_pure rfl) rfl ?_
          refine TL.nil ?_
          exact TX.sw rfl (by first | exact put_has g20 | exact put_once g25 | exact decide_eq_false (by omega)) ⟨rfl, rfl, rfl, rfl, trivial⟩
        ·
          refine TL.gdY rfl rfl (pr_pure rfl) rfl ?_
          refine TL.callSY rfl rfl (enters rfl rfl rfl rfl) (n_Once_ok hP15) rfl ?_
          refine TL.gdY rfl rfl (pr_pure rfl) rfl ?_
          refine TL.run (pr_pure rfl) rfl ?_
          refine TL.run (pr_pure rfl) rfl ?_
          refine TL.split (s := 25) rfl (fun g25 => ?_) (fun g25 => ?_)
          ·
            refine TL.gdN rfl rfl rfl rfl ?_
            refine TL.gdN rfl rfl rfl rfl ?_
            refine TL.gdN rfl rfl rfl rfl ?_
            refine TL.gdN rfl rfl rfl rfl ?_
            refine TL.gdN rfl rfl rfl rfl ?_
            refine TL.gdN rfl rfl rfl rfl ?_
            refine TL.run (pr_pure rfl) rfl ?_
            refine TL.nil ?_
            exact TX.sw rfl (by first | exact put_has g20 | exact put_once g25 | exact decide_eq_false (by omega)) ⟨rfl, rfl, rfl, rfl, trivial⟩
          ·
            refine TL.gdY rfl rfl (pr_pure rfl) rfl ?_
            refine TL.gdY rfl rfl (pr_lenSl rfl rfl hP15) rfl ?_
            refine TL.gdY rfl rfl (pr_pure rfl) rfl ?_
            refine TL.gdY rfl rfl (pr_lenSl rfl rfl hL) rfl ?_
            refine TL.gdY rfl rfl ((by first | exact pr_add rfl rfl (by omega) (by omega) | exact pr_pure rfl)) rfl ?_
            refine TL.gdY rfl rfl (pr_pure rfl) rfl ?_
            refine TL.run (pr_pure rfl) rfl ?_
            refine TL.nil ?_
            exact TX.sw rfl (by first | exact put_has g20 | exact put_once g25 | exact decide_eq_false (by omega)) ⟨rfl, rfl, rfl, rfl, trivial⟩
      refine TC.cond rfl (fun c32 => ?_) (fun c32 => ?_)
      ·
        exact absurd c32 (by decide)
      ·
        refine TC.skip ?_
        refine TX.seqN ?_
        refine TC.seq ?_
        refine TC.seq ?_
        refine TC.region ?_
        refine TL.run (pr_pure rfl) rfl ?_
        refine TL.nil ?_
        refine TX.seqN ?_
        refine TC.block ?_
        refine TC.loop (V := fun k => [(6, .int .i64 k)]) (K := [(0, _), (1, _), (4, _), (5, _)]) (L := fun k => _) (I := fun k => 0 ≤ k ∧ k ≤ (putP l s).length) (μ := fun k => ((putP l s).length - k).toNat) (i := (0 : Int)) ⟨rfl, rfl, rfl, rfl, rfl, trivial⟩ ⟨by omega, by omega⟩ (fun w hw => hw) (fun k hI => ?_)
        refine TC.seq ?_
        refine TC.seq ?_
        refine TC.region ?_
        refine TL.run (pr_pure rfl) rfl ?_
        refine TL.run (pr_pure rfl) rfl ?_
        refine TL.run (pr_lenSl rfl rfl hP15) rfl ?_
        refine TL.run (pr_pure rfl) rfl ?_
        refine TL.nil ?_
        refine TX.seqN ?_
        refine TC.condD rfl (fun c36 => ?_) (fun c36 => ?_)
        ·
          obtain ⟨x, hx⟩ := getSome (l := putP l s) hI.1 c36
          have hxm := mem_putP.1 (List.mem_of_getElem? hx)
          refine TC.skip ?_
          refine TX.seqN ?_
          refine TC.seq ?_
          refine TC.block ?_
          refine TC.sw false 69 [(0, _), (1, _), (4, _), (5, _), (6, _), (33, _), (34, _), (35, _), (36, _)] ⟨rfl, rfl, rfl, rfl, rfl, rfl, rfl, rfl, rfl, trivial⟩ ?_ ?_
          ·
            refine TC.quiet (by kernel_rfl) (by kernel_rfl) ?_
            refine TQ.run (pr_pure rfl) rfl ?_
            refine TQ.run (pr_pure rfl) rfl ?_
            refine TQ.run (pr_pure rfl) rfl ?_
            refine TQ.split (s := 41) rfl (fun g41 => ?_) (fun g41 => ?_)
            ·
              have q41 := of_decide_eq_true g41
              obtain ⟨z, hz⟩ := getSome (l := putP l s) (i := k - 1) (by omega) (by omega)
              refine TQ.gdY rfl rfl (pr_pure rfl) rfl ?_
              refine TQ.gdY rfl rfl (pr_pure rfl) rfl ?_
              refine TQ.gdY rfl rfl ((by first | exact pr_sub rfl rfl (by omega) (by omega) | exact pr_pure rfl)) rfl ?_
              refine TQ.gdY rfl rfl (pr_indexSl rfl hP15 rfl (by omega) (by omega)) rfl ?_
              refine TQ.gdY rfl rfl (pr_el0 hP15 hz rfl rfl) rfl ?_
              refine TQ.gdY rfl rfl (pr_pure rfl) rfl ?_
              refine TQ.gdY rfl rfl (pr_pure rfl) rfl ?_
              refine TQ.gdY rfl rfl (pr_indexSl rfl hP15 rfl (by omega) (by omega)) rfl ?_
              refine TQ.gdY rfl rfl (pr_el0 hP15 hx rfl rfl) rfl ?_
              refine TQ.gdY rfl rfl (pr_str rfl rfl rfl) rfl ?_
              refine TQ.run (pr_pure rfl) rfl ?_
              refine TQ.run (pr_pure rfl) rfl ?_
              refine TQ.split (s := 53) rfl (fun g53 => ?_) (fun g53 => ?_)
              ·
                refine TQ.gdN rfl rfl rfl rfl ?_
                refine TQ.gdN rfl rfl rfl rfl ?_
                refine TQ.gdN rfl rfl rfl rfl ?_
                refine TQ.gdN rfl rfl rfl rfl ?_
                refine TQ.gdN rfl rfl rfl rfl ?_
                refine TQ.gdN rfl rfl rfl rfl ?_
                refine TQ.gdN rfl rfl rfl rfl ?_
                refine TQ.gdU rfl rfl rfl ?_
                refine TQ.gdU rfl rfl rfl ?_
                refine TQ.gdU rfl rfl rfl ?_
                refine TQ.gdU rfl rfl rfl ?_
                refine TQ.gdU rfl rfl rfl ?_
                refine TQ.gdU rfl rfl rfl ?_
                refine TQ.gdU rfl rfl rfl ?_
                refine TQ.gdN rfl rfl rfl rfl ?_
                refine TQ.run (pr_pure rfl) rfl ?_
                refine TQ.nil ?_
                exact TX.sw rfl (by first | rfl | exact put_up (by omega) hz hx g53 | exact put_in hxm g60) ⟨rfl, rfl, rfl, rfl, rfl, rfl, rfl, rfl, rfl, trivial⟩
              ·
                refine TQ.gdY rfl rfl (pr_pure rfl) rfl ?_
                refine TQ.gdY rfl rfl (pr_pure rfl) rfl ?_
                refine TQ.gdY rfl rfl (pr_indexSl rfl hP15 rfl (by omega) (by omega)) rfl ?_
                refine TQ.gdY rfl rfl (pr_el0 hP15 hx rfl rfl) rfl ?_
                refine TQ.gdY rfl rfl (pr_pure rfl) rfl ?_
                refine TQ.gdY rfl rfl (pr_str rfl rfl rfl) rfl ?_
                refine TQ.gdY rfl rfl (pr_pure rfl) rfl ?_
                refine TQ.split (s := 60) rfl (fun g60 => ?_) (fun g60 => ?_)
                ·
                  have q60 := of_ndec_true g60
                  refine TQ.gdY rfl rfl (pr_pure rfl) rfl ?_
                  refine TQ.gdY rfl rfl (pr_pure rfl) rfl ?_
                  refine TQ.gdY rfl rfl (pr_pure rfl) rfl ?_
                  refine TQ.gdY rfl rfl (pr_indexSl rfl hP15 rfl (by omega) (by omega)) rfl ?_
                  refine TQ.gdY rfl rfl (pr_el0 hP15 hx rfl rfl) rfl ?_
                  refine TQ.callSY rfl rfl (enters rfl rfl rfl rfl) (n_Has_ok x hL) rfl ?_
                  refine TQ.gdY rfl rfl (pr_pure rfl) rfl ?_
                  refine TQ.gdY rfl rfl (pr_pure rfl) rfl ?_
                  refine TQ.run (pr_pure rfl) rfl ?_
                  refine TQ.nil ?_
                  exact TX.sw rfl (by first | rfl | exact put_up (by omega) hz hx g53 | exact put_in hxm g60) ⟨rfl, rfl, rfl, rfl, rfl, rfl, rfl, rfl, rfl, trivial⟩
                ·
                  have q60 := of_ndec_false g60
                  refine TQ.gdN rfl rfl rfl rfl ?_
                  refine TQ.gdN rfl rfl rfl rfl ?_
                  refine TQ.gdN rfl rfl rfl rfl ?_
                  refine TQ.gdN rfl rfl rfl rfl ?_
                  refine TQ.gdN rfl rfl rfl rfl ?_
                  refine TQ.gdN rfl rfl rfl rfl ?_
                  refine TQ.gdN rfl rfl rfl rfl ?_
                  refine TQ.gdY rfl rfl (pr_pure rfl) rfl ?_
                  refine TQ.run (pr_pure rfl) rfl ?_
                  refine TQ.nil ?_
                  exact TX.sw rfl (by first | rfl | exact put_up (by omega) hz hx g53 | exact put_in hxm g60) ⟨rfl, rfl, rfl, rfl, rfl, rfl, rfl, rfl, rfl, trivial⟩
            ·
              have q41 := of_decide_eq_false g41
              refine TQ.gdN rfl rfl rfl rfl ?_
              refine TQ.gdN rfl rfl rfl rfl ?_
              refine TQ.gdN rfl rfl rfl rfl ?_
              refine TQ.gdN rfl rfl rfl rfl ?_
              refine TQ.gdN rfl rfl rfl rfl ?_
              refine TQ.gdN rfl rfl rfl rfl ?_
              refine TQ.gdN rfl rfl rfl rfl ?_
              refine TQ.gdN rfl rfl rfl rfl ?_
              refine TQ.gdN rfl rfl rfl rfl ?_
              refine TQ.gdN rfl rfl rfl rfl ?_
              refine TQ.run (pr_pure rfl) rfl ?_
              refine TQ.run (pr_pure rfl) rfl ?_
              refine TQ.gdY rfl rfl (pr_pure rfl) rfl ?_
              refine TQ.gdY rfl rfl (pr_pure rfl) rfl ?_
              refine TQ.gdY rfl rfl (pr_indexSl rfl hP15 rfl (by omega) (by omega)) rfl ?_
              refine TQ.gdY rfl rfl (pr_el0 hP15 hx rfl rfl) rfl ?_
              refine TQ.gdY rfl rfl (pr_pure rfl) rfl ?_
              refine TQ.gdY rfl rfl (pr_str rfl rfl rfl) rfl ?_
              refine TQ.gdY rfl rfl (pr_pure rfl) rfl ?_
              refine TQ.split (s := 60) rfl (fun g60 => ?_) (fun g60 => ?_)
              ·
                have q60 := of_ndec_true g60
                refine TQ.gdY rfl rfl (pr_pure rfl) rfl ?_
                refine TQ.gdY rfl rfl (pr_pure rfl) rfl ?_
                refine TQ.gdY rfl rfl (pr_pure rfl) rfl ?_
                refine TQ.gdY rfl rfl (pr_indexSl rfl hP15 rfl (by omega) (by omega)) rfl ?_
                refine TQ.gdY rfl rfl (pr_el0 hP15 hx rfl rfl) rfl ?_
                refine TQ.callSY rfl rfl (enters rfl rfl rfl rfl) (n_Has_ok x hL) rfl ?_
                refine TQ.gdY rfl rfl (pr_pure rfl) rfl ?_
                refine TQ.gdY rfl rfl (pr_pure rfl) rfl ?_
                refine TQ.run (pr_pure rfl) rfl ?_
                refine TQ.nil ?_
                exact TX.sw rfl (by first | rfl | exact put_up (by omega) hz hx g53 | exact put_in hxm g60) ⟨rfl, rfl, rfl, rfl, rfl, rfl, rfl, rfl, rfl, trivial⟩
              ·
                have q60 := of_ndec_false g60
                refine TQ.gdN rfl rfl rfl rfl ?_
                refine TQ.gdN rfl rfl rfl rfl ?_
                refine TQ.gdN rfl rfl rfl rfl ?_
                refine TQ.gdN rfl rfl rfl rfl ?_
                refine TQ.gdN rfl rfl rfl rfl ?_
                refine TQ.gdN rfl rfl rfl rfl ?_
                refine TQ.gdN rfl rfl rfl rfl ?_
                refine TQ.gdY rfl rfl (pr_pure rfl) rfl ?_
                refine TQ.run (pr_pure rfl) rfl ?_
                refine TQ.nil ?_
                exact TX.sw rfl (by first | rfl | exact put_up (by omega) hz hx g53 | exact put_in hxm g60) ⟨rfl, rfl, rfl, rfl, rfl, rfl, rfl, rfl, rfl, trivial⟩
          refine TC.cond rfl (fun c69 => ?_) (fun c69 => ?_)
          ·
            exact absurd c69 (by decide)
          ·
            refine TC.skip ?_
            refine TX.blkN ?_
            refine TX.seqN ?_
            refine TC.region ?_
            refine TL.run (pr_pure rfl) rfl ?_
            refine TL.run ((by first | exact pr_add rfl rfl (by omega) (by omega) | exact pr_pure rfl)) rfl ?_
            refine TL.run (pr_pure rfl) rfl ?_
            refine TL.nil ?_
            exact TX.round (k + 1) ⟨by omega, by omega⟩ ⟨rfl, rfl, rfl, rfl, rfl, trivial⟩ (fun w hw => hw) (by omega)
        ·
          refine TC.exit ?_
          refine TX.thenE ?_
          refine TX.thenE ?_
          refine TX.blkHit ?_
          refine TX.seqN ?_
          refine TC.seq ?_
          refine TC.seq ?_
          refine TC.region ?_
          refine TL.run (pr_pure rfl) rfl ?_
          refine TL.nil ?_
          refine TX.seqN ?_
          refine TC.block ?_
          refine TC.loop (V := fun k => [(7, .int .i64 k)]) (K := [(0, _), (1, _), (4, _), (5, _)]) (L := fun k => _) (I := fun k => 0 ≤ k ∧ k ≤ l.length) (μ := fun k => (l.length - k).toNat) (i := (0 : Int)) ⟨rfl, rfl, rfl, rfl, rfl, trivial⟩ ⟨by omega, by omega⟩ (fun w hw => hw) (fun k hI => ?_)
          refine TC.seq ?_
          refine TC.seq ?_
          refine TC.region ?_
          refine TL.run (pr_pure rfl) rfl ?_
          refine TL.run (pr_pure rfl) rfl ?_
          refine TL.run (pr_lenSl rfl rfl hL) rfl ?_
          refine TL.run (pr_pure rfl) rfl ?_
          refine TL.nil ?_
          refine TX.seqN ?_
          refine TC.condD rfl (fun c73 => ?_) (fun c73 => ?_)
          ·
            obtain ⟨y, hy⟩ := getSome (l := l) hI.1 c73
            have hyp := placeS_mem.2 (mem_putP.2 (.inl (List.mem_of_getElem? hy) : y ∈ l ∨ y = s))
            refine TC.skip ?_
            refine TX.seqN ?_
            refine TC.seq ?_
            refine TC.block ?_
            refine TC.seq ?_
            refine TC.region ?_
            refine TL.run (pr_pure rfl) rfl ?_
            refine TL.run (pr_pure rfl) rfl ?_
            refine TL.run (pr_pure rfl) rfl ?_
            refine TL.run (pr_indexSl rfl hL rfl (by omega) (by omega)) rfl ?_
            refine TL.run (pr_el0 hL hy rfl rfl) rfl ?_
            refine TL.callS (enters rfl rfl rfl rfl) (n_Place_ok y hP15) rfl ?_
            refine TL.run (pr_pure rfl) rfl ?_
            refine TL.nil ?_
            refine TX.seqN ?_
            refine TC.condD rfl (fun c82 => ?_) (fun c82 => ?_)
            ·
              exact absurd c82 (by omega)
            ·
              refine TC.skip ?_
              refine TX.blkN ?_
              refine TX.seqN ?_
              refine TC.region ?_
              refine TL.run (pr_pure rfl) rfl ?_
              refine TL.run ((by first | exact pr_add rfl rfl (by omega) (by omega) | exact pr_pure rfl)) rfl ?_
              refine TL.run (pr_pure rfl) rfl ?_
              refine TL.nil ?_
              exact TX.round (k + 1) ⟨by omega, by omega⟩ ⟨rfl, rfl, rfl, rfl, rfl, trivial⟩ (fun w hw => hw) (by omega)
          ·
            refine TC.exit ?_
            refine TX.thenE ?_
            refine TX.thenE ?_
            refine TX.blkHit ?_
            refine TX.seqN ?_
            refine TC.seq ?_
            refine TC.region ?_
            refine TL.run (pr_pure rfl) rfl ?_
            refine TL.run (pr_pure rfl) rfl ?_
            refine TL.call (enters rfl rfl rfl rfl) (n_Put_ok s hP15 (by omega)) rfl (fun v85 H85 hle85 hp85 => ?_)
            replace hL := hL.le hle85
            replace hP15 := hP15.le hle85
            have hP85 : RdSl H85 1 Str.cells v85 (putP (putP l s) s) := hp85
            obtain ⟨pa85, pc85, rfl⟩ := hP85.len
            refine TL.run (pr_pure rfl) rfl ?_
            refine TL.callS (enters rfl rfl rfl rfl) (sameN_ok hP85 hP15) rfl ?_
            refine TL.run (pr_pure rfl) rfl ?_
            refine TL.split (s := 88) rfl (fun g88 => ?_) (fun g88 => ?_)
            ·
              refine TL.gdY rfl rfl (pr_pure rfl) rfl ?_
              refine TL.gdY rfl rfl (pr_lenSl rfl rfl hP15) rfl ?_
              refine TL.gdY rfl rfl (pr_pure rfl) rfl ?_
              refine TL.gdY rfl rfl (pr_lenSl rfl rfl hL) rfl ?_
              refine TL.gdY rfl rfl ((by first | exact pr_add rfl rfl (by omega) (by omega) | exact pr_pure rfl)) rfl ?_
              refine TL.gdY rfl rfl (pr_pure rfl) rfl ?_
              refine TL.gdY rfl rfl (pr_pure rfl) rfl ?_
              refine TL.callSY rfl rfl (enters rfl rfl rfl rfl) (n_Once_ok hL) rfl ?_
              refine TL.gdY rfl rfl (pr_pure rfl) rfl ?_
              refine TL.split (s := 97) rfl (fun g97 => ?_) (fun g97 => ?_)
              ·
                refine TL.gdY rfl rfl (pr_pure rfl) rfl ?_
                refine TL.gdY rfl rfl (pr_pure rfl) rfl ?_
                refine TL.callSY rfl rfl (enters rfl rfl rfl rfl) (n_Has_ok s hL) rfl ?_
                refine TL.gdY rfl rfl (pr_pure rfl) rfl ?_
                refine TL.gdY rfl rfl (pr_pure rfl) rfl ?_
                refine TL.gdY rfl rfl (pr_bool rfl rfl rfl) rfl ?_
                refine TL.run (pr_pure rfl) rfl ?_
                refine TL.run (pr_pure rfl) rfl ?_
                refine TL.nil ?_
                refine TX.seqN ?_
                refine TC.ret ?_
                exact TX.finS (.inr rfl) (results1 rfl (RVal.tmp rfl)) (congrArg Value.bool (by first | rfl | exact put_count1 g97 | exact put_count0 g97))
              ·
                refine TL.gdN rfl rfl rfl rfl ?_
                refine TL.gdN rfl rfl rfl rfl ?_
                refine TL.gdN rfl rfl rfl rfl ?_
                refine TL.gdN rfl rfl rfl rfl ?_
                refine TL.gdY rfl rfl (pr_pure rfl) rfl ?_
                refine TL.gdY rfl rfl (pr_bool rfl rfl rfl) rfl ?_
                refine TL.run (pr_pure rfl) rfl ?_
                refine TL.run (pr_pure rfl) rfl ?_
                refine TL.nil ?_
                refine TX.seqN ?_
                refine TC.ret ?_
                exact TX.finS (.inr rfl) (results1 rfl (RVal.tmp rfl)) (congrArg Value.bool (by first | rfl | exact put_count1 g97 | exact put_count0 g97))
            ·
              exact absurd g88 (by rw [putP_twice]; simp)
end Go.Sx
