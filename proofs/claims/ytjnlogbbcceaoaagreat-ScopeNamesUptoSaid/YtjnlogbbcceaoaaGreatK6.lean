import Derived.Test.YtjnlogbbcceaoaaGreatK5
set_option linter.all false
set_option maxRecDepth 100000
namespace Go.Sx
open Go Go.Proofs
set_option maxHeartbeats 1000000 in
theorem n_MayU_ok {H : Hp} (s : Str) :
  FnS Tryz.prog 79 [gs s] H (.bool (nameMay s)) := by
 refine FnS.enter Tryz.func79 Tryz.ntmps79 rfl rfl (fun w0 => ?_)
 refine zm112 ?_; refine zm166 ?_; refine zm9 ?_
 refine TL.split (s := 7) rfl (fun g7 => ?_) (fun g7 => ?_)
 · exact zq74
 ·
  have q7 := of_decide_eq_false g7
  refine zm8 ?_; refine TL.gdY rfl rfl (pr_lenStr rfl rfl) rfl ?_; refine zm17 ?_
  refine TL.split (s := 12) rfl (fun g12 => ?_) (fun g12 => ?_)
  · exact zq100
  ·
   have q12 := of_decide_eq_false g12
   refine zm8 ?_
   have hlen : (0 : Int) < s.length := by have := of_decide_eq_false g7; omega
   obtain ⟨c0, hc0⟩ := getSome (l := s) (i := 0) (by omega) hlen
   refine zm306 ?_; refine TL.callSY rfl rfl (enters rfl rfl rfl rfl) (n_letter_ok c0) rfl ?_; refine zm17 ?_
   refine TL.split (s := 18) rfl (fun g18 => ?_) (fun g18 => ?_)
   · exact zq86
   ·
    refine zm8 ?_; refine TL.callSY rfl rfl (enters rfl rfl rfl rfl) (n_Keyword_ok s) rfl ?_; refine zm2 ?_
    refine TC.cond rfl (fun c21 => ?_) (fun c21 => ?_)
    · exact zq92
    ·
     have hn := nameMay_T g7 g12 hc0 g18 c21
     have hl12 : (s.length : Int) ≤ 12 := by have := of_decide_eq_false g12; omega
     exact zq101
set_option maxHeartbeats 1000000 in
theorem goes_ok {H : Hp} (k : Int) :
  FnS Tryz.prog 95 [.int .i64 k] H (.bool (goesB k)) := by
 refine FnS.enter Tryz.func95 Tryz.ntmps95 rfl rfl (fun w0 => ?_)
 refine zm48 ?_
 refine TC.sw (decide (k = 1) || (decide (k = 2) || (decide (k = 4) || (decide (k = 7) || (decide (k = 8) || decide (k = 9)))))) 4 [(2, _)] ⟨rfl, trivial⟩ ?_ ?_
 · exact zq195
 refine TC.cond rfl (fun c4 => ?_) (fun c4 => ?_)
 · refine zm57 ?_; exact TX.blkR (TX.thenR (TX.finS (.inr rfl) (results1 rfl (RVal.tmp rfl)) (congrArg Value.bool (by unfold goesB; first | exact c4.symm | (rw [c4]) | simp_all))))
 ·
  refine zm81 ?_; refine zm57 ?_
  exact TX.finS (.inr rfl) (results1 rfl (RVal.tmp rfl)) (congrArg Value.bool (by unfold goesB; first | exact c4.symm | (rw [c4]) | simp_all))
set_option maxHeartbeats 1000000 in
theorem fault_ok {H : Hp} (e p a : Int) :
  FnS Tryz.prog 41 [.int .i64 e, .int .i64 p, .int .i64 a] H (.agg (SFault.cells ⟨e, p, a⟩).toArray) := by
 refine FnS.enter Tryz.func41 Tryz.ntmps41 rfl rfl (fun w0 => ?_)
 refine zm4 ?_
 refine TL.alloc rfl (fun b6 => ?_)
 refine zm33 ?_; refine zm24 ?_
 exact zq351
set_option maxHeartbeats 1000000 in
theorem sFind_ok {H : Hp} {pg : SProg} (s : Str) (hP : ProgOk H pg) :
  FnS Tryz.prog 16 [.agg pg.cells.toArray, gs s] H (.int .i64 (findS pg.procs s)) := by
 have hq := hP.q
 have hmax := hq.max
 refine FnS.enter Tryz.func16 Tryz.ntmps16 rfl rfl (fun w0 => ?_)
 refine zm4 ?_
 refine TL.box rfl rfl (fun b2 => ?_)
 refine zm97 ?_; refine TL.run (pr_lenSl rfl rfl hq) rfl ?_; refine zm10 ?_
 refine TC.loop (V := fun k => [(9, .int .i64 k)]) (K := [(1, _), (2, _), (4, _), (8, _)]) (L := fun k => _) (I := fun k => 0 ≤ k ∧ k ≤ pg.procs.length ∧ ∀ j : Nat, j < k.toNat → (pg.procs.map (·.name))[j]? ≠ some s) (μ := fun k => (pg.procs.length - k).toNat) (i := (0 : Int)) ⟨rfl, rfl, rfl, rfl, rfl, trivial⟩ ⟨by omega, by omega, fun j hj => absurd hj (by simp)⟩ (fun w hw => hw) (fun k hI => ?_)
 refine zm11 ?_
 refine TC.condD rfl (fun c10 => ?_) (fun c10 => ?_)
 ·
  obtain ⟨x, hx⟩ := getSome (l := pg.procs) hI.1 c10
  refine zm117 ?_; refine zm219 ?_; refine TL.run (pr_indexSl rfl hq rfl (by omega) (by omega)) rfl ?_; refine zm6 ?_; refine TL.run (pr_el1 hq hx rfl rfl) rfl ?_; refine zm216 ?_
  refine TC.condD rfl (fun c19 => ?_) (fun c19 => ?_)
  ·
   refine zm217 ?_
   exact zq354
  ·
   refine zm116 ?_
   exact TX.round (k + 1) ⟨by omega, by omega, place_next hI.1 hI.2.2 (map_at hx) c19⟩ ⟨rfl, rfl, rfl, rfl, rfl, trivial⟩ (fun w hw => hw) (by omega)
 ·
  refine zm65 ?_
  exact zq354
set_option maxHeartbeats 2000000 in
theorem bare_ok {H : Hp} (s : SStep) :
  FnS Tryz.prog 139 [.agg s.cells.toArray] H (.agg (bareS s).cells.toArray) := by
 refine FnS.enter Tryz.func139 Tryz.ntmps139 rfl rfl (fun w0 => ?_)
 refine zm4 ?_
 refine TL.box rfl rfl (fun b1 => ?_)
 refine TL.alloc rfl (fun b2 => ?_)
 refine zm135 ?_; refine zm20 ?_; refine zm210 ?_
 refine TC.condD rfl (fun c5 => ?_) (fun c5 => ?_)
 · exact zq355
 ·
  refine zm28 ?_
  refine TC.condD rfl (fun c9 => ?_) (fun c9 => ?_)
  · exact zq386
  ·
   refine zm28 ?_
   refine TC.condD rfl (fun c12 => ?_) (fun c12 => ?_)
   · exact zq355
   ·
    refine zm28 ?_
    refine TC.condD rfl (fun c16 => ?_) (fun c16 => ?_)
    · exact zq387
    ·
     refine zm28 ?_
     refine TC.condD rfl (fun c22 => ?_) (fun c22 => ?_)
     · exact TC.region (zq390)
     ·
      refine TC.sw (decide (s.kind = 6) || decide (s.kind = 7)) 27 [(1, _), (2, _), (4, _)] ⟨rfl, rfl, rfl, trivial⟩ ?_ ?_
      · exact zq392
      refine TC.cond rfl (fun c27 => ?_) (fun c27 => ?_)
      ·
       have h67 : s.kind = 6 ∨ s.kind = 7 := by simpa using c27
       have h8 : ¬ s.kind = 8 := by omega
       have h9 : ¬ s.kind = 9 := by omega
       exact zq355
      ·
       refine zm28 ?_
       refine TC.condD rfl (fun c32 => ?_) (fun c32 => ?_)
       · exact zq387
       ·
        refine zm28 ?_
        refine TC.condD rfl (fun c38 => ?_) (fun c38 => ?_)
        · exact zq386
        · exact TC.skip (zq361)
set_option maxHeartbeats 1000000 in
theorem n_Once_ok {H : Hp} {l : List Str} {v : Value} (hL : RdSl H 1 Str.cells v l) :
  FnS Tryz.prog 81 [v] H (.bool (onceS l)) := by
 have hmax := hL.max
 obtain ⟨la, lc, rfl⟩ := hL.len
 refine FnS.enter Tryz.func81 Tryz.ntmps81 rfl rfl (fun w0 => ?_)
 refine zm112 ?_; refine TL.run (pr_lenSl rfl rfl hL) rfl ?_; refine zm10 ?_
 refine TC.loop (V := fun k => [(6, .int .i64 k)]) (K := [(0, _), (2, _), (5, _)]) (L := fun k => _) (I := fun k => 0 ≤ k ∧ k ≤ l.length ∧ (l.take k.toNat).Nodup) (μ := fun k => (l.length - k).toNat) (i := (0 : Int)) ⟨rfl, rfl, rfl, rfl, trivial⟩ ⟨by omega, by omega, List.nodup_nil⟩ (fun w hw => hw) (fun k hI => ?_)
 refine zm11 ?_
 refine TC.condD rfl (fun c7 => ?_) (fun c7 => ?_)
 ·
  obtain ⟨x, hx⟩ := getSome (l := l) hI.1 c7
  refine zm117 ?_; refine zm40 ?_; refine zm115 ?_; refine TL.run (pr_el0 hL hx rfl rfl) rfl (TL.callS (enters rfl rfl rfl rfl) (n_Place_ok x hL) rfl ?_); refine zm60 ?_
  refine TC.condND rfl (fun c16 => ?_) (fun c16 => ?_)
  ·
   refine zm57 ?_; refine zm50 ?_
   exact zq393
  ·
   refine zm116 ?_
   exact TX.round (k + 1) ⟨by omega, by omega, take_nodup hI.1 hx hI.2.2 (place_first hI.1 hx (by simpa using c16))⟩ ⟨rfl, rfl, rfl, rfl, trivial⟩ (fun w hw => hw) (by omega)
 ·
  refine zm65 ?_
  exact zq393
end Go.Sx
namespace Go.Sx
open Go Go.Proofs
set_option maxHeartbeats 2000000 in
theorem ways_ok {H : Hp} (s : SStep) (hs : StepOk H s) :
  FnS Tryz.prog 140 [.agg s.cells.toArray] H (.bool (waysS s)) := by
 have hw := hs.w
 have hmw := hw.max
 refine FnS.enter Tryz.func140 Tryz.ntmps140 rfl rfl (fun w0 => ?_)
 refine zm4 ?_
 refine TL.box rfl rfl (fun b1 => ?_)
 refine zm97 ?_; refine zm2 ?_
 refine TC.condD rfl (fun c8 => ?_) (fun c8 => ?_)
 ·
  refine zm58 ?_; refine TL.run (pr_lenSl rfl rfl hw) rfl ?_; refine zm9 ?_
  refine TL.split (s := 13) rfl (fun g13 => ?_) (fun g13 => ?_)
  ·
   have q13 := of_decide_eq_true g13
   obtain ⟨w0, h0⟩ := getSome (l := s.ways) (i := 0) (by decide) (by omega)
   obtain ⟨w1, h1⟩ := getSome (l := s.ways) (i := 1) (by decide) (by omega)
   refine zm13 ?_; refine zm271 ?_; refine zm43 ?_; refine TL.gdY rfl rfl (pr_el1 hw h0 rfl rfl) rfl ?_; refine zm272 ?_
   refine TL.split (s := 21) rfl (fun g21 => ?_) (fun g21 => ?_)
   ·
    have q21 := of_decide_eq_true g21
    refine zm13 ?_; refine zm271 ?_; refine zm43 ?_; refine TL.gdY rfl rfl (pr_el1 hw h0 rfl rfl) rfl ?_; refine zm272 ?_
    refine TL.split (s := 29) rfl (fun g29 => ?_) (fun g29 => ?_)
    ·
     have q29 := of_decide_eq_true g29
     refine zm13 ?_; refine zm271 ?_; refine zm43 ?_; refine TL.gdY rfl rfl (pr_el1 hw h1 rfl rfl) rfl ?_; refine zm272 ?_
     refine TL.split (s := 37) rfl (fun g37 => ?_) (fun g37 => ?_)
     ·
      have q37 := of_decide_eq_true g37
      refine zm13 ?_; refine zm271 ?_; refine zm43 ?_; refine TL.gdY rfl rfl (pr_el1 hw h1 rfl rfl) rfl ?_; refine zm75 ?_
      exact zq394
     ·
      have q37 := of_decide_eq_false g37
      exact zq401
    ·
     have q29 := of_decide_eq_false g29
     exact zq407
   ·
    have q21 := of_decide_eq_false g21
    exact zq415
  ·
   have q13 := of_decide_eq_false g13
   refine zm44 ?_; refine zm168 ?_
   exact zq415
 ·
  refine zm12 ?_; refine zm118 ?_; refine TL.run (pr_lenSl rfl rfl hw) rfl ?_; refine zm9 ?_
  refine TL.split (s := 49) rfl (fun g49 => ?_) (fun g49 => ?_)
  ·
   have q49 := of_decide_eq_true g49
   refine zm44 ?_; refine zm174 ?_
   exact zq423
  ·
   have q49 := of_decide_eq_false g49
   refine zm13 ?_; refine TL.gdY rfl rfl (pr_lenSl rfl rfl hw) rfl ?_; refine zm35 ?_
   refine TC.condD rfl (fun c54 => ?_) (fun c54 => ?_)
   · exact zq423
   ·
    have hn7 : (1 : Int) ≤ s.ways.length ∧ (s.ways.length : Int) ≤ 7 := ⟨by omega, by omega⟩
    refine zm12 ?_; refine zm220 ?_; refine TL.run (pr_lenSl rfl rfl hw) rfl ?_; refine zm10 ?_
    refine TC.loop4 (V := fun k v ob H1 => [(3, v), (58, .int .i64 k)]) (K := [(2, _), (56, _), (57, _)]) (L := fun k v ob H1 => St [] w0 H H ((b1, _) :: ob)) (I := fun k v ob H1 => (0 ≤ k ∧ k ≤ s.ways.length) ∧ OwnSl 1 Str.cells v ((s.ways.take k.toNat).map (·.label)) ob ∧ s.ways.all (fun w => !wayBad w) = (s.ways.drop k.toNat).all (fun w => !wayBad w)) (μ := fun k => (s.ways.length - k).toNat) 0 (.slice none 0 0) [] H ⟨rfl, rfl, rfl, rfl, rfl, trivial⟩ ⟨⟨by omega, by omega⟩, OwnSl.nil, rfl⟩ (fun w hw => hw) (fun k v ob H1 hI => ?_)
    obtain ⟨⟨k0, k1⟩, hO, hal⟩ := hI
    obtain ⟨va, vc, rfl⟩ := hO.form
    refine zm11 ?_
    refine TC.condD rfl (fun c59 => ?_) (fun c59 => ?_)
    ·
     obtain ⟨x, hx⟩ := getSome (l := s.ways) k0 c59
     refine zm15 ?_; refine zm308 ?_; refine TL.run (pr_elA hw hx rfl rfl) rfl (TL.alloc rfl (fun b5 => ?_))
     refine zm175 ?_
     refine TC.sw (wayBad x) 91 [(2, _), (3, _), (5, _), (56, _), (57, _), (58, _), (59, _), (60, _), (61, _)] ⟨rfl, rfl, rfl, rfl, rfl, rfl, rfl, rfl, rfl, trivial⟩ ?_ ?_
     ·
      refine zm221 ?_
      refine TL.split (s := 65) rfl (fun g65 => ?_) (fun g65 => ?_)
      ·
       have q65 := of_decide_eq_true g65
       refine zm131 ?_
       refine TL.split (s := 70) rfl (fun g70 => ?_) (fun g70 => ?_)
       ·
        have q70 := of_ndec_true g70
        refine zm44 ?_; refine zm222 ?_; refine zm222 ?_; refine zm1 ?_; refine zm9 ?_
        exact zq425
       ·
        have q70 := of_ndec_false g70
        exact zq435
      ·
       have q65 := of_decide_eq_false g65
       refine zm46 ?_
       exact zq435
     refine TC.cond rfl (fun c91 => ?_) (fun c91 => ?_)
     ·
      refine zm171 ?_; refine zm223 ?_
      exact zq399
     ·
      refine zm12 ?_; refine zm52 ?_
      refine TL.bslice rfl rfl rfl rfl (fun b95 => ?_)
      refine TL.append (enc := Str.cells) rfl rfl rfl hO (Src.own [x.label] (.here _) rfl rfl) (by simp; omega) rfl (.skip _ (.skip _ (.skip _ .all))) rfl (fun a96 c96 ob96 hO96 => ?_)
      refine zm136 ?_
      exact TX.round4 (k + 1) _ ob96 H ⟨⟨by omega, by omega⟩, by rw [map_take_snoc k0 hx]; exact hO96, all_next k0 hx (by simpa using c91) hal⟩ ⟨rfl, rfl, rfl, rfl, rfl, trivial⟩ (fun w hw => hw.drop.drop) (by omega)
    ·
     refine zm176 ?_
     refine TL.pubO hO (.skip _ .all) (by simp) (fun HJ leJ hJ => ?_)
     have hO2 := hJ.cast (show _ = s.ways.map (·.label) by rw [take_all c59 k0])
     refine TL.callS (enters rfl rfl rfl rfl) (n_Once_ok hO2) rfl ?_; refine zm22 ?_
     exact zq400
set_option maxHeartbeats 4000000 in
theorem may_ok {H : Hp} (s : SStep) (hs : StepOk H s) :
  FnS Tryz.prog 82 [.agg s.cells.toArray] H (.bool (mayS s)) := by
 have hc := hs.c
 have hmc := hc.max
 have hB := bare_rd hs
 refine FnS.enter Tryz.func82 Tryz.ntmps82 rfl rfl (fun w0 => ?_)
 refine zm4 ?_
 refine TL.box rfl rfl (fun b1 => ?_)
 refine zm97 ?_; refine zm9 ?_
 refine TL.split (s := 9) rfl (fun g9 => ?_) (fun g9 => ?_)
 ·
  have q9 := of_decide_eq_true g9
  refine zm82 ?_; refine zm174 ?_
  exact zq473
 ·
  have q9 := of_decide_eq_false g9
  refine zm13 ?_; refine zm35 ?_
  refine TC.condD rfl (fun c13 => ?_) (fun c13 => ?_)
  · exact zq473
  ·
   refine zm12 ?_; refine zm34 ?_; refine TL.callS (enters rfl rfl rfl rfl) (bare_ok s) rfl (TL.alloc rfl (fun b3 => ?_))
   refine zm175 ?_
   refine TC.sw (badX (bareS s)) 61 [(1, _), (2, _)] ⟨rfl, rfl, trivial⟩ ?_ ?_
   ·
    refine zm221 ?_
    refine TL.split (s := 19) rfl (fun g19 => ?_) (fun g19 => ?_)
    ·
     have q19 := of_ndec_true g19
     refine zm46 ?_
     exact zq481
    ·
     have q19 := of_ndec_false g19
     refine zm131 ?_
     refine TL.split (s := 24) rfl (fun g24 => ?_) (fun g24 => ?_)
     ·
      have q24 := of_ndec_true g24
      exact zq481
     ·
      have q24 := of_ndec_false g24
      refine zm131 ?_
      refine TL.split (s := 29) rfl (fun g29 => ?_) (fun g29 => ?_)
      ·
       have q29 := of_ndec_true g29
       exact zq486
      ·
       have q29 := of_ndec_false g29
       refine zm131 ?_
       refine TL.split (s := 34) rfl (fun g34 => ?_) (fun g34 => ?_)
       ·
        have q34 := of_ndec_true g34
        exact zq491
       ·
        have q34 := of_ndec_false g34
        refine zm130 ?_
        refine TL.split (s := 39) rfl (fun g39 => ?_) (fun g39 => ?_)
        ·
         have q39 := of_ndec_true g39
         exact zq496
        ·
         have q39 := of_ndec_false g39
         refine zm13 ?_; refine TL.gdY rfl rfl (pr_lenSl rfl rfl hB.a) rfl ?_; refine zm17 ?_
         refine TL.split (s := 45) rfl (fun g45 => ?_) (fun g45 => ?_)
         ·
          have q45 := of_decide_eq_true g45
          exact zq502
         ·
          have q45 := of_decide_eq_false g45
          refine zm13 ?_; refine TL.gdY rfl rfl (pr_lenSl rfl rfl hB.c) rfl ?_; refine zm17 ?_
          refine TL.split (s := 51) rfl (fun g51 => ?_) (fun g51 => ?_)
          ·
           have q51 := of_decide_eq_true g51
           exact zq508
          ·
           have q51 := of_decide_eq_false g51
           refine zm13 ?_; refine TL.gdY rfl rfl (pr_lenSl rfl rfl hB.w) rfl ?_; refine zm17 ?_
           refine TL.split (s := 57) rfl (fun g57 => ?_) (fun g57 => ?_)
           ·
            have q57 := of_decide_eq_true g57
            exact zq514
           ·
            have q57 := of_decide_eq_false g57
            refine zm13 ?_; refine zm85 ?_
            exact TX.sw rfl (by unfold badX; simp_all) ⟨rfl, rfl, trivial⟩
   refine TC.cond rfl (fun c61 => ?_) (fun c61 => ?_)
   · exact zq473
   ·
    refine zm12 ?_; refine zm224 ?_; refine zm33 ?_; refine TC.block (TC.sw (decide (s.kind = 1) || decide (s.kind = 9)) 64 [(1, _), (2, _), (63, _)] ⟨rfl, rfl, rfl, trivial⟩ ?_ ?_)
    · exact zq392
    refine TC.cond rfl (fun c64 => ?_) (fun c64 => ?_)
    ·
     refine zm4 ?_; refine zm20 ?_; refine zm273 ?_
     exact zq517
    ·
     refine zm28 ?_
     refine TC.condD rfl (fun c70 => ?_) (fun c70 => ?_)
     · refine zm4 ?_; refine zm70 ?_; exact TL.callS (enters rfl rfl rfl rfl) (ways_ok s hs) rfl (zq517)
     ·
      refine zm28 ?_
      refine TC.condD rfl (fun c74 => ?_) (fun c74 => ?_)
      ·
       refine zm4 ?_; refine zm20 ?_; refine zm273 ?_; refine zm0 ?_
       refine TL.split (s := 79) rfl (fun g79 => ?_) (fun g79 => ?_)
       ·
        refine zm36 ?_; refine zm309 ?_; refine zm9 ?_
        refine TL.split (s := 84) rfl (fun g84 => ?_) (fun g84 => ?_)
        · refine zm36 ?_; exact TL.callSY rfl rfl (enters rfl rfl rfl rfl) (n_MayU_ok s.label) rfl (zq522)
        · exact zq523
       ·
        refine zm46 ?_
        exact zq523
      ·
       refine zm28 ?_
       refine TC.condD rfl (fun c89 => ?_) (fun c89 => ?_)
       ·
        refine zm4 ?_; refine zm20 ?_; refine zm273 ?_; refine zm0 ?_
        refine TL.split (s := 94) rfl (fun g94 => ?_) (fun g94 => ?_)
        ·
         refine zm36 ?_; refine zm309 ?_; refine zm9 ?_
         refine TL.split (s := 99) rfl (fun g99 => ?_) (fun g99 => ?_)
         · exact TL.gdY rfl rfl (pr_ownA rfl (.there _ (.here _)) rfl) rfl (TL.callSY rfl rfl (enters rfl rfl rfl rfl) (ways_ok s hs) rfl (zq522))
         · exact zq524
        ·
         refine zm46 ?_
         exact zq524
       ·
        refine TC.sw (decide (s.kind = 6) || decide (s.kind = 7)) 103 [(1, _), (2, _), (63, _)] ⟨rfl, rfl, rfl, trivial⟩ ?_ ?_
        · exact zq392
        refine TC.cond rfl (fun c103 => ?_) (fun c103 => ?_)
        ·
         refine zm4 ?_; refine zm20 ?_; refine TL.callS (enters rfl rfl rfl rfl) (n_MayU_ok s.proc) rfl ?_; refine zm0 ?_
         refine TL.split (s := 109) rfl (fun g109 => ?_) (fun g109 => ?_)
         ·
          refine zm36 ?_; refine TL.gdY rfl rfl (pr_lenSl rfl rfl hs.a) rfl ?_; refine zm8 ?_
          exact zq522
         ·
          refine zm1 ?_
          exact zq523
        ·
         refine zm28 ?_
         refine TC.condD rfl (fun c115 => ?_) (fun c115 => ?_)
         ·
          refine zm224 ?_; refine zm273 ?_; refine zm9 ?_
          refine TL.split (s := 121) rfl (fun g121 => ?_) (fun g121 => ?_)
          ·
           refine zm119 ?_
           exact zq526
          ·
           refine zm36 ?_; refine TL.callSY rfl rfl (enters rfl rfl rfl rfl) (n_MayU_ok s.label) rfl ?_; refine zm17 ?_
           refine TL.split (s := 127) rfl (fun g127 => ?_) (fun g127 => ?_)
           · exact zq526
           ·
            refine zm36 ?_; refine zm309 ?_; refine zm17 ?_
            refine TL.split (s := 133) rfl (fun g133 => ?_) (fun g133 => ?_)
            · exact zq532
            ·
             refine zm36 ?_; refine TL.gdY rfl rfl (pr_lenSl rfl rfl hc) rfl ?_; refine zm17 ?_
             refine TL.split (s := 139) rfl (fun g139 => ?_) (fun g139 => ?_)
             ·
              have q139 := of_decide_eq_true g139
              exact zq538
             ·
              have q139 := of_decide_eq_false g139
              refine zm36 ?_; refine TL.gdY rfl rfl (pr_lenSl rfl rfl hc) rfl ?_; refine zm35 ?_
              refine TC.condD rfl (fun c144 => ?_) (fun c144 => ?_)
              · exact zq546
              ·
               refine zm69 ?_; refine zm20 ?_; refine zm137 ?_; refine zm10 ?_
               refine TC.loop (V := fun k => [(148, .int .i64 k)]) (K := [(2, _), (146, _), (147, _)]) (L := fun k => _) (I := fun k => (0 ≤ k ∧ k ≤ s.casts.length) ∧ s.casts.all (fun c => !castBad c) = (s.casts.drop k.toNat).all (fun c => !castBad c)) (μ := fun k => (s.casts.length - k).toNat) (i := (0 : Int)) ⟨rfl, rfl, rfl, rfl, trivial⟩ ⟨⟨by omega, by omega⟩, rfl⟩ (fun w hw => hw) (fun k hI => ?_)
               obtain ⟨⟨k0, k1⟩, hal⟩ := hI
               refine zm11 ?_
               refine TC.condD rfl (fun c149 => ?_) (fun c149 => ?_)
               ·
                obtain ⟨x, hx⟩ := getSome (l := s.casts) k0 c149
                have hxa := hs.cs x (List.mem_of_getElem? hx)
                refine zm15 ?_; refine zm177 ?_; refine TL.run (pr_elA hc hx rfl rfl) rfl (TL.alloc rfl (fun b5 => ?_))
                refine zm26 ?_
                refine TC.sw (castBad x) 167 [(2, _), (5, _), (146, _), (147, _), (148, _), (149, _), (150, _), (151, _)] ⟨rfl, rfl, rfl, rfl, rfl, rfl, rfl, rfl, trivial⟩ ?_ ?_
                ·
                 refine zm86 ?_; refine TL.callS (enters rfl rfl rfl rfl) (n_MayU_ok x.role) rfl ?_; refine zm9 ?_
                 refine TL.split (s := 156) rfl (fun g156 => ?_) (fun g156 => ?_)
                 ·
                  refine zm119 ?_
                  exact zq553
                 ·
                  refine zm13 ?_; refine TL.callSY rfl rfl (enters rfl rfl rfl rfl) (n_MayU_ok x.proc) rfl ?_; refine zm17 ?_
                  refine TL.split (s := 162) rfl (fun g162 => ?_) (fun g162 => ?_)
                  · exact zq553
                  ·
                   refine zm13 ?_; refine TL.gdY rfl rfl (pr_lenSl rfl rfl hxa) rfl ?_; refine zm8 ?_
                   exact zq556
                refine TC.cond rfl (fun c167 => ?_) (fun c167 => ?_)
                ·
                 have hall := all_bad (p := fun c => !castBad c) k0 hx (by simp [c167]) hal
                 clear hal
                 refine zm57 ?_; refine zm223 ?_
                 exact zq521
                ·
                 refine zm116 ?_
                 exact TX.round (k + 1) ⟨⟨by omega, by omega⟩, all_next k0 hx (by simpa using c167) hal⟩ ⟨rfl, rfl, rfl, rfl, trivial⟩ (fun w hw => hw.drop) (by omega)
               ·
                have hall := all_end (p := fun c => !castBad c) k0 c149 hal
                clear hal
                refine TC.exit (TX.thenE (TX.thenE (TX.blkHit ?_)))
                exact zq557
         · exact TC.skip (zq557)
set_option maxHeartbeats 2000000 in
theorem nexts_ok {H : Hp} (s : SStep) (hs : StepOk H s) (hl : s.ways.length ≤ 1000) :
  FnO Tryz.prog 83 [.agg s.cells.toArray] H (fun v H1 ob => H1 = H ∧ OwnSl 1 I64.cells v (nextsS s) ob) := by
 have hw := hs.w
 have hmw := hw.max
 refine FnO.enter Tryz.func83 Tryz.ntmps83 rfl rfl (fun w0 => ?_)
 refine zm4 ?_
 refine TL.box rfl rfl (fun b1 => ?_)
 refine zm97 ?_; refine zm274 ?_; refine zm33 ?_
 refine TC.cond rfl (fun c8 => ?_) (fun c8 => ?_)
 ·
  refine zm58 ?_
  refine TL.bslice rfl rfl rfl rfl (fun b11 => ?_)
  refine zm83 ?_
  exact TX.finO (.inr rfl) (results1 rfl (RVal.tmp rfl)) (.take (.here _) rfl) ⟨rfl, by unfold nextsS; rw [if_pos c8]; exact OwnSl.blk (enc := I64.cells) [s.next] rfl rfl (by decide)⟩
 ·
  refine zm12 ?_; refine zm220 ?_; refine TL.run (pr_lenSl rfl rfl hw) rfl ?_; refine zm10 ?_
  refine TC.loop4 (V := fun k v ob H1 => [(3, v), (15, .int .i64 k)]) (K := [(2, _), (13, _), (14, _)]) (L := fun k v ob H1 => St [] w0 H H ((b1, _) :: ob)) (I := fun k v ob H1 => (0 ≤ k ∧ k ≤ s.ways.length) ∧ OwnSl 1 I64.cells v ((s.ways.take k.toNat).map (·.next)) ob) (μ := fun k => (s.ways.length - k).toNat) 0 (.slice none 0 0) [] H ⟨rfl, rfl, rfl, rfl, rfl, trivial⟩ ⟨⟨by omega, by omega⟩, OwnSl.nil⟩ (fun w hw => hw) (fun k v ob H1 hI => ?_)
  obtain ⟨⟨k0, k1⟩, hO⟩ := hI
  obtain ⟨va, vc, rfl⟩ := hO.form
  refine zm11 ?_
  refine TC.condD rfl (fun c16 => ?_) (fun c16 => ?_)
  ·
   obtain ⟨x, hx⟩ := getSome (l := s.ways) k0 c16
   refine zm15 ?_; refine zm308 ?_; refine TL.run (pr_elA hw hx rfl rfl) rfl (TL.alloc rfl (fun b5 => ?_))
   refine zm26 ?_; refine zm52 ?_
   refine TL.bslice rfl rfl rfl rfl (fun b22 => ?_)
   refine TL.append (enc := I64.cells) rfl rfl rfl hO (Src.own [x.next] (.here _) rfl rfl) (by simp; omega) rfl (.skip _ (.skip _ (.skip _ .all))) rfl (fun a23 c23 ob23 hO23 => ?_)
   refine zm136 ?_
   exact TX.round4 (k + 1) _ ob23 H ⟨⟨by omega, by omega⟩, by rw [map_take_snoc k0 hx]; exact hO23⟩ ⟨rfl, rfl, rfl, rfl, rfl, trivial⟩ (fun w hw => hw.drop.drop) (by omega)
  ·
   refine zm87 ?_
   exact TX.finO (.inr rfl) (results1 rfl (RVal.tmp rfl)) (.skip _ .all) ⟨rfl, hO.cast (by unfold nextsS; rw [if_neg (by rw [c8]; decide), take_all c16 k0])⟩
end Go.Sx
namespace Go.Sx
open Go Go.Proofs
set_option maxHeartbeats 4000000 in
theorem terms_ok {H : Hp} (s : SStep) (hs : StepOk H s) (hl : s.args.length ≤ 6 ∧ s.casts.length ≤ 4 ∧ ∀ c ∈ s.casts, c.args.length ≤ 6) :
  FnO Tryz.prog 84 [.agg s.cells.toArray] H (fun v H1 ob => H1 = H ∧ OwnSl 1 I64.cells v (termsS s) ob) := by
 have hc := hs.c
 have ha := hs.a
 obtain ⟨hl1, hl2, hl3⟩ := hl
 refine FnO.enter Tryz.func84 Tryz.ntmps84 rfl rfl (fun w0 => ?_)
 refine zm4 ?_
 refine TL.box rfl rfl (fun b1 => ?_)
 refine zm2 ?_; refine zm220 ?_; refine zm33 ?_; refine TC.block (TC.sw (decide (s.kind = 1) || (decide (s.kind = 2) || decide (s.kind = 3))) 8 [(1, _), (2, _), (3, _), (7, _)] ⟨rfl, rfl, rfl, rfl, trivial⟩ ?_ ?_)
 · exact TC.swG (pr_pure rfl) rfl rfl ⟨rfl, rfl, rfl, rfl, trivial⟩ (TC.swG (pr_pure rfl) rfl rfl ⟨rfl, rfl, rfl, rfl, trivial⟩ (TC.swE (pr_pure rfl) rfl rfl ⟨rfl, rfl, rfl, rfl, trivial⟩))
 refine TC.cond rfl (fun c8 => ?_) (fun c8 => ?_)
 ·
  have h8 : s.kind = 1 ∨ s.kind = 2 ∨ s.kind = 3 := by simpa [or_assoc] using c8
  refine zm52 ?_
  refine TL.bslice rfl rfl rfl rfl (fun b15 => ?_)
  refine TL.append (enc := I64.cells) rfl rfl rfl (OwnSl.nil (enc := I64.cells)) (Src.own [s.term] (.here _) rfl rfl) (by simp) rfl (.new _ rfl) rfl (fun a16 c16 ob16 hO16 => ?_)
  refine zm37 ?_; refine TX.blkN (TX.seqN ?_); refine zm30 ?_; refine zm20 ?_
  refine TL.append (enc := I64.cells) rfl rfl rfl hO16 (Src.sl ha) (by simp; omega) rfl (.skip _ (.skip _ .all)) rfl (fun a30 c30 ob30 hO30 => ?_)
  refine zm59 ?_; refine zm20 ?_; refine zm137 ?_; refine zm10 ?_
  refine TC.loop4 (V := fun k v ob H1 => [(3, v), (34, .int .i64 k)]) (K := [(2, _), (32, _), (33, _)]) (L := fun k v ob H1 => St [] w0 H H ((b15, _) :: (b1, _) :: ob)) (I := fun k v ob H1 => (0 ≤ k ∧ k ≤ s.casts.length) ∧ OwnSl 1 I64.cells v (tHead s ++ (s.casts.take k.toNat).flatMap (·.args)) ob ∧ ((s.casts.take k.toNat).flatMap (·.args)).length ≤ 6 * k.toNat) (μ := fun k => (s.casts.length - k).toNat) 0 _ ob30 H ⟨rfl, rfl, rfl, rfl, rfl, trivial⟩ ⟨⟨by omega, by omega⟩, hO30.cast (by first | (rw [tHead_T h8]; simp) | (rw [tHead_4 c17 c21]; simp) | (rw [tHead_F h8 (.inr c21)]; simp) | (rw [tHead_F h8 (.inl c17)]; simp)), by simp⟩ (fun w hw => hw) (fun k v ob H1 hI => ?_)
  exact zq565
 ·
  have h8 : ¬ s.kind = 1 ∧ ¬ s.kind = 2 ∧ ¬ s.kind = 3 := by simpa [and_assoc] using c8
  refine zm28 ?_
  refine TC.condD rfl (fun c17 => ?_) (fun c17 => ?_)
  ·
   refine zm58 ?_; refine zm2 ?_
   refine TC.condND rfl (fun c21 => ?_) (fun c21 => ?_)
   ·
    refine zm52 ?_
    refine TL.bslice rfl rfl rfl rfl (fun b25 => ?_)
    refine TL.append (enc := I64.cells) rfl rfl rfl (OwnSl.nil (enc := I64.cells)) (Src.own [s.term] (.here _) rfl rfl) (by simp) rfl (.new _ rfl) rfl (fun a26 c26 ob26 hO26 => ?_)
    refine zm37 ?_; refine TX.blkN (TX.seqN ?_); refine zm30 ?_; refine zm20 ?_
    refine TL.append (enc := I64.cells) rfl rfl rfl hO26 (Src.sl ha) (by simp; omega) rfl (.skip _ (.skip _ .all)) rfl (fun a30 c30 ob30 hO30 => ?_)
    refine zm59 ?_; refine zm20 ?_; refine zm137 ?_; refine zm10 ?_
    refine TC.loop4 (V := fun k v ob H1 => [(3, v), (34, .int .i64 k)]) (K := [(2, _), (32, _), (33, _)]) (L := fun k v ob H1 => St [] w0 H H ((b25, _) :: (b1, _) :: ob)) (I := fun k v ob H1 => (0 ≤ k ∧ k ≤ s.casts.length) ∧ OwnSl 1 I64.cells v (tHead s ++ (s.casts.take k.toNat).flatMap (·.args)) ob ∧ ((s.casts.take k.toNat).flatMap (·.args)).length ≤ 6 * k.toNat) (μ := fun k => (s.casts.length - k).toNat) 0 _ ob30 H ⟨rfl, rfl, rfl, rfl, rfl, trivial⟩ ⟨⟨by omega, by omega⟩, hO30.cast (by first | (rw [tHead_T h8]; simp) | (rw [tHead_4 c17 c21]; simp) | (rw [tHead_F h8 (.inr c21)]; simp) | (rw [tHead_F h8 (.inl c17)]; simp)), by simp⟩ (fun w hw => hw) (fun k v ob H1 hI => ?_)
    exact zq565
   · exact zq612
  · exact zq612
set_option maxHeartbeats 4000000 in
theorem binds_ok {H : Hp} (s : SStep) (hs : StepOk H s) (hl : s.ways.length ≤ 1000) :
  FnO Tryz.prog 87 [.agg s.cells.toArray] H (fun v H1 ob => H1 = H ∧ OwnSl 1 Str.cells v (bindsS s) ob) := by
 have hw := hs.w
 have hnl := nexts_len s hl
 refine FnO.enter Tryz.func87 Tryz.ntmps87 rfl rfl (fun w0 => ?_)
 refine zm4 ?_
 refine TL.box rfl rfl (fun b1 => ?_)
 refine zm97 ?_; refine zm33 ?_; refine TC.block (TC.sw (decide (s.kind = 1) || decide (s.kind = 8)) 8 [(1, _), (2, _), (7, _)] ⟨rfl, rfl, rfl, trivial⟩ ?_ ?_)
 · exact zq392
 refine TC.cond rfl (fun c8 => ?_) (fun c8 => ?_)
 ·
  have h8 : s.kind = 1 ∨ s.kind = 8 := by simpa using c8
  refine zm58 ?_
  refine TL.bslice rfl rfl rfl rfl (fun b13 => ?_)
  refine zm225 ?_
  exact TX.finO (.inr rfl) (results1 rfl (RVal.tmp rfl)) (.take (.here _) rfl) ⟨rfl, (OwnSl.blk (enc := Str.cells) [s.name] rfl rfl (by simp)).cast (by unfold bindsS; rw [if_pos h8])⟩
 ·
  have h8 : ¬ (s.kind = 1 ∨ s.kind = 8) := by simpa using c8
  refine zm28 ?_
  refine TC.condD rfl (fun c14 => ?_) (fun c14 => ?_)
  ·
   refine zm220 ?_; refine TL.run (pr_lenSl rfl rfl hw) rfl ?_; refine zm10 ?_
   refine TC.loop4 (V := fun k v ob H1 => [(3, v), (19, .int .i64 k)]) (K := [(1, _), (2, _), (17, _), (18, _)]) (L := fun k v ob H1 => St [] w0 H H ((b1, _) :: ob)) (I := fun k v ob H1 => (0 ≤ k ∧ k ≤ s.ways.length) ∧ OwnSl 1 Str.cells v ((s.ways.take k.toNat).map (·.name)) ob) (μ := fun k => (s.ways.length - k).toNat) 0 (.slice none 0 0) [] H ⟨rfl, rfl, rfl, rfl, rfl, rfl, trivial⟩ ⟨⟨by omega, by omega⟩, OwnSl.nil⟩ (fun w hw => hw) (fun k v ob H1 hI => ?_)
   obtain ⟨⟨k0, k1⟩, hO⟩ := hI
   obtain ⟨va, vc, rfl⟩ := hO.form
   refine zm11 ?_
   refine TC.condD rfl (fun c20 => ?_) (fun c20 => ?_)
   ·
    obtain ⟨x, hx⟩ := getSome (l := s.ways) k0 c20
    refine zm15 ?_; refine zm308 ?_; refine TL.run (pr_elA hw hx rfl rfl) rfl (TL.alloc rfl (fun b5 => ?_))
    refine zm26 ?_; refine zm52 ?_
    refine TL.bslice rfl rfl rfl rfl (fun b26 => ?_)
    refine TL.append (enc := Str.cells) rfl rfl rfl hO (Src.own [x.name] (.here _) rfl rfl) (by simp; omega) rfl (.skip _ (.skip _ (.skip _ .all))) rfl (fun a27 c27 ob27 hO27 => ?_)
    refine zm136 ?_
    exact TX.round4 (k + 1) _ ob27 H ⟨⟨by omega, by omega⟩, by rw [map_take_snoc k0 hx]; exact hO27⟩ ⟨rfl, rfl, rfl, rfl, rfl, rfl, trivial⟩ (fun w hw => hw.drop.drop) (by omega)
   · refine zm87 ?_; exact TX.blkR (TX.thenR (TX.finO (.inr rfl) (results1 rfl (RVal.tmp rfl)) (.skip _ .all) ⟨rfl, hO.cast (by unfold bindsS; rw [if_neg h8, if_pos c14, take_all c20 k0])⟩))
  ·
   refine zm81 ?_; refine zm34 ?_
   refine TL.callO (enters rfl rfl rfl rfl) (nexts_ok s hs hl) rfl (fun v31 H31 ob31 hle31 hp31 => ?_)
   obtain ⟨rfl, hO31⟩ := hp31
   obtain ⟨a31, c31, rfl⟩ := hO31.form
   refine TL.run (pr_lenO rfl rfl hO31) rfl (TL.make rfl rfl (by first | omega | decide) (by first | omega | decide) (by first | omega | decide) rfl (fun b33 => ?_))
   refine zm22 ?_
   exact TX.finO (.inr rfl) (results1 rfl (RVal.tmp rfl)) (.take (.here _) rfl) ⟨rfl, reps_own (by unfold bindsS; rw [if_neg h8, if_neg c14]) (by omega)⟩
set_option maxHeartbeats 1000000 in
theorem postN_ok {H : Hp} {at_ : Int} {bl bo bw : Nat} {u : Value} {xs : List Int} {ob : Blks} (hneg : at_ < 0) (hO : OwnSl 1 I64.cells u xs ob) :
  FnX Tryz.prog 141 [.int .i64 at_, .pointer (some ⟨bw, 0, none⟩), .pointer (some ⟨bl, 0, none⟩), .pointer (some ⟨bo, 0, none⟩)] H ((bo, [u]) :: ob) (fun r H' L' => r = .tuple #[] ∧ H' = H ∧ ∃ u' ob', L' = (bo, [u']) :: ob' ∧ OwnSl 1 I64.cells u' xs ob') := by
 refine FnX.enter Tryz.func141 Tryz.ntmps141 rfl rfl (fun w0 => ?_)
 exact zq343
set_option maxHeartbeats 2000000 in
theorem postW_ok {H : Hp} {l : List Term} {v : Value} {bl bo bw : Nat} (hT : RdSl H 6 Term.cells v l) (hl : H bl 0 = some v) (hw : H bw 0 = some (.func (.func 141) #[] #[.pointer (some ⟨bw, 0, none⟩), .pointer (some ⟨bl, 0, none⟩), .pointer (some ⟨bo, 0, none⟩)])) :
  ∀ (f : Nat) (at_ : Int), (at_ < 0 ∨ Tr l f at_) → ∀ (u : Value) (xs : List Int) (ob : Blks), OwnSl 1 I64.cells u xs ob → xs.length + (postW l f at_).length ≤ 100000000 →
   FnX Tryz.prog 141 [.int .i64 at_, .pointer (some ⟨bw, 0, none⟩), .pointer (some ⟨bl, 0, none⟩), .pointer (some ⟨bo, 0, none⟩)] H ((bo, [u]) :: ob) (fun r H' L' => r = .tuple #[] ∧ H' = H ∧ ∃ u' ob', L' = (bo, [u']) :: ob' ∧ OwnSl 1 I64.cells u' (xs ++ postW l f at_) ob') := by
 intro f
 induction f with
 | zero =>
  intro at_ h u xs ob hO hlen
  have h0 : at_ < 0 := h.resolve_right (fun h => h)
  rw [postW_neg h0, List.append_nil]
  exact postN_ok h0 hO
 | succ f ih =>
 intro at_ h u xs ob hO hlen
 have one0 := hT.isOne
 obtain ⟨ua, uc, rfl⟩ := hO.form
 refine FnX.enter Tryz.func141 Tryz.ntmps141 rfl rfl (fun w0 => ?_)
 refine zm214 ?_
 refine TC.condD rfl (fun c6 => ?_) (fun c6 => ?_)
 · exact TC.ret (TX.thenR (TX.finX (.inr rfl) (results0 rfl) (fun w hw => hw) ⟨rfl, rfl, _, _, rfl, by rw [postW_neg c6, List.append_nil]; exact hO⟩))
 ·
  obtain ⟨h0, t, hx, _, _, hTl0, hTl1, hTr0, hTr1⟩ := h.resolve_left c6
  have hlt : at_.toNat < l.length := (List.getElem?_eq_some_iff.1 hx).1
  rw [postW_at c6 hx] at hlen
  simp only [List.length_append, List.length_cons, List.length_nil] at hlen
  have hTl : t.l < 0 ∨ Tr l f t.l := by rcases Int.lt_or_le (operandsI t.kind) 1 with h1 | h1; exact .inl (by have := hTl1 h1; omega); exact .inr (hTl0 h1)
  have hTr : t.r < 0 ∨ Tr l f t.r := by rcases Int.lt_or_le (operandsI t.kind) 2 with h1 | h1; exact .inl (by have := hTr1 h1; omega); exact .inr (hTr0 h1)
  refine zm12 ?_; refine TC.seq ?_; refine zm25 ?_; refine zm270 ?_; refine TF.still (pr_hp1 rfl hw) rfl ?_; refine zm218 ?_
  refine TF.loud (TL.callX0 (L1 := (bo, [(.slice ua _ uc)]) :: ob) (enters rfl rfl rfl rfl) (ih t.l (hTl) _ _ _ hO (by omega)) rfl (fun v13 H13 L13 hle13 hp13 => ?_))
  obtain ⟨rfl, rfl, u13, ob13, rfl, hO13⟩ := hp13
  obtain ⟨ua13, uc13, rfl⟩ := hO13.form
  refine zm49 ?_; refine zm61 ?_; refine zm270 ?_; refine TF.still (pr_hp1 rfl hw) rfl ?_; refine zm218 ?_
  refine TF.loud (TL.callX0 (L1 := (bo, [(.slice ua13 _ uc13)]) :: ob13) (enters rfl rfl rfl rfl) (ih t.r (hTr) _ _ _ hO13 (by simp only [List.length_append]; omega)) rfl (fun v20 H20 L20 hle20 hp20 => ?_))
  obtain ⟨rfl, rfl, u20, ob20, rfl, hO20⟩ := hp20
  obtain ⟨ua20, uc20, rfl⟩ := hO20.form
  refine zm49 ?_; refine TC.region ?_; refine zm29 ?_; refine zm0 ?_
  refine TL.bslice rfl rfl rfl rfl (fun b23 => ?_)
  refine TL.append (enc := I64.cells) rfl rfl rfl hO20 (Src.own [at_] (.here _) rfl rfl) (by simp; omega) rfl (.skip _ (.skip _ .all)) rfl (fun a24 c24 ob24 hO24 => ?_)
  exact TL.storeV rfl rfl rfl (.there _ (.here _)) rfl (TL.nil (TX.finX (.inl rfl) (results0 rfl) (fun w hw => hw.drop) ⟨rfl, rfl, _, _, rfl, by rw [postW_at c6 hx, ← List.append_assoc, ← List.append_assoc]; exact hO24⟩))
end Go.Sx
namespace Go.Sx
open Go Go.Proofs
set_option maxHeartbeats 1000000 in
theorem tCarries_ok {H : Hp} (ck : Int) (cn : Str) (hn : cn.length ≤ 4294960000) (hM : MaxG H) :
  FnS Tryz.prog 182 [.agg #[.int .i64 ck, gs cn]] H (.bool (carriesB ck cn)) := by
 refine FnS.enter Tryz.func182 Tryz.ntmps182 rfl rfl (fun w0 => ?_)
 refine zm4 ?_
 refine TL.box rfl rfl (fun b1 => ?_)
 refine zm97 ?_; refine zm9 ?_
 refine TL.split (s := 9) rfl (fun g9 => ?_) (fun g9 => ?_)
 ·
  have q9 := of_decide_eq_true g9
  refine zm82 ?_; refine zm174 ?_
  exact zq673
 ·
  have q9 := of_decide_eq_false g9
  refine zm13 ?_; refine zm35 ?_
  refine TC.condD rfl (fun c13 => ?_) (fun c13 => ?_)
  · exact zq673
  ·
   refine zm12 ?_; refine zm138 ?_
   refine TC.condND rfl (fun c16 => ?_) (fun c16 => ?_)
   · refine zm58 ?_; exact TL.run (pr_str rfl rfl rfl) rfl (zq675)
   ·
    refine zm12 ?_; refine zm58 ?_; refine TL.callS (enters rfl rfl rfl rfl) (cut_ok cn hn hM) rfl ?_; refine zm139 ?_; refine zm9 ?_; refine zm53 ?_; refine TL.callS (enters rfl rfl rfl rfl) (n_MayU_ok (cutS cn).1) rfl ?_
    refine zm0 ?_
    refine TL.split (s := 29) rfl (fun g29 => ?_) (fun g29 => ?_)
    ·
     refine zm23 ?_; refine zm8 ?_
     refine TL.split (s := 32) rfl (fun g32 => ?_) (fun g32 => ?_)
     ·
      refine zm140 ?_
      exact zq680
     · refine zm8 ?_; exact TL.callSY rfl rfl (enters rfl rfl rfl rfl) (n_MayU_ok (cutS cn).2.1) rfl (zq680)
    ·
     refine zm82 ?_; refine zm222 ?_; refine zm1 ?_
     exact zq681
set_option maxHeartbeats 4000000 in
theorem tArms_ok {H : Hp} {l : List SArm} {v : Value} (n : Int) (hA : RdSl H 4 SArm.cells v l) (hz : ∀ a ∈ l, a.cn.length ≤ 4294960000) (hM : MaxG H) :
  FnS Tryz.prog 135 [v, .int .i64 n] H (.bool (armsB l n)) := by
 have hmx := hA.max
 have one0 := hA.isOne
 obtain ⟨va, vc, rfl⟩ := hA.len
 refine FnS.enter Tryz.func135 Tryz.ntmps135 rfl rfl (fun w0 => ?_)
 refine zm112 ?_; refine TL.run (pr_lenSl rfl rfl hA) rfl ?_; refine zm9 ?_
 refine TL.split (s := 11) rfl (fun g11 => ?_) (fun g11 => ?_)
 ·
  have q11 := of_decide_eq_true g11
  refine zm82 ?_; refine zm174 ?_
  exact zq686
 ·
  have q11 := of_decide_eq_false g11
  refine zm8 ?_; refine TL.gdY rfl rfl (pr_lenSl rfl rfl hA) rfl ?_; refine zm35 ?_
  refine TC.condD rfl (fun c15 => ?_) (fun c15 => ?_)
  · exact zq686
  ·
   have hlen : 1 ≤ l.length ∧ l.length ≤ 6 := by omega
   refine zm69 ?_
   refine TL.mapMake rfl (fun bm w1 hM1 => ?_)
   refine zm226 ?_; refine TL.run (pr_lenSl rfl rfl hA) rfl ?_; refine zm10 ?_
   refine TC.loop (V := fun k => [(19, .int .i64 k)]) (K := [(1, _), (4, _), (5, _), (17, _), (18, _)]) (L := fun k => StM [] w0 H H [] bm ((l.take k.toNat).map (·.label))) (I := fun k => (0 ≤ k ∧ k ≤ l.length) ∧ (l.take k.toNat).all (armB n) = true ∧ ((l.take k.toNat).map (·.label)).Nodup) (μ := fun k => (l.length - k).toNat) (i := (0 : Int)) ⟨rfl, rfl, rfl, rfl, rfl, rfl, trivial⟩ ⟨⟨by omega, by omega⟩, rfl, List.nodup_nil⟩ (fun w hw => hM1.over hw) (fun k hI => ?_)
   obtain ⟨⟨k0, k1⟩, hal, hnd⟩ := hI
   refine TC.rebase (fun w2 hM2 => ?_)
   refine zm11 ?_
   refine TC.condD rfl (fun c20 => ?_) (fun c20 => ?_)
   ·
    obtain ⟨x, hx⟩ := getSome (l := l) k0 c20
    refine zm15 ?_; refine TL.run (pr_indexSl rfl hA rfl (by omega) (by omega)) rfl (TL.run (pr_elA hA hx rfl rfl) rfl (TL.alloc rfl (fun b7 => ?_)))
    refine zm175 ?_
    refine TC.sw (!armB n x || decide (x.label ∈ ((l.take k.toNat).map (·.label)))) 49 [(1, _), (4, _), (5, _), (7, _), (17, _), (18, _), (19, _), (20, _), (21, _), (22, _)] ⟨rfl, rfl, rfl, rfl, rfl, rfl, rfl, rfl, rfl, rfl, trivial⟩ ?_ ?_
    ·
     refine zm86 ?_; refine TL.callS (enters rfl rfl rfl rfl) (n_MayU_ok x.label) rfl ?_; refine zm9 ?_
     refine TL.split (s := 27) rfl (fun g27 => ?_) (fun g27 => ?_)
     ·
      refine zm119 ?_
      exact zq689
     ·
      refine zm8 ?_; refine zm13 ?_; refine TL.gdY rfl rfl (pr_mapGet hM2 rfl rfl) rfl ?_; refine zm9 ?_
      refine TL.split (s := 33) rfl (fun g33 => ?_) (fun g33 => ?_)
      · exact zq689
      ·
       refine zm43 ?_; refine TL.gdY rfl rfl (pr_ownQ rfl (.here _) rfl) rfl (TL.callSY rfl rfl (enters rfl rfl rfl rfl) (tCarries_ok x.ck x.cn (hz x (List.mem_of_getElem? hx)) hM) rfl ?_); refine zm17 ?_
       refine TL.split (s := 39) rfl (fun g39 => ?_) (fun g39 => ?_)
       · exact zq695
       ·
        refine zm130 ?_
        refine TL.split (s := 44) rfl (fun g44 => ?_) (fun g44 => ?_)
        ·
         have q44 := of_decide_eq_true g44
         exact zq700
        ·
         have q44 := of_decide_eq_false g44
         refine zm13 ?_; refine zm23 ?_
         exact zq704
    refine TC.cond rfl (fun c49 => ?_) (fun c49 => ?_)
    · refine zm171 ?_; refine zm50 ?_; exact TX.unbase hM2 (TX.finS (.inr rfl) (results1 rfl (RVal.tmp rfl)) (congrArg Value.bool (arms_bad k0 hx (by simpa using c49))))
    ·
     have h49 : armB n x = true ∧ x.label ∉ ((l.take k.toNat).map (·.label)) := by simpa using c49
     refine zm12 ?_; refine zm52 ?_; refine TL.mapPut rfl rfl rfl h49.2 rfl hM2 ?_; refine zm99 ?_
     exact TX.round (k + 1) ⟨⟨by omega, by omega⟩, by rw [take_snoc k0 hx, List.all_append, hal, List.all_cons, h49.1]; rfl, nodup_snoc k0 hx hnd h49.2⟩ ⟨rfl, rfl, rfl, rfl, rfl, rfl, trivial⟩ (fun w hw => by rw [map_take_snoc k0 hx]; exact hw.drop) (by omega)
   · refine zm65 ?_; exact TX.unbase hM2 (TX.finS (.inr rfl) (results1 rfl (RVal.tmp rfl)) (congrArg Value.bool (arms_end hlen k0 c20 hal hnd)))
set_option maxHeartbeats 4000000 in
theorem tMay_ok {H : Hp} (l : SLocal) (hl : LocalOk H l) (hM : MaxG H) :
  FnS Tryz.prog 78 [.agg l.cells.toArray] H (.bool (localB l)) := by
 have ht := hl.t
 have hmt := ht.max
 refine FnS.enter Tryz.func78 Tryz.ntmps78 rfl rfl (fun w0 => ?_)
 refine zm4 ?_
 refine TL.box rfl rfl (fun b1 => ?_)
 refine zm97 ?_; refine TL.run (pr_lenSl rfl rfl ht) rfl ?_; refine zm9 ?_
 refine TL.split (s := 9) rfl (fun g9 => ?_) (fun g9 => ?_)
 ·
  have q9 := of_decide_eq_true g9
  refine zm44 ?_; refine zm174 ?_
  exact zq707
 ·
  have q9 := of_decide_eq_false g9
  refine zm13 ?_; refine TL.gdY rfl rfl (pr_lenSl rfl rfl ht) rfl ?_; refine zm35 ?_
  refine TC.condD rfl (fun c14 => ?_) (fun c14 => ?_)
  · exact zq707
  ·
   have hlen : 1 ≤ l.turns.length ∧ l.turns.length ≤ 40 := by omega
   refine zm12 ?_; refine zm118 ?_; refine TL.run (pr_lenSl rfl rfl ht) rfl ?_; refine zm10 ?_
   refine TC.loop (V := fun k => [(18, .int .i64 k)]) (K := [(1, _), (2, _), (16, _), (17, _)]) (L := fun k => _) (I := fun k => (0 ≤ k ∧ k ≤ l.turns.length) ∧ l.turns.all (turnB l.turns.length) = (l.turns.drop k.toNat).all (turnB l.turns.length)) (μ := fun k => (l.turns.length - k).toNat) (i := (0 : Int)) ⟨rfl, rfl, rfl, rfl, rfl, trivial⟩ ⟨⟨by omega, by omega⟩, rfl⟩ (fun w hw => hw) (fun k hI => ?_)
   obtain ⟨⟨k0, k1⟩, hal⟩ := hI
   refine zm11 ?_
   refine TC.condD rfl (fun c19 => ?_) (fun c19 => ?_)
   ·
    obtain ⟨x, hx⟩ := getSome (l := l.turns) k0 c19
    have hT := hl.ts x (List.mem_of_getElem? hx)
    refine zm15 ?_; refine TL.run (pr_indexSl rfl ht rfl (by omega) (by omega)) rfl (TL.run (pr_elA ht hx rfl rfl) rfl (TL.alloc rfl (fun b4 => ?_)))
    refine zm98 ?_; refine zm33 ?_
    refine TC.block (TC.sw (decide (x.kind = 0)) 24 [(1, _), (2, _), (4, _), (16, _), (17, _), (18, _), (19, _), (20, _), (21, _), (22, _), (23, _)] ⟨rfl, rfl, rfl, rfl, rfl, rfl, rfl, rfl, rfl, rfl, rfl, trivial⟩ ?_ ?_)
    · exact TC.swE (pr_pure rfl) rfl rfl ⟨rfl, rfl, rfl, rfl, rfl, rfl, rfl, rfl, rfl, rfl, rfl, trivial⟩
    refine TC.condD rfl (fun c24 => ?_) (fun c24 => ?_)
    ·
     refine zm211 ?_
     refine TL.split (s := 29) rfl (fun g29 => ?_) (fun g29 => ?_)
     ·
      have q29 := of_ndec_true g29
      exact zq710
     ·
      have q29 := of_ndec_false g29
      refine zm13 ?_; refine TL.gdY rfl rfl (pr_lenSl rfl rfl hT.a) rfl ?_; refine zm35 ?_
      refine TC.condD rfl (fun c34 => ?_) (fun c34 => ?_)
      · exact zq718
      · exact zq731
    ·
     refine TC.sw (decide (x.kind = 1) || decide (x.kind = 2)) 35 [(1, _), (2, _), (4, _), (16, _), (17, _), (18, _), (19, _), (20, _), (21, _), (22, _), (23, _), (24, _)] ⟨rfl, rfl, rfl, rfl, rfl, rfl, rfl, rfl, rfl, rfl, rfl, rfl, trivial⟩ ?_ ?_
     · exact TC.swG (pr_pure rfl) rfl rfl ⟨rfl, rfl, rfl, rfl, rfl, rfl, rfl, rfl, rfl, rfl, rfl, rfl, trivial⟩ (TC.swE (pr_pure rfl) rfl rfl ⟨rfl, rfl, rfl, rfl, rfl, rfl, rfl, rfl, rfl, rfl, rfl, rfl, trivial⟩)
     refine TC.cond rfl (fun c35 => ?_) (fun c35 => ?_)
     ·
      refine zm58 ?_; refine TL.callS (enters rfl rfl rfl rfl) (n_MayU_ok x.peer) rfl ?_; refine zm9 ?_
      refine TL.split (s := 42) rfl (fun g42 => ?_) (fun g42 => ?_)
      ·
       refine zm82 ?_
       exact zq710
      ·
       refine zm13 ?_; refine zm36 ?_; refine TL.gdY rfl rfl (pr_lenSl rfl rfl ht) rfl (TL.callSY rfl rfl (enters rfl rfl rfl rfl) (tArms_ok _ hT.a hT.z hM) rfl ?_); refine zm35 ?_
       refine TC.cond rfl (fun c50 => ?_) (fun c50 => ?_)
       · exact zq718
       · exact zq731
     · exact zq718
   ·
    refine zm65 ?_
    exact TX.finS (.inr rfl) (results1 rfl (RVal.tmp rfl)) (congrArg Value.bool (local_end hlen k0 c19 hal))
set_option maxHeartbeats 1000000 in
theorem sCarries_ok {H : Hp} (ck : Int) (cn : Str) (hn : cn.length ≤ 4294960000) (hM : MaxG H) :
  FnS Tryz.prog 80 [.agg #[.int .i64 ck, gs cn]] H (.bool (carriesB ck cn)) := by
 refine FnS.enter Tryz.func80 Tryz.ntmps80 rfl rfl (fun w0 => ?_)
 refine zm4 ?_
 refine TL.box rfl rfl (fun b1 => ?_)
 refine zm2 ?_; refine zm34 ?_; refine zm14 ?_
 refine TL.bslice rfl rfl rfl rfl (fun b5 => ?_)
 refine zm14 ?_
 refine TL.bslice rfl rfl rfl rfl (fun b7 => ?_)
 refine zm14 ?_; refine TL.front (.there _ (.here _)) (TL.pub (by simp) (fun H_b5 le_b5 rd_b5 => ?_))
 replace hM := hM.le le_b5
 have hA5 : RdSl H_b5 4 SArm.cells _ ([⟨[120], ck, cn, 0⟩]) := RdSl.blk (cap := 1) rd_b5 (by intro x hx; rfl) (by kernel_rfl) (by show 1 ≤ 9223372036854775807; decide)
 refine TL.pub (by simp) (fun H_b7 le_b7 rd_b7 => ?_)
 replace hM := hM.le le_b7
 replace hA5 := hA5.le le_b7
 have hT7 : RdSl H_b7 3 STurn.cells _ ([⟨1, [120], [⟨[120], ck, cn, 0⟩], (some ⟨b5, 0, none⟩, 1)⟩]) := RdSl.blk (cap := 1) rd_b7 (by intro x hx; rfl) (by kernel_rfl) (by show 1 ≤ 9223372036854775807; decide)
 refine zm411 ?_; refine zm22 ?_
 exact TX.finS (.inr rfl) (results1 rfl (RVal.tmp rfl)) (congrArg Value.bool (carries_local ck cn _ _))
end Go.Sx
namespace Go.Sx
open Go Go.Proofs
set_option maxHeartbeats 1000000 in
theorem sTree_ok {H : Hp} {l : List Term} {v : Value} (root : Int) (hT : RdSl H 6 Term.cells v l) (hm : mayB l root = true) :
  FnO Tryz.prog 85 [v, .int .i64 root] H (fun r H1 ob => OwnSl 1 I64.cells r (postS l root) ob) := by
 have one1 := hT.isOne
 have hvl := mayB_post hm
 refine FnO.enter Tryz.func85 Tryz.ntmps85 rfl rfl (fun w0 => ?_)
 refine zm4 ?_
 refine TL.box1 rfl rfl (fun b2 => ?_)
 refine zm100 ?_
 refine TL.alloc rfl (fun b5 => ?_)
 refine zm27 ?_
 refine TL.alloc rfl (fun b6 => ?_)
 refine zm41 ?_; refine zm134 ?_
 refine TL.pub (by simp) (fun H_b6 le_b6 rd_b6 => ?_)
 refine TL.front (.there _ (.here _)) (TL.pub (by simp) (fun H_b2 le_b2 rd_b2 => ?_))
 have hT2 := (hT.le le_b6).le le_b2
 have hl : H_b2 b2 0 = some v := rd_b2 0 _ rfl
 have hw := le_b2 _ _ _ (rd_b6 0 _ rfl)
 refine TL.run (pr_hp1 rfl hw) rfl ?_; refine zm0 ?_
 refine TL.callX0 (L1 := (b5, [.slice none 0 0]) :: []) (enters rfl rfl rfl rfl) (postW_ok hT2 hl hw (root.toNat + 1) root (.inr (mayB_Tr hm)) _ [] [] OwnSl.nil (by simp; omega)) rfl (fun v10 H10 L10 hle10 hp10 => ?_)
 obtain ⟨rfl, rfl, u10, ob10, rfl, hO10⟩ := hp10
 rw [List.nil_append] at hO10
 obtain ⟨ua10, uc10, rfl⟩ := hO10.form
 refine zm27 ?_; refine zm29 ?_; refine zm22 ?_
 exact TX.finO (.inr rfl) (results1 rfl (RVal.tmp rfl)) (.skip _ .all) hO10
set_option maxHeartbeats 1000000 in
theorem calls_ok {H : Hp} {pg : SProg} (s : Str) (n : Int) (hP : ProgOk H pg) :
  FnS Tryz.prog 142 [.agg pg.cells.toArray, gs s, .int .i64 n] H (.bool (callsB pg.procs s n)) := by
 have hq := hP.q
 have hmax := hq.max
 refine FnS.enter Tryz.func142 Tryz.ntmps142 rfl rfl (fun w0 => ?_)
 refine zm4 ?_
 refine TL.box rfl rfl (fun b3 => ?_)
 refine zm2 ?_; refine zm34 ?_; refine zm0 ?_; refine TL.callS (enters rfl rfl rfl rfl) (sFind_ok s hP) rfl ?_; refine zm2 ?_; refine zm40 ?_
 refine TL.split (s := 13) rfl (fun g13 => ?_) (fun g13 => ?_)
 ·
  have q13 := of_decide_eq_true g13
  have hfr := find_range pg.procs s
  obtain ⟨x, hx⟩ := getSome (l := pg.procs) (i := findS pg.procs s) (by omega) (by omega)
  have hxp := (hP.qs x (List.mem_of_getElem? hx)).pa.max
  refine zm13 ?_; refine zm8 ?_; refine TL.gdY rfl rfl (pr_indexSl rfl hq rfl (by omega) (by omega)) rfl ?_; refine zm43 ?_; refine TL.gdY rfl rfl (pr_el1 hq hx rfl rfl) rfl ?_; refine zm355 ?_; refine zm23 ?_
  exact zq740
 ·
  have q13 := of_decide_eq_false g13
  refine zm44 ?_; refine zm227 ?_
  exact zq740
set_option maxHeartbeats 4000000 in
theorem opens_ok {H : Hp} {pg : SProg} (s : SStep) (hP : ProgOk H pg) (hs : StepOk H s) (hl : s.casts.length ≤ 4) :
  FnS Tryz.prog 143 [.agg pg.cells.toArray, .agg s.cells.toArray] H (.bool (opensB pg s)) := by
 have hr := hP.r
 have hrm := hr.max
 have hc := hs.c
 refine FnS.enter Tryz.func143 Tryz.ntmps143 rfl rfl (fun w0 => ?_)
 refine zm4 ?_
 refine TL.box rfl rfl (fun b2 => ?_)
 refine TL.box rfl rfl (fun b3 => ?_)
 refine zm59 ?_; refine zm20 ?_; refine TL.run (pr_lenSl rfl rfl hr) rfl ?_; refine zm10 ?_
 refine TC.loop (V := fun k => [(15, .int .i64 k)]) (K := [(3, _), (4, _), (13, _), (14, _)]) (L := fun k => _) (I := fun k => (0 ≤ k ∧ k ≤ pg.protos.length) ∧ opensB pg s = opensGo s (pg.protos.drop k.toNat)) (μ := fun k => (pg.protos.length - k).toNat) (i := (0 : Int)) ⟨rfl, rfl, rfl, rfl, rfl, trivial⟩ ⟨⟨by omega, by omega⟩, rfl⟩ (fun w hw => hw) (fun k hI => ?_)
 obtain ⟨⟨k0, k1⟩, hop⟩ := hI
 have hk0 := k0
 refine zm11 ?_
 refine TC.condD rfl (fun c16 => ?_) (fun c16 => ?_)
 ·
  obtain ⟨x, hx⟩ := getSome (l := pg.protos) k0 c16
  have hxr := (hP.rs x (List.mem_of_getElem? hx)).r.max
  refine zm15 ?_; refine zm275 ?_; refine TL.run (pr_elA hr hx rfl rfl) rfl (TL.alloc rfl (fun b6 => ?_))
  refine zm26 ?_; refine zm118 ?_; refine zm20 ?_; refine TL.run (pr_str rfl rfl rfl) rfl ?_; refine zm33 ?_
  refine TC.condND rfl (fun c23 => ?_) (fun c23 => ?_)
  ·
   refine zm215 ?_; refine TC.region ?_; refine zm276 ?_
   exact TX.round (k + 1) ⟨⟨by omega, by omega⟩, opens_next k0 hx c23 hop⟩ ⟨rfl, rfl, rfl, rfl, rfl, trivial⟩ (fun w hw => hw.drop) (by omega)
  ·
   refine zm69 ?_; refine zm20 ?_
   refine TL.bslice rfl rfl rfl rfl (fun b26 => ?_)
   refine zm59 ?_; refine zm62 ?_; refine zm137 ?_; refine zm10 ?_
   refine TC.loop4 (V := fun k v ob H1 => [(7, v), (30, .int .i64 k)]) (K := [(3, _), (4, _), (6, _), (13, _), (14, _), (15, _), (16, _), (17, _), (18, _), (19, _), (20, _), (21, _), (22, _), (23, _), (24, _), (25, _), (26, _), (27, _), (28, _), (29, _)]) (L := fun k v ob H1 => St [] w0 H H ((b6, _) :: (b3, _) :: (b2, _) :: ob)) (I := fun k v ob H1 => (0 ≤ k ∧ k ≤ s.casts.length) ∧ OwnSl 1 Str.cells v (s.peer :: (s.casts.take k.toNat).map (·.role)) ob) (μ := fun k => (s.casts.length - k).toNat) 0 (.slice (some ⟨b26, 0, none⟩) 1 1) [(b26, [gs s.peer])] H ⟨rfl, rfl, rfl, rfl, rfl, rfl, rfl, rfl, rfl, rfl, rfl, rfl, rfl, rfl, rfl, rfl, rfl, rfl, rfl, rfl, rfl, rfl, trivial⟩ ⟨⟨by omega, by omega⟩, OwnSl.blk (enc := Str.cells) [s.peer] rfl rfl (by simp)⟩ (fun w hw => hw.perm (List.perm_append_singleton _ _).symm) (fun k v ob H1 hI => ?_)
   obtain ⟨⟨k0, k1⟩, hO⟩ := hI
   obtain ⟨va, vc, rfl⟩ := hO.form
   refine zm11 ?_
   refine TC.condD rfl (fun c31 => ?_) (fun c31 => ?_)
   ·
    obtain ⟨y, hy⟩ := getSome (l := s.casts) k0 c31
    refine zm15 ?_; refine zm177 ?_; refine TL.run (pr_elA hc hy rfl rfl) rfl (TL.alloc rfl (fun b9 => ?_))
    refine zm26 ?_; refine zm52 ?_
    refine TL.bslice rfl rfl rfl rfl (fun b37 => ?_)
    refine TL.append (enc := Str.cells) rfl rfl rfl hO (Src.own [y.role] (.here _) rfl rfl) (by simp; omega) rfl (.skip _ (.skip _ (.skip _ (.skip _ (.skip _ .all))))) rfl (fun a38 c38 ob38 hO38 => ?_)
    refine zm136 ?_
    exact TX.round4 (k + 1) _ ob38 H ⟨⟨by omega, by omega⟩, hO38.cast (by rw [map_take_snoc k0 hy]; rfl)⟩ ⟨rfl, rfl, rfl, rfl, rfl, rfl, rfl, rfl, rfl, rfl, rfl, rfl, rfl, rfl, rfl, rfl, rfl, rfl, rfl, rfl, rfl, rfl, trivial⟩ (fun w hw => hw.drop.drop) (by omega)
   ·
    refine zm141 ?_
    refine TC.pubO hO (.skip _ (.skip _ (.skip _ .all))) (by simp) (fun HJ leJ hJ => ?_)
    replace hP := hP.le leJ
    have hJ2 := hJ.cast (show _ = castOf s by rw [take_all c31 k0]; rfl)
    clear hJ
    have hJm := hJ2.max
    refine TC.sw (!(decide (((castOf s).length : Int) = x.roles.length) && onceS (castOf s))) 50 [(3, _), (4, _), (6, _), (7, _), (13, _), (14, _), (15, _), (16, _), (17, _), (18, _), (19, _), (20, _), (21, _), (22, _), (23, _), (24, _), (25, _), (26, _), (27, _), (28, _), (29, _), (30, _), (31, _)] ⟨rfl, rfl, rfl, rfl, rfl, rfl, rfl, rfl, rfl, rfl, rfl, rfl, rfl, rfl, rfl, rfl, rfl, rfl, rfl, rfl, rfl, rfl, rfl, trivial⟩ ?_ ?_
    ·
     refine zm66 ?_; refine TL.run (pr_lenSl rfl rfl hJ2) rfl ?_; refine zm51 ?_; refine TL.run (pr_lenSl rfl rfl (hP.rs x (List.mem_of_getElem? hx)).r) rfl ?_; refine zm9 ?_
     refine TL.split (s := 46) rfl (fun g46 => ?_) (fun g46 => ?_)
     ·
      have q46 := of_ndec_true g46
      refine zm82 ?_
      exact zq746
     ·
      have q46 := of_ndec_false g46
      refine zm8 ?_; refine TL.callSY rfl rfl (enters rfl rfl rfl rfl) (n_Once_ok hJ2) rfl ?_; refine zm8 ?_
      exact zq746
    refine TC.cond rfl (fun c50 => ?_) (fun c50 => ?_)
    ·
     refine zm57 ?_
     exact zq749
    ·
     refine zm12 ?_; refine zm101 ?_; refine TL.run (pr_lenSl rfl rfl hJ2) rfl ?_; refine zm10 ?_
     refine TC.loop (V := fun k => [(53, .int .i64 k)]) (K := [(3, _), (4, _), (6, _), (7, _), (13, _), (14, _), (15, _), (16, _), (17, _), (18, _), (19, _), (20, _), (21, _), (22, _), (23, _), (24, _), (25, _), (26, _), (27, _), (28, _), (29, _), (30, _), (31, _), (50, _), (51, _), (52, _)]) (L := fun k => _) (I := fun k => (0 ≤ k ∧ k ≤ (castOf s).length) ∧ (castOf s).all (fun r => hasS x.roles r) = ((castOf s).drop k.toNat).all (fun r => hasS x.roles r)) (μ := fun k => ((castOf s).length - k).toNat) (i := (0 : Int)) ⟨rfl, rfl, rfl, rfl, rfl, rfl, rfl, rfl, rfl, rfl, rfl, rfl, rfl, rfl, rfl, rfl, rfl, rfl, rfl, rfl, rfl, rfl, rfl, rfl, rfl, rfl, rfl, trivial⟩ ⟨⟨by omega, by omega⟩, rfl⟩ (fun w hw => hw) (fun k hI => ?_)
     obtain ⟨⟨k0, k1⟩, hal⟩ := hI
     refine zm11 ?_
     refine TC.condD rfl (fun c54 => ?_) (fun c54 => ?_)
     ·
      obtain ⟨z, hz⟩ := getSome (l := castOf s) k0 c54
      refine zm15 ?_; refine TL.run (pr_indexSl rfl hJ2 rfl (by omega) (by omega)) rfl (TL.run (pr_el0 hJ2 hz rfl rfl) rfl ?_); refine zm2 ?_; refine zm219 ?_
      refine TL.callS (enters rfl rfl rfl rfl) (n_Has_ok z (hP.rs x (List.mem_of_getElem? hx)).r) rfl ?_; refine zm2 ?_
      refine TC.cond rfl (fun c61 => ?_) (fun c61 => ?_)
      ·
       have h1 := all_bad (p := fun r => hasS x.roles r) k0 hz (by simpa using c61) hal
       refine zm57 ?_; refine zm223 ?_
       exact zq749
      ·
       refine zm116 ?_
       exact TX.round (k + 1) ⟨⟨by omega, by omega⟩, all_next (p := (fun r => hasS x.roles r)) k0 hz (by simpa using c61) hal⟩ ⟨rfl, rfl, rfl, rfl, rfl, rfl, rfl, rfl, rfl, rfl, rfl, rfl, rfl, rfl, rfl, rfl, rfl, rfl, rfl, rfl, rfl, rfl, rfl, rfl, rfl, rfl, rfl, trivial⟩ (fun w hw => hw) (by omega)
     ·
      have h1 := all_end (p := fun r => hasS x.roles r) k0 c54 hal
      refine zm65 ?_
      exact zq750
 ·
  refine zm65 ?_
  exact zq755
end Go.Sx
namespace Go.Sx
open Go Go.Proofs
set_option maxHeartbeats 1000000 in
theorem arms_ok {H : Hp} {l : List SArm} {v : Value} (hA : RdSl H 4 SArm.cells v l) (hl : l.length ≤ 1000) :
  FnO Tryz.prog 46 [v] H (fun r H1 ob => H1 = H ∧ OwnSl 4 SArm.cells r l ob) := by
 refine FnO.enter Tryz.func46 Tryz.ntmps46 rfl rfl (fun w0 => ?_)
 refine zm212 ?_
 refine TL.bslice rfl rfl rfl rfl (fun b3 => ?_)
 refine zm0 ?_
 refine TL.append (enc := SArm.cells) rfl rfl rfl (OwnSl.blk (enc := SArm.cells) [] rfl rfl (by decide)) (Src.sl hA) (by simp; omega) rfl (.take (.here _) rfl) rfl (fun a5 c5 ob5 hO5 => ?_)
 refine zm22 ?_
 exact TX.finO (.inr rfl) (results1 rfl (RVal.tmp rfl)) .all ⟨rfl, hO5.cast (by simp)⟩
set_option maxHeartbeats 4000000 in
theorem ordW_ok {q : SProc} {bx bo bw : Nat} (hS : ShapeOk q) (hz2 : q.steps.length ≤ 80) :
  ∀ (f : Nat) {H : Hp} (at_ : Int), ProcOk H q → ProcAt H bx q → CellAt H bw (.func (.func 92) #[] #[.pointer (some ⟨bo, 0, none⟩), .pointer (some ⟨bx, 0, none⟩), .pointer (some ⟨bw, 0, none⟩)]) → 0 ≤ at_ → at_ < q.steps.length → q.steps.length ≤ at_.toNat + f → ∀ (u : Value) (xs : List Int) (ob : Blks), OwnSl 1 I64.cells u xs ob → xs.length + (ordW q f at_).length ≤ 1000 →
   FnX Tryz.prog 92 [.int .i64 at_, .pointer (some ⟨bo, 0, none⟩), .pointer (some ⟨bx, 0, none⟩), .pointer (some ⟨bw, 0, none⟩)] H ((bo, [u]) :: ob) (fun r H2 L2 => r = .tuple #[] ∧ H.le H2 ∧ ∃ u2 ob2, L2 = (bo, [u2]) :: ob2 ∧ OwnSl 1 I64.cells u2 (xs ++ ordW q f at_) ob2) := by
 intro f
 induction f with
 | zero =>
  intro H at_ _ _ _ h0 h1 h2; exfalso; omega
 | succ f ih =>
 intro H at_ hQ hx hw h0 h1 h2 u xs ob hO hlen
 obtain ⟨s, hs⟩ : ∃ s, q.steps[at_.toNat]? = some s := ⟨_, List.getElem?_eq_getElem (by omega)⟩
 rw [ordW_at hs] at hlen ⊢
 have hsk := hQ.ss s (List.mem_of_getElem? hs)
 obtain ⟨ua, uc, rfl⟩ := hO.form
 obtain ⟨hm, hin⟩ := hS _ _ hs
 have hsz := may_sizes hm
 have hmax := hQ.s.max
 refine FnX.enterM Tryz.func92 Tryz.ntmps92 rfl rfl (fun w0 M hM => ?_)
 refine zm4 ?_; refine zm29 ?_; refine zm0 ?_
 refine TL.bslice rfl rfl rfl rfl (fun b9 => ?_)
 refine TL.append (enc := I64.cells) rfl rfl rfl hO (Src.own [at_] (.here _) rfl rfl) (by simp only [List.length_cons] at hlen; simp; omega) rfl (.skip _ (.skip _ .all)) rfl (fun a10 c10 ob10 hO10 => ?_)
 refine TL.storeV rfl rfl rfl (.there _ (.here _)) rfl ?_; refine zm27 ?_; refine zm6 ?_; refine TL.run (pr_hp1 rfl (hx 3 _ rfl)) rfl ?_; refine zm0 ?_; refine zm228 ?_
 refine TL.run (pr_elA hQ.s hs rfl rfl) rfl (TL.callOF (enters rfl rfl rfl rfl) (nexts_ok s hsk (by omega)) rfl (fun v16 H16 ob16 hf16 hle16 hp16 => ?_))
 obtain ⟨eH16, hO16⟩ := hp16
 subst H16
 obtain ⟨a16, c16, rfl⟩ := hO16.form
 refine TL.pubO hO16 (.skip _ (.skip _ (.past _ .all))) (fun p hp hm => absurd (hM _ hm) (Nat.not_lt.2 (hf16 p hp))) (fun HP16 leP16 hR16 => ?_)
 replace hQ := hQ.le leP16
 replace hx := hx.le leP16
 replace hw := hw.le leP16
 have hR16m := hR16.max
 refine TL.run (pr_lenSl rfl rfl hR16) rfl ?_; refine zm10 ?_
 have hleA := leP16
 refine TC.loop4 (V := fun k v ob H1 => [(18, .int .i64 k)]) (K := [(3, _), (16, _), (17, _)]) (L := fun k v ob H1 => St M w0 H H1 ((bo, [v]) :: ob)) (I := fun k v ob H1 => (0 ≤ k ∧ k ≤ (nextsS s).length) ∧ HP16.le H1 ∧ OwnSl 1 I64.cells v (xs ++ at_ :: ((nextsS s).take k.toNat).flatMap (ordW q f)) ob) (μ := fun k => ((nextsS s).length - k).toNat) 0 _ _ HP16 ⟨rfl, rfl, rfl, rfl, trivial⟩ ⟨⟨by omega, by omega⟩, Hp.le.refl _, hO10.cast (by simp)⟩ (fun w hw => by have h2 := hw.drop; rw [List.append_nil] at h2; exact h2) (fun k v ob H1 hI => ?_)
 obtain ⟨⟨k0, k1⟩, hle, hO⟩ := hI
 obtain ⟨va, vc, rfl⟩ := hO.form
 replace hQ := hQ.le hle
 replace hx := hx.le hle
 replace hw := hw.le hle
 replace hR16 := hR16.le hle
 replace hleA := hleA.trans hle
 refine zm11 ?_
 refine TC.condD rfl (fun c19 => ?_) (fun c19 => ?_)
 ·
  obtain ⟨t, ht⟩ := getSome (l := nextsS s) k0 c19
  have htb := hin t (List.mem_of_getElem? ht)
  have hlb := fm_room (f := ordW q f) k0 ht
  refine zm15 ?_; refine TL.run (pr_indexSl rfl hR16 rfl (by omega) (by omega)) rfl (TL.run (pr_el0 hR16 ht rfl rfl) rfl ?_); refine zm2 ?_; refine TC.region (TL.run (pr_hp1 rfl hw) rfl ?_); refine zm0 ?_
  refine TL.callX0 (L1 := (bo, [.slice va _ vc]) :: ob) (enters rfl rfl rfl rfl) (ih t hQ hx hw (by omega) (by omega) (by omega) _ _ _ hO (by simp only [List.length_append, List.length_cons]; simp only [List.length_cons] at hlen; omega)) rfl (fun v24 H24 L24 hle24 hp24 => ?_)
  obtain ⟨rfl, -, u24, ob24, rfl, hO24⟩ := hp24
  obtain ⟨ua24, uc24, rfl⟩ := hO24.form
  replace hw := hw.le hle24
  replace hle := hle.trans hle24
  refine zm99 ?_
  exact TX.round4 (k + 1) _ ob24 H24 ⟨⟨by omega, by omega⟩, hle, hO24.cast (by rw [take_snoc k0 ht, List.flatMap_append]; simp)⟩ ⟨rfl, rfl, rfl, rfl, trivial⟩ (fun w hw => hw ) (by omega)
 ·
  refine TC.exit (TX.thenE (TX.thenE (TX.blkHit ?_)))
  exact TX.finX (.inl rfl) (results0 rfl) (fun w hw => hw) ⟨rfl, hleA, _, _, rfl, hO.cast (by rw [take_all c19 k0])⟩
set_option maxHeartbeats 8000000 in
theorem take_ok {H : Hp} {q : SProc} {bx bmv bm bout : Nat} {nm : Str} {pv u sv : Value} {m0 : List Int} {o0 : List Term} {ob : Blks} (root : Int) (hQ : ProcOk H q) (hx : ProcAt H bx q) (hmv : CellAt H bmv (.slice (some ⟨bm, 0, none⟩) q.terms.length q.terms.length)) (hm : mayB q.terms root = true) (hml0 : m0.length = q.terms.length) (hO0 : OwnSl 6 Term.cells u o0 ob) (hr : o0.length ≤ 300000000000) :
  FnX Tryz.prog 93 [.int .i64 root, .pointer (some ⟨bx, 0, none⟩), .pointer (some ⟨bmv, 0, none⟩), .pointer (some ⟨bout, 0, none⟩)] H ((bm, m0.map (Value.int .i64)) :: (bout, [gs nm, pv, u, sv]) :: ob) (fun r H2 L2 => r = .int .i64 (getI (takeS q.terms root (m0, o0)).1 root) ∧ ∃ u2 ob2, L2 = (bm, (takeS q.terms root (m0, o0)).1.map (Value.int .i64)) :: (bout, [gs nm, pv, u2, sv]) :: ob2 ∧ OwnSl 6 Term.cells u2 (takeS q.terms root (m0, o0)).2 ob2) := by
 obtain ⟨ua, uc, rfl⟩ := hO0.form
 have hpl := mayB_post hm
 have htr := mayB_Tr hm
 have hr0 := tr_lt htr
 have hr1 : 0 ≤ root := htr.1
 have hmax := hQ.t.max
 have hpl2 : (postS q.terms root).length ≤ 33554432 := hpl
 refine FnX.enterM Tryz.func93 Tryz.ntmps93 rfl rfl (fun w0 M hM => ?_)
 refine zm142 ?_; refine zm88 ?_; refine zm6 ?_; refine TL.run (pr_hp1 rfl (hx 2 _ rfl)) rfl ?_; refine zm0 ?_
 refine TL.callOF (enters rfl rfl rfl rfl) (sTree_ok root hQ.t hm) rfl (fun v12 H12 ob12 hf12 hle12 hp12 => ?_)
 have hO12 : OwnSl 1 I64.cells v12 (postS q.terms root) ob12 := hp12
 obtain ⟨a12, c12, rfl⟩ := hO12.form
 replace hQ := hQ.le hle12
 replace hx := hx.le hle12
 replace hmv := hmv.le hle12
 refine TL.pubO hO12 (.skip _ (.skip _ (.past _ .all))) (fun p hp hm => absurd (hM _ hm) (Nat.not_lt.2 (hf12 p hp))) (fun HP12 leP12 hR12 => ?_)
 replace hQ := hQ.le leP12
 replace hx := hx.le leP12
 replace hmv := hmv.le leP12
 have hR12m := hR12.max
 refine TL.run (pr_lenSl rfl rfl hR12) rfl ?_; refine zm10 ?_
 refine TC.loop4 (V := fun (p : Int × List Int × List Term) v ob H1 => [(14, .int .i64 p.1)]) (K := [(0, _), (1, _), (2, _), (3, _), (5, _), (12, _), (13, _)]) (L := fun (p : Int × List Int × List Term) v ob H1 => St M w0 H H1 ((bm, p.2.1.map (Value.int .i64)) :: (bout, [gs nm, pv, v, sv]) :: ob)) (I := fun (p : Int × List Int × List Term) v ob H1 => (0 ≤ p.1 ∧ p.1 ≤ (postS q.terms root).length) ∧ HP12.le H1 ∧ p.2.1.length = q.terms.length ∧ OwnSl 6 Term.cells v p.2.2 ob ∧ p.2.2.length ≤ o0.length + p.1 ∧ takeS q.terms root (m0, o0) = takeGo q.terms ((postS q.terms root).drop p.1.toNat) (p.2.1, p.2.2)) (μ := fun (p : Int × List Int × List Term) => ((postS q.terms root).length - p.1).toNat) ((0 : Int), m0, o0) _ _ HP12 ⟨rfl, rfl, rfl, rfl, rfl, rfl, rfl, rfl, trivial⟩ ⟨⟨by omega, by omega⟩, Hp.le.refl _, hml0, hO0, by simp, rfl⟩ (fun w hw => by rw [List.append_nil] at hw; exact hw) (fun p v ob H1 hI => ?_)
 obtain ⟨⟨k0, k1⟩, hle, hml, hO, hol, hT⟩ := hI
 obtain ⟨k, m, o⟩ := p
 dsimp only at *
 obtain ⟨va, vc, rfl⟩ := hO.form
 replace hQ := hQ.le hle
 replace hx := hx.le hle
 replace hmv := hmv.le hle
 replace hR12 := hR12.le hle
 refine zm11 ?_
 refine TC.condD rfl (fun c15 => ?_) (fun c15 => ?_)
 ·
  obtain ⟨x, hk⟩ := getSome (l := postS q.terms root) k0 c15
  obtain ⟨t, ht, hx0, htl, htr2⟩ := post_ops _ _ (.inr htr) x (List.mem_of_getElem? hk)
  have hxb := ix_lt2 ht
  refine zm15 ?_; refine TL.run (pr_indexSl rfl hR12 rfl (by omega) (by omega)) rfl (TL.run (pr_el0 hR12 hk rfl rfl) rfl ?_); refine zm102 ?_; refine TL.run (pr_hp1 rfl (hx 2 _ rfl)) rfl ?_; refine zm0 ?_
  refine TL.run (pr_indexSl rfl hQ.t rfl (by omega) (by omega)) rfl (TL.run (pr_elA hQ.t ht rfl rfl) rfl (TL.alloc rfl (fun b8 => ?_)))
  refine zm26 ?_; refine zm138 ?_
  refine TC.condD rfl (fun c25 => ?_) (fun c25 => ?_)
  ·
   refine TC.region ?_; refine zm120 ?_; refine zm51 ?_; refine zm21 ?_; refine zm310 ?_; refine zm63 ?_; refine zm138 ?_
   refine TC.condD rfl (fun c34 => ?_) (fun c34 => ?_)
   ·
    refine TC.region ?_; refine zm120 ?_; refine zm51 ?_; refine zm21 ?_; refine zm310 ?_; refine zm277 ?_; refine zm27 ?_; refine zm120 ?_; refine zm0 ?_; refine zm62 ?_; refine zm143 ?_; refine zm229 ?_; refine zm230 ?_
    refine TL.bslice rfl rfl rfl rfl (fun b50 => ?_)
    refine TL.append (enc := Term.cells) rfl rfl rfl hO (Src.own [⟨t.kind, t.name, t.n, t.text, getI m t.l, getI m t.r⟩] (.here _) rfl rfl) (by simp; omega) rfl (.skip _ (.skip _ (.skip _ (.skip _ .all)))) rfl (fun a51 c51 ob51 hO51 => ?_)
    exact zq756
   ·
    refine zm69 ?_; refine zm120 ?_; refine zm0 ?_; refine zm62 ?_; refine zm143 ?_; refine zm229 ?_; refine zm230 ?_
    refine TL.bslice rfl rfl rfl rfl (fun b50 => ?_)
    refine TL.append (enc := Term.cells) rfl rfl rfl hO (Src.own [⟨t.kind, t.name, t.n, t.text, getI m t.l, t.r⟩] (.here _) rfl rfl) (by simp; omega) rfl (.skip _ (.skip _ (.skip _ (.skip _ .all)))) rfl (fun a51 c51 ob51 hO51 => ?_)
    exact zq756
  ·
   refine zm12 ?_; refine zm138 ?_
   refine TC.condD rfl (fun c34 => ?_) (fun c34 => ?_)
   ·
    refine TC.region ?_; refine zm120 ?_; refine zm51 ?_; refine zm21 ?_; refine zm310 ?_; refine zm277 ?_; refine zm27 ?_; refine zm120 ?_; refine zm0 ?_; refine zm62 ?_; refine zm143 ?_; refine zm229 ?_; refine zm230 ?_
    refine TL.bslice rfl rfl rfl rfl (fun b50 => ?_)
    refine TL.append (enc := Term.cells) rfl rfl rfl hO (Src.own [⟨t.kind, t.name, t.n, t.text, t.l, getI m t.r⟩] (.here _) rfl rfl) (by simp; omega) rfl (.skip _ (.skip _ (.skip _ (.skip _ .all)))) rfl (fun a51 c51 ob51 hO51 => ?_)
    exact zq756
   ·
    refine zm69 ?_; refine zm120 ?_; refine zm0 ?_; refine zm62 ?_; refine zm143 ?_; refine zm229 ?_; refine zm230 ?_
    refine TL.bslice rfl rfl rfl rfl (fun b50 => ?_)
    refine TL.append (enc := Term.cells) rfl rfl rfl hO (Src.own [⟨t.kind, t.name, t.n, t.text, t.l, t.r⟩] (.here _) rfl rfl) (by simp; omega) rfl (.skip _ (.skip _ (.skip _ (.skip _ .all)))) rfl (fun a51 c51 ob51 hO51 => ?_)
    exact zq756
 ·
  refine zm84 ?_; refine zm120 ?_; refine zm132 ?_; refine TL.run (pr_own1 rfl (.here _) (is_get (by omega))) rfl ?_; refine zm22 ?_
  have hE := tg_end k0 c15 hT
  exact TX.finX (.inr rfl) (results1 rfl (RVal.tmp rfl)) (fun w hw => hw) ⟨by rw [hE], _, _, by rw [hE], by rw [hE]; exact hO⟩
end Go.Sx
namespace Go.Sx
open Go Go.Proofs
set_option maxHeartbeats 8000000 in
theorem takeAll_ok {H : Hp} {q : SProc} {bx bmv bm bout bt : Nat} {nm : Str} {pv u sv vl : Value} {m0 : List Int} {o0 : List Term} {ob : Blks} {l : List Int} (hl : RdSl H 1 I64.cells vl l) (ht : CellAt H bt (.func (.func 93) #[] #[.pointer (some ⟨bx, 0, none⟩), .pointer (some ⟨bmv, 0, none⟩), .pointer (some ⟨bout, 0, none⟩)])) (hQ : ProcOk H q) (hx : ProcAt H bx q) (hmv : CellAt H bmv (.slice (some ⟨bm, 0, none⟩) q.terms.length q.terms.length)) (hm : ∀ t ∈ l, mayB q.terms t = true) (hl6 : l.length ≤ 6) (hml0 : m0.length = q.terms.length) (hO0 : OwnSl 6 Term.cells u o0 ob) (hr : o0.length ≤ 290000000000) :
  FnX Tryz.prog 94 [vl, .pointer (some ⟨bt, 0, none⟩)] H ((bm, m0.map (Value.int .i64)) :: (bout, [gs nm, pv, u, sv]) :: ob) (fun r H2 L2 => ∃ u2 ob2 ob3, L2 = (bm, (takesGo q.terms l [] (m0, o0)).2.1.map (Value.int .i64)) :: (bout, [gs nm, pv, u2, sv]) :: (ob2 ++ ob3) ∧ OwnSl 6 Term.cells u2 (takesGo q.terms l [] (m0, o0)).2.2 ob2 ∧ OwnSl 1 I64.cells r (takesGo q.terms l [] (m0, o0)).1 ob3) := by
 obtain ⟨ua, uc, rfl⟩ := hO0.form
 have one0 := hl.isOne
 obtain ⟨la, lc, rfl⟩ := hl.len
 refine FnX.enterM Tryz.func94 Tryz.ntmps94 rfl rfl (fun w0 M hM => ?_)
 refine zm142 ?_; refine zm112 ?_; refine TL.run (pr_lenSl rfl rfl hl) rfl ?_; refine zm10 ?_
 refine TC.loop4 (V := fun (p : Int × RS × Value × Blks × List Int) v ob H1 => [(4, v), (9, .int .i64 p.1)]) (K := [(1, _), (3, _), (7, _), (8, _)]) (L := fun (p : Int × RS × Value × Blks × List Int) v ob H1 => St M w0 H H1 ((bm, p.2.1.1.map (Value.int .i64)) :: (bout, [gs nm, pv, p.2.2.1, sv]) :: (p.2.2.2.1 ++ ob))) (I := fun (p : Int × RS × Value × Blks × List Int) v ob H1 => (0 ≤ p.1 ∧ p.1 ≤ l.length) ∧ H.le H1 ∧ (p.2.1.1.length = q.terms.length ∧ p.2.1.2.length ≤ o0.length + 33554432 * p.1.toNat) ∧ OwnSl 6 Term.cells p.2.2.1 p.2.1.2 p.2.2.2.1 ∧ OwnSl 1 I64.cells v p.2.2.2.2 ob ∧ p.2.2.2.2.length ≤ p.1 ∧ takesGo q.terms l [] (m0, o0) = takesGo q.terms (l.drop p.1.toNat) p.2.2.2.2 p.2.1) (μ := fun (p : Int × RS × Value × Blks × List Int) => (l.length - p.1).toNat) ((0 : Int), (m0, o0), (.slice ua o0.length uc), ob, []) (.slice none 0 0) [] H ⟨rfl, rfl, rfl, rfl, rfl, rfl, trivial⟩ ⟨⟨by omega, by omega⟩, Hp.le.refl _, ⟨hml0, by simp⟩, hO0, OwnSl.nil, by simp, rfl⟩ (fun w hw => by rw [List.append_nil]; exact hw) (fun p v ob H1 hI => ?_)
 obtain ⟨⟨k0, k1⟩, hle, ⟨hml, hol⟩, hO1, hO, hac, hT⟩ := hI
 obtain ⟨k, ⟨m, o⟩, u1, ob1, acc⟩ := p
 dsimp only at *
 obtain ⟨va, vc, rfl⟩ := hO.form
 replace hl := hl.le hle
 replace ht := ht.le hle
 replace hQ := hQ.le hle
 replace hx := hx.le hle
 replace hmv := hmv.le hle
 refine zm11 ?_
 refine TC.condD rfl (fun c10 => ?_) (fun c10 => ?_)
 ·
  obtain ⟨x, hk⟩ := getSome (l := l) k0 c10
  have hxm := hm x (List.mem_of_getElem? hk)
  refine zm15 ?_; refine zm311 ?_; refine TL.run (pr_el0 hl hk rfl rfl) rfl ?_; refine zm2 ?_; refine zm66 ?_; refine TL.run (pr_hp1 rfl ht) rfl ?_; refine zm0 ?_
  refine TL.callX (L1 := (bm, m.map (Value.int .i64)) :: (bout, [gs nm, pv, u1, sv]) :: ob1) (L2 := ob) (enters rfl rfl rfl rfl) (take_ok x hQ hx hmv hxm hml hO1 (by omega)) rfl (fun v16 H16 L16 hle16 hp16 => ?_)
  obtain ⟨rfl, u16, ob16, rfl, hO16⟩ := hp16
  refine TL.permL (L' := (bm, _) :: ((bout, _) :: (ob16 ++ (ob)))) (List.Perm.refl _) ?_
  replace hle := hle.trans hle16
  refine TL.bslice rfl rfl rfl rfl (fun b17 => ?_)
  refine TL.append (enc := I64.cells) rfl rfl rfl hO (Src.own [getI (takeS q.terms x (m, o)).1 x] (.here _) rfl rfl) (by simp; omega) rfl (.skip _ (.skip _ (.skip _ (.past _ .all)))) rfl (fun a18 c18 ob18 hO18 => ?_)
  refine zm136 ?_
  exact TX.round4 (i := (k, (m, o), u1, ob1, acc)) (k + 1, takeS q.terms x (m, o), u16, ob16, acc ++ [getI (takeS q.terms x (m, o)).1 x]) _ ob18 H16 ⟨⟨by omega, by omega⟩, hle, ⟨by rw [takeS_len]; exact hml, by have h7 := takeS_size (s := (m, o)) hxm; simp only at h7 ⊢; omega⟩, hO16, hO18, by simp only [List.length_append, List.length_cons, List.length_nil]; omega, ta_next k0 hk hT⟩ ⟨rfl, rfl, rfl, rfl, rfl, rfl, trivial⟩ (fun w hw => hw.drop) (by omega)
 ·
  refine zm87 ?_
  have hE := ta_end k0 c10 hT
  exact TX.finX (.inr rfl) (results1 rfl (RVal.tmp rfl)) (fun w hw => hw) ⟨_, _, _, by rw [hE], by rw [hE]; exact hO1, by rw [hE]; exact hO⟩
end Go.Sx
