import Derived.Test.YtjnlogbbcceaoaaGreatL8
set_option linter.all false
set_option maxRecDepth 100000
set_option maxHeartbeats 32000000
namespace Go.Sx
open Go Go.Proofs
theorem bK {H : Hp} (s : Str) :
  FnS Tryz.prog 79 [gs s] H (.bool (aG s)) := by
 refine FnS.enter Tryz.func79 Tryz.ntmps79 rfl rfl (fun w0 => ?_)
 refine ln ?_; refine TL.run (eo rfl rfl) rfl ?_; refine zm3 ?_
 refine aj (s := 7) rfl (fun g7 => ?_) (fun g7 => ?_)
 · exact zq42
 have q7 := of_decide_eq_false g7
 refine cN ?_; refine aw rfl rfl (eo rfl rfl) rfl ?_; refine dD ?_
 refine aj (s := 12) rfl (fun g12 => ?_) (fun g12 => ?_)
 ·
  have q12 := of_decide_eq_true g12
  exact zq44
 have q12 := of_decide_eq_false g12
 refine cN ?_
 have hlen : (0 : Int) < s.length := by have := of_decide_eq_false g7; omega
 obtain ⟨c0, hc0⟩ := ao (l := s) (i := 0) (by omega) hlen
 refine aw rfl rfl (f7 rfl rfl (by omega) hc0) rfl (aK rfl rfl (ab rfl rfl rfl rfl) (jL c0) rfl ?_); refine dD ?_
 refine aj (s := 18) rfl (fun g18 => ?_) (fun g18 => ?_)
 · exact zq50
 refine cN ?_; refine aK rfl rfl (ab rfl rfl rfl rfl) (mb s) rfl ?_; refine zm1 ?_
 refine TC.cond rfl (fun c21 => ?_) (fun c21 => ?_)
 · exact zq56
 have hn := m4 g7 g12 hc0 g18 c21
 have hl12 : (s.length : Int) ≤ 12 := by have := of_decide_eq_false g12; omega
 exact zq0
theorem oR {H : Hp} (k : Int) :
  FnS Tryz.prog 95 [.int .i64 k] H (.bool (fQ k)) := by
 refine FnS.enter Tryz.func95 Tryz.ntmps95 rfl rfl (fun w0 => ?_)
 refine jq ?_
 refine cf (decide (k = 1) || (decide (k = 2) || (decide (k = 4) || (decide (k = 7) || (decide (k = 8) || decide (k = 9)))))) 4 [(2, _)] ⟨rfl, trivial⟩ ?_ ?_
 · refine BO ?_; exact cC (ah rfl) rfl rfl ⟨rfl, trivial⟩ (eT (ah rfl) rfl rfl ⟨rfl, trivial⟩)
 refine TC.cond rfl (fun c4 => ?_) (fun c4 => ?_)
 ·
  refine or ?_
  exact ax (.inr rfl) (ae rfl (RVal.tmp rfl)) (congrArg Value.bool (by unfold fQ; first | exact c4.symm | (rw [c4]) | simp_all))
 refine we ?_
 exact ax (.inr rfl) (ae rfl (RVal.tmp rfl)) (congrArg Value.bool (by unfold fQ; first | exact c4.symm | (rw [c4]) | simp_all))
theorem dV {H : Hp} (e p a : Int) :
  FnS Tryz.prog 41 [.int .i64 e, .int .i64 p, .int .i64 a] H (.agg (SFault.cells ⟨e, p, a⟩).toArray) := by
 refine FnS.enter Tryz.func41 Tryz.ntmps41 rfl rfl (fun w0 => ?_)
 refine zm2 ?_
 refine TL.alloc rfl (fun b6 => ?_)
 refine TL.nil (ad ?_); refine gU ?_; refine dy ?_; refine iU ?_
 exact ax (.inr rfl) (ae rfl (RVal.cellA rfl (.here _) rfl)) rfl
theorem jB {H : Hp} {pg : SProg} (s : Str) (hP : ProgOk H pg) :
  FnS Tryz.prog 16 [.agg pg.cells.toArray, gs s] H (.int .i64 (dq pg.procs s)) := by
 have hq := hP.q
 have hmax := hq.max
 refine FnS.enter Tryz.func16 Tryz.ntmps16 rfl rfl (fun w0 => ?_)
 refine zm2 ?_
 refine TL.box rfl rfl (fun b2 => ?_)
 refine pO ?_; refine TL.run (ai rfl rfl hq) rfl ?_; refine zm8 ?_
 refine TC.loop (V := fun k => [(9, .int .i64 k)]) (K := [(1, _), (2, _), (4, _), (8, _)]) (L := fun k => _) (I := fun k => 0 ≤ k ∧ k ≤ pg.procs.length ∧ ∀ j : Nat, j < k.toNat → (pg.procs.map (·.name))[j]? ≠ some s) (μ := fun k => (pg.procs.length - k).toNat) (i := (0 : Int)) ky ⟨by omega, by omega, fun j hj => absurd hj (by simp)⟩ (fun w hw => hw) (fun k hI => ?_)
 refine zm6 ?_
 refine ag rfl (fun c10 => ?_) (fun c10 => ?_)
 ·
  obtain ⟨x, hx⟩ := ao (l := pg.procs) hI.1 c10
  refine nK ?_; refine lG ?_; refine TL.run (af rfl hq rfl (by omega) (by omega)) rfl ?_; refine zm7 ?_; refine TL.run (br hq hx rfl rfl) rfl ?_; refine vY ?_
  refine ag rfl (fun c19 => ?_) (fun c19 => ?_)
  ·
   refine vX ?_
   exact ax (.inr rfl) (ae rfl (RVal.tmp rfl)) (congrArg (Value.int .i64) (by unfold dq; first | exact (ef hI.1 (by rw [ik hx, c19]) hI.2.2).symm | exact (fl hI.2.2 (by rw [List.length_map]; exact c10)).symm))
  refine lg ?_
  exact aR (k + 1) ⟨by omega, by omega, kU hI.1 hI.2.2 (ik hx) c19⟩ ky (fun w hw => hw) (by omega)
 refine gv ?_
 exact ax (.inr rfl) (ae rfl (RVal.tmp rfl)) (congrArg (Value.int .i64) (by unfold dq; first | exact (ef hI.1 (by rw [ik hx, c19]) hI.2.2).symm | exact (fl hI.2.2 (by rw [List.length_map]; exact c10)).symm))
theorem bare_ok {H : Hp} (s : SStep) :
  FnS Tryz.prog 139 [.agg s.cells.toArray] H (.agg (cR s).cells.toArray) := by
 refine FnS.enter Tryz.func139 Tryz.ntmps139 rfl rfl (fun w0 => ?_)
 refine zm2 ?_
 refine TL.box rfl rfl (fun b1 => ?_)
 refine TL.alloc rfl (fun b2 => ?_)
 refine TL.nil (ad (TC.seq ?_)); refine gS ?_; refine sF ?_
 refine ag rfl (fun c5 => ?_) (fun c5 => ?_)
 · exact Bo
 refine dN ?_
 refine ag rfl (fun c9 => ?_) (fun c9 => ?_)
 · exact TC.region (Bn)
 refine dN ?_
 refine ag rfl (fun c12 => ?_) (fun c12 => ?_)
 · exact Bo
 refine dN ?_
 refine ag rfl (fun c16 => ?_) (fun c16 => ?_)
 ·
  refine TC.region ?_; refine vV ?_
  exact Bm
 refine dN ?_
 refine ag rfl (fun c22 => ?_) (fun c22 => ?_)
 · exact TC.region (Bm)
 refine cf (decide (s.kind = 6) || decide (s.kind = 7)) 27 [(1, _), (2, _), (4, _)] ky ?_ ?_
 · exact cC (ah rfl) rfl rfl ky (eT (ah rfl) rfl rfl ky)
 refine TC.cond rfl (fun c27 => ?_) (fun c27 => ?_)
 ·
  have h67 : s.kind = 6 ∨ s.kind = 7 := by simpa using c27
  have h8 : ¬ s.kind = 8 := by omega
  have h9 : ¬ s.kind = 9 := by omega
  exact Bo
 refine dN ?_
 refine ag rfl (fun c32 => ?_) (fun c32 => ?_)
 ·
  refine TC.region ?_; refine vV ?_
  exact Bm
 refine dN ?_
 refine ag rfl (fun c38 => ?_) (fun c38 => ?_)
 · exact TC.region (Bn)
 exact TC.skip (zq132)
theorem j8 {H : Hp} {l : List Str} {v : Value} (hL : RdSl H 1 Str.cells v l) :
  FnS Tryz.prog 81 [v] H (.bool (dj l)) := by
 have hmax := hL.max
 obtain ⟨la, lc, rfl⟩ := hL.len
 refine FnS.enter Tryz.func81 Tryz.ntmps81 rfl rfl (fun w0 => ?_)
 refine ln ?_; refine TL.run (ai rfl rfl hL) rfl ?_; refine zm8 ?_
 refine TC.loop (V := fun k => [(6, .int .i64 k)]) (K := [(0, _), (2, _), (5, _)]) (L := fun k => _) (I := fun k => 0 ≤ k ∧ k ≤ l.length ∧ (l.take k.toNat).Nodup) (μ := fun k => (l.length - k).toNat) (i := (0 : Int)) ky ⟨by omega, by omega, List.nodup_nil⟩ (fun w hw => hw) (fun k hI => ?_)
 refine zm6 ?_
 refine ag rfl (fun c7 => ?_) (fun c7 => ?_)
 ·
  obtain ⟨x, hx⟩ := ao (l := l) hI.1 c7
  refine nK ?_; refine gU ?_; refine nL ?_; refine TL.run (aM hL hx rfl rfl) rfl (ay (ab rfl rfl rfl rfl) (qI x hL) rfl ?_); refine kK ?_
  refine aW rfl (fun c16 => ?_) (fun c16 => ?_)
  ·
   refine nJ ?_
   exact ax (.inr rfl) (ae rfl (RVal.tmp rfl)) (congrArg Value.bool (by first | exact (l6 c7 hI.1 hI.2.2).symm | exact (qz hI.1 hx (by simpa using c16)).symm))
  refine lg ?_
  exact aR (k + 1) ⟨by omega, by omega, kO hI.1 hx hI.2.2 (wR hI.1 hx (by simpa using c16))⟩ ky (fun w hw => hw) (by omega)
 refine gv ?_
 exact ax (.inr rfl) (ae rfl (RVal.tmp rfl)) (congrArg Value.bool (by first | exact (l6 c7 hI.1 hI.2.2).symm | exact (qz hI.1 hx (by simpa using c16)).symm))
end Go.Sx
namespace Go.Sx
open Go Go.Proofs
theorem za {H : Hp} (s : SStep) (hs : StepOk H s) :
  FnS Tryz.prog 140 [.agg s.cells.toArray] H (.bool (eW s)) := by
 have hw := hs.w
 have hmw := hw.max
 refine FnS.enter Tryz.func140 Tryz.ntmps140 rfl rfl (fun w0 => ?_)
 refine zm2 ?_
 refine TL.box rfl rfl (fun b1 => ?_)
 refine iv ?_; refine oY ?_
 refine ag rfl (fun c8 => ?_) (fun c8 => ?_)
 ·
  refine fw ?_; refine TL.run (ai rfl rfl hw) rfl ?_; refine zm3 ?_
  refine aj (s := 13) rfl (fun g13 => ?_) (fun g13 => ?_)
  ·
   have q13 := of_decide_eq_true g13
   obtain ⟨w0, h0⟩ := ao (l := s.ways) (i := 0) (by decide) (by omega)
   obtain ⟨w1, h1⟩ := ao (l := s.ways) (i := 1) (by decide) (by omega)
   refine zm9 ?_; refine y1 ?_; refine jn ?_; refine aw rfl rfl (br hw h0 rfl rfl) rfl ?_; refine mB ?_; refine zm3 ?_
   refine aj (s := 21) rfl (fun g21 => ?_) (fun g21 => ?_)
   ·
    have q21 := of_decide_eq_true g21
    refine zm9 ?_; refine y1 ?_; refine jn ?_; refine aw rfl rfl (br hw h0 rfl rfl) rfl ?_; refine mB ?_; refine zm3 ?_
    refine aj (s := 29) rfl (fun g29 => ?_) (fun g29 => ?_)
    ·
     have q29 := of_decide_eq_true g29
     refine zm9 ?_; refine y1 ?_; refine jn ?_; refine aw rfl rfl (br hw h1 rfl rfl) rfl ?_; refine mB ?_; refine zm3 ?_
     refine aj (s := 37) rfl (fun g37 => ?_) (fun g37 => ?_)
     ·
      have q37 := of_decide_eq_true g37
      refine zm9 ?_; refine y1 ?_; refine jn ?_; refine aw rfl rfl (br hw h1 rfl rfl) rfl ?_; refine mB ?_; refine zm0 ?_
      exact oW
     have q37 := of_decide_eq_false g37
     refine eB ?_; refine sD ?_
     exact oW
    have q29 := of_decide_eq_false g29
    refine pM ?_; refine sD ?_
    exact oW
   have q21 := of_decide_eq_false g21
   refine pM ?_; refine pj ?_; refine sD ?_
   exact oW
  have q13 := of_decide_eq_false g13
  refine pM ?_; refine pj ?_; refine pj ?_; refine sD ?_
  exact oW
 refine iS ?_; refine fw ?_; refine TL.run (ai rfl rfl hw) rfl ?_; refine zm3 ?_
 refine aj (s := 49) rfl (fun g49 => ?_) (fun g49 => ?_)
 ·
  have q49 := of_decide_eq_true g49
  refine eB ?_; refine nM ?_; refine zm2 ?_
  exact oW
 have q49 := of_decide_eq_false g49
 refine zm9 ?_; refine aw rfl rfl (ai rfl rfl hw) rfl ?_; refine gW ?_
 refine ag rfl (fun c54 => ?_) (fun c54 => ?_)
 ·
  refine zm2 ?_
  exact oW
 have hn7 : (1 : Int) ≤ s.ways.length ∧ (s.ways.length : Int) ≤ 7 := ⟨by omega, by omega⟩
 refine d3 ?_; refine vU ?_; refine TL.run (ai rfl rfl hw) rfl ?_; refine zm8 ?_
 refine aV (V := fun k v ob H1 => [(3, v), (58, .int .i64 k)]) (K := [(2, _), (56, _), (57, _)]) (L := fun k v ob H1 => St [] w0 H H ((b1, _) :: ob)) (I := fun k v ob H1 => (0 ≤ k ∧ k ≤ s.ways.length) ∧ OwnSl 1 Str.cells v ((s.ways.take k.toNat).map (·.label)) ob ∧ s.ways.all (fun w => !dH w) = (s.ways.drop k.toNat).all (fun w => !dH w)) (μ := fun k => (s.ways.length - k).toNat) 0 (.slice none 0 0) [] H ky ⟨⟨by omega, by omega⟩, OwnSl.nil, rfl⟩ (fun w hw => hw) (fun k v ob H1 hI => ?_)
 obtain ⟨⟨k0, k1⟩, hO, hal⟩ := hI
 obtain ⟨va, vc, rfl⟩ := hO.form
 refine zm6 ?_
 refine ag rfl (fun c59 => ?_) (fun c59 => ?_)
 ·
  obtain ⟨x, hx⟩ := ao (l := s.ways) k0 c59
  refine dC ?_; refine TL.run (af rfl hw rfl (by omega) (by omega)) rfl (TL.run (bh hw hx rfl rfl) rfl (TL.alloc rfl (fun b5 => ?_)))
  refine o6 ?_
  refine cf (dH x) 91 [(2, _), (3, _), (5, _), (56, _), (57, _), (58, _), (59, _), (60, _), (61, _)] ky ?_ ?_
  ·
   refine vT ?_
   refine aj (s := 65) rfl (fun g65 => ?_) (fun g65 => ?_)
   ·
    have q65 := of_decide_eq_true g65
    refine o7 ?_
    refine aj (s := 70) rfl (fun g70 => ?_) (fun g70 => ?_)
    ·
     have q70 := aP g70
     refine wb ?_; refine eq rfl rfl rfl (eq rfl rfl rfl ?_); refine cI ?_; refine pb ?_; refine eq rfl rfl rfl (eq rfl rfl rfl (eq rfl rfl rfl (eq rfl rfl rfl ?_))); refine cI ?_; refine dP ?_
     exact a8 rfl (by unfold dH; simp_all) ky
    have q70 := aL g70
    exact zq169
   have q65 := of_decide_eq_false g65
   refine jt ?_
   exact zq169
  refine TC.cond rfl (fun c91 => ?_) (fun c91 => ?_)
  · refine iu ?_; refine al (aN (al (al ?_))); exact aN (zq168)
  refine d3 ?_; refine kt ?_
  refine aB rfl rfl rfl rfl (fun b95 => ?_)
  refine TL.append (enc := Str.cells) rfl rfl rfl hO (Src.own [x.label] (.here _) rfl rfl) (by simp; omega) rfl (.skip _ (.skip _ (.skip _ .all))) rfl (fun a96 c96 ob96 hO96 => ?_)
  refine lF ?_
  exact aF (k + 1) _ ob96 H ⟨⟨by omega, by omega⟩, by rw [bX k0 hx]; exact hO96, cj k0 hx (by simpa using c91) hal⟩ ky (fun w hw => hw.drop.drop) (by omega)
 refine fL ?_; refine d7 ?_
 refine TL.pubO hO (.skip _ .all) (by simp) (fun HJ leJ hJ => ?_)
 have hO2 := hJ.cast (show _ = s.ways.map (·.label) by rw [bB c59 k0])
 refine ay (ab rfl rfl rfl rfl) (j8 hO2) rfl ?_; refine eh ?_
 exact zq165
theorem may_ok {H : Hp} (s : SStep) (hs : StepOk H s) :
  FnS Tryz.prog 82 [.agg s.cells.toArray] H (.bool (eg s)) := by
 have hc := hs.c
 have hmc := hc.max
 have hB := bare_rd hs
 refine FnS.enter Tryz.func82 Tryz.ntmps82 rfl rfl (fun w0 => ?_)
 refine zm2 ?_
 refine TL.box rfl rfl (fun b1 => ?_)
 refine pO ?_; refine zm3 ?_
 refine aj (s := 9) rfl (fun g9 => ?_) (fun g9 => ?_)
 ·
  have q9 := of_decide_eq_true g9
  refine iR ?_; refine nM ?_; refine iu ?_
  exact yB
 have q9 := of_decide_eq_false g9
 refine zm9 ?_; refine gW ?_
 refine ag rfl (fun c13 => ?_) (fun c13 => ?_)
 ·
  refine iu ?_
  exact yB
 refine d3 ?_; refine gu ?_; refine ay (ab rfl rfl rfl rfl) (bare_ok s) rfl (TL.alloc rfl (fun b3 => ?_))
 refine o6 ?_
 refine cf (iO (cR s)) 61 [(1, _), (2, _)] ⟨rfl, rfl, trivial⟩ ?_ ?_
 ·
  refine vT ?_
  refine aj (s := 19) rfl (fun g19 => ?_) (fun g19 => ?_)
  ·
   have q19 := aP g19
   refine jt ?_; refine jt ?_
   exact Bk
  have q19 := aL g19
  refine o7 ?_
  refine aj (s := 24) rfl (fun g24 => ?_) (fun g24 => ?_)
  ·
   have q24 := aP g24
   refine jt ?_
   exact Bk
  have q24 := aL g24
  refine o7 ?_
  refine aj (s := 29) rfl (fun g29 => ?_) (fun g29 => ?_)
  ·
   have q29 := aP g29
   exact Bk
  have q29 := aL g29
  refine o7 ?_
  refine aj (s := 34) rfl (fun g34 => ?_) (fun g34 => ?_)
  ·
   have q34 := aP g34
   exact zq188
  have q34 := aL g34
  refine pN ?_
  refine aj (s := 39) rfl (fun g39 => ?_) (fun g39 => ?_)
  ·
   have q39 := aP g39
   exact zq193
  have q39 := aL g39
  refine zm9 ?_; refine aw rfl rfl (ai rfl rfl hB.a) rfl ?_; refine dD ?_
  refine aj (s := 45) rfl (fun g45 => ?_) (fun g45 => ?_)
  ·
   have q45 := of_decide_eq_true g45
   exact zq199
  have q45 := of_decide_eq_false g45
  refine zm9 ?_; refine aw rfl rfl (ai rfl rfl hB.c) rfl ?_; refine dD ?_
  refine aj (s := 51) rfl (fun g51 => ?_) (fun g51 => ?_)
  ·
   have q51 := of_decide_eq_true g51
   exact zq205
  have q51 := of_decide_eq_false g51
  refine zm9 ?_; refine aw rfl rfl (ai rfl rfl hB.w) rfl ?_; refine dD ?_
  refine aj (s := 57) rfl (fun g57 => ?_) (fun g57 => ?_)
  ·
   have q57 := of_decide_eq_true g57
   refine lf ?_
   exact a8 rfl (by unfold iO; simp_all) ⟨rfl, rfl, trivial⟩
  have q57 := of_decide_eq_false g57
  refine zm9 ?_; refine ii ?_
  exact a8 rfl (by unfold iO; simp_all) ⟨rfl, rfl, trivial⟩
 refine TC.cond rfl (fun c61 => ?_) (fun c61 => ?_)
 ·
  refine iu ?_
  exact yB
 refine iS ?_; refine gS ?_; refine TL.nil (ad (TC.block (cf (decide (s.kind = 1) || decide (s.kind = 9)) 64 [(1, _), (2, _), (63, _)] ky ?_ ?_)))
 · exact cC (ah rfl) rfl rfl ky (eT (ah rfl) rfl rfl ky)
 refine TC.cond rfl (fun c64 => ?_) (fun c64 => ?_)
 · refine gS ?_; exact ay (ab rfl rfl rfl rfl) (bK s.name) rfl (kp)
 refine dN ?_
 refine ag rfl (fun c70 => ?_) (fun c70 => ?_)
 · refine zm2 ?_; refine k9 ?_; exact ay (ab rfl rfl rfl rfl) (za s hs) rfl (kp)
 refine dN ?_
 refine ag rfl (fun c74 => ?_) (fun c74 => ?_)
 ·
  refine gS ?_; refine ay (ab rfl rfl rfl rfl) (bK s.name) rfl ?_; refine zm0 ?_
  refine aj (s := 79) rfl (fun g79 => ?_) (fun g79 => ?_)
  ·
   refine fM ?_; refine aK rfl rfl (ab rfl rfl rfl rfl) (bK s.peer) rfl ?_; refine zm3 ?_
   refine aj (s := 84) rfl (fun g84 => ?_) (fun g84 => ?_)
   ·
    refine fM ?_; refine aK rfl rfl (ab rfl rfl rfl rfl) (bK s.label) rfl ?_; refine zm0 ?_
    exact kp
   refine iR ?_; refine zm0 ?_
   exact kp
  refine jt ?_; refine iR ?_; refine zm0 ?_
  exact kp
 refine dN ?_
 refine ag rfl (fun c89 => ?_) (fun c89 => ?_)
 ·
  refine gS ?_; refine ay (ab rfl rfl rfl rfl) (bK s.name) rfl ?_; refine zm0 ?_
  refine aj (s := 94) rfl (fun g94 => ?_) (fun g94 => ?_)
  ·
   refine fM ?_; refine aK rfl rfl (ab rfl rfl rfl rfl) (bK s.peer) rfl ?_; refine zm3 ?_
   refine aj (s := 99) rfl (fun g99 => ?_) (fun g99 => ?_)
   ·
    refine aw rfl rfl (bu rfl (.there _ (.here _)) rfl) rfl (aK rfl rfl (ab rfl rfl rfl rfl) (za s hs) rfl ?_); refine zm0 ?_
    exact kp
   refine sD ?_
   exact kp
  refine jt ?_; refine sD ?_
  exact kp
 refine cf (decide (s.kind = 6) || decide (s.kind = 7)) 103 [(1, _), (2, _), (63, _)] ky ?_ ?_
 · exact cC (ah rfl) rfl rfl ky (eT (ah rfl) rfl rfl ky)
 refine TC.cond rfl (fun c103 => ?_) (fun c103 => ?_)
 ·
  refine gS ?_; refine ay (ab rfl rfl rfl rfl) (bK s.proc) rfl ?_; refine zm0 ?_
  refine aj (s := 109) rfl (fun g109 => ?_) (fun g109 => ?_)
  ·
   refine fM ?_; refine aw rfl rfl (ai rfl rfl hs.a) rfl ?_; refine cN ?_; refine zm0 ?_
   exact kp
  refine eB ?_; refine zm0 ?_
  exact kp
 refine dN ?_
 refine ag rfl (fun c115 => ?_) (fun c115 => ?_)
 ·
  refine TC.seq ?_; refine gS ?_; refine ay (ab rfl rfl rfl rfl) (bK s.name) rfl ?_; refine zm3 ?_
  refine aj (s := 121) rfl (fun g121 => ?_) (fun g121 => ?_)
  ·
   refine vR ?_; refine lH ?_
   exact oV
  refine fM ?_; refine aK rfl rfl (ab rfl rfl rfl rfl) (bK s.label) rfl ?_; refine dD ?_
  refine aj (s := 127) rfl (fun g127 => ?_) (fun g127 => ?_)
  ·
   refine uZ ?_; refine lH ?_
   exact oV
  refine fM ?_; refine aK rfl rfl (ab rfl rfl rfl rfl) (bK s.peer) rfl ?_; refine dD ?_
  refine aj (s := 133) rfl (fun g133 => ?_) (fun g133 => ?_)
  ·
   refine ns ?_; refine lH ?_
   exact oV
  refine fM ?_; refine aw rfl rfl (ai rfl rfl hc) rfl ?_; refine dD ?_
  refine aj (s := 139) rfl (fun g139 => ?_) (fun g139 => ?_)
  ·
   have q139 := of_decide_eq_true g139
   refine eB ?_; refine lH ?_
   exact oV
  have q139 := of_decide_eq_false g139
  refine fM ?_; refine aw rfl rfl (ai rfl rfl hc) rfl ?_; refine gW ?_
  refine ag rfl (fun c144 => ?_) (fun c144 => ?_)
  ·
   refine o8 ?_
   exact oV
  refine d3 ?_; refine gS ?_; refine TL.run (ai rfl rfl hc) rfl ?_; refine zm8 ?_
  refine TC.loop (V := fun k => [(148, .int .i64 k)]) (K := [(2, _), (146, _), (147, _)]) (L := fun k => _) (I := fun k => (0 ≤ k ∧ k ≤ s.casts.length) ∧ s.casts.all (fun c => !eM c) = (s.casts.drop k.toNat).all (fun c => !eM c)) (μ := fun k => (s.casts.length - k).toNat) (i := (0 : Int)) ky ⟨⟨by omega, by omega⟩, rfl⟩ (fun w hw => hw) (fun k hI => ?_)
  obtain ⟨⟨k0, k1⟩, hal⟩ := hI
  refine zm6 ?_
  refine ag rfl (fun c149 => ?_) (fun c149 => ?_)
  ·
   obtain ⟨x, hx⟩ := ao (l := s.casts) k0 c149
   have hxa := hs.cs x (List.mem_of_getElem? hx)
   refine dC ?_; refine TL.run (af rfl hc rfl (by omega) (by omega)) rfl (TL.run (bh hc hx rfl rfl) rfl (TL.alloc rfl (fun b5 => ?_)))
   refine fu ?_
   refine cf (eM x) 167 [(2, _), (5, _), (146, _), (147, _), (148, _), (149, _), (150, _), (151, _)] ky ?_ ?_
   ·
    refine oX ?_; refine ay (ab rfl rfl rfl rfl) (bK x.role) rfl ?_; refine zm3 ?_
    refine aj (s := 156) rfl (fun g156 => ?_) (fun g156 => ?_)
    ·
     refine ns ?_; refine dP ?_
     exact a8 rfl (by unfold eM; simp_all) ky
    refine zm9 ?_; refine aK rfl rfl (ab rfl rfl rfl rfl) (bK x.proc) rfl ?_; refine dD ?_
    refine aj (s := 162) rfl (fun g162 => ?_) (fun g162 => ?_)
    ·
     refine mE ?_
     exact a8 rfl (by unfold eM; simp_all) ky
    refine zm9 ?_; refine aw rfl rfl (ai rfl rfl hxa) rfl ?_; refine ii ?_
    exact a8 rfl (by unfold eM; simp_all) ky
   refine TC.cond rfl (fun c167 => ?_) (fun c167 => ?_)
   ·
    have hall := dx (p := fun c => !eM c) k0 hx (by simp [c167]) hal
    clear hal
    refine or ?_; exact al (aN (oV))
   refine lg ?_
   exact aR (k + 1) ⟨⟨by omega, by omega⟩, cj k0 hx (by simpa using c167) hal⟩ ky (fun w hw => hw.drop) (by omega)
  have hall := cW (p := fun c => !eM c) k0 c149 hal
  clear hal
  refine TC.exit (bv (bv (bS ?_))); refine bA (ad ?_); refine iu ?_
  exact Bl
 refine we ?_
 exact Bl
theorem l7 {H : Hp} (s : SStep) (hs : StepOk H s) (hl : s.ways.length ≤ 1000) :
  FnO Tryz.prog 83 [.agg s.cells.toArray] H (fun v H1 ob => H1 = H ∧ OwnSl 1 I64.cells v (aS s) ob) := by
 have hw := hs.w
 have hmw := hw.max
 refine FnO.enter Tryz.func83 Tryz.ntmps83 rfl rfl (fun w0 => ?_)
 refine zm2 ?_
 refine TL.box rfl rfl (fun b1 => ?_)
 refine pO ?_; refine ay (ab rfl rfl rfl rfl) (oR s.kind) rfl (TL.nil (ad (TC.cond rfl (fun c8 => ?_) (fun c8 => ?_))))
 ·
  refine fw ?_
  refine aB rfl rfl rfl rfl (fun b11 => ?_)
  refine rS ?_
  exact ez (.inr rfl) (ae rfl (RVal.tmp rfl)) (.take (.here _) rfl) ⟨rfl, by unfold aS; rw [if_pos c8]; exact OwnSl.blk (enc := I64.cells) [s.next] rfl rfl (by decide)⟩
 refine d3 ?_; refine vU ?_; refine TL.run (ai rfl rfl hw) rfl ?_; refine zm8 ?_
 refine aV (V := fun k v ob H1 => [(3, v), (15, .int .i64 k)]) (K := [(2, _), (13, _), (14, _)]) (L := fun k v ob H1 => St [] w0 H H ((b1, _) :: ob)) (I := fun k v ob H1 => (0 ≤ k ∧ k ≤ s.ways.length) ∧ OwnSl 1 I64.cells v ((s.ways.take k.toNat).map (·.next)) ob) (μ := fun k => (s.ways.length - k).toNat) 0 (.slice none 0 0) [] H ky ⟨⟨by omega, by omega⟩, OwnSl.nil⟩ (fun w hw => hw) (fun k v ob H1 hI => ?_)
 obtain ⟨⟨k0, k1⟩, hO⟩ := hI
 obtain ⟨va, vc, rfl⟩ := hO.form
 refine zm6 ?_
 refine ag rfl (fun c16 => ?_) (fun c16 => ?_)
 ·
  obtain ⟨x, hx⟩ := ao (l := s.ways) k0 c16
  refine dC ?_; refine TL.run (af rfl hw rfl (by omega) (by omega)) rfl (TL.run (bh hw hx rfl rfl) rfl (TL.alloc rfl (fun b5 => ?_)))
  refine vQ ?_
  refine aB rfl rfl rfl rfl (fun b22 => ?_)
  refine TL.append (enc := I64.cells) rfl rfl rfl hO (Src.own [x.next] (.here _) rfl rfl) (by simp; omega) rfl (.skip _ (.skip _ (.skip _ .all))) rfl (fun a23 c23 ob23 hO23 => ?_)
  refine lF ?_
  exact aF (k + 1) _ ob23 H ⟨⟨by omega, by omega⟩, by rw [bX k0 hx]; exact hO23⟩ ky (fun w hw => hw.drop.drop) (by omega)
 refine rA ?_
 exact ez (.inr rfl) (ae rfl (RVal.tmp rfl)) (.skip _ .all) ⟨rfl, hO.cast (by unfold aS; rw [if_neg (by rw [c8]; decide), bB c16 k0])⟩
end Go.Sx
namespace Go.Sx
open Go Go.Proofs
theorem wt {H : Hp} (s : SStep) (hs : StepOk H s) (hl : s.args.length ≤ 6 ∧ s.casts.length ≤ 4 ∧ ∀ c ∈ s.casts, c.args.length ≤ 6) :
  FnO Tryz.prog 84 [.agg s.cells.toArray] H (fun v H1 ob => H1 = H ∧ OwnSl 1 I64.cells v (bD s) ob) := by
 have hc := hs.c
 have ha := hs.a
 obtain ⟨hl1, hl2, hl3⟩ := hl
 refine FnO.enter Tryz.func84 Tryz.ntmps84 rfl rfl (fun w0 => ?_)
 refine zm2 ?_
 refine TL.box rfl rfl (fun b1 => ?_)
 refine zm1 ?_; refine vU ?_; refine TL.nil (ad (TC.block (cf (decide (s.kind = 1) || (decide (s.kind = 2) || decide (s.kind = 3))) 8 [(1, _), (2, _), (3, _), (7, _)] ky ?_ ?_)))
 · exact cC (ah rfl) rfl rfl ky (cC (ah rfl) rfl rfl ky (eT (ah rfl) rfl rfl ky))
 refine TC.cond rfl (fun c8 => ?_) (fun c8 => ?_)
 ·
  have h8 : s.kind = 1 ∨ s.kind = 2 ∨ s.kind = 3 := by simpa [or_assoc] using c8
  refine kt ?_
  refine aB rfl rfl rfl rfl (fun b15 => ?_)
  refine TL.append (enc := I64.cells) rfl rfl rfl (OwnSl.nil (enc := I64.cells)) (Src.own [s.term] (.here _) rfl rfl) (by simp) rfl (.new _ rfl) rfl (fun a16 c16 ob16 hO16 => ?_)
  refine dP ?_; refine bA (ad ?_); refine d7 ?_; refine iz ?_
  refine TL.append (enc := I64.cells) rfl rfl rfl hO16 (Src.sl ha) (by simp; omega) rfl (.skip _ (.skip _ .all)) rfl (fun a30 c30 ob30 hO30 => ?_)
  refine pL ?_; refine TL.run (ai rfl rfl hc) rfl ?_; refine zm8 ?_
  refine aV (V := fun k v ob H1 => [(3, v), (34, .int .i64 k)]) (K := [(2, _), (32, _), (33, _)]) (L := fun k v ob H1 => St [] w0 H H ((b15, _) :: (b1, _) :: ob)) (I := fun k v ob H1 => (0 ≤ k ∧ k ≤ s.casts.length) ∧ OwnSl 1 I64.cells v (ji s ++ (s.casts.take k.toNat).flatMap (·.args)) ob ∧ ((s.casts.take k.toNat).flatMap (·.args)).length ≤ 6 * k.toNat) (μ := fun k => (s.casts.length - k).toNat) 0 _ ob30 H ky ⟨⟨by omega, by omega⟩, hO30.cast (by first | (rw [ub h8]; simp) | (rw [ud c17 c21]; simp) | (rw [jU h8 (.inr c21)]; simp) | (rw [jU h8 (.inl c17)]; simp)), by simp⟩ (fun w hw => hw) (fun k v ob H1 hI => ?_)
  exact zq240
 have h8 : ¬ s.kind = 1 ∧ ¬ s.kind = 2 ∧ ¬ s.kind = 3 := by simpa [and_assoc] using c8
 refine dN ?_
 refine ag rfl (fun c17 => ?_) (fun c17 => ?_)
 ·
  refine oY ?_
  refine aW rfl (fun c21 => ?_) (fun c21 => ?_)
  ·
   refine kt ?_
   refine aB rfl rfl rfl rfl (fun b25 => ?_)
   refine TL.append (enc := I64.cells) rfl rfl rfl (OwnSl.nil (enc := I64.cells)) (Src.own [s.term] (.here _) rfl rfl) (by simp) rfl (.new _ rfl) rfl (fun a26 c26 ob26 hO26 => ?_)
   refine dP ?_; refine bA (ad ?_); refine d7 ?_; refine iz ?_
   refine TL.append (enc := I64.cells) rfl rfl rfl hO26 (Src.sl ha) (by simp; omega) rfl (.skip _ (.skip _ .all)) rfl (fun a30 c30 ob30 hO30 => ?_)
   refine pL ?_; refine TL.run (ai rfl rfl hc) rfl ?_; refine zm8 ?_
   refine aV (V := fun k v ob H1 => [(3, v), (34, .int .i64 k)]) (K := [(2, _), (32, _), (33, _)]) (L := fun k v ob H1 => St [] w0 H H ((b25, _) :: (b1, _) :: ob)) (I := fun k v ob H1 => (0 ≤ k ∧ k ≤ s.casts.length) ∧ OwnSl 1 I64.cells v (ji s ++ (s.casts.take k.toNat).flatMap (·.args)) ob ∧ ((s.casts.take k.toNat).flatMap (·.args)).length ≤ 6 * k.toNat) (μ := fun k => (s.casts.length - k).toNat) 0 _ ob30 H ky ⟨⟨by omega, by omega⟩, hO30.cast (by first | (rw [ub h8]; simp) | (rw [ud c17 c21]; simp) | (rw [jU h8 (.inr c21)]; simp) | (rw [jU h8 (.inl c17)]; simp)), by simp⟩ (fun w hw => hw) (fun k v ob H1 hI => ?_)
   exact zq240
  exact zq208
 exact zq208
theorem rf {H : Hp} (s : SStep) (hs : StepOk H s) (hl : s.ways.length ≤ 1000) :
  FnO Tryz.prog 87 [.agg s.cells.toArray] H (fun v H1 ob => H1 = H ∧ OwnSl 1 Str.cells v (cd s) ob) := by
 have hw := hs.w
 have hnl := AC s hl
 refine FnO.enter Tryz.func87 Tryz.ntmps87 rfl rfl (fun w0 => ?_)
 refine zm2 ?_
 refine TL.box rfl rfl (fun b1 => ?_)
 refine pO ?_; refine TL.nil (ad (TC.block (cf (decide (s.kind = 1) || decide (s.kind = 8)) 8 [(1, _), (2, _), (7, _)] ky ?_ ?_)))
 · exact cC (ah rfl) rfl rfl ky (eT (ah rfl) rfl rfl ky)
 refine TC.cond rfl (fun c8 => ?_) (fun c8 => ?_)
 ·
  have h8 : s.kind = 1 ∨ s.kind = 8 := by simpa using c8
  refine fw ?_
  refine aB rfl rfl rfl rfl (fun b13 => ?_)
  refine eh ?_; exact aN (al (ez (.inr rfl) (ae rfl (RVal.tmp rfl)) (.take (.here _) rfl) ⟨rfl, (OwnSl.blk (enc := Str.cells) [s.name] rfl rfl (by simp)).cast (by unfold cd; rw [if_pos h8])⟩))
 have h8 : ¬ (s.kind = 1 ∨ s.kind = 8) := by simpa using c8
 refine dN ?_
 refine ag rfl (fun c14 => ?_) (fun c14 => ?_)
 ·
  refine vU ?_; refine TL.run (ai rfl rfl hw) rfl ?_; refine zm8 ?_
  refine aV (V := fun k v ob H1 => [(3, v), (19, .int .i64 k)]) (K := [(1, _), (2, _), (17, _), (18, _)]) (L := fun k v ob H1 => St [] w0 H H ((b1, _) :: ob)) (I := fun k v ob H1 => (0 ≤ k ∧ k ≤ s.ways.length) ∧ OwnSl 1 Str.cells v ((s.ways.take k.toNat).map (·.name)) ob) (μ := fun k => (s.ways.length - k).toNat) 0 (.slice none 0 0) [] H ky ⟨⟨by omega, by omega⟩, OwnSl.nil⟩ (fun w hw => hw) (fun k v ob H1 hI => ?_)
  obtain ⟨⟨k0, k1⟩, hO⟩ := hI
  obtain ⟨va, vc, rfl⟩ := hO.form
  refine zm6 ?_
  refine ag rfl (fun c20 => ?_) (fun c20 => ?_)
  ·
   obtain ⟨x, hx⟩ := ao (l := s.ways) k0 c20
   refine dC ?_; refine TL.run (af rfl hw rfl (by omega) (by omega)) rfl (TL.run (bh hw hx rfl rfl) rfl (TL.alloc rfl (fun b5 => ?_)))
   refine vQ ?_
   refine aB rfl rfl rfl rfl (fun b26 => ?_)
   refine TL.append (enc := Str.cells) rfl rfl rfl hO (Src.own [x.name] (.here _) rfl rfl) (by simp; omega) rfl (.skip _ (.skip _ (.skip _ .all))) rfl (fun a27 c27 ob27 hO27 => ?_)
   refine lF ?_
   exact aF (k + 1) _ ob27 H ⟨⟨by omega, by omega⟩, by rw [bX k0 hx]; exact hO27⟩ ky (fun w hw => hw.drop.drop) (by omega)
  refine rA ?_; exact aN (al (ez (.inr rfl) (ae rfl (RVal.tmp rfl)) (.skip _ .all) ⟨rfl, hO.cast (by unfold cd; rw [if_neg h8, if_pos c14, bB c20 k0])⟩))
 refine TC.skip (bA (ad ?_)); refine gu ?_
 refine cS (ab rfl rfl rfl rfl) (l7 s hs hl) rfl (fun v31 H31 ob31 hle31 hp31 => ?_)
 obtain ⟨rfl, hO31⟩ := hp31
 obtain ⟨a31, c31, rfl⟩ := hO31.form
 refine TL.run (bG rfl rfl hO31) rfl (gw rfl rfl (by first | omega | decide) (by first | omega | decide) (by first | omega | decide) rfl (fun b33 => ?_))
 refine eh ?_
 exact ez (.inr rfl) (ae rfl (RVal.tmp rfl)) (.take (.here _) rfl) ⟨rfl, CE (by unfold cd; rw [if_neg h8, if_neg c14]) (by omega)⟩
theorem CW {H : Hp} {at_ : Int} {bl bo bw : Nat} {u : Value} {xs : List Int} {ob : aq} (hneg : at_ < 0) (hO : OwnSl 1 I64.cells u xs ob) :
  FnX Tryz.prog 141 [.int .i64 at_, .pointer (some ⟨bw, 0, none⟩), .pointer (some ⟨bl, 0, none⟩), .pointer (some ⟨bo, 0, none⟩)] H ((bo, [u]) :: ob) (fun r H' L' => r = .tuple #[] ∧ H' = H ∧ ∃ u' ob', L' = (bo, [u']) :: ob' ∧ OwnSl 1 I64.cells u' xs ob') := by
 refine FnX.enter Tryz.func141 Tryz.ntmps141 rfl rfl (fun w0 => ?_)
 refine y8 ?_
 refine ag rfl (fun c6 => ?_) (fun c6 => ?_)
 · exact TC.ret (al (aY (.inr rfl) (cg rfl) (fun w hw => hw) ⟨rfl, rfl, _, _, rfl, hO⟩))
 exact absurd hneg c6
theorem CV {H : Hp} {l : List Term} {v : Value} {bl bo bw : Nat} (hT : RdSl H 6 Term.cells v l) (hl : H bl 0 = some v) (hw : H bw 0 = some (.func (.func 141) #[] #[.pointer (some ⟨bw, 0, none⟩), .pointer (some ⟨bl, 0, none⟩), .pointer (some ⟨bo, 0, none⟩)])) :
  ∀ (f : Nat) (at_ : Int), (at_ < 0 ∨ Tr l f at_) → ∀ (u : Value) (xs : List Int) (ob : aq), OwnSl 1 I64.cells u xs ob → xs.length + (dz l f at_).length ≤ 100000000 →
   FnX Tryz.prog 141 [.int .i64 at_, .pointer (some ⟨bw, 0, none⟩), .pointer (some ⟨bl, 0, none⟩), .pointer (some ⟨bo, 0, none⟩)] H ((bo, [u]) :: ob) (fun r H' L' => r = .tuple #[] ∧ H' = H ∧ ∃ u' ob', L' = (bo, [u']) :: ob' ∧ OwnSl 1 I64.cells u' (xs ++ dz l f at_) ob') := by
 intro f
 induction f with
 | zero =>
  intro at_ h u xs ob hO hlen
  have h0 : at_ < 0 := h.resolve_right (fun h => h)
  rw [fX h0, List.append_nil]
  exact CW h0 hO
 | succ f ih =>
 intro at_ h u xs ob hO hlen
 have one0 := hT.isOne
 obtain ⟨ua, uc, rfl⟩ := hO.form
 refine FnX.enter Tryz.func141 Tryz.ntmps141 rfl rfl (fun w0 => ?_)
 refine y8 ?_
 refine ag rfl (fun c6 => ?_) (fun c6 => ?_)
 · exact TC.ret (al (aY (.inr rfl) (cg rfl) (fun w hw => hw) ⟨rfl, rfl, _, _, rfl, by rw [fX c6, List.append_nil]; exact hO⟩))
 obtain ⟨h0, t, hx, _, _, hTl0, hTl1, hTr0, hTr1⟩ := h.resolve_left c6
 have hlt : at_.toNat < l.length := (List.getElem?_eq_some_iff.1 hx).1
 rw [iK c6 hx] at hlen
 simp only [List.length_append, List.length_cons, List.length_nil] at hlen
 have hTl : t.l < 0 ∨ Tr l f t.l := by rcases Int.lt_or_le (ak t.kind) 1 with h1 | h1; exact .inl (by have := hTl1 h1; omega); exact .inr (hTl0 h1)
 have hTr : t.r < 0 ∨ Tr l f t.r := by rcases Int.lt_or_le (ak t.kind) 2 with h1 | h1; exact .inl (by have := hTr1 h1; omega); exact .inr (hTr0 h1)
 refine iS ?_; refine eP ?_; refine y2 ?_; refine a7 (bI rfl hw) rfl ?_; refine vW ?_
 refine bj (fZ (L1 := (bo, [(.slice ua _ uc)]) :: ob) (ab rfl rfl rfl rfl) (ih t.l (hTl) _ _ _ hO (by omega)) rfl (fun v13 H13 L13 hle13 hp13 => ?_))
 obtain ⟨rfl, rfl, u13, ob13, rfl, hO13⟩ := hp13
 obtain ⟨ua13, uc13, rfl⟩ := hO13.form
 refine jr ?_; refine k6 ?_; refine y2 ?_; refine a7 (bI rfl hw) rfl ?_; refine vW ?_
 refine bj (fZ (L1 := (bo, [(.slice ua13 _ uc13)]) :: ob13) (ab rfl rfl rfl rfl) (ih t.r (hTr) _ _ _ hO13 (by simp only [List.length_append]; omega)) rfl (fun v20 H20 L20 hle20 hp20 => ?_))
 obtain ⟨rfl, rfl, u20, ob20, rfl, hO20⟩ := hp20
 obtain ⟨ua20, uc20, rfl⟩ := hO20.form
 refine jr ?_; refine TC.region ?_; refine zm230 ?_
 refine aB rfl rfl rfl rfl (fun b23 => ?_)
 refine TL.append (enc := I64.cells) rfl rfl rfl hO20 (Src.own [at_] (.here _) rfl rfl) (by simp; omega) rfl (.skip _ (.skip _ .all)) rfl (fun a24 c24 ob24 hO24 => ?_)
 exact iP rfl rfl rfl (.there _ (.here _)) rfl (TL.nil (aY (.inl rfl) (cg rfl) (fun w hw => hw.drop) ⟨rfl, rfl, _, _, rfl, by rw [iK c6 hx, ← List.append_assoc, ← List.append_assoc]; exact hO24⟩))
end Go.Sx
namespace Go.Sx
open Go Go.Proofs
theorem wz {H : Hp} (ck : Int) (cn : Str) (hn : cn.length ≤ 4294960000) (hM : MaxG H) :
  FnS Tryz.prog 182 [.agg #[.int .i64 ck, gs cn]] H (.bool (dt ck cn)) := by
 refine FnS.enter Tryz.func182 Tryz.ntmps182 rfl rfl (fun w0 => ?_)
 refine zm2 ?_
 refine TL.box rfl rfl (fun b1 => ?_)
 refine pO ?_; refine zm3 ?_
 refine aj (s := 9) rfl (fun g9 => ?_) (fun g9 => ?_)
 ·
  have q9 := of_decide_eq_true g9
  refine iR ?_; refine lH ?_
  exact ax (.inr rfl) (ae rfl (RVal.tmp rfl)) (congrArg Value.bool (by unfold dt; simp_all))
 have q9 := of_decide_eq_false g9
 refine zm9 ?_; refine gW ?_
 refine ag rfl (fun c13 => ?_) (fun c13 => ?_)
 ·
  refine o8 ?_
  exact ax (.inr rfl) (ae rfl (RVal.tmp rfl)) (congrArg Value.bool (by unfold dt; simp_all))
 refine iS ?_; refine oY ?_
 refine aW rfl (fun c16 => ?_) (fun c16 => ?_)
 ·
  refine fw ?_; refine TL.run (bV rfl rfl rfl) rfl ?_; refine rS ?_
  exact ax (.inr rfl) (ae rfl (RVal.tmp rfl)) (congrArg Value.bool (by unfold dt; simp_all))
 refine d3 ?_; refine fw ?_; refine ay (ab rfl rfl rfl rfl) (cut_ok cn hn hM) rfl ?_; refine pK ?_; refine zm3 ?_; refine kM ?_; refine ay (ab rfl rfl rfl rfl) (bK (kY cn).1) rfl ?_
 refine zm0 ?_
 refine aj (s := 29) rfl (fun g29 => ?_) (fun g29 => ?_)
 ·
  refine ge ?_; refine cN ?_
  refine aj (s := 32) rfl (fun g32 => ?_) (fun g32 => ?_)
  ·
   refine lh ?_; refine cN ?_; refine ff ?_
   exact ax (.inr rfl) (ae rfl (RVal.tmp rfl)) (congrArg Value.bool (by unfold dt; simp_all))
  refine cN ?_; refine aK rfl rfl (ab rfl rfl rfl rfl) (bK (kY cn).2.1) rfl ?_; refine cN ?_; refine ff ?_
  exact ax (.inr rfl) (ae rfl (RVal.tmp rfl)) (congrArg Value.bool (by unfold dt; simp_all))
 refine iR ?_; refine eq rfl rfl rfl (eq rfl rfl rfl ?_); refine cI ?_; refine ff ?_
 exact ax (.inr rfl) (ae rfl (RVal.tmp rfl)) (congrArg Value.bool (by unfold dt; simp_all))
theorem Cl {H : Hp} {l : List SArm} {v : Value} (n : Int) (hA : RdSl H 4 SArm.cells v l) (hz : ∀ a ∈ l, a.cn.length ≤ 4294960000) (hM : MaxG H) :
  FnS Tryz.prog 135 [v, .int .i64 n] H (.bool (d6 l n)) := by
 have hmx := hA.max
 have one0 := hA.isOne
 obtain ⟨va, vc, rfl⟩ := hA.len
 refine FnS.enter Tryz.func135 Tryz.ntmps135 rfl rfl (fun w0 => ?_)
 refine ln ?_; refine TL.run (ai rfl rfl hA) rfl ?_; refine zm3 ?_
 refine aj (s := 11) rfl (fun g11 => ?_) (fun g11 => ?_)
 ·
  have q11 := of_decide_eq_true g11
  refine iR ?_; refine lH ?_
  exact ax (.inr rfl) (ae rfl (RVal.tmp rfl)) (congrArg Value.bool (xx (by omega)))
 have q11 := of_decide_eq_false g11
 refine cN ?_; refine aw rfl rfl (ai rfl rfl hA) rfl ?_; refine gW ?_
 refine ag rfl (fun c15 => ?_) (fun c15 => ?_)
 ·
  refine o8 ?_
  exact ax (.inr rfl) (ae rfl (RVal.tmp rfl)) (congrArg Value.bool (xx (by omega)))
 have hlen : 1 ≤ l.length ∧ l.length ≤ 6 := by omega
 refine pQ ?_
 refine yx rfl (fun bm w1 hM1 => ?_)
 refine sC ?_; refine TL.run (ai rfl rfl hA) rfl ?_; refine zm8 ?_
 refine TC.loop (V := fun k => [(19, .int .i64 k)]) (K := [(1, _), (4, _), (5, _), (17, _), (18, _)]) (L := fun k => StM [] w0 H H [] bm ((l.take k.toNat).map (·.label))) (I := fun k => (0 ≤ k ∧ k ≤ l.length) ∧ (l.take k.toNat).all (fi n) = true ∧ ((l.take k.toNat).map (·.label)).Nodup) (μ := fun k => (l.length - k).toNat) (i := (0 : Int)) ky ⟨⟨by omega, by omega⟩, rfl, List.nodup_nil⟩ (fun w hw => hM1.over hw) (fun k hI => ?_)
 obtain ⟨⟨k0, k1⟩, hal, hnd⟩ := hI
 refine Be (fun w2 hM2 => ?_)
 refine zm6 ?_
 refine ag rfl (fun c20 => ?_) (fun c20 => ?_)
 ·
  obtain ⟨x, hx⟩ := ao (l := l) k0 c20
  refine dC ?_; refine TL.run (af rfl hA rfl (by omega) (by omega)) rfl (TL.run (bh hA hx rfl rfl) rfl (TL.alloc rfl (fun b7 => ?_)))
  refine o6 ?_
  refine cf (!fi n x || decide (x.label ∈ ((l.take k.toNat).map (·.label)))) 49 [(1, _), (4, _), (5, _), (7, _), (17, _), (18, _), (19, _), (20, _), (21, _), (22, _)] ky ?_ ?_
  ·
   refine oX ?_; refine ay (ab rfl rfl rfl rfl) (bK x.label) rfl ?_; refine zm3 ?_
   refine aj (s := 27) rfl (fun g27 => ?_) (fun g27 => ?_)
   ·
    refine ns ?_; refine zm3 ?_; refine vP ?_
    exact a8 rfl (by unfold fi; first | (simp_all; done) | (simp_all; omega)) ky
   refine cN ?_; refine zm9 ?_; refine aw rfl rfl (At hM2 rfl rfl) rfl ?_; refine zm3 ?_
   refine aj (s := 33) rfl (fun g33 => ?_) (fun g33 => ?_)
   ·
    refine eB ?_; refine zm3 ?_; refine vP ?_
    exact a8 rfl (by unfold fi; first | (simp_all; done) | (simp_all; omega)) ky
   refine jn ?_; refine aw rfl rfl (iZ rfl (.here _) rfl) rfl (aK rfl rfl (ab rfl rfl rfl rfl) (wz x.ck x.cn (hz x (List.mem_of_getElem? hx)) hM) rfl ?_); refine dD ?_
   refine aj (s := 39) rfl (fun g39 => ?_) (fun g39 => ?_)
   ·
    refine vP ?_
    exact a8 rfl (by unfold fi; first | (simp_all; done) | (simp_all; omega)) ky
   refine pN ?_
   refine aj (s := 44) rfl (fun g44 => ?_) (fun g44 => ?_)
   ·
    have q44 := of_decide_eq_true g44
    refine mE ?_
    exact a8 rfl (by unfold fi; first | (simp_all; done) | (simp_all; omega)) ky
   have q44 := of_decide_eq_false g44
   refine zm9 ?_; refine ge ?_; refine dP ?_
   exact a8 rfl (by unfold fi; first | (simp_all; done) | (simp_all; omega)) ky
  refine TC.cond rfl (fun c49 => ?_) (fun c49 => ?_)
  · refine iu ?_; refine km ?_; exact tV hM2 (ax (.inr rfl) (ae rfl (RVal.tmp rfl)) (congrArg Value.bool (DN k0 hx (by simpa using c49))))
  have h49 : fi n x = true ∧ x.label ∉ ((l.take k.toNat).map (·.label)) := by simpa using c49
  refine d3 ?_; refine kt ?_; refine Ba rfl rfl rfl h49.2 rfl hM2 ?_; refine o5 ?_
  exact aR (k + 1) ⟨⟨by omega, by omega⟩, by rw [bR k0 hx, List.all_append, hal, List.all_cons, h49.1]; rfl, yc k0 hx hnd h49.2⟩ ky (fun w hw => by rw [bX k0 hx]; exact hw.drop) (by omega)
 refine gv ?_; exact tV hM2 (ax (.inr rfl) (ae rfl (RVal.tmp rfl)) (congrArg Value.bool (DM hlen k0 c20 hal hnd)))
theorem t8 {H : Hp} (l : SLocal) (hl : LocalOk H l) (hM : MaxG H) :
  FnS Tryz.prog 78 [.agg l.cells.toArray] H (.bool (ci l)) := by
 have ht := hl.t
 have hmt := ht.max
 refine FnS.enter Tryz.func78 Tryz.ntmps78 rfl rfl (fun w0 => ?_)
 refine zm2 ?_
 refine TL.box rfl rfl (fun b1 => ?_)
 refine pO ?_; refine TL.run (ai rfl rfl ht) rfl ?_; refine zm3 ?_
 refine aj (s := 9) rfl (fun g9 => ?_) (fun g9 => ?_)
 ·
  have q9 := of_decide_eq_true g9
  refine eB ?_; refine lH ?_
  exact ax (.inr rfl) (ae rfl (RVal.tmp rfl)) (congrArg Value.bool (tJ (by omega)))
 have q9 := of_decide_eq_false g9
 refine zm9 ?_; refine aw rfl rfl (ai rfl rfl ht) rfl ?_; refine gW ?_
 refine ag rfl (fun c14 => ?_) (fun c14 => ?_)
 ·
  refine o8 ?_
  exact ax (.inr rfl) (ae rfl (RVal.tmp rfl)) (congrArg Value.bool (tJ (by omega)))
 have hlen : 1 ≤ l.turns.length ∧ l.turns.length ≤ 40 := by omega
 refine iS ?_; refine fw ?_; refine TL.run (ai rfl rfl ht) rfl ?_; refine zm8 ?_
 refine TC.loop (V := fun k => [(18, .int .i64 k)]) (K := [(1, _), (2, _), (16, _), (17, _)]) (L := fun k => _) (I := fun k => (0 ≤ k ∧ k ≤ l.turns.length) ∧ l.turns.all (fk l.turns.length) = (l.turns.drop k.toNat).all (fk l.turns.length)) (μ := fun k => (l.turns.length - k).toNat) (i := (0 : Int)) ky ⟨⟨by omega, by omega⟩, rfl⟩ (fun w hw => hw) (fun k hI => ?_)
 obtain ⟨⟨k0, k1⟩, hal⟩ := hI
 refine zm6 ?_
 refine ag rfl (fun c19 => ?_) (fun c19 => ?_)
 ·
  obtain ⟨x, hx⟩ := ao (l := l.turns) k0 c19
  have hT := hl.ts x (List.mem_of_getElem? hx)
  refine dC ?_; refine TL.run (af rfl ht rfl (by omega) (by omega)) rfl (TL.run (bh ht hx rfl rfl) rfl (TL.alloc rfl (fun b4 => ?_)))
  refine nN ?_
  refine TL.nil (ad (TC.block (cf (decide (x.kind = 0)) 24 [(1, _), (2, _), (4, _), (16, _), (17, _), (18, _), (19, _), (20, _), (21, _), (22, _), (23, _)] ky ?_ ?_)))
  · exact eT (ah rfl) rfl rfl ky
  refine ag rfl (fun c24 => ?_) (fun c24 => ?_)
  ·
   refine wd ?_
   refine aj (s := 29) rfl (fun g29 => ?_) (fun g29 => ?_)
   ·
    have q29 := aP g29
    refine eB ?_; refine nM ?_; refine vO ?_
    exact ax (.inr rfl) (ae rfl (RVal.tmp rfl)) (congrArg Value.bool (iM k0 hx (by unfold fk; simp_all) hal))
   have q29 := aL g29
   refine zm9 ?_; refine aw rfl rfl (ai rfl rfl hT.a) rfl ?_; refine gW ?_
   refine ag rfl (fun c34 => ?_) (fun c34 => ?_)
   ·
    refine vO ?_
    exact ax (.inr rfl) (ae rfl (RVal.tmp rfl)) (congrArg Value.bool (iM k0 hx (by unfold fk; simp_all) hal))
   refine TC.skip (bA ?_); refine o9 ?_
   exact aR (k + 1) ⟨⟨by omega, by omega⟩, cj (p := (fk l.turns.length)) k0 hx (by unfold fk; simp_all) hal⟩ ky (fun w hw => hw.drop) (by omega)
  refine cf (decide (x.kind = 1) || decide (x.kind = 2)) 35 [(1, _), (2, _), (4, _), (16, _), (17, _), (18, _), (19, _), (20, _), (21, _), (22, _), (23, _), (24, _)] ky ?_ ?_
  · exact cC (ah rfl) rfl rfl ky (eT (ah rfl) rfl rfl ky)
  refine TC.cond rfl (fun c35 => ?_) (fun c35 => ?_)
  ·
   refine fw ?_; refine ay (ab rfl rfl rfl rfl) (bK x.peer) rfl ?_; refine zm3 ?_
   refine aj (s := 42) rfl (fun g42 => ?_) (fun g42 => ?_)
   ·
    refine eB ?_; refine iR ?_; refine nM ?_; refine vO ?_
    exact ax (.inr rfl) (ae rfl (RVal.tmp rfl)) (congrArg Value.bool (iM k0 hx (by unfold fk; simp_all) hal))
   refine zm9 ?_; refine fM ?_; refine aw rfl rfl (ai rfl rfl ht) rfl (aK rfl rfl (ab rfl rfl rfl rfl) (Cl _ hT.a hT.z hM) rfl ?_); refine gW ?_
   refine TC.cond rfl (fun c50 => ?_) (fun c50 => ?_)
   ·
    refine vO ?_
    exact ax (.inr rfl) (ae rfl (RVal.tmp rfl)) (congrArg Value.bool (iM k0 hx (by unfold fk; simp_all) hal))
   refine TC.skip (bA ?_); refine o9 ?_
   exact aR (k + 1) ⟨⟨by omega, by omega⟩, cj (p := (fk l.turns.length)) k0 hx (by unfold fk; simp_all) hal⟩ ky (fun w hw => hw.drop) (by omega)
  refine vO ?_
  exact ax (.inr rfl) (ae rfl (RVal.tmp rfl)) (congrArg Value.bool (iM k0 hx (by unfold fk; simp_all) hal))
 refine gv ?_
 exact ax (.inr rfl) (ae rfl (RVal.tmp rfl)) (congrArg Value.bool (AK hlen k0 c19 hal))
theorem wB {H : Hp} (ck : Int) (cn : Str) (hn : cn.length ≤ 4294960000) (hM : MaxG H) :
  FnS Tryz.prog 80 [.agg #[.int .i64 ck, gs cn]] H (.bool (dt ck cn)) := by
 refine FnS.enter Tryz.func80 Tryz.ntmps80 rfl rfl (fun w0 => ?_)
 refine zm2 ?_
 refine TL.box rfl rfl (fun b1 => ?_)
 refine zm1 ?_; refine gu ?_; refine dy ?_
 refine aB rfl rfl rfl rfl (fun b5 => ?_)
 refine dy ?_
 refine aB rfl rfl rfl rfl (fun b7 => ?_)
 refine dy ?_; refine eI (.there _ (.here _)) (dK (by simp) (fun H_b5 le_b5 rd_b5 => ?_))
 replace hM := hM.le le_b5
 have hA5 : RdSl H_b5 4 SArm.cells _ ([⟨[120], ck, cn, 0⟩]) := RdSl.blk (cap := 1) rd_b5 (by intro x hx; rfl) (by kernel_rfl) (by show 1 ≤ 9223372036854775807; decide)
 refine dK (by simp) (fun H_b7 le_b7 rd_b7 => ?_)
 replace hM := hM.le le_b7
 replace hA5 := hA5.le le_b7
 have hT7 : RdSl H_b7 3 STurn.cells _ ([⟨1, [120], [⟨[120], ck, cn, 0⟩], (some ⟨b5, 0, none⟩, 1)⟩]) := RdSl.blk (cap := 1) rd_b7 (by intro x hx; rfl) (by kernel_rfl) (by show 1 ≤ 9223372036854775807; decide)
 refine zm373 ?_; refine eh ?_
 exact ax (.inr rfl) (ae rfl (RVal.tmp rfl)) (congrArg Value.bool (rO ck cn _ _))
end Go.Sx
namespace Go.Sx
open Go Go.Proofs
theorem wA {H : Hp} {l : List Term} {v : Value} (root : Int) (hT : RdSl H 6 Term.cells v l) (hm : cA l root = true) :
  FnO Tryz.prog 85 [v, .int .i64 root] H (fun r H1 ob => OwnSl 1 I64.cells r (bH l root) ob) := by
 have one1 := hT.isOne
 have hvl := m5 hm
 refine FnO.enter Tryz.func85 Tryz.ntmps85 rfl rfl (fun w0 => ?_)
 refine zm2 ?_
 refine oU rfl rfl (fun b2 => ?_)
 refine vN ?_
 refine TL.alloc rfl (fun b5 => ?_)
 refine gV ?_
 refine TL.alloc rfl (fun b6 => ?_)
 refine gE ?_; refine sJ ?_
 refine dK (by simp) (fun H_b6 le_b6 rd_b6 => ?_)
 refine eI (.there _ (.here _)) (dK (by simp) (fun H_b2 le_b2 rd_b2 => ?_))
 have hT2 := (hT.le le_b6).le le_b2
 have hl : H_b2 b2 0 = some v := rd_b2 0 _ rfl
 have hw := le_b2 _ _ _ (rd_b6 0 _ rfl)
 refine TL.run (bI rfl hw) rfl ?_; refine zm0 ?_
 refine fZ (L1 := (b5, [.slice none 0 0]) :: []) (ab rfl rfl rfl rfl) (CV hT2 hl hw (root.toNat + 1) root (.inr (md hm)) _ [] [] OwnSl.nil (by simp; omega)) rfl (fun v10 H10 L10 hle10 hp10 => ?_)
 obtain ⟨rfl, rfl, u10, ob10, rfl, hO10⟩ := hp10
 rw [List.nil_append] at hO10
 obtain ⟨ua10, uc10, rfl⟩ := hO10.form
 refine gV ?_; refine k7 ?_; refine eh ?_
 exact ez (.inr rfl) (ae rfl (RVal.tmp rfl)) (.skip _ .all) hO10
theorem mv {H : Hp} {pg : SProg} (s : Str) (n : Int) (hP : ProgOk H pg) :
  FnS Tryz.prog 142 [.agg pg.cells.toArray, gs s, .int .i64 n] H (.bool (bN pg.procs s n)) := by
 have hq := hP.q
 have hmax := hq.max
 refine FnS.enter Tryz.func142 Tryz.ntmps142 rfl rfl (fun w0 => ?_)
 refine zm2 ?_
 refine TL.box rfl rfl (fun b3 => ?_)
 refine zm1 ?_; refine gu ?_; refine zm0 ?_; refine ay (ab rfl rfl rfl rfl) (jB s hP) rfl ?_; refine zm1 ?_; refine gU ?_
 refine aj (s := 13) rfl (fun g13 => ?_) (fun g13 => ?_)
 ·
  have q13 := of_decide_eq_true g13
  have hfr := qZ pg.procs s
  obtain ⟨x, hx⟩ := ao (l := pg.procs) (i := dq pg.procs s) (by omega) (by omega)
  have hxp := (hP.qs x (List.mem_of_getElem? hx)).pa.max
  refine zm9 ?_; refine cN ?_; refine aw rfl rfl (af rfl hq rfl (by omega) (by omega)) rfl ?_; refine jn ?_
  refine aw rfl rfl (br hq hx rfl rfl) rfl (aw rfl rfl (ai rfl rfl (hP.qs x (List.mem_of_getElem? hx)).pa) rfl ?_); refine wg ?_
  exact ax (.inr rfl) (ae rfl (RVal.tmp rfl)) (congrArg Value.bool (by unfold bN kX; first | (rw [hx]; simp_all; done) | (simp_all; done) | (simp_all; omega)))
 have q13 := of_decide_eq_false g13
 refine eB ?_; refine rz ?_; refine ff ?_
 exact ax (.inr rfl) (ae rfl (RVal.tmp rfl)) (congrArg Value.bool (by unfold bN kX; first | (rw [hx]; simp_all; done) | (simp_all; done) | (simp_all; omega)))
theorem wW {H : Hp} {pg : SProg} (s : SStep) (hP : ProgOk H pg) (hs : StepOk H s) (hl : s.casts.length ≤ 4) :
  FnS Tryz.prog 143 [.agg pg.cells.toArray, .agg s.cells.toArray] H (.bool (fg pg s)) := by
 have hr := hP.r
 have hrm := hr.max
 have hc := hs.c
 refine FnS.enter Tryz.func143 Tryz.ntmps143 rfl rfl (fun w0 => ?_)
 refine zm2 ?_
 refine TL.box rfl rfl (fun b2 => ?_)
 refine TL.box rfl rfl (fun b3 => ?_)
 refine pL ?_; refine TL.run (ai rfl rfl hr) rfl ?_; refine zm8 ?_
 refine TC.loop (V := fun k => [(15, .int .i64 k)]) (K := [(3, _), (4, _), (13, _), (14, _)]) (L := fun k => _) (I := fun k => (0 ≤ k ∧ k ≤ pg.protos.length) ∧ fg pg s = de s (pg.protos.drop k.toNat)) (μ := fun k => (pg.protos.length - k).toNat) (i := (0 : Int)) ky ⟨⟨by omega, by omega⟩, rfl⟩ (fun w hw => hw) (fun k hI => ?_)
 obtain ⟨⟨k0, k1⟩, hop⟩ := hI
 have hk0 := k0
 refine zm6 ?_
 refine ag rfl (fun c16 => ?_) (fun c16 => ?_)
 ·
  obtain ⟨x, hx⟩ := ao (l := pg.protos) k0 c16
  have hxr := (hP.rs x (List.mem_of_getElem? hx)).r.max
  refine dC ?_; refine TL.run (af rfl hr rfl (by omega) (by omega)) rfl (TL.run (bh hr hx rfl rfl) rfl (TL.alloc rfl (fun b6 => ?_)))
  refine o6 ?_; refine fw ?_; refine iz ?_; refine TL.run (bV rfl rfl rfl) rfl (TL.nil (ad (aW rfl (fun c23 => ?_) (fun c23 => ?_))))
  ·
   refine zm232 ?_; refine kr ?_
   exact aR (k + 1) ⟨⟨by omega, by omega⟩, yb k0 hx c23 hop⟩ ky (fun w hw => hw.drop) (by omega)
  refine d3 ?_; refine gS ?_
  refine aB rfl rfl rfl rfl (fun b26 => ?_)
  refine iv ?_; refine vM ?_; refine TL.run (ai rfl rfl hc) rfl ?_; refine zm8 ?_
  refine aV (V := fun k v ob H1 => [(7, v), (30, .int .i64 k)]) (K := [(3, _), (4, _), (6, _), (13, _), (14, _), (15, _), (16, _), (17, _), (18, _), (19, _), (20, _), (21, _), (22, _), (23, _), (24, _), (25, _), (26, _), (27, _), (28, _), (29, _)]) (L := fun k v ob H1 => St [] w0 H H ((b6, _) :: (b3, _) :: (b2, _) :: ob)) (I := fun k v ob H1 => (0 ≤ k ∧ k ≤ s.casts.length) ∧ OwnSl 1 Str.cells v (s.peer :: (s.casts.take k.toNat).map (·.role)) ob) (μ := fun k => (s.casts.length - k).toNat) 0 (.slice (some ⟨b26, 0, none⟩) 1 1) [(b26, [gs s.peer])] H ky ⟨⟨by omega, by omega⟩, OwnSl.blk (enc := Str.cells) [s.peer] rfl rfl (by simp)⟩ (fun w hw => hw.perm (List.perm_append_singleton _ _).symm) (fun k v ob H1 hI => ?_)
  obtain ⟨⟨k0, k1⟩, hO⟩ := hI
  obtain ⟨va, vc, rfl⟩ := hO.form
  refine zm6 ?_
  refine ag rfl (fun c31 => ?_) (fun c31 => ?_)
  ·
   obtain ⟨y, hy⟩ := ao (l := s.casts) k0 c31
   refine dC ?_; refine TL.run (af rfl hc rfl (by omega) (by omega)) rfl (TL.run (bh hc hy rfl rfl) rfl (TL.alloc rfl (fun b9 => ?_)))
   refine vQ ?_
   refine aB rfl rfl rfl rfl (fun b37 => ?_)
   refine TL.append (enc := Str.cells) rfl rfl rfl hO (Src.own [y.role] (.here _) rfl rfl) (by simp; omega) rfl (.skip _ (.skip _ (.skip _ (.skip _ (.skip _ .all))))) rfl (fun a38 c38 ob38 hO38 => ?_)
   refine lF ?_
   exact aF (k + 1) _ ob38 H ⟨⟨by omega, by omega⟩, hO38.cast (by rw [bX k0 hy]; rfl)⟩ ky (fun w hw => hw.drop.drop) (by omega)
  refine iy ?_
  refine TC.pubO hO (.skip _ (.skip _ (.skip _ .all))) (by simp) (fun HJ leJ hJ => ?_)
  replace hP := hP.le leJ
  have hJ2 := hJ.cast (show _ = dW s by rw [bB c31 k0]; rfl)
  clear hJ
  have hJm := hJ2.max
  refine cf (!(decide (((dW s).length : Int) = x.roles.length) && dj (dW s))) 50 [(3, _), (4, _), (6, _), (7, _), (13, _), (14, _), (15, _), (16, _), (17, _), (18, _), (19, _), (20, _), (21, _), (22, _), (23, _), (24, _), (25, _), (26, _), (27, _), (28, _), (29, _), (30, _), (31, _)] ky ?_ ?_
  ·
   refine iw ?_; refine TL.run (ai rfl rfl hJ2) rfl ?_; refine fz ?_; refine TL.run (ai rfl rfl (hP.rs x (List.mem_of_getElem? hx)).r) rfl ?_; refine zm3 ?_
   refine aj (s := 46) rfl (fun g46 => ?_) (fun g46 => ?_)
   ·
    have q46 := aP g46
    refine lf ?_
    exact a8 rfl (by first | (simp_all; done) | (simp_all; omega)) ky
   have q46 := aL g46
   refine cN ?_; refine aK rfl rfl (ab rfl rfl rfl rfl) (j8 hJ2) rfl ?_; refine ii ?_
   exact a8 rfl (by first | (simp_all; done) | (simp_all; omega)) ky
  refine TC.cond rfl (fun c50 => ?_) (fun c50 => ?_)
  ·
   refine iu ?_; refine km ?_
   exact ax (.inr rfl) (ae rfl (RVal.tmp rfl)) (congrArg Value.bool (by first | exact (j6 k0 c16 hop).symm | exact (oK hk0 hx c23 hop c50).symm | exact (oJ hk0 hx c23 hop c50 h1).symm))
  refine iS ?_; refine d7 ?_; refine TL.run (ai rfl rfl hJ2) rfl ?_; refine zm8 ?_
  refine TC.loop (V := fun k => [(53, .int .i64 k)]) (K := [(3, _), (4, _), (6, _), (7, _), (13, _), (14, _), (15, _), (16, _), (17, _), (18, _), (19, _), (20, _), (21, _), (22, _), (23, _), (24, _), (25, _), (26, _), (27, _), (28, _), (29, _), (30, _), (31, _), (50, _), (51, _), (52, _)]) (L := fun k => _) (I := fun k => (0 ≤ k ∧ k ≤ (dW s).length) ∧ (dW s).all (fun r => cq x.roles r) = ((dW s).drop k.toNat).all (fun r => cq x.roles r)) (μ := fun k => ((dW s).length - k).toNat) (i := (0 : Int)) ky ⟨⟨by omega, by omega⟩, rfl⟩ (fun w hw => hw) (fun k hI => ?_)
  obtain ⟨⟨k0, k1⟩, hal⟩ := hI
  refine zm6 ?_
  refine ag rfl (fun c54 => ?_) (fun c54 => ?_)
  ·
   obtain ⟨z, hz⟩ := ao (l := dW s) k0 c54
   refine dC ?_; refine TL.run (af rfl hJ2 rfl (by omega) (by omega)) rfl (TL.run (aM hJ2 hz rfl rfl) rfl ?_); refine zm1 ?_; refine lG ?_
   refine ay (ab rfl rfl rfl rfl) (iL z (hP.rs x (List.mem_of_getElem? hx)).r) rfl ?_; refine zm1 ?_
   refine TC.cond rfl (fun c61 => ?_) (fun c61 => ?_)
   ·
    have h1 := dx (p := fun r => cq x.roles r) k0 hz (by simpa using c61) hal
    refine nJ ?_; refine it ?_
    exact ax (.inr rfl) (ae rfl (RVal.tmp rfl)) (congrArg Value.bool (by first | exact (j6 k0 c16 hop).symm | exact (oK hk0 hx c23 hop c50).symm | exact (oJ hk0 hx c23 hop c50 h1).symm))
   refine lg ?_
   exact aR (k + 1) ⟨⟨by omega, by omega⟩, cj (p := (fun r => cq x.roles r)) k0 hz (by simpa using c61) hal⟩ ky (fun w hw => hw) (by omega)
  have h1 := cW (p := fun r => cq x.roles r) k0 c54 hal
  refine gv ?_; refine it ?_
  exact ax (.inr rfl) (ae rfl (RVal.tmp rfl)) (congrArg Value.bool (by first | exact (j6 k0 c16 hop).symm | exact (oK hk0 hx c23 hop c50).symm | exact (oJ hk0 hx c23 hop c50 h1).symm))
 refine gv ?_
 exact ax (.inr rfl) (ae rfl (RVal.tmp rfl)) (congrArg Value.bool (by first | exact (j6 k0 c16 hop).symm | exact (oK hk0 hx c23 hop c50).symm | exact (oJ hk0 hx c23 hop c50 h1).symm))
end Go.Sx
namespace Go.Sx
open Go Go.Proofs
theorem zW {H : Hp} {l : List SArm} {v : Value} (hA : RdSl H 4 SArm.cells v l) (hl : l.length ≤ 1000) :
  FnO Tryz.prog 46 [v] H (fun r H1 ob => H1 = H ∧ OwnSl 4 SArm.cells r l ob) := by
 refine FnO.enter Tryz.func46 Tryz.ntmps46 rfl rfl (fun w0 => ?_)
 refine y7 ?_
 refine aB rfl rfl rfl rfl (fun b3 => ?_)
 refine zm0 ?_
 refine TL.append (enc := SArm.cells) rfl rfl rfl (OwnSl.blk (enc := SArm.cells) [] rfl rfl (by decide)) (Src.sl hA) (by simp; omega) rfl (.take (.here _) rfl) rfl (fun a5 c5 ob5 hO5 => ?_)
 refine eh ?_
 exact ez (.inr rfl) (ae rfl (RVal.tmp rfl)) .all ⟨rfl, hO5.cast (by simp)⟩
theorem ordW_ok {q : SProc} {bx bo bw : Nat} (hS : bU q) (hz2 : q.steps.length ≤ 80) :
  ∀ (f : Nat) {H : Hp} (at_ : Int), ProcOk H q → ProcAt H bx q → CellAt H bw (.func (.func 92) #[] #[.pointer (some ⟨bo, 0, none⟩), .pointer (some ⟨bx, 0, none⟩), .pointer (some ⟨bw, 0, none⟩)]) → 0 ≤ at_ → at_ < q.steps.length → q.steps.length ≤ at_.toNat + f → ∀ (u : Value) (xs : List Int) (ob : aq), OwnSl 1 I64.cells u xs ob → xs.length + (fF q f at_).length ≤ 1000 →
   FnX Tryz.prog 92 [.int .i64 at_, .pointer (some ⟨bo, 0, none⟩), .pointer (some ⟨bx, 0, none⟩), .pointer (some ⟨bw, 0, none⟩)] H ((bo, [u]) :: ob) (fun r H2 L2 => r = .tuple #[] ∧ H.le H2 ∧ ∃ u2 ob2, L2 = (bo, [u2]) :: ob2 ∧ OwnSl 1 I64.cells u2 (xs ++ fF q f at_) ob2) := by
 intro f
 induction f with
 | zero =>
  intro H at_ _ _ _ h0 h1 h2; exfalso; omega
 | succ f ih =>
 intro H at_ hQ hx hw h0 h1 h2 u xs ob hO hlen
 obtain ⟨s, hs⟩ : ∃ s, q.steps[at_.toNat]? = some s := ⟨_, List.getElem?_eq_getElem (by omega)⟩
 rw [oI hs] at hlen ⊢
 have hsk := hQ.ss s (List.mem_of_getElem? hs)
 obtain ⟨ua, uc, rfl⟩ := hO.form
 obtain ⟨hm, hin⟩ := hS _ _ hs
 have hsz := gB hm
 have hmax := hQ.s.max
 refine FnX.enterM Tryz.func92 Tryz.ntmps92 rfl rfl (fun w0 M hM => ?_)
 refine zm2 ?_; refine zm230 ?_
 refine aB rfl rfl rfl rfl (fun b9 => ?_)
 refine TL.append (enc := I64.cells) rfl rfl rfl hO (Src.own [at_] (.here _) rfl rfl) (by simp only [List.length_cons] at hlen; simp; omega) rfl (.skip _ (.skip _ .all)) rfl (fun a10 c10 ob10 hO10 => ?_)
 refine iP rfl rfl rfl (.there _ (.here _)) rfl ?_; refine vL ?_; refine TL.run (bI rfl (hx 3 _ rfl)) rfl ?_; refine zm0 ?_; refine vK ?_
 refine TL.run (bh hQ.s hs rfl rfl) rfl (ki (ab rfl rfl rfl rfl) (l7 s hsk (by omega)) rfl (fun v16 H16 ob16 hf16 hle16 hp16 => ?_))
 obtain ⟨eH16, hO16⟩ := hp16
 subst H16
 obtain ⟨a16, c16, rfl⟩ := hO16.form
 refine TL.pubO hO16 (.skip _ (.skip _ (.past _ .all))) (fun p hp hm => absurd (hM _ hm) (Nat.not_lt.2 (hf16 p hp))) (fun HP16 leP16 hR16 => ?_)
 replace hQ := hQ.le leP16
 replace hx := hx.le leP16
 replace hw := hw.le leP16
 have hR16m := hR16.max
 refine TL.run (ai rfl rfl hR16) rfl ?_; refine zm8 ?_
 have hleA := leP16
 refine aV (V := fun k v ob H1 => [(18, .int .i64 k)]) (K := [(3, _), (16, _), (17, _)]) (L := fun k v ob H1 => St M w0 H H1 ((bo, [v]) :: ob)) (I := fun k v ob H1 => (0 ≤ k ∧ k ≤ (aS s).length) ∧ HP16.le H1 ∧ OwnSl 1 I64.cells v (xs ++ at_ :: ((aS s).take k.toNat).flatMap (fF q f)) ob) (μ := fun k => ((aS s).length - k).toNat) 0 _ _ HP16 ky ⟨⟨by omega, by omega⟩, Hp.le.refl _, hO10.cast (by simp)⟩ (fun w hw => by have h2 := hw.drop; rw [List.append_nil] at h2; exact h2) (fun k v ob H1 hI => ?_)
 obtain ⟨⟨k0, k1⟩, hle, hO⟩ := hI
 obtain ⟨va, vc, rfl⟩ := hO.form
 replace hQ := hQ.le hle
 replace hx := hx.le hle
 replace hw := hw.le hle
 replace hR16 := hR16.le hle
 replace hleA := hleA.trans hle
 refine zm6 ?_
 refine ag rfl (fun c19 => ?_) (fun c19 => ?_)
 ·
  obtain ⟨t, ht⟩ := ao (l := aS s) k0 c19
  have htb := hin t (List.mem_of_getElem? ht)
  have hlb := fm_room (f := fF q f) k0 ht
  refine dC ?_; refine TL.run (af rfl hR16 rfl (by omega) (by omega)) rfl (TL.run (aM hR16 ht rfl rfl) rfl ?_); refine zm1 ?_; refine TC.region (TL.run (bI rfl hw) rfl ?_); refine zm0 ?_
  refine fZ (L1 := (bo, [.slice va _ vc]) :: ob) (ab rfl rfl rfl rfl) (ih t hQ hx hw (by omega) (by omega) (by omega) _ _ _ hO (by simp only [List.length_append, List.length_cons]; simp only [List.length_cons] at hlen; omega)) rfl (fun v24 H24 L24 hle24 hp24 => ?_)
  obtain ⟨rfl, -, u24, ob24, rfl, hO24⟩ := hp24
  obtain ⟨ua24, uc24, rfl⟩ := hO24.form
  replace hw := hw.le hle24
  replace hle := hle.trans hle24
  refine o5 ?_
  exact aF (k + 1) _ ob24 H24 ⟨⟨by omega, by omega⟩, hle, hO24.cast (by rw [bR k0 ht, List.flatMap_append]; simp)⟩ ky (fun w hw => hw ) (by omega)
 refine TC.exit (bv (bv (bS ?_)))
 exact aY (.inl rfl) (cg rfl) (fun w hw => hw) ⟨rfl, hleA, _, _, rfl, hO.cast (by rw [bB c19 k0])⟩
theorem zf {H : Hp} {q : SProc} {bx bmv bm bout : Nat} {nm : Str} {pv u sv : Value} {m0 : List Int} {o0 : List Term} {ob : aq} (root : Int) (hQ : ProcOk H q) (hx : ProcAt H bx q) (hmv : CellAt H bmv (.slice (some ⟨bm, 0, none⟩) q.terms.length q.terms.length)) (hm : cA q.terms root = true) (hml0 : m0.length = q.terms.length) (hO0 : OwnSl 6 Term.cells u o0 ob) (hr : o0.length ≤ 300000000000) :
  FnX Tryz.prog 93 [.int .i64 root, .pointer (some ⟨bx, 0, none⟩), .pointer (some ⟨bmv, 0, none⟩), .pointer (some ⟨bout, 0, none⟩)] H ((bm, m0.map (Value.int .i64)) :: (bout, [gs nm, pv, u, sv]) :: ob) (fun r H2 L2 => r = .int .i64 (aJ (er q.terms root (m0, o0)).1 root) ∧ ∃ u2 ob2, L2 = (bm, (er q.terms root (m0, o0)).1.map (Value.int .i64)) :: (bout, [gs nm, pv, u2, sv]) :: ob2 ∧ OwnSl 6 Term.cells u2 (er q.terms root (m0, o0)).2 ob2) := by
 obtain ⟨ua, uc, rfl⟩ := hO0.form
 have hpl := m5 hm
 have htr := md hm
 have hr0 := Ch htr
 have hr1 : 0 ≤ root := htr.1
 have hmax := hQ.t.max
 have hpl2 : (bH q.terms root).length ≤ 33554432 := hpl
 refine FnX.enterM Tryz.func93 Tryz.ntmps93 rfl rfl (fun w0 M hM => ?_)
 refine zm6 ?_; refine gr ?_; refine TL.run (bI rfl (hx 2 _ rfl)) rfl ?_; refine zm0 ?_
 refine ki (ab rfl rfl rfl rfl) (wA root hQ.t hm) rfl (fun v12 H12 ob12 hf12 hle12 hp12 => ?_)
 have hO12 : OwnSl 1 I64.cells v12 (bH q.terms root) ob12 := hp12
 obtain ⟨a12, c12, rfl⟩ := hO12.form
 replace hQ := hQ.le hle12
 replace hx := hx.le hle12
 replace hmv := hmv.le hle12
 refine TL.pubO hO12 (.skip _ (.skip _ (.past _ .all))) (fun p hp hm => absurd (hM _ hm) (Nat.not_lt.2 (hf12 p hp))) (fun HP12 leP12 hR12 => ?_)
 replace hQ := hQ.le leP12
 replace hx := hx.le leP12
 replace hmv := hmv.le leP12
 have hR12m := hR12.max
 refine TL.run (ai rfl rfl hR12) rfl ?_; refine zm8 ?_
 refine aV (V := fun (p : Int × List Int × List Term) v ob H1 => [(14, .int .i64 p.1)]) (K := [(0, _), (1, _), (2, _), (3, _), (5, _), (12, _), (13, _)]) (L := fun (p : Int × List Int × List Term) v ob H1 => St M w0 H H1 ((bm, p.2.1.map (Value.int .i64)) :: (bout, [gs nm, pv, v, sv]) :: ob)) (I := fun (p : Int × List Int × List Term) v ob H1 => (0 ≤ p.1 ∧ p.1 ≤ (bH q.terms root).length) ∧ HP12.le H1 ∧ p.2.1.length = q.terms.length ∧ OwnSl 6 Term.cells v p.2.2 ob ∧ p.2.2.length ≤ o0.length + p.1 ∧ er q.terms root (m0, o0) = cO q.terms ((bH q.terms root).drop p.1.toNat) (p.2.1, p.2.2)) (μ := fun (p : Int × List Int × List Term) => ((bH q.terms root).length - p.1).toNat) ((0 : Int), m0, o0) _ _ HP12 ky ⟨⟨by omega, by omega⟩, Hp.le.refl _, hml0, hO0, by simp, rfl⟩ (fun w hw => by rw [List.append_nil] at hw; exact hw) (fun p v ob H1 hI => ?_)
 obtain ⟨⟨k0, k1⟩, hle, hml, hO, hol, hT⟩ := hI
 obtain ⟨k, m, o⟩ := p
 dsimp only at *
 obtain ⟨va, vc, rfl⟩ := hO.form
 replace hQ := hQ.le hle
 replace hx := hx.le hle
 replace hmv := hmv.le hle
 replace hR12 := hR12.le hle
 refine zm6 ?_
 refine ag rfl (fun c15 => ?_) (fun c15 => ?_)
 ·
  obtain ⟨x, hk⟩ := ao (l := bH q.terms root) k0 c15
  obtain ⟨t, ht, hx0, htl, htr2⟩ := qu _ _ (.inr htr) x (List.mem_of_getElem? hk)
  have hxb := il ht
  refine dC ?_; refine TL.run (af rfl hR12 rfl (by omega) (by omega)) rfl (TL.run (aM hR12 hk rfl rfl) rfl ?_); refine tZ ?_; refine TL.run (bI rfl (hx 2 _ rfl)) rfl ?_; refine zm0 ?_
  refine TL.run (af rfl hQ.t rfl (by omega) (by omega)) rfl (TL.run (bh hQ.t ht rfl rfl) rfl (TL.alloc rfl (fun b8 => ?_)))
  refine o6 ?_; refine oY ?_
  refine ag rfl (fun c25 => ?_) (fun c25 => ?_)
  ·
   refine TC.region (TL.run (bI rfl hmv) rfl ?_); refine fz ?_; refine fS ?_; refine TL.run (aD rfl (.there _ (.here _)) (gN (by omega))) rfl ?_; refine mD ?_; refine TC.seq ?_; refine oY ?_
   refine ag rfl (fun c34 => ?_) (fun c34 => ?_)
   ·
    refine TC.region (TL.run (bI rfl hmv) rfl ?_); refine fz ?_; refine fS ?_; refine TL.run (aD rfl (.there _ (.here _)) (gN (by omega))) rfl ?_; refine pd ?_; refine gV ?_; refine vJ ?_; refine k8 ?_
    refine TL.run (bG rfl rfl hO) rfl ?_; refine vI ?_; refine vH ?_
    refine aB rfl rfl rfl rfl (fun b50 => ?_)
    refine TL.append (enc := Term.cells) rfl rfl rfl hO (Src.own [⟨t.kind, t.name, t.n, t.text, aJ m t.l, aJ m t.r⟩] (.here _) rfl rfl) (by simp; omega) rfl (.skip _ (.skip _ (.skip _ (.skip _ .all)))) rfl (fun a51 c51 ob51 hO51 => ?_)
    exact yA
   refine pQ ?_; refine vJ ?_; refine k8 ?_; refine TL.run (bG rfl rfl hO) rfl ?_; refine vI ?_; refine vH ?_
   refine aB rfl rfl rfl rfl (fun b50 => ?_)
   refine TL.append (enc := Term.cells) rfl rfl rfl hO (Src.own [⟨t.kind, t.name, t.n, t.text, aJ m t.l, t.r⟩] (.here _) rfl rfl) (by simp; omega) rfl (.skip _ (.skip _ (.skip _ (.skip _ .all)))) rfl (fun a51 c51 ob51 hO51 => ?_)
   exact yA
  refine iS ?_; refine oY ?_
  refine ag rfl (fun c34 => ?_) (fun c34 => ?_)
  ·
   refine TC.region (TL.run (bI rfl hmv) rfl ?_); refine fz ?_; refine fS ?_; refine TL.run (aD rfl (.there _ (.here _)) (gN (by omega))) rfl ?_; refine pd ?_; refine gV ?_; refine vJ ?_; refine k8 ?_
   refine TL.run (bG rfl rfl hO) rfl ?_; refine vI ?_; refine vH ?_
   refine aB rfl rfl rfl rfl (fun b50 => ?_)
   refine TL.append (enc := Term.cells) rfl rfl rfl hO (Src.own [⟨t.kind, t.name, t.n, t.text, t.l, aJ m t.r⟩] (.here _) rfl rfl) (by simp; omega) rfl (.skip _ (.skip _ (.skip _ (.skip _ .all)))) rfl (fun a51 c51 ob51 hO51 => ?_)
   exact yA
  refine pQ ?_; refine vJ ?_; refine k8 ?_; refine TL.run (bG rfl rfl hO) rfl ?_; refine vI ?_; refine vH ?_
  refine aB rfl rfl rfl rfl (fun b50 => ?_)
  refine TL.append (enc := Term.cells) rfl rfl rfl hO (Src.own [⟨t.kind, t.name, t.n, t.text, t.l, t.r⟩] (.here _) rfl rfl) (by simp; omega) rfl (.skip _ (.skip _ (.skip _ (.skip _ .all)))) rfl (fun a51 c51 ob51 hO51 => ?_)
  exact yA
 refine pJ ?_; refine vJ ?_; refine fS ?_; refine TL.run (aD rfl (.here _) (gN (by omega))) rfl ?_; refine eh ?_
 have hE := tg_end k0 c15 hT
 exact aY (.inr rfl) (ae rfl (RVal.tmp rfl)) (fun w hw => hw) ⟨by rw [hE], _, _, by rw [hE], by rw [hE]; exact hO⟩
end Go.Sx
namespace Go.Sx
open Go Go.Proofs
theorem fT {H : Hp} {q : SProc} {bx bmv bm bout bt : Nat} {nm : Str} {pv u sv vl : Value} {m0 : List Int} {o0 : List Term} {ob : aq} {l : List Int} (hl : RdSl H 1 I64.cells vl l) (ht : CellAt H bt (.func (.func 93) #[] #[.pointer (some ⟨bx, 0, none⟩), .pointer (some ⟨bmv, 0, none⟩), .pointer (some ⟨bout, 0, none⟩)])) (hQ : ProcOk H q) (hx : ProcAt H bx q) (hmv : CellAt H bmv (.slice (some ⟨bm, 0, none⟩) q.terms.length q.terms.length)) (hm : ∀ t ∈ l, cA q.terms t = true) (hl6 : l.length ≤ 6) (hml0 : m0.length = q.terms.length) (hO0 : OwnSl 6 Term.cells u o0 ob) (hr : o0.length ≤ 290000000000) :
  FnX Tryz.prog 94 [vl, .pointer (some ⟨bt, 0, none⟩)] H ((bm, m0.map (Value.int .i64)) :: (bout, [gs nm, pv, u, sv]) :: ob) (fun r H2 L2 => ∃ u2 ob2 ob3, L2 = (bm, (bp q.terms l [] (m0, o0)).2.1.map (Value.int .i64)) :: (bout, [gs nm, pv, u2, sv]) :: (ob2 ++ ob3) ∧ OwnSl 6 Term.cells u2 (bp q.terms l [] (m0, o0)).2.2 ob2 ∧ OwnSl 1 I64.cells r (bp q.terms l [] (m0, o0)).1 ob3) := by
 obtain ⟨ua, uc, rfl⟩ := hO0.form
 have one0 := hl.isOne
 obtain ⟨la, lc, rfl⟩ := hl.len
 refine FnX.enterM Tryz.func94 Tryz.ntmps94 rfl rfl (fun w0 M hM => ?_)
 refine kj ?_; refine ln ?_; refine TL.run (ai rfl rfl hl) rfl ?_; refine zm8 ?_
 refine aV (V := fun (p : Int × RS × Value × aq × List Int) v ob H1 => [(4, v), (9, .int .i64 p.1)]) (K := [(1, _), (3, _), (7, _), (8, _)]) (L := fun (p : Int × RS × Value × aq × List Int) v ob H1 => St M w0 H H1 ((bm, p.2.1.1.map (Value.int .i64)) :: (bout, [gs nm, pv, p.2.2.1, sv]) :: (p.2.2.2.1 ++ ob))) (I := fun (p : Int × RS × Value × aq × List Int) v ob H1 => (0 ≤ p.1 ∧ p.1 ≤ l.length) ∧ H.le H1 ∧ (p.2.1.1.length = q.terms.length ∧ p.2.1.2.length ≤ o0.length + 33554432 * p.1.toNat) ∧ OwnSl 6 Term.cells p.2.2.1 p.2.1.2 p.2.2.2.1 ∧ OwnSl 1 I64.cells v p.2.2.2.2 ob ∧ p.2.2.2.2.length ≤ p.1 ∧ bp q.terms l [] (m0, o0) = bp q.terms (l.drop p.1.toNat) p.2.2.2.2 p.2.1) (μ := fun (p : Int × RS × Value × aq × List Int) => (l.length - p.1).toNat) ((0 : Int), (m0, o0), (.slice ua o0.length uc), ob, []) (.slice none 0 0) [] H ky ⟨⟨by omega, by omega⟩, Hp.le.refl _, ⟨hml0, by simp⟩, hO0, OwnSl.nil, by simp, rfl⟩ (fun w hw => by rw [List.append_nil]; exact hw) (fun p v ob H1 hI => ?_)
 obtain ⟨⟨k0, k1⟩, hle, ⟨hml, hol⟩, hO1, hO, hac, hT⟩ := hI
 obtain ⟨k, ⟨m, o⟩, u1, ob1, acc⟩ := p
 dsimp only at *
 obtain ⟨va, vc, rfl⟩ := hO.form
 replace hl := hl.le hle
 replace ht := ht.le hle
 replace hQ := hQ.le hle
 replace hx := hx.le hle
 replace hmv := hmv.le hle
 refine zm6 ?_
 refine ag rfl (fun c10 => ?_) (fun c10 => ?_)
 ·
  obtain ⟨x, hk⟩ := ao (l := l) k0 c10
  have hxm := hm x (List.mem_of_getElem? hk)
  refine dC ?_; refine TL.run (af rfl hl rfl (by omega) (by omega)) rfl (TL.run (aM hl hk rfl rfl) rfl ?_); refine zm1 ?_; refine iw ?_; refine TL.run (bI rfl ht) rfl ?_; refine zm0 ?_
  refine dY (L1 := (bm, m.map (Value.int .i64)) :: (bout, [gs nm, pv, u1, sv]) :: ob1) (L2 := ob) (ab rfl rfl rfl rfl) (zf x hQ hx hmv hxm hml hO1 (by omega)) rfl (fun v16 H16 L16 hle16 hp16 => ?_)
  obtain ⟨rfl, u16, ob16, rfl, hO16⟩ := hp16
  refine aT (L' := (bm, _) :: ((bout, _) :: (ob16 ++ (ob)))) (List.Perm.refl _) ?_
  replace hle := hle.trans hle16
  refine aB rfl rfl rfl rfl (fun b17 => ?_)
  refine TL.append (enc := I64.cells) rfl rfl rfl hO (Src.own [aJ (er q.terms x (m, o)).1 x] (.here _) rfl rfl) (by simp; omega) rfl (.skip _ (.skip _ (.skip _ (.past _ .all)))) rfl (fun a18 c18 ob18 hO18 => ?_)
  refine lF ?_
  exact aF (i := (k, (m, o), u1, ob1, acc)) (k + 1, er q.terms x (m, o), u16, ob16, acc ++ [aJ (er q.terms x (m, o)).1 x]) _ ob18 H16 ⟨⟨by omega, by omega⟩, hle, ⟨by rw [mL]; exact hml, by have h7 := kP (s := (m, o)) hxm; simp only at h7 ⊢; omega⟩, hO16, hO18, by simp only [List.length_append, List.length_cons, List.length_nil]; omega, ta_next k0 hk hT⟩ ky (fun w hw => hw.drop) (by omega)
 refine rA ?_
 have hE := ta_end k0 c10 hT
 exact aY (.inr rfl) (ae rfl (RVal.tmp rfl)) (fun w hw => hw) ⟨_, _, _, by rw [hE], by rw [hE]; exact hO1, by rw [hE]; exact hO⟩
end Go.Sx
