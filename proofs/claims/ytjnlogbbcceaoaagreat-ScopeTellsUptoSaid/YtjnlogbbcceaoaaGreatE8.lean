import Derived.Test.YtjnlogbbcceaoaaGreatE7
set_option linter.all false
set_option maxRecDepth 100000
set_option maxHeartbeats 32000000
namespace Go.Sx
open Go Go.Proofs
theorem bP {H:Hp}(s:Str):
  FnS Tryz.prog 79 [gs s] H (.bool (aN s)):=by
 refine FnS.enter Tryz.func79 Tryz.ntmps79 rfl rfl (fun w0=>?_)
 refine ni ?_;refine TL.run (dF rfl rfl) rfl (zm3 ?_)
 refine ag (s:=7) rfl ?_ ?_<;>intro g7
 · exact zq48
 have q7:=of_decide_eq_false g7
 refine cv ?_;refine aw rfl rfl (dF rfl rfl) rfl (cM ?_)
 refine ag (s:=12) rfl ?_ ?_<;>intro g12
 · exact zq72
 have q12:=of_decide_eq_false g12
 refine cv ?_
 have hlen:(0:Int)<s.length:=by have:=of_decide_eq_false g7;omega
 obtain⟨c0,hc0⟩:=aj (l:=s) (i:=0) om hlen
 refine aw rfl rfl (gB rfl rfl om hc0) rfl (aH rfl rfl (ab rfl rfl rfl rfl) (lX c0) rfl (cM ?_))
 refine ag (s:=18) rfl ?_ ?_<;>intro g18
 · exact GL
 refine cv ?_;refine aH rfl rfl (ab rfl rfl rfl rfl) (po s) rfl (zm1 ?_)
 refine TC.cond rfl ?_ ?_<;>intro c21
 · exact GK
 have hn:=mG g7 g12 hc0 g18 c21
 have hl12:(s.length:Int)≤12:=by have:=of_decide_eq_false g12;omega
 exact zq0
theorem sJ {H:Hp}(k:Int):
  FnS Tryz.prog 95 [.int .i64 k] H (.bool (gP k)):=by
 refine FnS.enter Tryz.func95 Tryz.ntmps95 rfl rfl (fun w0=>?_)
 refine kg ?_
 refine a7 (decide (k=1)||(decide (k=2)||(decide (k=4)||(decide (k=7)||(decide (k=8)||decide (k=9)))))) 4 [(2,_)] ⟨rfl,trivial⟩ ?_ ?_
 · refine Ej ?_;exact cg (aG rfl) rfl rfl ⟨rfl,trivial⟩ (ei (aG rfl) rfl rfl ⟨rfl,trivial⟩)
 refine TC.cond rfl ?_ ?_<;>intro c4
 ·
  refine ki ?_
  exact ao (.inr rfl) (ad rfl (RVal.tmp rfl)) (congrArg Value.bool (by unfold gP;first | exact c4.symm | (rw [c4]) | simp_all))
 refine rE ?_
 exact ao (.inr rfl) (ad rfl (RVal.tmp rfl)) (congrArg Value.bool (by unfold gP;first | exact c4.symm | (rw [c4]) | simp_all))
theorem ew {H:Hp}(e p a:Int):
  FnS Tryz.prog 41 [.int .i64 e,.int .i64 p,.int .i64 a] H (.agg (SFault.cells ⟨e,p,a⟩).toArray):=by
 refine FnS.enter Tryz.func41 Tryz.ntmps41 rfl rfl (fun w0=>?_)
 refine zm2 ?_
 refine TL.alloc rfl (fun b6=>?_)
 refine TL.nil (ai (fO ?_));refine dN ?_;refine iV ?_
 exact ao (.inr rfl) (ad rfl (RVal.cellA rfl (.here _) rfl)) rfl
theorem i4 {H:Hp}{pg:SProg}(s:Str)(hP:ProgOk H pg):
  FnS Tryz.prog 16 [.agg pg.cells.toArray,gs s] H (.int .i64 (dk pg.procs s)):=by
 have hq:=hP.q
 have hmax:=hq.max
 refine FnS.enter Tryz.func16 Tryz.ntmps16 rfl rfl (fun w0=>?_)
 refine zm2 ?_
 refine TL.box rfl rfl (fun b2=>?_)
 refine oQ ?_;refine TL.run (ah rfl rfl hq) rfl (zm9 ?_)
 refine TC.loop (V:=fun k=>[(9,.int .i64 k)]) (K:=[(1,_),(2,_),(4,_),(8,_)]) (L:=fun k=>_) (I:=fun k=>0≤k∧k≤pg.procs.length∧∀j:Nat,j<k.toNat→(pg.procs.map (·.name))[j]? ≠some s) (μ:=fun k=>(pg.procs.length - k).toNat) (i:=(0:Int)) ky ⟨by omega,by omega,fun j hj=>absurd hj sq⟩ (fun w hw=>hw) (fun k hI=>?_)
 refine zm7 ?_
 refine af rfl ?_ ?_<;>intro c10
 ·
  obtain⟨x,hx⟩:=aj (l:=pg.procs) hI.1 c10
  refine rz ?_;refine zI ?_;refine TL.run (ae rfl hq rfl om om) rfl (zm5 ?_);refine TL.run (aT hq hx rfl rfl) rfl (tN ?_)
  refine af rfl ?_ ?_<;>intro c19
  ·
   refine rC ?_
   exact ao (.inr rfl) (ad rfl (RVal.tmp rfl)) (congrArg (Value.int .i64) (by unfold dk;first | exact(cS hI.1 (by rw [dz hx,c19]) hI.2.2).symm | exact(dU hI.2.2 (by rw [List.length_map];exact c10)).symm))
  refine oh ?_
  exact aD (k+1) ⟨by omega,by omega,jd hI.1 hI.2.2 (dz hx) c19⟩ ky (fun w hw=>hw) om
 refine fD ?_
 exact ao (.inr rfl) (ad rfl (RVal.tmp rfl)) (congrArg (Value.int .i64) (by unfold dk;first | exact(cS hI.1 (by rw [dz hx,c19]) hI.2.2).symm | exact(dU hI.2.2 (by rw [List.length_map];exact c10)).symm))
theorem bare_ok {H:Hp}(s:SStep):
  FnS Tryz.prog 139 [.agg s.cells.toArray] H (.agg (gR s).cells.toArray):=by
 refine FnS.enter Tryz.func139 Tryz.ntmps139 rfl rfl (fun w0=>?_)
 refine zm2 ?_
 refine TL.box rfl rfl (fun b1=>?_)
 refine TL.alloc rfl (fun b2=>?_)
 refine TL.nil (ai (TC.seq (jm ?_)));refine xk ?_
 refine af rfl ?_ ?_<;>intro c5
 · exact GV
 refine eE ?_
 refine af rfl ?_ ?_<;>intro c9
 · exact TC.region (GU)
 refine eE ?_
 refine af rfl ?_ ?_<;>intro c12
 · exact GV
 refine eE ?_
 refine af rfl ?_ ?_<;>intro c16
 ·
  refine TC.region (zN ?_)
  exact GT
 refine eE ?_
 refine af rfl ?_ ?_<;>intro c22
 · exact TC.region (GT)
 refine a7 (decide (s.kind=6)||decide (s.kind=7)) 27 [(1,_),(2,_),(4,_)] ky ?_ ?_
 · exact cg (aG rfl) rfl rfl ky (ei (aG rfl) rfl rfl ky)
 refine TC.cond rfl ?_ ?_<;>intro c27
 ·
  have h67:s.kind=6∨s.kind=7:=by simpa using c27
  have h8:¬s.kind=8:=by omega
  have h9:¬s.kind=9:=by omega
  exact GV
 refine eE ?_
 refine af rfl ?_ ?_<;>intro c32
 ·
  refine TC.region (zN ?_)
  exact GT
 refine eE ?_
 refine af rfl ?_ ?_<;>intro c38
 · exact TC.region (GU)
 exact TC.skip (zq177)
theorem mH {H:Hp}{l:List Str}{v:Value}(hL:RdSl H 1 Str.cells v l):
  FnS Tryz.prog 81 [v] H (.bool (dt l)):=by
 have hmax:=hL.max
 obtain⟨la,lc,rfl⟩:=hL.len
 refine FnS.enter Tryz.func81 Tryz.ntmps81 rfl rfl (fun w0=>?_)
 refine ni ?_;refine TL.run (ah rfl rfl hL) rfl (zm9 ?_)
 refine TC.loop (V:=fun k=>[(6,.int .i64 k)]) (K:=[(0,_),(2,_),(5,_)]) (L:=fun k=>_) (I:=fun k=>0≤k∧k≤l.length∧(l.take k.toNat).Nodup) (μ:=fun k=>(l.length - k).toNat) (i:=(0:Int)) ky ⟨by omega,by omega,List.nodup_nil⟩ (fun w hw=>hw) (fun k hI=>?_)
 refine zm7 ?_
 refine af rfl ?_ ?_<;>intro c7
 ·
  obtain⟨x,hx⟩:=aj (l:=l) hI.1 c7
  refine rz ?_;refine fO ?_;refine ov ?_;refine TL.run (aL hL hx rfl rfl) rfl (ar (ab rfl rfl rfl rfl) (uQ x hL) rfl (kS ?_))
  refine aV rfl ?_ ?_<;>intro c16
  ·
   refine kX ?_
   exact ao (.inr rfl) (ad rfl (RVal.tmp rfl)) (congrArg Value.bool (by first | exact(ph c7 hI.1 hI.2.2).symm | exact(uI hI.1 hx (by simpa using c16)).symm))
  refine oh ?_
  exact aD (k+1) ⟨by omega,by omega,nO hI.1 hx hI.2.2 (Bp hI.1 hx (by simpa using c16))⟩ ky (fun w hw=>hw) om
 refine fD ?_
 exact ao (.inr rfl) (ad rfl (RVal.tmp rfl)) (congrArg Value.bool (by first | exact(ph c7 hI.1 hI.2.2).symm | exact(uI hI.1 hx (by simpa using c16)).symm))
end Go.Sx
namespace Go.Sx
open Go Go.Proofs
theorem Ep {H:Hp}(s:SStep)(hs:StepOk H s):
  FnS Tryz.prog 140 [.agg s.cells.toArray] H (.bool (gb s)):=by
 have hw:=hs.w
 have hmw:=hw.max
 refine FnS.enter Tryz.func140 Tryz.ntmps140 rfl rfl (fun w0=>?_)
 refine zm2 ?_
 refine TL.box rfl rfl (fun b1=>?_)
 refine iM ?_;refine oe ?_
 refine af rfl ?_ ?_<;>intro c8
 ·
  refine ry ?_;refine zm3 ?_
  refine ag (s:=13) rfl ?_ ?_<;>intro g13
  ·
   have q13:=of_decide_eq_true g13
   obtain⟨w0,h0⟩:=aj (l:=s.ways) (i:=0) dq om
   obtain⟨w1,h1⟩:=aj (l:=s.ways) (i:=1) dq om
   refine rv ?_;refine aw rfl rfl (aT hw h0 rfl rfl) rfl (tM ?_)
   refine ag (s:=21) rfl ?_ ?_<;>intro g21
   ·
    have q21:=of_decide_eq_true g21
    refine rv ?_;refine aw rfl rfl (aT hw h0 rfl rfl) rfl (tM ?_)
    refine ag (s:=29) rfl ?_ ?_<;>intro g29
    ·
     have q29:=of_decide_eq_true g29
     refine rv ?_;refine aw rfl rfl (aT hw h1 rfl rfl) rfl (tM ?_)
     refine ag (s:=37) rfl ?_ ?_<;>intro g37
     ·
      have q37:=of_decide_eq_true g37
      refine rv ?_;refine aw rfl rfl (aT hw h1 rfl rfl) rfl (nI ?_);refine zm0 ?_
      exact sP
     have q37:=of_decide_eq_false g37
     refine dE ?_;refine xg ?_
     exact sP
    have q29:=of_decide_eq_false g29
    refine wu ?_;refine xg ?_
    exact sP
   have q21:=of_decide_eq_false g21
   refine AF ?_;refine xg ?_
   exact sP
  have q13:=of_decide_eq_false g13
  refine AF ?_;refine sS ?_;refine xg ?_
  exact sP
 refine gp ?_;refine ry ?_;refine zm3 ?_
 refine ag (s:=49) rfl ?_ ?_<;>intro g49
 ·
  have q49:=of_decide_eq_true g49
  refine xf ?_;refine zm2 ?_
  exact sP
 have q49:=of_decide_eq_false g49
 refine zm8 ?_;refine aw rfl rfl (ah rfl rfl hw) rfl (fP ?_)
 refine af rfl ?_ ?_<;>intro c54
 ·
  refine zm2 ?_
  exact sP
 have hn7:(1:Int)≤s.ways.length∧(s.ways.length:Int)≤7:=o2q
 refine dn ?_;refine zm7 ?_;refine ry ?_;refine zm9 ?_
 refine aK (V:=fun k v ob H1=>[(3,v),(58,.int .i64 k)]) (K:=[(2,_),(56,_),(57,_)]) (L:=fun k v ob H1=>St [] w0 H H ((b1,_)::ob)) (I:=fun k v ob H1=>(0≤k∧k≤s.ways.length)∧OwnSl 1 Str.cells v ((s.ways.take k.toNat).map (·.label)) ob∧s.ways.all (fun w=>!dp w)=(s.ways.drop k.toNat).all (fun w=>!dp w)) (μ:=fun k=>(s.ways.length - k).toNat) 0 (.slice none 0 0) [] H ky ⟨o2q,OwnSl.nil,rfl⟩ (fun w hw=>hw) (fun k v ob H1 hI=>?_)
 obtain⟨⟨k0,k1⟩,hO,hal⟩:=hI
 obtain⟨va,vc,rfl⟩:=hO.form
 refine zm7 ?_
 refine af rfl ?_ ?_<;>intro c59
 ·
  obtain⟨x,hx⟩:=aj (l:=s.ways) k0 c59
  refine dv ?_;refine TL.run (ae rfl hw rfl om om) rfl (TL.run (aY hw hx rfl rfl) rfl (TL.alloc rfl (fun b5=>?_)))
  refine m4 ?_
  refine a7 (dp x) 91 [(2,_),(3,_),(5,_),(56,_),(57,_),(58,_),(59,_),(60,_),(61,_)] ky ?_ ?_
  ·
   refine ru ?_
   refine ag (s:=65) rfl ?_ ?_<;>intro g65
   ·
    have q65:=of_decide_eq_true g65
    refine kN ?_
    refine ag (s:=70) rfl ?_ ?_<;>intro g70
    ·
     have q70:=aQ g70
     refine AE ?_;refine k7 ?_;refine fM rfl rfl rfl (fM rfl rfl rfl (zM ?_));refine cu ?_
     exact aB rfl (by unfold dp;simp_all) ky
    have q70:=aM g70
    exact zq214
   have q65:=of_decide_eq_false g65
   refine im ?_
   exact zq214
  refine TC.cond rfl ?_ ?_<;>intro c91
  · refine jJ ?_;refine aF (bh (aF (aF ?_)));exact bh (zq213)
  refine dn ?_;refine jp ?_
  refine aA rfl rfl rfl rfl (fun b95=>?_)
  refine TL.append (enc:=Str.cells) rfl rfl rfl hO (Src.own [x.label] (.here _) rfl rfl) (by simp;omega) rfl (.s2 (.skip _ .all)) rfl (fun a96 c96 ob96 hO96=>?_)
  refine oM ?_
  exact ay (k+1) _ ob96 H ⟨o2q,by rw [bv k0 hx];exact hO96,bC k0 hx (by simpa using c91) hal⟩ ky (fun w hw=>hw.drop.drop) om
 refine tL ?_
 refine TL.pubO hO (.skip _ .all) sq (fun HJ leJ hJ=>?_)
 have hO2:=hJ.cast (show _=s.ways.map (·.label) by rw [aX c59 k0])
 refine ar (ab rfl rfl rfl rfl) (mH hO2) rfl (em ?_)
 exact zq210
theorem may_ok {H:Hp}(s:SStep)(hs:StepOk H s):
  FnS Tryz.prog 82 [.agg s.cells.toArray] H (.bool (dy s)):=by
 have hc:=hs.c
 have hmc:=hc.max
 have hB:=bare_rd hs
 refine FnS.enter Tryz.func82 Tryz.ntmps82 rfl rfl (fun w0=>?_)
 refine zm2 ?_
 refine TL.box rfl rfl (fun b1=>?_)
 refine oQ ?_;refine zm3 ?_
 refine ag (s:=9) rfl ?_ ?_<;>intro g9
 ·
  have q9:=of_decide_eq_true g9
  refine gn ?_;refine iG ?_;refine jJ ?_
  exact DK
 have q9:=of_decide_eq_false g9
 refine zm8 ?_;refine fP ?_
 refine af rfl ?_ ?_<;>intro c13
 ·
  refine jJ ?_
  exact DK
 refine AD ?_;refine ar (ab rfl rfl rfl rfl) (bare_ok s) rfl (TL.alloc rfl (fun b3=>?_))
 refine m4 ?_
 refine a7 (pM (gR s)) 61 [(1,_),(2,_)] ⟨rfl,rfl,trivial⟩ ?_ ?_
 ·
  refine ru ?_
  refine ag (s:=19) rfl ?_ ?_<;>intro g19
  ·
   have q19:=aQ g19
   refine im ?_;refine im ?_
   exact GR
  have q19:=aM g19
  refine kN ?_
  refine ag (s:=24) rfl ?_ ?_<;>intro g24
  ·
   have q24:=aQ g24
   refine im ?_
   exact GR
  have q24:=aM g24
  refine kN ?_
  refine ag (s:=29) rfl ?_ ?_<;>intro g29
  ·
   have q29:=aQ g29
   exact GR
  have q29:=aM g29
  refine kN ?_
  refine ag (s:=34) rfl ?_ ?_<;>intro g34
  ·
   have q34:=aQ g34
   exact zq233
  have q34:=aM g34
  refine m6 ?_
  refine ag (s:=39) rfl ?_ ?_<;>intro g39
  ·
   have q39:=aQ g39
   exact zq238
  have q39:=aM g39
  refine zm8 ?_;refine aw rfl rfl (ah rfl rfl hB.a) rfl (cM ?_)
  refine ag (s:=45) rfl ?_ ?_<;>intro g45
  ·
   have q45:=of_decide_eq_true g45
   exact zq244
  have q45:=of_decide_eq_false g45
  refine zm8 ?_;refine aw rfl rfl (ah rfl rfl hB.c) rfl (cM ?_)
  refine ag (s:=51) rfl ?_ ?_<;>intro g51
  ·
   have q51:=of_decide_eq_true g51
   exact zq250
  have q51:=of_decide_eq_false g51
  refine zm8 ?_;refine aw rfl rfl (ah rfl rfl hB.w) rfl (cM ?_)
  refine ag (s:=57) rfl ?_ ?_<;>intro g57
  ·
   have q57:=of_decide_eq_true g57
   refine iC ?_
   exact aB rfl (by unfold pM;simp_all) ⟨rfl,rfl,trivial⟩
  have q57:=of_decide_eq_false g57
  refine oL ?_
  exact aB rfl (by unfold pM;simp_all) ⟨rfl,rfl,trivial⟩
 refine TC.cond rfl ?_ ?_<;>intro c61
 ·
  refine jJ ?_
  exact DK
 refine gp ?_;refine jm ?_;refine TL.nil (ai (TC.block (a7 (decide (s.kind=1)||decide (s.kind=9)) 64 [(1,_),(2,_),(63,_)] ky ?_ ?_)))
 · exact cg (aG rfl) rfl rfl ky (ei (aG rfl) rfl rfl ky)
 refine TC.cond rfl ?_ ?_<;>intro c64
 · refine jm ?_;exact ar (ab rfl rfl rfl rfl) (bP s.name) rfl (na)
 refine eE ?_
 refine af rfl ?_ ?_<;>intro c70
 · refine nh ?_;exact ar (ab rfl rfl rfl rfl) (Ep s hs) rfl (na)
 refine eE ?_
 refine af rfl ?_ ?_<;>intro c74
 ·
  refine jm ?_;refine ar (ab rfl rfl rfl rfl) (bP s.name) rfl (zm0 ?_)
  refine ag (s:=79) rfl ?_ ?_<;>intro g79
  ·
   refine fl ?_;refine aH rfl rfl (ab rfl rfl rfl rfl) (bP s.peer) rfl (zm3 ?_)
   refine ag (s:=84) rfl ?_ ?_<;>intro g84
   ·
    refine fl ?_;refine aH rfl rfl (ab rfl rfl rfl rfl) (bP s.label) rfl (zm0 ?_)
    exact na
   refine gn ?_;refine zm0 ?_
   exact na
  refine im ?_;refine gn ?_;refine zm0 ?_
  exact na
 refine eE ?_
 refine af rfl ?_ ?_<;>intro c89
 ·
  refine jm ?_;refine ar (ab rfl rfl rfl rfl) (bP s.name) rfl (zm0 ?_)
  refine ag (s:=94) rfl ?_ ?_<;>intro g94
  ·
   refine fl ?_;refine aH rfl rfl (ab rfl rfl rfl rfl) (bP s.peer) rfl (zm3 ?_)
   refine ag (s:=99) rfl ?_ ?_<;>intro g99
   ·
    refine aw rfl rfl (bA rfl (.h1) rfl) rfl (aH rfl rfl (ab rfl rfl rfl rfl) (Ep s hs) rfl (zm0 ?_))
    exact na
   refine xg ?_
   exact na
  refine im ?_;refine xg ?_
  exact na
 refine a7 (decide (s.kind=6)||decide (s.kind=7)) 103 [(1,_),(2,_),(63,_)] ky ?_ ?_
 · exact cg (aG rfl) rfl rfl ky (ei (aG rfl) rfl rfl ky)
 refine TC.cond rfl ?_ ?_<;>intro c103
 ·
  refine jm ?_;refine ar (ab rfl rfl rfl rfl) (bP s.proc) rfl (zm0 ?_)
  refine ag (s:=109) rfl ?_ ?_<;>intro g109
  ·
   refine fl ?_;refine aw rfl rfl (ah rfl rfl hs.a) rfl (cv ?_);refine zm0 ?_
   exact na
  refine dE ?_;refine zm0 ?_
  exact na
 refine eE ?_
 refine af rfl ?_ ?_<;>intro c115
 ·
  refine TC.seq (jm ?_);refine ar (ab rfl rfl rfl rfl) (bP s.name) rfl (zm3 ?_)
  refine ag (s:=121) rfl ?_ ?_<;>intro g121
  ·
   refine xe ?_;refine lr ?_
   exact sO
  refine fl ?_;refine aH rfl rfl (ab rfl rfl rfl rfl) (bP s.label) rfl (cM ?_)
  refine ag (s:=127) rfl ?_ ?_<;>intro g127
  ·
   refine wt ?_;refine lr ?_
   exact sO
  refine fl ?_;refine aH rfl rfl (ab rfl rfl rfl rfl) (bP s.peer) rfl (cM ?_)
  refine ag (s:=133) rfl ?_ ?_<;>intro g133
  ·
   refine sR ?_;refine lr ?_
   exact sO
  refine fl ?_;refine aw rfl rfl (ah rfl rfl hc) rfl (cM ?_)
  refine ag (s:=139) rfl ?_ ?_<;>intro g139
  ·
   have q139:=of_decide_eq_true g139
   refine dE ?_;refine lr ?_
   exact sO
  have q139:=of_decide_eq_false g139
  refine fl ?_;refine aw rfl rfl (ah rfl rfl hc) rfl (fP ?_)
  refine af rfl ?_ ?_<;>intro c144
  ·
   refine gq ?_
   exact sO
  refine dn ?_;refine jm ?_;refine ns ?_;refine zm9 ?_
  refine TC.loop (V:=fun k=>[(148,.int .i64 k)]) (K:=[(2,_),(146,_),(147,_)]) (L:=fun k=>_) (I:=fun k=>(0≤k∧k≤s.casts.length)∧s.casts.all (fun c=>!cV c)=(s.casts.drop k.toNat).all (fun c=>!cV c)) (μ:=fun k=>(s.casts.length - k).toNat) (i:=(0:Int)) ky ⟨o2q,rfl⟩ (fun w hw=>hw) (fun k hI=>?_)
  obtain⟨⟨k0,k1⟩,hal⟩:=hI
  refine zm7 ?_
  refine af rfl ?_ ?_<;>intro c149
  ·
   obtain⟨x,hx⟩:=aj (l:=s.casts) k0 c149
   have hxa:=hs.cs x (List.mem_of_getElem? hx)
   refine dv ?_;refine tK ?_;refine TL.run (aY hc hx rfl rfl) rfl (TL.alloc rfl (fun b5=>?_))
   refine ik ?_
   refine a7 (cV x) 167 [(2,_),(5,_),(146,_),(147,_),(148,_),(149,_),(150,_),(151,_)] ky ?_ ?_
   ·
    refine mX ?_;refine ar (ab rfl rfl rfl rfl) (bP x.role) rfl (zm3 ?_)
    refine ag (s:=156) rfl ?_ ?_<;>intro g156
    ·
     refine tJ ?_
     exact aB rfl (by unfold cV;simp_all) ky
    refine zm8 ?_;refine aH rfl rfl (ab rfl rfl rfl rfl) (bP x.proc) rfl (cM ?_)
    refine ag (s:=162) rfl ?_ ?_<;>intro g162
    ·
     refine kR ?_
     exact aB rfl (by unfold cV;simp_all) ky
    refine zm8 ?_;refine aw rfl rfl (ah rfl rfl hxa) rfl (ef ?_)
    exact aB rfl (by unfold cV;simp_all) ky
   refine TC.cond rfl ?_ ?_<;>intro c167
   ·
    have hall:=ce (p:=fun c=>!cV c) k0 hx (by simp [c167]) hal
    clear hal
    refine ki ?_;exact aF (bh (sO))
   refine oh ?_
   exact aD (k+1) ⟨o2q,bC k0 hx (by simpa using c167) hal⟩ ky (fun w hw=>hw.drop) om
  have hall:=bU (p:=fun c=>!cV c) k0 c149 hal
  clear hal
  refine k8 ?_;refine bn (ai (jJ ?_))
  exact GS
 refine rE ?_
 exact GS
theorem pj {H:Hp}(s:SStep)(hs:StepOk H s)(hl:s.ways.length≤1000):
  FnO Tryz.prog 83 [.agg s.cells.toArray] H (fun v H1 ob=>H1=H∧OwnSl 1 I64.cells v (aW s) ob):=by
 have hw:=hs.w
 have hmw:=hw.max
 refine FnO.enter Tryz.func83 Tryz.ntmps83 rfl rfl (fun w0=>?_)
 refine zm2 ?_
 refine TL.box rfl rfl (fun b1=>?_)
 refine oQ ?_;refine ar (ab rfl rfl rfl rfl) (sJ s.kind) rfl (TL.nil (ai (TC.cond rfl (fun c8=>?_) (fun c8=>?_))))
 ·
  refine fC ?_
  refine aA rfl rfl rfl rfl (fun b11=>?_)
  refine sU ?_
  exact cf (.inr rfl) (ad rfl (RVal.tmp rfl)) (.take (.here _) rfl) ⟨rfl,by unfold aW;rw [if_pos c8];exact OwnSl.blk (enc:=I64.cells) [s.next] rfl rfl dq⟩
 refine dn ?_;refine zm7 ?_;refine ry ?_;refine zm9 ?_
 refine aK (V:=fun k v ob H1=>[(3,v),(15,.int .i64 k)]) (K:=[(2,_),(13,_),(14,_)]) (L:=fun k v ob H1=>St [] w0 H H ((b1,_)::ob)) (I:=fun k v ob H1=>(0≤k∧k≤s.ways.length)∧OwnSl 1 I64.cells v ((s.ways.take k.toNat).map (·.next)) ob) (μ:=fun k=>(s.ways.length - k).toNat) 0 (.slice none 0 0) [] H ky ⟨o2q,OwnSl.nil⟩ (fun w hw=>hw) (fun k v ob H1 hI=>?_)
 obtain⟨⟨k0,k1⟩,hO⟩:=hI
 obtain⟨va,vc,rfl⟩:=hO.form
 refine zm7 ?_
 refine af rfl ?_ ?_<;>intro c16
 ·
  obtain⟨x,hx⟩:=aj (l:=s.ways) k0 c16
  refine dv ?_;refine TL.run (ae rfl hw rfl om om) rfl (TL.run (aY hw hx rfl rfl) rfl (TL.alloc rfl (fun b5=>?_)))
  refine AC ?_
  refine aA rfl rfl rfl rfl (fun b22=>?_)
  refine TL.append (enc:=I64.cells) rfl rfl rfl hO (Src.own [x.next] (.here _) rfl rfl) (by simp;omega) rfl (.s2 (.skip _ .all)) rfl (fun a23 c23 ob23 hO23=>?_)
  refine oM ?_
  exact ay (k+1) _ ob23 H ⟨o2q,by rw [bv k0 hx];exact hO23⟩ ky (fun w hw=>hw.drop.drop) om
 refine jA ?_
 exact cf (.inr rfl) (ad rfl (RVal.tmp rfl)) (.skip _ .all) ⟨rfl,hO.cast (by unfold aW;rw [if_neg (by rw [c8];decide),aX c16 k0])⟩
end Go.Sx
namespace Go.Sx
open Go Go.Proofs
theorem A5 {H:Hp}(s:SStep)(hs:StepOk H s)(hl:s.args.length≤6∧s.casts.length≤4∧∀c∈s.casts,c.args.length≤6):
  FnO Tryz.prog 84 [.agg s.cells.toArray] H (fun v H1 ob=>H1=H∧OwnSl 1 I64.cells v (bJ s) ob):=by
 have hc:=hs.c
 have ha:=hs.a
 obtain⟨hl1,hl2,hl3⟩:=hl
 refine FnO.enter Tryz.func84 Tryz.ntmps84 rfl rfl (fun w0=>?_)
 refine zm2 ?_
 refine TL.box rfl rfl (fun b1=>?_)
 refine zm1 ?_;refine zm7 ?_;refine fC ?_;refine TL.nil (ai (TC.block (a7 (decide (s.kind=1)||(decide (s.kind=2)||decide (s.kind=3))) 8 [(1,_),(2,_),(3,_),(7,_)] ky ?_ ?_)))
 · exact cg (aG rfl) rfl rfl ky (cg (aG rfl) rfl rfl ky (ei (aG rfl) rfl rfl ky))
 refine TC.cond rfl ?_ ?_<;>intro c8
 ·
  have h8:s.kind=1∨s.kind=2∨s.kind=3:=by simpa [or_assoc] using c8
  refine jp ?_
  refine aA rfl rfl rfl rfl (fun b15=>?_)
  refine TL.append (enc:=I64.cells) rfl rfl rfl (OwnSl.nil (enc:=I64.cells)) (Src.own [s.term] (.here _) rfl rfl) sq rfl (.new _ rfl) rfl (fun a16 c16 ob16 hO16=>?_)
  refine cu ?_;refine bn (ai (el ?_));refine iN ?_
  refine TL.append (enc:=I64.cells) rfl rfl rfl hO16 (Src.sl ha) (by simp;omega) rfl (.skip _ (.skip _ .all)) rfl (fun a30 c30 ob30 hO30=>?_)
  refine tI ?_;refine ns ?_;refine zm9 ?_
  refine aK (V:=fun k v ob H1=>[(3,v),(34,.int .i64 k)]) (K:=[(2,_),(32,_),(33,_)]) (L:=fun k v ob H1=>St [] w0 H H ((b15,_)::(b1,_)::ob)) (I:=fun k v ob H1=>(0≤k∧k≤s.casts.length)∧OwnSl 1 I64.cells v (kO s++(s.casts.take k.toNat).flatMap (·.args)) ob∧((s.casts.take k.toNat).flatMap (·.args)).length≤6 * k.toNat) (μ:=fun k=>(s.casts.length - k).toNat) 0 _ ob30 H ky ⟨o2q,hO30.cast (by first | (rw [yJ h8];simp) | (rw [yK c17 c21];simp) | (rw [mu h8 (.inr c21)];simp) | (rw [mu h8 (.inl c17)];simp)),by simp⟩ (fun w hw=>hw) (fun k v ob H1 hI=>?_)
  exact zq285
 have h8:¬s.kind=1∧¬s.kind=2∧¬s.kind=3:=by simpa [and_assoc] using c8
 refine eE ?_
 refine af rfl ?_ ?_<;>intro c17
 ·
  refine oe ?_
  refine aV rfl ?_ ?_<;>intro c21
  ·
   refine jp ?_
   refine aA rfl rfl rfl rfl (fun b25=>?_)
   refine TL.append (enc:=I64.cells) rfl rfl rfl (OwnSl.nil (enc:=I64.cells)) (Src.own [s.term] (.here _) rfl rfl) sq rfl (.new _ rfl) rfl (fun a26 c26 ob26 hO26=>?_)
   refine cu ?_;refine bn (ai (el ?_));refine iN ?_
   refine TL.append (enc:=I64.cells) rfl rfl rfl hO26 (Src.sl ha) (by simp;omega) rfl (.skip _ (.skip _ .all)) rfl (fun a30 c30 ob30 hO30=>?_)
   refine tI ?_;refine ns ?_;refine zm9 ?_
   refine aK (V:=fun k v ob H1=>[(3,v),(34,.int .i64 k)]) (K:=[(2,_),(32,_),(33,_)]) (L:=fun k v ob H1=>St [] w0 H H ((b25,_)::(b1,_)::ob)) (I:=fun k v ob H1=>(0≤k∧k≤s.casts.length)∧OwnSl 1 I64.cells v (kO s++(s.casts.take k.toNat).flatMap (·.args)) ob∧((s.casts.take k.toNat).flatMap (·.args)).length≤6 * k.toNat) (μ:=fun k=>(s.casts.length - k).toNat) 0 _ ob30 H ky ⟨o2q,hO30.cast (by first | (rw [yJ h8];simp) | (rw [yK c17 c21];simp) | (rw [mu h8 (.inr c21)];simp) | (rw [mu h8 (.inl c17)];simp)),by simp⟩ (fun w hw=>hw) (fun k v ob H1 hI=>?_)
   exact zq285
  exact zq253
 exact zq253
theorem vD {H:Hp}(s:SStep)(hs:StepOk H s)(hl:s.ways.length≤1000):
  FnO Tryz.prog 87 [.agg s.cells.toArray] H (fun v H1 ob=>H1=H∧OwnSl 1 Str.cells v (cd s) ob):=by
 have hw:=hs.w
 have hnl:=F4 s hl
 refine FnO.enter Tryz.func87 Tryz.ntmps87 rfl rfl (fun w0=>?_)
 refine zm2 ?_
 refine TL.box rfl rfl (fun b1=>?_)
 refine oQ ?_;refine TL.nil (ai (TC.block (a7 (decide (s.kind=1)||decide (s.kind=8)) 8 [(1,_),(2,_),(7,_)] ky ?_ ?_)))
 · exact cg (aG rfl) rfl rfl ky (ei (aG rfl) rfl rfl ky)
 refine TC.cond rfl ?_ ?_<;>intro c8
 ·
  have h8:s.kind=1∨s.kind=8:=by simpa using c8
  refine fC ?_
  refine aA rfl rfl rfl rfl (fun b13=>?_)
  refine em ?_;exact bh (aF (cf (.inr rfl) (ad rfl (RVal.tmp rfl)) (.take (.here _) rfl) ⟨rfl,(OwnSl.blk (enc:=Str.cells) [s.name] rfl rfl sq).cast (by unfold cd;rw [if_pos h8])⟩))
 have h8:¬(s.kind=1∨s.kind=8):=by simpa using c8
 refine eE ?_
 refine af rfl ?_ ?_<;>intro c14
 ·
  refine zm7 ?_;refine ry ?_;refine zm9 ?_
  refine aK (V:=fun k v ob H1=>[(3,v),(19,.int .i64 k)]) (K:=[(1,_),(2,_),(17,_),(18,_)]) (L:=fun k v ob H1=>St [] w0 H H ((b1,_)::ob)) (I:=fun k v ob H1=>(0≤k∧k≤s.ways.length)∧OwnSl 1 Str.cells v ((s.ways.take k.toNat).map (·.name)) ob) (μ:=fun k=>(s.ways.length - k).toNat) 0 (.slice none 0 0) [] H ky ⟨o2q,OwnSl.nil⟩ (fun w hw=>hw) (fun k v ob H1 hI=>?_)
  obtain⟨⟨k0,k1⟩,hO⟩:=hI
  obtain⟨va,vc,rfl⟩:=hO.form
  refine zm7 ?_
  refine af rfl ?_ ?_<;>intro c20
  ·
   obtain⟨x,hx⟩:=aj (l:=s.ways) k0 c20
   refine dv ?_;refine TL.run (ae rfl hw rfl om om) rfl (TL.run (aY hw hx rfl rfl) rfl (TL.alloc rfl (fun b5=>?_)))
   refine AC ?_
   refine aA rfl rfl rfl rfl (fun b26=>?_)
   refine TL.append (enc:=Str.cells) rfl rfl rfl hO (Src.own [x.name] (.here _) rfl rfl) (by simp;omega) rfl (.s2 (.skip _ .all)) rfl (fun a27 c27 ob27 hO27=>?_)
   refine oM ?_
   exact ay (k+1) _ ob27 H ⟨o2q,by rw [bv k0 hx];exact hO27⟩ ky (fun w hw=>hw.drop.drop) om
  refine jA ?_;exact bh (aF (cf (.inr rfl) (ad rfl (RVal.tmp rfl)) (.skip _ .all) ⟨rfl,hO.cast (by unfold cd;rw [if_neg h8,if_pos c14,aX c20 k0])⟩))
 refine TC.skip (bn (ai (il ?_)))
 refine bD (ab rfl rfl rfl rfl) (pj s hs hl) rfl (fun v31 H31 ob31 hle31 hp31=>?_)
 obtain⟨rfl,hO31⟩:=hp31
 obtain⟨a31,c31,rfl⟩:=hO31.form
 refine TL.run (bK rfl rfl hO31) rfl (fh rfl rfl (by first | omega | decide) (by first | omega | decide) (by first | omega | decide) rfl (fun b33=>?_))
 refine em ?_
 exact cf (.inr rfl) (ad rfl (RVal.tmp rfl)) (.take (.here _) rfl) ⟨rfl,Ik (by unfold cd;rw [if_neg h8,if_neg c14]) om⟩
theorem IF {H:Hp}{at_:Int}{bl bo bw:Nat}{u:Value}{xs:List Int}{ob:aq}(hneg:at_<0)(hO:OwnSl 1 I64.cells u xs ob):
  FnX Tryz.prog 141 [.int .i64 at_,.pointer (some ⟨bw,0,none⟩),.pointer (some ⟨bl,0,none⟩),.pointer (some ⟨bo,0,none⟩)] H ((bo,[u])::ob) (fun r H' L'=>r= .tuple #[]∧H'=H∧∃u' ob',L'=(bo,[u'])::ob'∧OwnSl 1 I64.cells u' xs ob'):=by
 refine FnX.enter Tryz.func141 Tryz.ntmps141 rfl rfl (fun w0=>?_)
 refine nK ?_
 refine af rfl ?_ ?_<;>intro c6
 · exact TC.ret (aF (aZ (.inr rfl) (cq rfl) (fun w hw=>hw) ⟨rfl,rfl,_,_,rfl,hO⟩))
 exact absurd hneg c6
theorem IE {H:Hp}{l:List Term}{v:Value}{bl bo bw:Nat}(hT:RdSl H 6 Term.cells v l)(hl:H bl 0=some v)(hw:H bw 0=some (.func (.func 141) #[] #[.pointer (some ⟨bw,0,none⟩),.pointer (some ⟨bl,0,none⟩),.pointer (some ⟨bo,0,none⟩)])):
  ∀(f:Nat) (at_:Int),(at_<0∨Tr l f at_)→∀(u:Value) (xs:List Int) (ob:aq),OwnSl 1 I64.cells u xs ob→xs.length+(dD l f at_).length≤100000000→
   FnX Tryz.prog 141 [.int .i64 at_,.pointer (some ⟨bw,0,none⟩),.pointer (some ⟨bl,0,none⟩),.pointer (some ⟨bo,0,none⟩)] H ((bo,[u])::ob) (fun r H' L'=>r= .tuple #[]∧H'=H∧∃u' ob',L'=(bo,[u'])::ob'∧OwnSl 1 I64.cells u' (xs++dD l f at_) ob'):=by
 intro f
 induction f with
 | zero=>
  intro at_ h u xs ob hO hlen
  have h0:at_<0:=h.resolve_right (fun h=>h)
  rw [et h0,List.append_nil]
  exact IF h0 hO
 | succ f ih=>
 intro at_ h u xs ob hO hlen
 have one0:=hT.isOne
 obtain⟨ua,uc,rfl⟩:=hO.form
 refine FnX.enter Tryz.func141 Tryz.ntmps141 rfl rfl (fun w0=>?_)
 refine nK ?_
 refine af rfl ?_ ?_<;>intro c6
 · exact TC.ret (aF (aZ (.inr rfl) (cq rfl) (fun w hw=>hw) ⟨rfl,rfl,_,_,rfl,by rw [et c6,List.append_nil];exact hO⟩))
 obtain⟨h0,t,hx,_,_,hTl0,hTl1,hTr0,hTr1⟩:=h.resolve_left c6
 have hlt:at_.toNat<l.length:=(List.getElem?_eq_some_iff.1 hx).1
 rw [fp c6 hx] at hlen
 simp only [List.length_append,List.length_cons,List.length_nil] at hlen
 have hTl:t.l<0∨Tr l f t.l:=by rcases Int.lt_or_le (al t.kind) 1 with h1 | h1;exact .inl (by have:=hTl1 h1;omega);exact .inr (hTl0 h1)
 have hTr:t.r<0∨Tr l f t.r:=by rcases Int.lt_or_le (al t.kind) 2 with h1 | h1;exact .inl (by have:=hTr1 h1;omega);exact .inr (hTr0 h1)
 refine gp ?_;refine dO ?_;refine Eh ?_;refine bg (bG rfl hw) rfl (AG ?_)
 refine bB (ii (L1:=(bo,[(.slice ua _ uc)])::ob) (ab rfl rfl rfl rfl) (ih t.l (hTl) _ _ _ hO om) rfl (fun v13 H13 L13 hle13 hp13=>?_))
 obtain⟨rfl,rfl,u13,ob13,rfl,hO13⟩:=hp13
 obtain⟨ua13,uc13,rfl⟩:=hO13.form
 refine kY ?_;refine rA ?_;refine Eh ?_;refine bg (bG rfl hw) rfl (AG ?_)
 refine bB (ii (L1:=(bo,[(.slice ua13 _ uc13)])::ob13) (ab rfl rfl rfl rfl) (ih t.r (hTr) _ _ _ hO13 (by simp only [List.length_append];omega)) rfl (fun v20 H20 L20 hle20 hp20=>?_))
 obtain⟨rfl,rfl,u20,ob20,rfl,hO20⟩:=hp20
 obtain⟨ua20,uc20,rfl⟩:=hO20.form
 refine kY ?_;refine TC.region (xi ?_)
 refine aA rfl rfl rfl rfl (fun b23=>?_)
 refine TL.append (enc:=I64.cells) rfl rfl rfl hO20 (Src.own [at_] (.here _) rfl rfl) (by simp;omega) rfl (.skip _ (.skip _ .all)) rfl (fun a24 c24 ob24 hO24=>?_)
 exact mS rfl rfl rfl (.h1) rfl (TL.nil (aZ (.inl rfl) (cq rfl) (fun w hw=>hw.drop) ⟨rfl,rfl,_,_,rfl,by rw [fp c6 hx,← List.append_assoc,← List.append_assoc];exact hO24⟩))
end Go.Sx
namespace Go.Sx
open Go Go.Proofs
theorem A7 {H:Hp}(ck:Int)(cn:Str)(hn:cn.length≤4294960000)(hM:MaxG H):
  FnS Tryz.prog 182 [.agg #[.int .i64 ck,gs cn]] H (.bool (dM ck cn)):=by
 refine FnS.enter Tryz.func182 Tryz.ntmps182 rfl rfl (fun w0=>?_)
 refine zm2 ?_
 refine TL.box rfl rfl (fun b1=>?_)
 refine oQ ?_;refine zm3 ?_
 refine ag (s:=9) rfl ?_ ?_<;>intro g9
 ·
  have q9:=of_decide_eq_true g9
  refine gn ?_;refine lr ?_
  exact ao (.inr rfl) (ad rfl (RVal.tmp rfl)) (congrArg Value.bool (by unfold dM;simp_all))
 have q9:=of_decide_eq_false g9
 refine zm8 ?_;refine fP ?_
 refine af rfl ?_ ?_<;>intro c13
 ·
  refine gq ?_
  exact ao (.inr rfl) (ad rfl (RVal.tmp rfl)) (congrArg Value.bool (by unfold dM;simp_all))
 refine gp ?_;refine oe ?_
 refine aV rfl ?_ ?_<;>intro c16
 ·
  refine fC ?_;refine TL.run (cb rfl rfl rfl) rfl (sU ?_)
  exact ao (.inr rfl) (ad rfl (RVal.tmp rfl)) (congrArg Value.bool (by unfold dM;simp_all))
 refine dn ?_;refine fC ?_;refine ar (ab rfl rfl rfl rfl) (cut_ok cn hn hM) rfl (lq ?_);refine zm3 ?_;refine kW ?_;refine ar (ab rfl rfl rfl rfl) (bP (n7 cn).1) rfl (zm0 ?_)
 refine ag (s:=29) rfl ?_ ?_<;>intro g29
 ·
  refine xd ?_
  refine ag (s:=32) rfl ?_ ?_<;>intro g32
  ·
   refine jL ?_;refine rt ?_
   exact ao (.inr rfl) (ad rfl (RVal.tmp rfl)) (congrArg Value.bool (by unfold dM;simp_all))
  refine cv ?_;refine aH rfl rfl (ab rfl rfl rfl rfl) (bP (n7 cn).2.1) rfl (rt ?_)
  exact ao (.inr rfl) (ad rfl (RVal.tmp rfl)) (congrArg Value.bool (by unfold dM;simp_all))
 refine gn ?_;refine zM ?_;refine gm ?_
 exact ao (.inr rfl) (ad rfl (RVal.tmp rfl)) (congrArg Value.bool (by unfold dM;simp_all))
theorem HX {H:Hp}{l:List SArm}{v:Value}(n:Int)(hA:RdSl H 4 SArm.cells v l)(hz:∀a∈l,a.cn.length≤4294960000)(hM:MaxG H):
  FnS Tryz.prog 135 [v,.int .i64 n] H (.bool (eA l n)):=by
 have hmx:=hA.max
 have one0:=hA.isOne
 obtain⟨va,vc,rfl⟩:=hA.len
 refine FnS.enter Tryz.func135 Tryz.ntmps135 rfl rfl (fun w0=>?_)
 refine ni ?_;refine TL.run (ah rfl rfl hA) rfl (zm3 ?_)
 refine ag (s:=11) rfl ?_ ?_<;>intro g11
 ·
  have q11:=of_decide_eq_true g11
  refine gn ?_;refine lr ?_
  exact ao (.inr rfl) (ad rfl (RVal.tmp rfl)) (congrArg Value.bool (Cs om))
 have q11:=of_decide_eq_false g11
 refine cv ?_;refine aw rfl rfl (ah rfl rfl hA) rfl (fP ?_)
 refine af rfl ?_ ?_<;>intro c15
 ·
  refine gq ?_
  exact ao (.inr rfl) (ad rfl (RVal.tmp rfl)) (congrArg Value.bool (Cs om))
 have hlen:1≤l.length∧l.length≤6:=by omega
 refine lu ?_
 refine DG rfl (fun bm w1 hM1=>?_)
 refine tH ?_;refine TL.run (ah rfl rfl hA) rfl (zm9 ?_)
 refine TC.loop (V:=fun k=>[(19,.int .i64 k)]) (K:=[(1,_),(4,_),(5,_),(17,_),(18,_)]) (L:=fun k=>StM [] w0 H H [] bm ((l.take k.toNat).map (·.label))) (I:=fun k=>(0≤k∧k≤l.length)∧(l.take k.toNat).all (f8 n)=true∧((l.take k.toNat).map (·.label)).Nodup) (μ:=fun k=>(l.length - k).toNat) (i:=(0:Int)) ky ⟨o2q,rfl,List.nodup_nil⟩ (fun w hw=>hM1.over hw) (fun k hI=>?_)
 obtain⟨⟨k0,k1⟩,hal,hnd⟩:=hI
 refine GI (fun w2 hM2=>?_)
 refine zm7 ?_
 refine af rfl ?_ ?_<;>intro c20
 ·
  obtain⟨x,hx⟩:=aj (l:=l) k0 c20
  refine dv ?_;refine TL.run (ae rfl hA rfl om om) rfl (TL.run (aY hA hx rfl rfl) rfl (TL.alloc rfl (fun b7=>?_)))
  refine m4 ?_
  refine a7 (!f8 n x||decide (x.label∈((l.take k.toNat).map (·.label)))) 49 [(1,_),(4,_),(5,_),(7,_),(17,_),(18,_),(19,_),(20,_),(21,_),(22,_)] ky ?_ ?_
  ·
   refine mX ?_;refine ar (ab rfl rfl rfl rfl) (bP x.label) rfl (zm3 ?_)
   refine ag (s:=27) rfl ?_ ?_<;>intro g27
   ·
    refine sR ?_;refine zm3 ?_;refine AB ?_
    exact aB rfl (by unfold f8;first | (simp_all;done) | (simp_all;omega)) ky
   refine cv ?_;refine zm8 ?_;refine aw rfl rfl (FV hM2 rfl rfl) rfl (zm3 ?_)
   refine ag (s:=33) rfl ?_ ?_<;>intro g33
   ·
    refine dE ?_;refine zm3 ?_;refine AB ?_
    exact aB rfl (by unfold f8;first | (simp_all;done) | (simp_all;omega)) ky
   refine gM ?_;refine aw rfl rfl (ko rfl (.here _) rfl) rfl (aH rfl rfl (ab rfl rfl rfl rfl) (A7 x.ck x.cn (hz x (List.mem_of_getElem? hx)) hM) rfl (cM ?_))
   refine ag (s:=39) rfl ?_ ?_<;>intro g39
   ·
    refine AB ?_
    exact aB rfl (by unfold f8;first | (simp_all;done) | (simp_all;omega)) ky
   refine m6 ?_
   refine ag (s:=44) rfl ?_ ?_<;>intro g44
   ·
    have q44:=of_decide_eq_true g44
    refine kR ?_
    exact aB rfl (by unfold f8;first | (simp_all;done) | (simp_all;omega)) ky
   have q44:=of_decide_eq_false g44
   refine lw ?_;refine cu ?_
   exact aB rfl (by unfold f8;first | (simp_all;done) | (simp_all;omega)) ky
  refine TC.cond rfl ?_ ?_<;>intro c49
  · refine AA ?_;exact yB hM2 (ao (.inr rfl) (ad rfl (RVal.tmp rfl)) (congrArg Value.bool (Jw k0 hx (by simpa using c49))))
  have h49:f8 n x=true∧x.label∉((l.take k.toNat).map (·.label)):=by simpa using c49
  refine dn ?_;refine jp ?_;refine GF rfl rfl rfl h49.2 rfl hM2 (lo ?_)
  exact aD (k+1) ⟨o2q,by rw [bi k0 hx,List.all_append,hal,List.all_cons,h49.1];rfl,Dj k0 hx hnd h49.2⟩ ky (fun w hw=>by rw [bv k0 hx];exact hw.drop) om
 refine fD ?_;exact yB hM2 (ao (.inr rfl) (ad rfl (RVal.tmp rfl)) (congrArg Value.bool (Jv hlen k0 c20 hal hnd)))
theorem yI {H:Hp}(l:SLocal)(hl:LocalOk H l)(hM:MaxG H):
  FnS Tryz.prog 78 [.agg l.cells.toArray] H (.bool (cr l)):=by
 have ht:=hl.t
 have hmt:=ht.max
 refine FnS.enter Tryz.func78 Tryz.ntmps78 rfl rfl (fun w0=>?_)
 refine zm2 ?_
 refine TL.box rfl rfl (fun b1=>?_)
 refine oQ ?_;refine TL.run (ah rfl rfl ht) rfl (zm3 ?_)
 refine ag (s:=9) rfl ?_ ?_<;>intro g9
 ·
  have q9:=of_decide_eq_true g9
  refine dE ?_;refine lr ?_
  exact ao (.inr rfl) (ad rfl (RVal.tmp rfl)) (congrArg Value.bool (qw om))
 have q9:=of_decide_eq_false g9
 refine zm8 ?_;refine aw rfl rfl (ah rfl rfl ht) rfl (fP ?_)
 refine af rfl ?_ ?_<;>intro c14
 ·
  refine gq ?_
  exact ao (.inr rfl) (ad rfl (RVal.tmp rfl)) (congrArg Value.bool (qw om))
 have hlen:1≤l.turns.length∧l.turns.length≤40:=by omega
 refine gp ?_;refine fC ?_;refine TL.run (ah rfl rfl ht) rfl (zm9 ?_)
 refine TC.loop (V:=fun k=>[(18,.int .i64 k)]) (K:=[(1,_),(2,_),(16,_),(17,_)]) (L:=fun k=>_) (I:=fun k=>(0≤k∧k≤l.turns.length)∧l.turns.all (de l.turns.length)=(l.turns.drop k.toNat).all (de l.turns.length)) (μ:=fun k=>(l.turns.length - k).toNat) (i:=(0:Int)) ky ⟨o2q,rfl⟩ (fun w hw=>hw) (fun k hI=>?_)
 obtain⟨⟨k0,k1⟩,hal⟩:=hI
 refine zm7 ?_
 refine af rfl ?_ ?_<;>intro c19
 ·
  obtain⟨x,hx⟩:=aj (l:=l.turns) k0 c19
  have hT:=hl.ts x (List.mem_of_getElem? hx)
  refine dv ?_;refine TL.run (ae rfl ht rfl om om) rfl (TL.run (aY ht hx rfl rfl) rfl (TL.alloc rfl (fun b4=>?_)))
  refine nt ?_
  refine TL.nil (ai (TC.block (a7 (decide (x.kind=0)) 24 [(1,_),(2,_),(4,_),(16,_),(17,_),(18,_),(19,_),(20,_),(21,_),(22,_),(23,_)] ky ?_ ?_)))
  · exact ei (aG rfl) rfl rfl ky
  refine af rfl ?_ ?_<;>intro c24
  ·
   refine AP ?_
   refine ag (s:=29) rfl ?_ ?_<;>intro g29
   ·
    have q29:=aQ g29
    refine xf ?_;refine rq ?_
    exact ao (.inr rfl) (ad rfl (RVal.tmp rfl)) (congrArg Value.bool (gj k0 hx (by unfold de;simp_all) hal))
   have q29:=aM g29
   refine zm8 ?_;refine aw rfl rfl (ah rfl rfl hT.a) rfl (fP ?_)
   refine af rfl ?_ ?_<;>intro c34
   ·
    refine rq ?_
    exact ao (.inr rfl) (ad rfl (RVal.tmp rfl)) (congrArg Value.bool (gj k0 hx (by unfold de;simp_all) hal))
   refine TC.skip (bn (sQ ?_))
   exact aD (k+1) ⟨o2q,bC (p:=(de l.turns.length)) k0 hx (by unfold de;simp_all) hal⟩ ky (fun w hw=>hw.drop) om
  refine a7 (decide (x.kind=1)||decide (x.kind=2)) 35 [(1,_),(2,_),(4,_),(16,_),(17,_),(18,_),(19,_),(20,_),(21,_),(22,_),(23,_),(24,_)] ky ?_ ?_
  · exact cg (aG rfl) rfl rfl ky (ei (aG rfl) rfl rfl ky)
  refine TC.cond rfl ?_ ?_<;>intro c35
  ·
   refine fC ?_;refine ar (ab rfl rfl rfl rfl) (bP x.peer) rfl (zm3 ?_)
   refine ag (s:=42) rfl ?_ ?_<;>intro g42
   ·
    refine dE ?_;refine gn ?_;refine iG ?_;refine rq ?_
    exact ao (.inr rfl) (ad rfl (RVal.tmp rfl)) (congrArg Value.bool (gj k0 hx (by unfold de;simp_all) hal))
   refine zm8 ?_;refine fl ?_;refine aw rfl rfl (ah rfl rfl ht) rfl (aH rfl rfl (ab rfl rfl rfl rfl) (HX _ hT.a hT.z hM) rfl (fP ?_))
   refine TC.cond rfl ?_ ?_<;>intro c50
   ·
    refine rq ?_
    exact ao (.inr rfl) (ad rfl (RVal.tmp rfl)) (congrArg Value.bool (gj k0 hx (by unfold de;simp_all) hal))
   refine TC.skip (bn (sQ ?_))
   exact aD (k+1) ⟨o2q,bC (p:=(de l.turns.length)) k0 hx (by unfold de;simp_all) hal⟩ ky (fun w hw=>hw.drop) om
  refine rq ?_
  exact ao (.inr rfl) (ad rfl (RVal.tmp rfl)) (congrArg Value.bool (gj k0 hx (by unfold de;simp_all) hal))
 refine fD ?_
 exact ao (.inr rfl) (ad rfl (RVal.tmp rfl)) (congrArg Value.bool (yj hlen k0 c19 hal))
theorem Ba {H:Hp}(ck:Int)(cn:Str)(hn:cn.length≤4294960000)(hM:MaxG H):
  FnS Tryz.prog 80 [.agg #[.int .i64 ck,gs cn]] H (.bool (dM ck cn)):=by
 refine FnS.enter Tryz.func80 Tryz.ntmps80 rfl rfl (fun w0=>?_)
 refine zm2 ?_
 refine TL.box rfl rfl (fun b1=>?_)
 refine zm1 ?_;refine il ?_;refine dN ?_
 refine aA rfl rfl rfl rfl (fun b5=>?_)
 refine dN ?_
 refine aA rfl rfl rfl rfl (fun b7=>?_)
 refine dN ?_;refine fB (.h1) (dT sq (fun H_b5 le_b5 rd_b5=>?_))
 replace hM:=hM.le le_b5
 have hA5:RdSl H_b5 4 SArm.cells _ ([⟨[120],ck,cn,0⟩]):=RdSl.blk (cap:=1) rd_b5 (by intro x hx;rfl) kr (by show 1≤9223372036854775807;decide)
 refine dT sq (fun H_b7 le_b7 rd_b7=>?_)
 replace hM:=hM.le le_b7
 replace hA5:=hA5.le le_b7
 have hT7:RdSl H_b7 3 STurn.cells _ ([⟨1,[120],[⟨[120],ck,cn,0⟩],(some ⟨b5,0,none⟩,1)⟩]):=RdSl.blk (cap:=1) rd_b7 (by intro x hx;rfl) kr (by show 1≤9223372036854775807;decide)
 refine zm448 ?_;refine em ?_
 exact ao (.inr rfl) (ad rfl (RVal.tmp rfl)) (congrArg Value.bool (wi ck cn _ _))
end Go.Sx
namespace Go.Sx
open Go Go.Proofs
theorem A9 {H:Hp}{l:List Term}{v:Value}(root:Int)(hT:RdSl H 6 Term.cells v l)(hm:cN l root=true):
  FnO Tryz.prog 85 [v,.int .i64 root] H (fun r H1 ob=>OwnSl 1 I64.cells r (bH l root) ob):=by
 have one1:=hT.isOne
 have hvl:=mI hm
 refine FnO.enter Tryz.func85 Tryz.ntmps85 rfl rfl (fun w0=>?_)
 refine zm2 ?_
 refine sN rfl rfl (fun b2=>?_)
 refine rG ?_
 refine TL.alloc rfl (fun b5=>?_)
 refine gN ?_
 refine TL.alloc rfl (fun b6=>?_)
 refine jo ?_;refine tO ?_
 refine dT sq (fun H_b6 le_b6 rd_b6=>?_)
 refine fB (.h1) (dT sq (fun H_b2 le_b2 rd_b2=>?_))
 have hT2:=(hT.le le_b6).le le_b2
 have hl:H_b2 b2 0=some v:=rd_b2 0 _ rfl
 have hw:=le_b2 _ _ _ (rd_b6 0 _ rfl)
 refine TL.run (bG rfl hw) rfl (zm0 ?_)
 refine ii (L1:=(b5,[.slice none 0 0])::[]) (ab rfl rfl rfl rfl) (IE hT2 hl hw (root.toNat+1) root (.inr (mJ hm)) _ [] [] OwnSl.nil (by simp;omega)) rfl (fun v10 H10 L10 hle10 hp10=>?_)
 obtain⟨rfl,rfl,u10,ob10,rfl,hO10⟩:=hp10
 rw [List.nil_append] at hO10
 obtain⟨ua10,uc10,rfl⟩:=hO10.form
 refine gN ?_;refine nJ ?_;refine em ?_
 exact cf (.inr rfl) (ad rfl (RVal.tmp rfl)) (.skip _ .all) hO10
theorem pL {H:Hp}{pg:SProg}(s:Str)(n:Int)(hP:ProgOk H pg):
  FnS Tryz.prog 142 [.agg pg.cells.toArray,gs s,.int .i64 n] H (.bool (bL pg.procs s n)):=by
 have hq:=hP.q
 have hmax:=hq.max
 refine FnS.enter Tryz.func142 Tryz.ntmps142 rfl rfl (fun w0=>?_)
 refine zm2 ?_
 refine TL.box rfl rfl (fun b3=>?_)
 refine zm1 ?_;refine il ?_;refine zm0 ?_;refine ar (ab rfl rfl rfl rfl) (i4 s hP) rfl (zm1 ?_);refine fO ?_
 refine ag (s:=13) rfl ?_ ?_<;>intro g13
 ·
  have q13:=of_decide_eq_true g13
  have hfr:=kx pg.procs s
  obtain⟨x,hx⟩:=aj (l:=pg.procs) (i:=dk pg.procs s) om om
  have hxp:=(hP.qs x (List.mem_of_getElem? hx)).pa.max
  refine m5 ?_;refine aw rfl rfl (ae rfl hq rfl om om) rfl (gM ?_);refine aw rfl rfl (aT hq hx rfl rfl) rfl (Eg ?_);refine AQ ?_
  exact ao (.inr rfl) (ad rfl (RVal.tmp rfl)) (congrArg Value.bool (by unfold bL pC;first | (rw [hx];simp_all;done) | (simp_all;done) | (simp_all;omega)))
 have q13:=of_decide_eq_false g13
 refine dE ?_;refine lh ?_;refine gm ?_
 exact ao (.inr rfl) (ad rfl (RVal.tmp rfl)) (congrArg Value.bool (by unfold bL pC;first | (rw [hx];simp_all;done) | (simp_all;done) | (simp_all;omega)))
theorem Bu {H:Hp}{pg:SProg}(s:SStep)(hP:ProgOk H pg)(hs:StepOk H s)(hl:s.casts.length≤4):
  FnS Tryz.prog 143 [.agg pg.cells.toArray,.agg s.cells.toArray] H (.bool (dx pg s)):=by
 have hr:=hP.r
 have hrm:=hr.max
 have hc:=hs.c
 refine FnS.enter Tryz.func143 Tryz.ntmps143 rfl rfl (fun w0=>?_)
 refine zm2 ?_
 refine TL.box rfl rfl (fun b2=>?_)
 refine TL.box rfl rfl (fun b3=>?_)
 refine tI ?_;refine TL.run (ah rfl rfl hr) rfl (zm9 ?_)
 refine TC.loop (V:=fun k=>[(15,.int .i64 k)]) (K:=[(3,_),(4,_),(13,_),(14,_)]) (L:=fun k=>_) (I:=fun k=>(0≤k∧k≤pg.protos.length)∧dx pg s=fe s (pg.protos.drop k.toNat)) (μ:=fun k=>(pg.protos.length - k).toNat) (i:=(0:Int)) ky ⟨o2q,rfl⟩ (fun w hw=>hw) (fun k hI=>?_)
 obtain⟨⟨k0,k1⟩,hop⟩:=hI
 have hk0:=k0
 refine zm7 ?_
 refine af rfl ?_ ?_<;>intro c16
 ·
  obtain⟨x,hx⟩:=aj (l:=pg.protos) k0 c16
  have hxr:=(hP.rs x (List.mem_of_getElem? hx)).r.max
  refine dv ?_;refine TL.run (ae rfl hr rfl om om) rfl (TL.run (aY hr hx rfl rfl) rfl (TL.alloc rfl (fun b6=>?_)))
  refine m4 ?_;refine fC ?_;refine iN ?_;refine TL.run (cb rfl rfl rfl) rfl (TL.nil (ai (aV rfl (fun c23=>?_) (fun c23=>?_))))
  ·
   refine AJ ?_;refine oq ?_
   exact aD (k+1) ⟨o2q,Df k0 hx c23 hop⟩ ky (fun w hw=>hw.drop) om
  refine dn ?_;refine jm ?_
  refine aA rfl rfl rfl rfl (fun b26=>?_)
  refine oP ?_;refine mZ ?_;refine ns ?_;refine zm9 ?_
  refine aK (V:=fun k v ob H1=>[(7,v),(30,.int .i64 k)]) (K:=[(3,_),(4,_),(6,_),(13,_),(14,_),(15,_),(16,_),(17,_),(18,_),(19,_),(20,_),(21,_),(22,_),(23,_),(24,_),(25,_),(26,_),(27,_),(28,_),(29,_)]) (L:=fun k v ob H1=>St [] w0 H H ((b6,_)::(b3,_)::(b2,_)::ob)) (I:=fun k v ob H1=>(0≤k∧k≤s.casts.length)∧OwnSl 1 Str.cells v (s.peer::(s.casts.take k.toNat).map (·.role)) ob) (μ:=fun k=>(s.casts.length - k).toNat) 0 (.slice (some ⟨b26,0,none⟩) 1 1) [(b26,[gs s.peer])] H ky ⟨o2q,OwnSl.blk (enc:=Str.cells) [s.peer] rfl rfl sq⟩ (fun w hw=>hw.perm (List.perm_append_singleton _ _).symm) (fun k v ob H1 hI=>?_)
  obtain⟨⟨k0,k1⟩,hO⟩:=hI
  obtain⟨va,vc,rfl⟩:=hO.form
  refine zm7 ?_
  refine af rfl ?_ ?_<;>intro c31
  ·
   obtain⟨y,hy⟩:=aj (l:=s.casts) k0 c31
   refine dv ?_;refine tK ?_;refine TL.run (aY hc hy rfl rfl) rfl (TL.alloc rfl (fun b9=>?_))
   refine AC ?_
   refine aA rfl rfl rfl rfl (fun b37=>?_)
   refine TL.append (enc:=Str.cells) rfl rfl rfl hO (Src.own [y.role] (.here _) rfl rfl) (by simp;omega) rfl (.s4 (.skip _ .all)) rfl (fun a38 c38 ob38 hO38=>?_)
   refine oM ?_
   exact ay (k+1) _ ob38 H ⟨o2q,hO38.cast (by rw [bv k0 hy];rfl)⟩ ky (fun w hw=>hw.drop.drop) om
  refine iB ?_
  refine TC.pubO hO (.s2 (.skip _ .all)) sq (fun HJ leJ hJ=>?_)
  replace hP:=hP.le leJ
  have hJ2:=hJ.cast (show _=cH s by rw [aX c31 k0];rfl)
  clear hJ
  have hJm:=hJ2.max
  refine a7 (!(decide (((cH s).length:Int)=x.roles.length)&&dt (cH s))) 50 [(3,_),(4,_),(6,_),(7,_),(13,_),(14,_),(15,_),(16,_),(17,_),(18,_),(19,_),(20,_),(21,_),(22,_),(23,_),(24,_),(25,_),(26,_),(27,_),(28,_),(29,_),(30,_),(31,_)] ky ?_ ?_
  ·
   refine jz ?_;refine TL.run (ah rfl rfl hJ2) rfl (fj ?_);refine TL.run (ah rfl rfl (hP.rs x (List.mem_of_getElem? hx)).r) rfl (zm3 ?_)
   refine ag (s:=46) rfl ?_ ?_<;>intro g46
   ·
    have q46:=aQ g46
    refine iC ?_
    exact aB rfl (by first | (simp_all;done) | (simp_all;omega)) ky
   have q46:=aM g46
   refine cv ?_;refine aH rfl rfl (ab rfl rfl rfl rfl) (mH hJ2) rfl (ef ?_)
   exact aB rfl (by first | (simp_all;done) | (simp_all;omega)) ky
  refine TC.cond rfl ?_ ?_<;>intro c50
  ·
   refine AA ?_
   exact ao (.inr rfl) (ad rfl (RVal.tmp rfl)) (congrArg Value.bool (by first | exact(mF k0 c16 hop).symm | exact(sE hk0 hx c23 hop c50).symm | exact(sD hk0 hx c23 hop c50 h1).symm))
  refine gp ?_;refine el ?_;refine TL.run (ah rfl rfl hJ2) rfl (zm9 ?_)
  refine TC.loop (V:=fun k=>[(53,.int .i64 k)]) (K:=[(3,_),(4,_),(6,_),(7,_),(13,_),(14,_),(15,_),(16,_),(17,_),(18,_),(19,_),(20,_),(21,_),(22,_),(23,_),(24,_),(25,_),(26,_),(27,_),(28,_),(29,_),(30,_),(31,_),(50,_),(51,_),(52,_)]) (L:=fun k=>_) (I:=fun k=>(0≤k∧k≤(cH s).length)∧(cH s).all (fun r=>bI x.roles r)=((cH s).drop k.toNat).all (fun r=>bI x.roles r)) (μ:=fun k=>((cH s).length - k).toNat) (i:=(0:Int)) ky ⟨o2q,rfl⟩ (fun w hw=>hw) (fun k hI=>?_)
  obtain⟨⟨k0,k1⟩,hal⟩:=hI
  refine zm7 ?_
  refine af rfl ?_ ?_<;>intro c54
  ·
   obtain⟨z,hz⟩:=aj (l:=cH s) k0 c54
   refine dv ?_;refine TL.run (ae rfl hJ2 rfl om om) rfl (TL.run (aL hJ2 hz rfl rfl) rfl (tG ?_))
   refine ar (ab rfl rfl rfl rfl) (j4 z (hP.rs x (List.mem_of_getElem? hx)).r) rfl (zm1 ?_)
   refine TC.cond rfl ?_ ?_<;>intro c61
   ·
    have h1:=ce (p:=fun r=>bI x.roles r) k0 hz (by simpa using c61) hal
    refine kX ?_;refine iy ?_
    exact ao (.inr rfl) (ad rfl (RVal.tmp rfl)) (congrArg Value.bool (by first | exact(mF k0 c16 hop).symm | exact(sE hk0 hx c23 hop c50).symm | exact(sD hk0 hx c23 hop c50 h1).symm))
   refine oh ?_
   exact aD (k+1) ⟨o2q,bC (p:=(fun r=>bI x.roles r)) k0 hz (by simpa using c61) hal⟩ ky (fun w hw=>hw) om
  have h1:=bU (p:=fun r=>bI x.roles r) k0 c54 hal
  refine fD ?_;refine iy ?_
  exact ao (.inr rfl) (ad rfl (RVal.tmp rfl)) (congrArg Value.bool (by first | exact(mF k0 c16 hop).symm | exact(sE hk0 hx c23 hop c50).symm | exact(sD hk0 hx c23 hop c50 h1).symm))
 refine fD ?_
 exact ao (.inr rfl) (ad rfl (RVal.tmp rfl)) (congrArg Value.bool (by first | exact(mF k0 c16 hop).symm | exact(sE hk0 hx c23 hop c50).symm | exact(sD hk0 hx c23 hop c50 h1).symm))
end Go.Sx
namespace Go.Sx
open Go Go.Proofs
theorem few_ok {H:Hp}{pg:SProg}(hP:ProgOk H pg):
  Fn Tryz.prog 17 [.agg pg.cells.toArray] H (fun v H1=>∃b:Bool,v= .bool b):=by
 refine Fn.enter Tryz.func17 Tryz.ntmps17 rfl rfl (fun w0=>?_)
 refine zm2 ?_
 refine TL.box rfl rfl (fun b1=>?_)
 refine oQ ?_;refine TL.run (ah rfl rfl hP.r) rfl (zm3 ?_)
 refine ag (s:=8) rfl ?_ ?_<;>intro g8
 ·
  have q8:=of_decide_eq_true g8
  refine sR ?_;refine lr ?_
  exact aR (.inr rfl) (ad rfl (RVal.tmp rfl)) ⟨_,rfl⟩
 have q8:=of_decide_eq_false g8
 refine zm8 ?_;refine aw rfl rfl (ah rfl rfl hP.l) rfl (cM ?_)
 refine ag (s:=14) rfl ?_ ?_<;>intro g14
 ·
  have q14:=of_decide_eq_true g14
  refine dE ?_;refine lr ?_
  exact aR (.inr rfl) (ad rfl (RVal.tmp rfl)) ⟨_,rfl⟩
 have q14:=of_decide_eq_false g14
 refine zm8 ?_;refine aw rfl rfl (ah rfl rfl hP.q) rfl (fP ?_)
 refine af rfl ?_ ?_<;>intro c19
 ·
  refine gq ?_
  exact aR (.inr rfl) (ad rfl (RVal.tmp rfl)) ⟨_,rfl⟩
 refine jn ?_
 refine TC.loop (V:=fun k=>[(3,.int .i64 k)]) (K:=[(1,_),(2,_)]) (L:=fun k=>_) (I:=fun k=>0≤k∧k≤pg.procs.length) (μ:=fun k=>(pg.procs.length - k).toNat) (i:=(0:Int)) ky o2q (fun w hw=>hw) (fun k hI=>?_)
 obtain⟨k0,k1⟩:=hI
 refine jO ?_;refine TL.run (ah rfl rfl hP.q) rfl (zm1 ?_)
 refine af rfl ?_ ?_<;>intro c24
 ·
  refine dv ?_;refine zm5 ?_
  obtain⟨q,hx30⟩:=aj (l:=pg.procs) k0 (by simpa using c24)
  have hqo:=hP.qs q (List.mem_of_getElem? hx30)
  refine xi ?_;refine Az ?_;refine zm5 ?_;refine TL.run (aT hP.q hx30 rfl rfl) rfl (TL.run (ah rfl rfl hqo.s) rfl (zm3 ?_))
  refine ag (s:=35) rfl ?_ ?_<;>intro g35
  ·
   have q35:=of_decide_eq_true g35
   refine dE ?_;refine sR ?_;refine xf ?_;refine kX ?_
   exact aR (.inr rfl) (ad rfl (RVal.tmp rfl)) ⟨_,rfl⟩
  have q35:=of_decide_eq_false g35
  refine m5 ?_;refine aw rfl rfl (ae rfl hP.q rfl om om) rfl (gM ?_);refine aw rfl rfl (aT hP.q hx30 rfl rfl) rfl (aw rfl rfl (ah rfl rfl hqo.t) rfl (cM ?_))
  refine ag (s:=45) rfl ?_ ?_<;>intro g45
  ·
   have q45:=of_decide_eq_true g45
   refine dE ?_;refine xf ?_;refine kX ?_
   exact aR (.inr rfl) (ad rfl (RVal.tmp rfl)) ⟨_,rfl⟩
  have q45:=of_decide_eq_false g45
  refine m5 ?_;refine aw rfl rfl (ae rfl hP.q rfl om om) rfl (gM ?_);refine aw rfl rfl (aT hP.q hx30 rfl rfl) rfl (aw rfl rfl (ah rfl rfl hqo.pa) rfl (fP ?_))
  refine af rfl ?_ ?_<;>intro c54
  ·
   refine kX ?_
   exact aR (.inr rfl) (ad rfl (RVal.tmp rfl)) ⟨_,rfl⟩
  refine d6 ?_
  exact aD (k+1) o2q ky (fun w hw=>hw) om
 refine fD ?_
 exact aR (.inr rfl) (ad rfl (RVal.tmp rfl)) ⟨_,rfl⟩
end Go.Sx
namespace Go.Sx
open Go Go.Proofs
theorem Fa {H:Hp}{l:List SArm}{v:Value}(hA:RdSl H 4 SArm.cells v l)(hl:l.length≤1000):
  FnO Tryz.prog 46 [v] H (fun r H1 ob=>H1=H∧OwnSl 4 SArm.cells r l ob):=by
 refine FnO.enter Tryz.func46 Tryz.ntmps46 rfl rfl (fun w0=>?_)
 refine AM ?_
 refine aA rfl rfl rfl rfl (fun b3=>?_)
 refine zm0 ?_
 refine TL.append (enc:=SArm.cells) rfl rfl rfl (OwnSl.blk (enc:=SArm.cells) [] rfl rfl dq) (Src.sl hA) (by simp;omega) rfl (.take (.here _) rfl) rfl (fun a5 c5 ob5 hO5=>?_)
 refine em ?_
 exact cf (.inr rfl) (ad rfl (RVal.tmp rfl)) .all ⟨rfl,hO5.cast sq⟩
theorem ordW_ok {q:SProc}{bx bo bw:Nat}(hS:bX q)(hz2:q.steps.length≤80):
  ∀(f:Nat) {H:Hp} (at_:Int),ProcOk H q→ProcAt H bx q→CellAt H bw (.func (.func 92) #[] #[.pointer (some ⟨bo,0,none⟩),.pointer (some ⟨bx,0,none⟩),.pointer (some ⟨bw,0,none⟩)])→0≤at_→at_<q.steps.length→q.steps.length≤at_.toNat+f→∀(u:Value) (xs:List Int) (ob:aq),OwnSl 1 I64.cells u xs ob→xs.length+(jE q f at_).length≤1000→
   FnX Tryz.prog 92 [.int .i64 at_,.pointer (some ⟨bo,0,none⟩),.pointer (some ⟨bx,0,none⟩),.pointer (some ⟨bw,0,none⟩)] H ((bo,[u])::ob) (fun r H2 L2=>r= .tuple #[]∧H.le H2∧∃u2 ob2,L2=(bo,[u2])::ob2∧OwnSl 1 I64.cells u2 (xs++jE q f at_) ob2):=by
 intro f
 induction f with
 | zero=>
  intro H at_ _ _ _ h0 h1 h2;exfalso;omega
 | succ f ih=>
 intro H at_ hQ hx hw h0 h1 h2 u xs ob hO hlen
 obtain⟨s,hs⟩:∃s,q.steps[at_.toNat]? =some s:=⟨_,List.getElem?_eq_getElem om⟩
 rw [pd hs] at hlen ⊢
 have hsk:=hQ.ss s (List.mem_of_getElem? hs)
 obtain⟨ua,uc,rfl⟩:=hO.form
 obtain⟨hm,hin⟩:=hS _ _ hs
 have hsz:=dY hm
 have hmax:=hQ.s.max
 refine FnX.enterM Tryz.func92 Tryz.ntmps92 rfl rfl (fun w0 M hM=>?_)
 refine zm2 ?_;refine xi ?_
 refine aA rfl rfl rfl rfl (fun b9=>?_)
 refine TL.append (enc:=I64.cells) rfl rfl rfl hO (Src.own [at_] (.here _) rfl rfl) (by simp only [List.length_cons] at hlen;simp;omega) rfl (.skip _ (.skip _ .all)) rfl (fun a10 c10 ob10 hO10=>?_)
 refine mS rfl rfl rfl (.h1) rfl (gN ?_);refine zm5 ?_;refine TL.run (bG rfl (hx 3 _ rfl)) rfl (zm0 ?_);refine tF ?_
 refine ka (ab rfl rfl rfl rfl) (pj s hsk om) rfl (fun v16 H16 ob16 hf16 hle16 hp16=>?_)
 obtain⟨eH16,hO16⟩:=hp16
 subst H16
 obtain⟨a16,c16,rfl⟩:=hO16.form
 refine TL.pubO hO16 (.s2 (.past _ .all)) (fun p hp hm=>absurd (hM _ hm) (Nat.not_lt.2 (hf16 p hp))) (fun HP16 leP16 hR16=>?_)
 replace hQ:=hQ.le leP16
 replace hx:=hx.le leP16
 replace hw:=hw.le leP16
 have hR16m:=hR16.max
 refine TL.run (ah rfl rfl hR16) rfl (zm9 ?_)
 have hleA:=leP16
 refine aK (V:=fun k v ob H1=>[(18,.int .i64 k)]) (K:=[(3,_),(16,_),(17,_)]) (L:=fun k v ob H1=>St M w0 H H1 ((bo,[v])::ob)) (I:=fun k v ob H1=>(0≤k∧k≤(aW s).length)∧HP16.le H1∧OwnSl 1 I64.cells v (xs++at_::((aW s).take k.toNat).flatMap (jE q f)) ob) (μ:=fun k=>((aW s).length - k).toNat) 0 _ _ HP16 ky ⟨o2q,Hp.le.refl _,hO10.cast sq⟩ (fun w hw=>by have h2:=hw.drop;rw [List.append_nil] at h2;exact h2) (fun k v ob H1 hI=>?_)
 obtain⟨⟨k0,k1⟩,hle,hO⟩:=hI
 obtain⟨va,vc,rfl⟩:=hO.form
 replace hQ:=hQ.le hle
 replace hx:=hx.le hle
 replace hw:=hw.le hle
 replace hR16:=hR16.le hle
 replace hleA:=hleA.trans hle
 refine zm7 ?_
 refine af rfl ?_ ?_<;>intro c19
 ·
  obtain⟨t,ht⟩:=aj (l:=aW s) k0 c19
  have htb:=hin t (List.mem_of_getElem? ht)
  have hlb:=sK (f:=jE q f) k0 ht
  refine dv ?_;refine TL.run (ae rfl hR16 rfl om om) rfl (TL.run (aL hR16 ht rfl rfl) rfl (zm1 ?_));refine TC.region (TL.run (bG rfl hw) rfl (zm0 ?_))
  refine ii (L1:=(bo,[.slice va _ vc])::ob) (ab rfl rfl rfl rfl) (ih t hQ hx hw om om om _ _ _ hO (by simp only [List.length_append,List.length_cons];simp only [List.length_cons] at hlen;omega)) rfl (fun v24 H24 L24 hle24 hp24=>?_)
  obtain⟨rfl, -,u24,ob24,rfl,hO24⟩:=hp24
  obtain⟨ua24,uc24,rfl⟩:=hO24.form
  replace hw:=hw.le hle24
  replace hle:=hle.trans hle24
  refine lo ?_
  exact ay (k+1) _ ob24 H24 ⟨o2q,hle,hO24.cast (by rw [bi k0 ht,List.flatMap_append];simp)⟩ ky (fun w hw=>hw) om
 refine k8 ?_
 exact aZ (.inl rfl) (cq rfl) (fun w hw=>hw) ⟨rfl,hleA,_,_,rfl,hO.cast (by rw [aX c19 k0])⟩
theorem Ex {H:Hp}{q:SProc}{bx bmv bm bout:Nat}{nm:Str}{pv u sv:Value}{m0:List Int}{o0:List Term}{ob:aq}(root:Int)(hQ:ProcOk H q)(hx:ProcAt H bx q)(hmv:CellAt H bmv (.slice (some ⟨bm,0,none⟩) q.terms.length q.terms.length))(hm:cN q.terms root=true)(hml0:m0.length=q.terms.length)(hO0:OwnSl 6 Term.cells u o0 ob)(hr:o0.length≤300000000000):
  FnX Tryz.prog 93 [.int .i64 root,.pointer (some ⟨bx,0,none⟩),.pointer (some ⟨bmv,0,none⟩),.pointer (some ⟨bout,0,none⟩)] H ((bm,m0.map (Value.int .i64))::(bout,[gs nm,pv,u,sv])::ob) (fun r H2 L2=>r= .int .i64 (aP (fa q.terms root (m0,o0)).1 root)∧∃u2 ob2,L2=(bm,(fa q.terms root (m0,o0)).1.map (Value.int .i64))::(bout,[gs nm,pv,u2,sv])::ob2∧OwnSl 6 Term.cells u2 (fa q.terms root (m0,o0)).2 ob2):=by
 obtain⟨ua,uc,rfl⟩:=hO0.form
 have hpl:=mI hm
 have htr:=mJ hm
 have hr0:=HV htr
 have hr1:0≤root:=htr.1
 have hmax:=hQ.t.max
 have hpl2:(bH q.terms root).length≤33554432:=hpl
 refine FnX.enterM Tryz.func93 Tryz.ntmps93 rfl rfl (fun w0 M hM=>?_)
 refine zm7 ?_;refine mY ?_;refine TL.run (bG rfl (hx 2 _ rfl)) rfl (zm0 ?_)
 refine ka (ab rfl rfl rfl rfl) (A9 root hQ.t hm) rfl (fun v12 H12 ob12 hf12 hle12 hp12=>?_)
 have hO12:OwnSl 1 I64.cells v12 (bH q.terms root) ob12:=hp12
 obtain⟨a12,c12,rfl⟩:=hO12.form
 replace hQ:=hQ.le hle12
 replace hx:=hx.le hle12
 replace hmv:=hmv.le hle12
 refine TL.pubO hO12 (.s2 (.past _ .all)) (fun p hp hm=>absurd (hM _ hm) (Nat.not_lt.2 (hf12 p hp))) (fun HP12 leP12 hR12=>?_)
 replace hQ:=hQ.le leP12
 replace hx:=hx.le leP12
 replace hmv:=hmv.le leP12
 have hR12m:=hR12.max
 refine TL.run (ah rfl rfl hR12) rfl (zm9 ?_)
 refine aK (V:=fun(p:Int×List Int×List Term) v ob H1=>[(14,.int .i64 p.1)]) (K:=[(0,_),(1,_),(2,_),(3,_),(5,_),(12,_),(13,_)]) (L:=fun(p:Int×List Int×List Term) v ob H1=>St M w0 H H1 ((bm,p.2.1.map (Value.int .i64))::(bout,[gs nm,pv,v,sv])::ob)) (I:=fun(p:Int×List Int×List Term) v ob H1=>(0≤p.1∧p.1≤(bH q.terms root).length)∧HP12.le H1∧p.2.1.length=q.terms.length∧OwnSl 6 Term.cells v p.2.2 ob∧p.2.2.length≤o0.length+p.1∧fa q.terms root (m0,o0)=cX q.terms ((bH q.terms root).drop p.1.toNat) (p.2.1,p.2.2)) (μ:=fun(p:Int×List Int×List Term)=>((bH q.terms root).length - p.1).toNat) ((0:Int),m0,o0) _ _ HP12 ky ⟨o2q,Hp.le.refl _,hml0,hO0,by simp,rfl⟩ (fun w hw=>by rw [List.append_nil] at hw;exact hw) (fun p v ob H1 hI=>?_)
 obtain⟨⟨k0,k1⟩,hle,hml,hO,hol,hT⟩:=hI
 obtain⟨k,m,o⟩:=p
 dsimp only at *
 obtain⟨va,vc,rfl⟩:=hO.form
 replace hQ:=hQ.le hle
 replace hx:=hx.le hle
 replace hmv:=hmv.le hle
 replace hR12:=hR12.le hle
 refine zm7 ?_
 refine af rfl ?_ ?_<;>intro c15
 ·
  obtain⟨x,hk⟩:=aj (l:=bH q.terms root) k0 c15
  obtain⟨t,ht,hx0,htl,htr2⟩:=ux _ _ (.inr htr) x (List.mem_of_getElem? hk)
  have hxb:=eY ht
  refine dv ?_;refine TL.run (ae rfl hR12 rfl om om) rfl (TL.run (aL hR12 hk rfl rfl) rfl (rm ?_));refine TL.run (bG rfl (hx 2 _ rfl)) rfl (zm0 ?_)
  refine TL.run (ae rfl hQ.t rfl om om) rfl (TL.run (aY hQ.t ht rfl rfl) rfl (TL.alloc rfl (fun b8=>?_)))
  refine m4 ?_;refine oe ?_
  refine af rfl ?_ ?_<;>intro c25
  ·
   refine TC.region (TL.run (bG rfl hmv) rfl (fj ?_));refine eD ?_;refine TL.run (aE rfl (.h1) (ie om)) rfl (AR ?_);refine oe ?_
   refine af rfl ?_ ?_<;>intro c34
   ·
    refine TC.region (TL.run (bG rfl hmv) rfl (fj ?_));refine eD ?_;refine TL.run (aE rfl (.h1) (ie om)) rfl (Ay ?_);refine TL.run (bG rfl hmv) rfl (zm0 ?_);refine mZ ?_
    refine TL.run (bK rfl rfl hO) rfl (Ax ?_);refine Aw ?_
    refine aA rfl rfl rfl rfl (fun b50=>?_)
    refine TL.append (enc:=Term.cells) rfl rfl rfl hO (Src.own [⟨t.kind,t.name,t.n,t.text,aP m t.l,aP m t.r⟩] (.here _) rfl rfl) (by simp;omega) rfl (.s3 (.skip _ .all)) rfl (fun a51 c51 ob51 hO51=>?_)
    exact DJ
   refine lu ?_;refine TL.run (bG rfl hmv) rfl (zm0 ?_);refine mZ ?_;refine TL.run (bK rfl rfl hO) rfl (Ax ?_);refine Aw ?_
   refine aA rfl rfl rfl rfl (fun b50=>?_)
   refine TL.append (enc:=Term.cells) rfl rfl rfl hO (Src.own [⟨t.kind,t.name,t.n,t.text,aP m t.l,t.r⟩] (.here _) rfl rfl) (by simp;omega) rfl (.s3 (.skip _ .all)) rfl (fun a51 c51 ob51 hO51=>?_)
   exact DJ
  refine gp ?_;refine oe ?_
  refine af rfl ?_ ?_<;>intro c34
  ·
   refine TC.region (TL.run (bG rfl hmv) rfl (fj ?_));refine eD ?_;refine TL.run (aE rfl (.h1) (ie om)) rfl (Ay ?_);refine TL.run (bG rfl hmv) rfl (zm0 ?_);refine mZ ?_
   refine TL.run (bK rfl rfl hO) rfl (Ax ?_);refine Aw ?_
   refine aA rfl rfl rfl rfl (fun b50=>?_)
   refine TL.append (enc:=Term.cells) rfl rfl rfl hO (Src.own [⟨t.kind,t.name,t.n,t.text,t.l,aP m t.r⟩] (.here _) rfl rfl) (by simp;omega) rfl (.s3 (.skip _ .all)) rfl (fun a51 c51 ob51 hO51=>?_)
   exact DJ
  refine lu ?_;refine TL.run (bG rfl hmv) rfl (zm0 ?_);refine mZ ?_;refine TL.run (bK rfl rfl hO) rfl (Ax ?_);refine Aw ?_
  refine aA rfl rfl rfl rfl (fun b50=>?_)
  refine TL.append (enc:=Term.cells) rfl rfl rfl hO (Src.own [⟨t.kind,t.name,t.n,t.text,t.l,t.r⟩] (.here _) rfl rfl) (by simp;omega) rfl (.s3 (.skip _ .all)) rfl (fun a51 c51 ob51 hO51=>?_)
  exact DJ
 refine oK ?_;refine TL.run (bG rfl hmv) rfl (oz ?_);refine TL.run (aE rfl (.here _) (ie om)) rfl (em ?_)
 have hE:=tg_end k0 c15 hT
 exact aZ (.inr rfl) (ad rfl (RVal.tmp rfl)) (fun w hw=>hw) ⟨by rw [hE],_,_,by rw [hE],by rw [hE];exact hO⟩
end Go.Sx
namespace Go.Sx
open Go Go.Proofs
theorem gW {H:Hp}{q:SProc}{bx bmv bm bout bt:Nat}{nm:Str}{pv u sv vl:Value}{m0:List Int}{o0:List Term}{ob:aq}{l:List Int}(hl:RdSl H 1 I64.cells vl l)(ht:CellAt H bt (.func (.func 93) #[] #[.pointer (some ⟨bx,0,none⟩),.pointer (some ⟨bmv,0,none⟩),.pointer (some ⟨bout,0,none⟩)]))(hQ:ProcOk H q)(hx:ProcAt H bx q)(hmv:CellAt H bmv (.slice (some ⟨bm,0,none⟩) q.terms.length q.terms.length))(hm:∀t∈l,cN q.terms t=true)(hl6:l.length≤6)(hml0:m0.length=q.terms.length)(hO0:OwnSl 6 Term.cells u o0 ob)(hr:o0.length≤290000000000):
  FnX Tryz.prog 94 [vl,.pointer (some ⟨bt,0,none⟩)] H ((bm,m0.map (Value.int .i64))::(bout,[gs nm,pv,u,sv])::ob) (fun r H2 L2=>∃u2 ob2 ob3,L2=(bm,(bp q.terms l [] (m0,o0)).2.1.map (Value.int .i64))::(bout,[gs nm,pv,u2,sv])::(ob2++ob3)∧OwnSl 6 Term.cells u2 (bp q.terms l [] (m0,o0)).2.2 ob2∧OwnSl 1 I64.cells r (bp q.terms l [] (m0,o0)).1 ob3):=by
 obtain⟨ua,uc,rfl⟩:=hO0.form
 have one0:=hl.isOne
 obtain⟨la,lc,rfl⟩:=hl.len
 refine FnX.enterM Tryz.func94 Tryz.ntmps94 rfl rfl (fun w0 M hM=>?_)
 refine jK ?_;refine ni ?_;refine TL.run (ah rfl rfl hl) rfl (zm9 ?_)
 refine aK (V:=fun(p:Int×RS×Value×aq×List Int) v ob H1=>[(4,v),(9,.int .i64 p.1)]) (K:=[(1,_),(3,_),(7,_),(8,_)]) (L:=fun(p:Int×RS×Value×aq×List Int) v ob H1=>St M w0 H H1 ((bm,p.2.1.1.map (Value.int .i64))::(bout,[gs nm,pv,p.2.2.1,sv])::(p.2.2.2.1++ob))) (I:=fun(p:Int×RS×Value×aq×List Int) v ob H1=>(0≤p.1∧p.1≤l.length)∧H.le H1∧(p.2.1.1.length=q.terms.length∧p.2.1.2.length≤o0.length+33554432 * p.1.toNat)∧OwnSl 6 Term.cells p.2.2.1 p.2.1.2 p.2.2.2.1∧OwnSl 1 I64.cells v p.2.2.2.2 ob∧p.2.2.2.2.length≤p.1∧bp q.terms l [] (m0,o0)=bp q.terms (l.drop p.1.toNat) p.2.2.2.2 p.2.1) (μ:=fun(p:Int×RS×Value×aq×List Int)=>(l.length - p.1).toNat) ((0:Int),(m0,o0),(.slice ua o0.length uc),ob,[]) (.slice none 0 0) [] H ky ⟨o2q,Hp.le.refl _,⟨hml0,by simp⟩,hO0,OwnSl.nil,by simp,rfl⟩ (fun w hw=>by rw [List.append_nil];exact hw) (fun p v ob H1 hI=>?_)
 obtain⟨⟨k0,k1⟩,hle,⟨hml,hol⟩,hO1,hO,hac,hT⟩:=hI
 obtain⟨k,⟨m,o⟩,u1,ob1,acc⟩:=p
 dsimp only at *
 obtain⟨va,vc,rfl⟩:=hO.form
 replace hl:=hl.le hle
 replace ht:=ht.le hle
 replace hQ:=hQ.le hle
 replace hx:=hx.le hle
 replace hmv:=hmv.le hle
 refine zm7 ?_
 refine af rfl ?_ ?_<;>intro c10
 ·
  obtain⟨x,hk⟩:=aj (l:=l) k0 c10
  have hxm:=hm x (List.mem_of_getElem? hk)
  refine dv ?_;refine TL.run (ae rfl hl rfl om om) rfl (TL.run (aL hl hk rfl rfl) rfl (zm1 ?_));refine jz ?_;refine TL.run (bG rfl ht) rfl (zm0 ?_)
  refine ec (L1:=(bm,m.map (Value.int .i64))::(bout,[gs nm,pv,u1,sv])::ob1) (L2:=ob) (ab rfl rfl rfl rfl) (Ex x hQ hx hmv hxm hml hO1 om) rfl (fun v16 H16 L16 hle16 hp16=>?_)
  obtain⟨rfl,u16,ob16,rfl,hO16⟩:=hp16
  refine aS (L':=(bm,_)::((bout,_)::(ob16++(ob)))) (List.Perm.refl _) ?_
  replace hle:=hle.trans hle16
  refine aA rfl rfl rfl rfl (fun b17=>?_)
  refine TL.append (enc:=I64.cells) rfl rfl rfl hO (Src.own [aP (fa q.terms x (m,o)).1 x] (.here _) rfl rfl) (by simp;omega) rfl (.s3 (.past _ .all)) rfl (fun a18 c18 ob18 hO18=>?_)
  refine oM ?_
  exact ay (i:=(k,(m,o),u1,ob1,acc)) (k+1,fa q.terms x (m,o),u16,ob16,acc++[aP (fa q.terms x (m,o)).1 x]) _ ob18 H16 ⟨o2q,hle,⟨by rw [qa];exact hml,by have h7:=nP (s:=(m,o)) hxm;simp only at h7 ⊢;omega⟩,hO16,hO18,by simp only [List.length_append,List.length_cons,List.length_nil];omega,ta_next k0 hk hT⟩ ky (fun w hw=>hw.drop) om
 refine jA ?_
 have hE:=ta_end k0 c10 hT
 exact aZ (.inr rfl) (ad rfl (RVal.tmp rfl)) (fun w hw=>hw) ⟨_,_,_,by rw [hE],by rw [hE];exact hO1,by rw [hE];exact hO⟩
end Go.Sx
