import Derived.Test.YtjnlogbbcceaoaaGreatO9
set_option linter.all false
set_option maxRecDepth 100000
set_option maxHeartbeats 32000000
namespace Go.Sx
open Go Go.Proofs
theorem bv {H:Hp}(s:Str):
  FnS Tryz.prog 79 [gs s] H (.bool (aG s)):=by
 refine FnS.enter Tryz.func79 Tryz.ntmps79 rfl rfl (fun w0=>?_)
 refine lV ?_;refine TL.run (dz rfl rfl) rfl (zm4 ?_)
 refine ah (s:=7) rfl ?_ ?_<;>intro g7
 · exact zq42
 have q7:=of_decide_eq_false g7
 refine cg ?_;refine aB rfl rfl (dz rfl rfl) rfl (da ?_)
 refine ah (s:=12) rfl ?_ ?_<;>intro g12
 ·
  have q12:=of_decide_eq_true g12
  exact zq44
 have q12:=of_decide_eq_false g12
 refine cg ?_
 have hlen:(0:Int)<s.length:=by have:=of_decide_eq_false g7;omega
 obtain⟨c0,hc0⟩:=ao (l:=s) (i:=0) om hlen
 refine aB rfl rfl (fc rfl rfl om hc0) rfl (aL rfl rfl (ab rfl rfl rfl rfl) (iB c0) rfl (da ?_))
 refine ah (s:=18) rfl ?_ ?_<;>intro g18
 · exact zq50
 refine cg ?_;refine aL rfl rfl (ab rfl rfl rfl rfl) (kB s) rfl (zm1 ?_)
 refine TC.cond rfl ?_ ?_<;>intro c21
 · exact zq56
 have hn:=ll g7 g12 hc0 g18 c21
 have hl12:(s.length:Int)≤12:=by have:=of_decide_eq_false g12;omega
 exact zq0
theorem mB {H:Hp}(k:Int):
  FnS Tryz.prog 95 [.int .i64 k] H (.bool (iE k)):=by
 refine FnS.enter Tryz.func95 Tryz.ntmps95 rfl rfl (fun w0=>?_)
 refine ij ?_
 refine bJ (decide (k=1)||(decide (k=2)||(decide (k=4)||(decide (k=7)||(decide (k=8)||decide (k=9)))))) 4 [(2,_)] ⟨rfl,trivial⟩ ?_ ?_
 · refine yq ?_;exact bV (aD rfl) rfl rfl ⟨rfl,trivial⟩ (dY (aD rfl) rfl rfl ⟨rfl,trivial⟩)
 refine TC.cond rfl ?_ ?_<;>intro c4
 ·
  refine ml ?_
  exact aw (.inr rfl) (ad rfl (RVal.tmp rfl)) (congrArg Value.bool (by unfold iE;first | exact c4.symm | (rw [c4]) | simp_all))
 refine sF ?_
 exact aw (.inr rfl) (ad rfl (RVal.tmp rfl)) (congrArg Value.bool (by unfold iE;first | exact c4.symm | (rw [c4]) | simp_all))
theorem de {H:Hp}(e p a:Int):
  FnS Tryz.prog 41 [.int .i64 e,.int .i64 p,.int .i64 a] H (.agg (SFault.cells ⟨e,p,a⟩).toArray):=by
 refine FnS.enter Tryz.func41 Tryz.ntmps41 rfl rfl (fun w0=>?_)
 refine zm2 ?_
 refine TL.alloc rfl (fun b6=>?_)
 refine TL.nil (ae (fo ?_));refine cE ?_;refine gH ?_
 exact aw (.inr rfl) (ad rfl (RVal.cellA rfl (.here _) rfl)) rfl
theorem fb {H:Hp}{pg:SProg}(s:Str)(hP:ProgOk H pg):
  FnS Tryz.prog 16 [.agg pg.cells.toArray,gs s] H (.int .i64 (cb pg.procs s)):=by
 have hq:=hP.q
 have hmax:=hq.max
 refine FnS.enter Tryz.func16 Tryz.ntmps16 rfl rfl (fun w0=>?_)
 refine zm2 ?_
 refine TL.box rfl rfl (fun b2=>?_)
 refine nl ?_;refine TL.run (ai rfl rfl hq) rfl (zm7 ?_)
 refine TC.loop (V:=fun k=>[(9,.int .i64 k)]) (K:=[(1,_),(2,_),(4,_),(8,_)]) (L:=fun k=>_) (I:=fun k=>0≤k∧k≤pg.procs.length∧∀j:Nat,j<k.toNat→(pg.procs.map (·.name))[j]? ≠some s) (μ:=fun k=>(pg.procs.length - k).toNat) (i:=(0:Int)) ky ⟨by omega,by omega,fun j hj=>absurd hj sq⟩ (fun w hw=>hw) (fun k hI=>?_)
 refine zm5 ?_
 refine ag rfl ?_ ?_<;>intro c10
 ·
  obtain⟨x,hx⟩:=ao (l:=pg.procs) hI.1 c10
  refine lI ?_;refine lN ?_;refine TL.run (af rfl hq rfl om om) rfl (zm8 ?_);refine TL.run (bL hq hx rfl rfl) rfl (sk ?_)
  refine ag rfl ?_ ?_<;>intro c19
  ·
   refine sj ?_
   exact aw (.inr rfl) (ad rfl (RVal.tmp rfl)) (congrArg (Value.int .i64) (by unfold cb;first | exact(dr hI.1 (by rw [ge hx,c19]) hI.2.2).symm | exact(et hI.2.2 (by rw [List.length_map];exact c10)).symm))
  refine jP ?_
  exact aM (k+1) ⟨by omega,by omega,jD hI.1 hI.2.2 (ge hx) c19⟩ ky (fun w hw=>hw) om
 refine jv ?_
 exact aw (.inr rfl) (ad rfl (RVal.tmp rfl)) (congrArg (Value.int .i64) (by unfold cb;first | exact(dr hI.1 (by rw [ge hx,c19]) hI.2.2).symm | exact(et hI.2.2 (by rw [List.length_map];exact c10)).symm))
theorem bare_ok {H:Hp}(s:SStep):
  FnS Tryz.prog 139 [.agg s.cells.toArray] H (.agg (fV s).cells.toArray):=by
 refine FnS.enter Tryz.func139 Tryz.ntmps139 rfl rfl (fun w0=>?_)
 refine zm2 ?_
 refine TL.box rfl rfl (fun b1=>?_)
 refine TL.alloc rfl (fun b2=>?_)
 refine TL.nil (ae (TC.seq (fJ ?_)));refine sE ?_
 refine ag rfl ?_ ?_<;>intro c5
 · exact xV
 refine dZ ?_
 refine ag rfl ?_ ?_<;>intro c9
 · exact TC.region (xU)
 refine dZ ?_
 refine ag rfl ?_ ?_<;>intro c12
 · exact xV
 refine dZ ?_
 refine ag rfl ?_ ?_<;>intro c16
 ·
  refine TC.region (r4 ?_)
  exact xT
 refine dZ ?_
 refine ag rfl ?_ ?_<;>intro c22
 · exact TC.region (xT)
 refine bJ (decide (s.kind=6)||decide (s.kind=7)) 27 [(1,_),(2,_),(4,_)] ky ?_ ?_
 · exact bV (aD rfl) rfl rfl ky (dY (aD rfl) rfl rfl ky)
 refine TC.cond rfl ?_ ?_<;>intro c27
 ·
  have h67:s.kind=6∨s.kind=7:=by simpa using c27
  have h8:¬s.kind=8:=by omega
  have h9:¬s.kind=9:=by omega
  exact xV
 refine dZ ?_
 refine ag rfl ?_ ?_<;>intro c32
 ·
  refine TC.region (r4 ?_)
  exact xT
 refine dZ ?_
 refine ag rfl ?_ ?_<;>intro c38
 · exact TC.region (xU)
 exact TC.skip (zq783)
theorem iY {H:Hp}{l:List Str}{v:Value}(hL:RdSl H 1 Str.cells v l):
  FnS Tryz.prog 81 [v] H (.bool (cU l)):=by
 have hmax:=hL.max
 obtain⟨la,lc,rfl⟩:=hL.len
 refine FnS.enter Tryz.func81 Tryz.ntmps81 rfl rfl (fun w0=>?_)
 refine lV ?_;refine TL.run (ai rfl rfl hL) rfl (zm7 ?_)
 refine TC.loop (V:=fun k=>[(6,.int .i64 k)]) (K:=[(0,_),(2,_),(5,_)]) (L:=fun k=>_) (I:=fun k=>0≤k∧k≤l.length∧(l.take k.toNat).Nodup) (μ:=fun k=>(l.length - k).toNat) (i:=(0:Int)) ky ⟨by omega,by omega,List.nodup_nil⟩ (fun w hw=>hw) (fun k hI=>?_)
 refine zm5 ?_
 refine ag rfl ?_ ?_<;>intro c7
 ·
  obtain⟨x,hx⟩:=ao (l:=l) hI.1 c7
  refine lI ?_;refine fo ?_;refine lU ?_;refine TL.run (aJ hL hx rfl rfl) rfl (aq (ab rfl rfl rfl rfl) (nV x hL) rfl (jr ?_))
  refine aW rfl ?_ ?_<;>intro c16
  ·
   refine lL ?_
   exact aw (.inr rfl) (ad rfl (RVal.tmp rfl)) (congrArg Value.bool (by first | exact(kx c7 hI.1 hI.2.2).symm | exact(nO hI.1 hx (by simpa using c16)).symm))
  refine jP ?_
  exact aM (k+1) ⟨by omega,by omega,jx hI.1 hx hI.2.2 (tj hI.1 hx (by simpa using c16))⟩ ky (fun w hw=>hw) om
 refine jv ?_
 exact aw (.inr rfl) (ad rfl (RVal.tmp rfl)) (congrArg Value.bool (by first | exact(kx c7 hI.1 hI.2.2).symm | exact(nO hI.1 hx (by simpa using c16)).symm))
end Go.Sx
namespace Go.Sx
open Go Go.Proofs
theorem vT {H:Hp}(s:SStep)(hs:StepOk H s):
  FnS Tryz.prog 140 [.agg s.cells.toArray] H (.bool (fL s)):=by
 have hw:=hs.w
 have hmw:=hw.max
 refine FnS.enter Tryz.func140 Tryz.ntmps140 rfl rfl (fun w0=>?_)
 refine zm2 ?_
 refine TL.box rfl rfl (fun b1=>?_)
 refine eX ?_;refine mH ?_
 refine ag rfl ?_ ?_<;>intro c8
 ·
  refine eQ ?_;refine TL.run (ai rfl rfl hw) rfl (zm4 ?_)
  refine ah (s:=13) rfl ?_ ?_<;>intro g13
  ·
   have q13:=of_decide_eq_true g13
   obtain⟨w0,h0⟩:=ao (l:=s.ways) (i:=0) dq om
   obtain⟨w1,h1⟩:=ao (l:=s.ways) (i:=1) dq om
   refine co ?_;refine vE ?_;refine ia ?_;refine aB rfl rfl (bL hw h0 rfl rfl) rfl (kP ?_);refine zm4 ?_
   refine ah (s:=21) rfl ?_ ?_<;>intro g21
   ·
    have q21:=of_decide_eq_true g21
    refine co ?_;refine vE ?_;refine ia ?_;refine aB rfl rfl (bL hw h0 rfl rfl) rfl (kP ?_);refine zm4 ?_
    refine ah (s:=29) rfl ?_ ?_<;>intro g29
    ·
     have q29:=of_decide_eq_true g29
     refine co ?_;refine vE ?_;refine ia ?_;refine aB rfl rfl (bL hw h1 rfl rfl) rfl (kP ?_);refine zm4 ?_
     refine ah (s:=37) rfl ?_ ?_<;>intro g37
     ·
      have q37:=of_decide_eq_true g37
      refine co ?_;refine vE ?_;refine ia ?_;refine aB rfl rfl (bL hw h1 rfl rfl) rfl (kP ?_);refine zm0 ?_
      exact mG
     have q37:=of_decide_eq_false g37
     refine dB ?_;refine o3 ?_
     exact mG
    have q29:=of_decide_eq_false g29
    refine mZ ?_;refine o3 ?_
    exact mG
   have q21:=of_decide_eq_false g21
   refine mZ ?_;refine mU ?_;refine o3 ?_
   exact mG
  have q13:=of_decide_eq_false g13
  refine mZ ?_;refine mU ?_;refine mU ?_;refine o3 ?_
  exact mG
 refine f8 ?_;refine eQ ?_;refine TL.run (ai rfl rfl hw) rfl (zm4 ?_)
 refine ah (s:=49) rfl ?_ ?_<;>intro g49
 ·
  have q49:=of_decide_eq_true g49
  refine dB ?_;refine ji ?_;refine zm2 ?_
  exact mG
 have q49:=of_decide_eq_false g49
 refine co ?_;refine aB rfl rfl (ai rfl rfl hw) rfl (fK ?_)
 refine ag rfl ?_ ?_<;>intro c54
 ·
  refine zm2 ?_
  exact mG
 have hn7:(1:Int)≤s.ways.length∧(s.ways.length:Int)≤7:=o2q
 refine cW ?_;refine rv ?_;refine TL.run (ai rfl rfl hw) rfl (zm7 ?_)
 refine aR (V:=fun k v ob H1=>[(3,v),(58,.int .i64 k)]) (K:=[(2,_),(56,_),(57,_)]) (L:=fun k v ob H1=>St [] w0 H H ((b1,_)::ob)) (I:=fun k v ob H1=>(0≤k∧k≤s.ways.length)∧OwnSl 1 Str.cells v ((s.ways.take k.toNat).map (·.label)) ob∧s.ways.all (fun w=>!eg w)=(s.ways.drop k.toNat).all (fun w=>!eg w)) (μ:=fun k=>(s.ways.length - k).toNat) 0 (.slice none 0 0) [] H ky ⟨o2q,OwnSl.nil,rfl⟩ (fun w hw=>hw) (fun k v ob H1 hI=>?_)
 obtain⟨⟨k0,k1⟩,hO,hal⟩:=hI
 obtain⟨va,vc,rfl⟩:=hO.form
 refine zm5 ?_
 refine ag rfl ?_ ?_<;>intro c59
 ·
  obtain⟨x,hx⟩:=ao (l:=s.ways) k0 c59
  refine cQ ?_;refine TL.run (af rfl hw rfl om om) rfl (TL.run (bg hw hx rfl rfl) rfl (TL.alloc rfl (fun b5=>?_)))
  refine kQ ?_
  refine bJ (eg x) 91 [(2,_),(3,_),(5,_),(56,_),(57,_),(58,_),(59,_),(60,_),(61,_)] ky ?_ ?_
  ·
   refine rI ?_
   refine ah (s:=65) rfl ?_ ?_<;>intro g65
   ·
    have q65:=of_decide_eq_true g65
    refine nj ?_
    refine ah (s:=70) rfl ?_ ?_<;>intro g70
    ·
     have q70:=bi g70
     refine sC ?_;refine dD rfl rfl rfl (dD rfl rfl rfl (zm9 ?_));refine mP ?_;refine dD rfl rfl rfl (dD rfl rfl rfl (dD rfl rfl rfl (dD rfl rfl rfl ?_)));refine zm9 ?_;refine dk ?_
     exact aS rfl (by unfold eg;simp_all) ky
    have q70:=a7 g70
    exact zq820
   have q65:=of_decide_eq_false g65
   refine gI ?_
   exact zq820
  refine TC.cond rfl ?_ ?_<;>intro c91
  · refine gh ?_;refine aC (aY (aC (aC ?_)));exact aY (zq819)
  refine cW ?_;refine jh ?_
  refine ax rfl rfl rfl rfl (fun b95=>?_)
  refine TL.append (enc:=Str.cells) rfl rfl rfl hO (Src.own [x.label] (.here _) rfl rfl) (by simp;omega) rfl (.s2 (.skip _ .all)) rfl (fun a96 c96 ob96 hO96=>?_)
  refine jV ?_
  exact aE (k+1) _ ob96 H ⟨o2q,by rw [bF k0 hx];exact hO96,bM k0 hx (by simpa using c91) hal⟩ ky (fun w hw=>hw.drop.drop) om
 refine o9 ?_
 refine TL.pubO hO (.skip _ .all) sq (fun HJ leJ hJ=>?_)
 have hO2:=hJ.cast (show _=s.ways.map (·.label) by rw [bh c59 k0])
 refine aq (ab rfl rfl rfl rfl) (iY hO2) rfl (dv ?_)
 exact zq816
theorem may_ok {H:Hp}(s:SStep)(hs:StepOk H s):
  FnS Tryz.prog 82 [.agg s.cells.toArray] H (.bool (gv s)):=by
 have hc:=hs.c
 have hmc:=hc.max
 have hB:=bare_rd hs
 refine FnS.enter Tryz.func82 Tryz.ntmps82 rfl rfl (fun w0=>?_)
 refine zm2 ?_
 refine TL.box rfl rfl (fun b1=>?_)
 refine nl ?_;refine zm4 ?_
 refine ah (s:=9) rfl ?_ ?_<;>intro g9
 ·
  have q9:=of_decide_eq_true g9
  refine gF ?_;refine ji ?_;refine gh ?_
  exact vj
 have q9:=of_decide_eq_false g9
 refine co ?_;refine fK ?_
 refine ag rfl ?_ ?_<;>intro c13
 ·
  refine gh ?_
  exact vj
 refine cW ?_;refine eS ?_;refine aq (ab rfl rfl rfl rfl) (bare_ok s) rfl (TL.alloc rfl (fun b3=>?_))
 refine kQ ?_
 refine bJ (ov (fV s)) 61 [(1,_),(2,_)] ⟨rfl,rfl,trivial⟩ ?_ ?_
 ·
  refine rI ?_
  refine ah (s:=19) rfl ?_ ?_<;>intro g19
  ·
   have q19:=bi g19
   refine gI ?_;refine gI ?_
   exact xR
  have q19:=a7 g19
  refine nj ?_
  refine ah (s:=24) rfl ?_ ?_<;>intro g24
  ·
   have q24:=bi g24
   refine gI ?_
   exact xR
  have q24:=a7 g24
  refine nj ?_
  refine ah (s:=29) rfl ?_ ?_<;>intro g29
  ·
   have q29:=bi g29
   exact xR
  have q29:=a7 g29
  refine nj ?_
  refine ah (s:=34) rfl ?_ ?_<;>intro g34
  ·
   have q34:=bi g34
   exact zq839
  have q34:=a7 g34
  refine nk ?_
  refine ah (s:=39) rfl ?_ ?_<;>intro g39
  ·
   have q39:=bi g39
   exact zq844
  have q39:=a7 g39
  refine co ?_;refine aB rfl rfl (ai rfl rfl hB.a) rfl (da ?_)
  refine ah (s:=45) rfl ?_ ?_<;>intro g45
  ·
   have q45:=of_decide_eq_true g45
   exact zq850
  have q45:=of_decide_eq_false g45
  refine co ?_;refine aB rfl rfl (ai rfl rfl hB.c) rfl (da ?_)
  refine ah (s:=51) rfl ?_ ?_<;>intro g51
  ·
   have q51:=of_decide_eq_true g51
   exact zq856
  have q51:=of_decide_eq_false g51
  refine co ?_;refine aB rfl rfl (ai rfl rfl hB.w) rfl (da ?_)
  refine ah (s:=57) rfl ?_ ?_<;>intro g57
  ·
   have q57:=of_decide_eq_true g57
   refine jO ?_
   exact aS rfl (by unfold ov;simp_all) ⟨rfl,rfl,trivial⟩
  have q57:=of_decide_eq_false g57
  refine co ?_;refine ga ?_
  exact aS rfl (by unfold ov;simp_all) ⟨rfl,rfl,trivial⟩
 refine TC.cond rfl ?_ ?_<;>intro c61
 ·
  refine gh ?_
  exact vj
 refine f8 ?_;refine fJ ?_;refine TL.nil (ae (TC.block (bJ (decide (s.kind=1)||decide (s.kind=9)) 64 [(1,_),(2,_),(63,_)] ky ?_ ?_)))
 · exact bV (aD rfl) rfl rfl ky (dY (aD rfl) rfl rfl ky)
 refine TC.cond rfl ?_ ?_<;>intro c64
 · refine fJ ?_;exact aq (ab rfl rfl rfl rfl) (bv s.name) rfl (je)
 refine dZ ?_
 refine ag rfl ?_ ?_<;>intro c70
 · refine zm2 ?_;refine kS ?_;exact aq (ab rfl rfl rfl rfl) (vT s hs) rfl (je)
 refine dZ ?_
 refine ag rfl ?_ ?_<;>intro c74
 ·
  refine fJ ?_;refine aq (ab rfl rfl rfl rfl) (bv s.name) rfl (zm0 ?_)
  refine ah (s:=79) rfl ?_ ?_<;>intro g79
  ·
   refine f9 ?_;refine aL rfl rfl (ab rfl rfl rfl rfl) (bv s.peer) rfl (zm4 ?_)
   refine ah (s:=84) rfl ?_ ?_<;>intro g84
   ·
    refine f9 ?_;refine aL rfl rfl (ab rfl rfl rfl rfl) (bv s.label) rfl (zm0 ?_)
    exact je
   refine gF ?_;refine zm0 ?_
   exact je
  refine gI ?_;refine gF ?_;refine zm0 ?_
  exact je
 refine dZ ?_
 refine ag rfl ?_ ?_<;>intro c89
 ·
  refine fJ ?_;refine aq (ab rfl rfl rfl rfl) (bv s.name) rfl (zm0 ?_)
  refine ah (s:=94) rfl ?_ ?_<;>intro g94
  ·
   refine f9 ?_;refine aL rfl rfl (ab rfl rfl rfl rfl) (bv s.peer) rfl (zm4 ?_)
   refine ah (s:=99) rfl ?_ ?_<;>intro g99
   ·
    refine aB rfl rfl (aU rfl (.h1) rfl) rfl (aL rfl rfl (ab rfl rfl rfl rfl) (vT s hs) rfl (zm0 ?_))
    exact je
   refine o3 ?_
   exact je
  refine gI ?_;refine o3 ?_
  exact je
 refine bJ (decide (s.kind=6)||decide (s.kind=7)) 103 [(1,_),(2,_),(63,_)] ky ?_ ?_
 · exact bV (aD rfl) rfl rfl ky (dY (aD rfl) rfl rfl ky)
 refine TC.cond rfl ?_ ?_<;>intro c103
 ·
  refine fJ ?_;refine aq (ab rfl rfl rfl rfl) (bv s.proc) rfl (zm0 ?_)
  refine ah (s:=109) rfl ?_ ?_<;>intro g109
  ·
   refine f9 ?_;refine aB rfl rfl (ai rfl rfl hs.a) rfl (cg ?_);refine zm0 ?_
   exact je
  refine dB ?_;refine zm0 ?_
  exact je
 refine dZ ?_
 refine ag rfl ?_ ?_<;>intro c115
 ·
  refine TC.seq (fJ ?_);refine aq (ab rfl rfl rfl rfl) (bv s.name) rfl (zm4 ?_)
  refine ah (s:=121) rfl ?_ ?_<;>intro g121
  ·
   refine rJ ?_;refine j9 ?_
   exact mF
  refine f9 ?_;refine aL rfl rfl (ab rfl rfl rfl rfl) (bv s.label) rfl (da ?_)
  refine ah (s:=127) rfl ?_ ?_<;>intro g127
  ·
   refine ri ?_;refine j9 ?_
   exact mF
  refine f9 ?_;refine aL rfl rfl (ab rfl rfl rfl rfl) (bv s.peer) rfl (da ?_)
  refine ah (s:=133) rfl ?_ ?_<;>intro g133
  ·
   refine lD ?_;refine j9 ?_
   exact mF
  refine f9 ?_;refine aB rfl rfl (ai rfl rfl hc) rfl (da ?_)
  refine ah (s:=139) rfl ?_ ?_<;>intro g139
  ·
   have q139:=of_decide_eq_true g139
   refine dB ?_;refine j9 ?_
   exact mF
  have q139:=of_decide_eq_false g139
  refine f9 ?_;refine aB rfl rfl (ai rfl rfl hc) rfl (fK ?_)
  refine ag rfl ?_ ?_<;>intro c144
  ·
   refine jt ?_
   exact mF
  refine cW ?_;refine fJ ?_;refine TL.run (ai rfl rfl hc) rfl (zm7 ?_)
  refine TC.loop (V:=fun k=>[(148,.int .i64 k)]) (K:=[(2,_),(146,_),(147,_)]) (L:=fun k=>_) (I:=fun k=>(0≤k∧k≤s.casts.length)∧s.casts.all (fun c=>!eW c)=(s.casts.drop k.toNat).all (fun c=>!eW c)) (μ:=fun k=>(s.casts.length - k).toNat) (i:=(0:Int)) ky ⟨o2q,rfl⟩ (fun w hw=>hw) (fun k hI=>?_)
  obtain⟨⟨k0,k1⟩,hal⟩:=hI
  refine zm5 ?_
  refine ag rfl ?_ ?_<;>intro c149
  ·
   obtain⟨x,hx⟩:=ao (l:=s.casts) k0 c149
   have hxa:=hs.cs x (List.mem_of_getElem? hx)
   refine cQ ?_;refine TL.run (af rfl hc rfl om om) rfl (TL.run (bg hc hx rfl rfl) rfl (TL.alloc rfl (fun b5=>?_)))
   refine fl ?_
   refine bJ (eW x) 167 [(2,_),(5,_),(146,_),(147,_),(148,_),(149,_),(150,_),(151,_)] ky ?_ ?_
   ·
    refine jg ?_;refine aq (ab rfl rfl rfl rfl) (bv x.role) rfl (zm4 ?_)
    refine ah (s:=156) rfl ?_ ?_<;>intro g156
    ·
     refine lD ?_;refine dk ?_
     exact aS rfl (by unfold eW;simp_all) ky
    refine co ?_;refine aL rfl rfl (ab rfl rfl rfl rfl) (bv x.proc) rfl (da ?_)
    refine ah (s:=162) rfl ?_ ?_<;>intro g162
    ·
     refine kR ?_
     exact aS rfl (by unfold eW;simp_all) ky
    refine co ?_;refine aB rfl rfl (ai rfl rfl hxa) rfl (ga ?_)
    exact aS rfl (by unfold eW;simp_all) ky
   refine TC.cond rfl ?_ ?_<;>intro c167
   ·
    have hall:=cN (p:=fun c=>!eW c) k0 hx (by simp [c167]) hal
    clear hal
    refine ml ?_;exact aC (aY (mF))
   refine jP ?_
   exact aM (k+1) ⟨o2q,bM k0 hx (by simpa using c167) hal⟩ ky (fun w hw=>hw.drop) om
  have hall:=cz (p:=fun c=>!eW c) k0 c149 hal
  clear hal
  refine TC.exit (bE (bE (cL ?_)));refine a8 (ae (gh ?_))
  exact xS
 refine sF ?_
 exact xS
theorem kA {H:Hp}(s:SStep)(hs:StepOk H s)(hl:s.ways.length≤1000):
  FnO Tryz.prog 83 [.agg s.cells.toArray] H (fun v H1 ob=>H1=H∧OwnSl 1 I64.cells v (aT s) ob):=by
 have hw:=hs.w
 have hmw:=hw.max
 refine FnO.enter Tryz.func83 Tryz.ntmps83 rfl rfl (fun w0=>?_)
 refine zm2 ?_
 refine TL.box rfl rfl (fun b1=>?_)
 refine nl ?_;refine aq (ab rfl rfl rfl rfl) (mB s.kind) rfl (TL.nil (ae (TC.cond rfl (fun c8=>?_) (fun c8=>?_))))
 ·
  refine eQ ?_
  refine ax rfl rfl rfl rfl (fun b11=>?_)
  refine oT ?_
  exact dG (.inr rfl) (ad rfl (RVal.tmp rfl)) (.take (.here _) rfl) ⟨rfl,by unfold aT;rw [if_pos c8];exact OwnSl.blk (enc:=I64.cells) [s.next] rfl rfl dq⟩
 refine cW ?_;refine rv ?_;refine TL.run (ai rfl rfl hw) rfl (zm7 ?_)
 refine aR (V:=fun k v ob H1=>[(3,v),(15,.int .i64 k)]) (K:=[(2,_),(13,_),(14,_)]) (L:=fun k v ob H1=>St [] w0 H H ((b1,_)::ob)) (I:=fun k v ob H1=>(0≤k∧k≤s.ways.length)∧OwnSl 1 I64.cells v ((s.ways.take k.toNat).map (·.next)) ob) (μ:=fun k=>(s.ways.length - k).toNat) 0 (.slice none 0 0) [] H ky ⟨o2q,OwnSl.nil⟩ (fun w hw=>hw) (fun k v ob H1 hI=>?_)
 obtain⟨⟨k0,k1⟩,hO⟩:=hI
 obtain⟨va,vc,rfl⟩:=hO.form
 refine zm5 ?_
 refine ag rfl ?_ ?_<;>intro c16
 ·
  obtain⟨x,hx⟩:=ao (l:=s.ways) k0 c16
  refine cQ ?_;refine TL.run (af rfl hw rfl om om) rfl (TL.run (bg hw hx rfl rfl) rfl (TL.alloc rfl (fun b5=>?_)))
  refine ru ?_
  refine ax rfl rfl rfl rfl (fun b22=>?_)
  refine TL.append (enc:=I64.cells) rfl rfl rfl hO (Src.own [x.next] (.here _) rfl rfl) (by simp;omega) rfl (.s2 (.skip _ .all)) rfl (fun a23 c23 ob23 hO23=>?_)
  refine jV ?_
  exact aE (k+1) _ ob23 H ⟨o2q,by rw [bF k0 hx];exact hO23⟩ ky (fun w hw=>hw.drop.drop) om
 refine oJ ?_
 exact dG (.inr rfl) (ad rfl (RVal.tmp rfl)) (.skip _ .all) ⟨rfl,hO.cast (by unfold aT;rw [if_neg (by rw [c8];decide),bh c16 k0])⟩
end Go.Sx
namespace Go.Sx
open Go Go.Proofs
theorem sP {H:Hp}(s:SStep)(hs:StepOk H s)(hl:s.args.length≤6∧s.casts.length≤4∧∀c∈s.casts,c.args.length≤6):
  FnO Tryz.prog 84 [.agg s.cells.toArray] H (fun v H1 ob=>H1=H∧OwnSl 1 I64.cells v (cq s) ob):=by
 have hc:=hs.c
 have ha:=hs.a
 obtain⟨hl1,hl2,hl3⟩:=hl
 refine FnO.enter Tryz.func84 Tryz.ntmps84 rfl rfl (fun w0=>?_)
 refine zm2 ?_
 refine TL.box rfl rfl (fun b1=>?_)
 refine zm1 ?_;refine rv ?_;refine TL.nil (ae (TC.block (bJ (decide (s.kind=1)||(decide (s.kind=2)||decide (s.kind=3))) 8 [(1,_),(2,_),(3,_),(7,_)] ky ?_ ?_)))
 · exact bV (aD rfl) rfl rfl ky (bV (aD rfl) rfl rfl ky (dY (aD rfl) rfl rfl ky))
 refine TC.cond rfl ?_ ?_<;>intro c8
 ·
  have h8:s.kind=1∨s.kind=2∨s.kind=3:=by simpa [or_assoc] using c8
  refine jh ?_
  refine ax rfl rfl rfl rfl (fun b15=>?_)
  refine TL.append (enc:=I64.cells) rfl rfl rfl (OwnSl.nil (enc:=I64.cells)) (Src.own [s.term] (.here _) rfl rfl) sq rfl (.new _ rfl) rfl (fun a16 c16 ob16 hO16=>?_)
  refine dk ?_;refine a8 (ae (cZ ?_));refine f7 ?_
  refine TL.append (enc:=I64.cells) rfl rfl rfl hO16 (Src.sl ha) (by simp;omega) rfl (.skip _ (.skip _ .all)) rfl (fun a30 c30 ob30 hO30=>?_)
  refine eX ?_;refine fJ ?_;refine TL.run (ai rfl rfl hc) rfl (zm7 ?_)
  refine aR (V:=fun k v ob H1=>[(3,v),(34,.int .i64 k)]) (K:=[(2,_),(32,_),(33,_)]) (L:=fun k v ob H1=>St [] w0 H H ((b15,_)::(b1,_)::ob)) (I:=fun k v ob H1=>(0≤k∧k≤s.casts.length)∧OwnSl 1 I64.cells v (gZ s++(s.casts.take k.toNat).flatMap (·.args)) ob∧((s.casts.take k.toNat).flatMap (·.args)).length≤6 * k.toNat) (μ:=fun k=>(s.casts.length - k).toNat) 0 _ ob30 H ky ⟨o2q,hO30.cast (by first | (rw [qw h8];simp) | (rw [qx c17 c21];simp) | (rw [iN h8 (.inr c21)];simp) | (rw [iN h8 (.inl c17)];simp)),by simp⟩ (fun w hw=>hw) (fun k v ob H1 hI=>?_)
  exact zq891
 have h8:¬s.kind=1∧¬s.kind=2∧¬s.kind=3:=by simpa [and_assoc] using c8
 refine dZ ?_
 refine ag rfl ?_ ?_<;>intro c17
 ·
  refine mH ?_
  refine aW rfl ?_ ?_<;>intro c21
  ·
   refine jh ?_
   refine ax rfl rfl rfl rfl (fun b25=>?_)
   refine TL.append (enc:=I64.cells) rfl rfl rfl (OwnSl.nil (enc:=I64.cells)) (Src.own [s.term] (.here _) rfl rfl) sq rfl (.new _ rfl) rfl (fun a26 c26 ob26 hO26=>?_)
   refine dk ?_;refine a8 (ae (cZ ?_));refine f7 ?_
   refine TL.append (enc:=I64.cells) rfl rfl rfl hO26 (Src.sl ha) (by simp;omega) rfl (.skip _ (.skip _ .all)) rfl (fun a30 c30 ob30 hO30=>?_)
   refine eX ?_;refine fJ ?_;refine TL.run (ai rfl rfl hc) rfl (zm7 ?_)
   refine aR (V:=fun k v ob H1=>[(3,v),(34,.int .i64 k)]) (K:=[(2,_),(32,_),(33,_)]) (L:=fun k v ob H1=>St [] w0 H H ((b25,_)::(b1,_)::ob)) (I:=fun k v ob H1=>(0≤k∧k≤s.casts.length)∧OwnSl 1 I64.cells v (gZ s++(s.casts.take k.toNat).flatMap (·.args)) ob∧((s.casts.take k.toNat).flatMap (·.args)).length≤6 * k.toNat) (μ:=fun k=>(s.casts.length - k).toNat) 0 _ ob30 H ky ⟨o2q,hO30.cast (by first | (rw [qw h8];simp) | (rw [qx c17 c21];simp) | (rw [iN h8 (.inr c21)];simp) | (rw [iN h8 (.inl c17)];simp)),by simp⟩ (fun w hw=>hw) (fun k v ob H1 hI=>?_)
   exact zq891
  exact zq859
 exact zq859
theorem ou {H:Hp}(s:SStep)(hs:StepOk H s)(hl:s.ways.length≤1000):
  FnO Tryz.prog 87 [.agg s.cells.toArray] H (fun v H1 ob=>H1=H∧OwnSl 1 Str.cells v (ce s) ob):=by
 have hw:=hs.w
 have hnl:=xa s hl
 refine FnO.enter Tryz.func87 Tryz.ntmps87 rfl rfl (fun w0=>?_)
 refine zm2 ?_
 refine TL.box rfl rfl (fun b1=>?_)
 refine nl ?_;refine TL.nil (ae (TC.block (bJ (decide (s.kind=1)||decide (s.kind=8)) 8 [(1,_),(2,_),(7,_)] ky ?_ ?_)))
 · exact bV (aD rfl) rfl rfl ky (dY (aD rfl) rfl rfl ky)
 refine TC.cond rfl ?_ ?_<;>intro c8
 ·
  have h8:s.kind=1∨s.kind=8:=by simpa using c8
  refine eQ ?_
  refine ax rfl rfl rfl rfl (fun b13=>?_)
  refine dv ?_;exact aY (aC (dG (.inr rfl) (ad rfl (RVal.tmp rfl)) (.take (.here _) rfl) ⟨rfl,(OwnSl.blk (enc:=Str.cells) [s.name] rfl rfl sq).cast (by unfold ce;rw [if_pos h8])⟩))
 have h8:¬(s.kind=1∨s.kind=8):=by simpa using c8
 refine dZ ?_
 refine ag rfl ?_ ?_<;>intro c14
 ·
  refine rv ?_;refine TL.run (ai rfl rfl hw) rfl (zm7 ?_)
  refine aR (V:=fun k v ob H1=>[(3,v),(19,.int .i64 k)]) (K:=[(1,_),(2,_),(17,_),(18,_)]) (L:=fun k v ob H1=>St [] w0 H H ((b1,_)::ob)) (I:=fun k v ob H1=>(0≤k∧k≤s.ways.length)∧OwnSl 1 Str.cells v ((s.ways.take k.toNat).map (·.name)) ob) (μ:=fun k=>(s.ways.length - k).toNat) 0 (.slice none 0 0) [] H ky ⟨o2q,OwnSl.nil⟩ (fun w hw=>hw) (fun k v ob H1 hI=>?_)
  obtain⟨⟨k0,k1⟩,hO⟩:=hI
  obtain⟨va,vc,rfl⟩:=hO.form
  refine zm5 ?_
  refine ag rfl ?_ ?_<;>intro c20
  ·
   obtain⟨x,hx⟩:=ao (l:=s.ways) k0 c20
   refine cQ ?_;refine TL.run (af rfl hw rfl om om) rfl (TL.run (bg hw hx rfl rfl) rfl (TL.alloc rfl (fun b5=>?_)))
   refine ru ?_
   refine ax rfl rfl rfl rfl (fun b26=>?_)
   refine TL.append (enc:=Str.cells) rfl rfl rfl hO (Src.own [x.name] (.here _) rfl rfl) (by simp;omega) rfl (.s2 (.skip _ .all)) rfl (fun a27 c27 ob27 hO27=>?_)
   refine jV ?_
   exact aE (k+1) _ ob27 H ⟨o2q,by rw [bF k0 hx];exact hO27⟩ ky (fun w hw=>hw.drop.drop) om
  refine oJ ?_;exact aY (aC (dG (.inr rfl) (ad rfl (RVal.tmp rfl)) (.skip _ .all) ⟨rfl,hO.cast (by unfold ce;rw [if_neg h8,if_pos c14,bh c20 k0])⟩))
 refine TC.skip (a8 (ae (eS ?_)))
 refine cv (ab rfl rfl rfl rfl) (kA s hs hl) rfl (fun v31 H31 ob31 hle31 hp31=>?_)
 obtain⟨rfl,hO31⟩:=hp31
 obtain⟨a31,c31,rfl⟩:=hO31.form
 refine TL.run (bj rfl rfl hO31) rfl (fD rfl rfl (by first | omega | decide) (by first | omega | decide) (by first | omega | decide) rfl (fun b33=>?_))
 refine dv ?_
 exact dG (.inr rfl) (ad rfl (RVal.tmp rfl)) (.take (.here _) rfl) ⟨rfl,yS (by unfold ce;rw [if_neg h8,if_neg c14]) om⟩
theorem y1 {H:Hp}{at_:Int}{bl bo bw:Nat}{u:Value}{xs:List Int}{ob:aj}(hneg:at_<0)(hO:OwnSl 1 I64.cells u xs ob):
  FnX Tryz.prog 141 [.int .i64 at_,.pointer (some ⟨bw,0,none⟩),.pointer (some ⟨bl,0,none⟩),.pointer (some ⟨bo,0,none⟩)] H ((bo,[u])::ob) (fun r H' L'=>r= .tuple #[]∧H'=H∧∃u' ob',L'=(bo,[u'])::ob'∧OwnSl 1 I64.cells u' xs ob'):=by
 refine FnX.enter Tryz.func141 Tryz.ntmps141 rfl rfl (fun w0=>?_)
 refine ng ?_
 refine ag rfl ?_ ?_<;>intro c6
 · exact TC.ret (aC (aO (.inr rfl) (bK rfl) (fun w hw=>hw) ⟨rfl,rfl,_,_,rfl,hO⟩))
 exact absurd hneg c6
theorem y0 {H:Hp}{l:List Term}{v:Value}{bl bo bw:Nat}(hT:RdSl H 6 Term.cells v l)(hl:H bl 0=some v)(hw:H bw 0=some (.func (.func 141) #[] #[.pointer (some ⟨bw,0,none⟩),.pointer (some ⟨bl,0,none⟩),.pointer (some ⟨bo,0,none⟩)])):
  ∀(f:Nat) (at_:Int),(at_<0∨Tr l f at_)→∀(u:Value) (xs:List Int) (ob:aj),OwnSl 1 I64.cells u xs ob→xs.length+(ff l f at_).length≤100000000→
   FnX Tryz.prog 141 [.int .i64 at_,.pointer (some ⟨bw,0,none⟩),.pointer (some ⟨bl,0,none⟩),.pointer (some ⟨bo,0,none⟩)] H ((bo,[u])::ob) (fun r H' L'=>r= .tuple #[]∧H'=H∧∃u' ob',L'=(bo,[u'])::ob'∧OwnSl 1 I64.cells u' (xs++ff l f at_) ob'):=by
 intro f
 induction f with
 | zero=>
  intro at_ h u xs ob hO hlen
  have h0:at_<0:=h.resolve_right (fun h=>h)
  rw [iU h0,List.append_nil]
  exact y1 h0 hO
 | succ f ih=>
 intro at_ h u xs ob hO hlen
 have one0:=hT.isOne
 obtain⟨ua,uc,rfl⟩:=hO.form
 refine FnX.enter Tryz.func141 Tryz.ntmps141 rfl rfl (fun w0=>?_)
 refine ng ?_
 refine ag rfl ?_ ?_<;>intro c6
 · exact TC.ret (aC (aO (.inr rfl) (bK rfl) (fun w hw=>hw) ⟨rfl,rfl,_,_,rfl,by rw [iU c6,List.append_nil];exact hO⟩))
 obtain⟨h0,t,hx,_,_,hTl0,hTl1,hTr0,hTr1⟩:=h.resolve_left c6
 have hlt:at_.toNat<l.length:=(List.getElem?_eq_some_iff.1 hx).1
 rw [ku c6 hx] at hlen
 simp only [List.length_append,List.length_cons,List.length_nil] at hlen
 have hTl:t.l<0∨Tr l f t.l:=by rcases Int.lt_or_le (aH t.kind) 1 with h1 | h1;exact .inl (by have:=hTl1 h1;omega);exact .inr (hTl0 h1)
 have hTr:t.r<0∨Tr l f t.r:=by rcases Int.lt_or_le (aH t.kind) 2 with h1 | h1;exact .inl (by have:=hTr1 h1;omega);exact .inr (hTr0 h1)
 refine f8 ?_;refine d3 ?_;refine vN ?_;refine aQ (bq rfl hw) rfl (si ?_)
 refine bn (eV (L1:=(bo,[(.slice ua _ uc)])::ob) (ab rfl rfl rfl rfl) (ih t.l (hTl) _ _ _ hO om) rfl (fun v13 H13 L13 hle13 hp13=>?_))
 obtain⟨rfl,rfl,u13,ob13,rfl,hO13⟩:=hp13
 obtain⟨ua13,uc13,rfl⟩:=hO13.form
 refine ik ?_;refine ig ?_;refine vN ?_;refine aQ (bq rfl hw) rfl (si ?_)
 refine bn (eV (L1:=(bo,[(.slice ua13 _ uc13)])::ob13) (ab rfl rfl rfl rfl) (ih t.r (hTr) _ _ _ hO13 (by simp only [List.length_append];omega)) rfl (fun v20 H20 L20 hle20 hp20=>?_))
 obtain⟨rfl,rfl,u20,ob20,rfl,hO20⟩:=hp20
 obtain⟨ua20,uc20,rfl⟩:=hO20.form
 refine ik ?_;refine TC.region (su ?_)
 refine ax rfl rfl rfl rfl (fun b23=>?_)
 refine TL.append (enc:=I64.cells) rfl rfl rfl hO20 (Src.own [at_] (.here _) rfl rfl) (by simp;omega) rfl (.skip _ (.skip _ .all)) rfl (fun a24 c24 ob24 hO24=>?_)
 exact i3 rfl rfl rfl (.h1) rfl (TL.nil (aO (.inl rfl) (bK rfl) (fun w hw=>hw.drop) ⟨rfl,rfl,_,_,rfl,by rw [ku c6 hx,← List.append_assoc,← List.append_assoc];exact hO24⟩))
end Go.Sx
namespace Go.Sx
open Go Go.Proofs
theorem sQ {H:Hp}(ck:Int)(cn:Str)(hn:cn.length≤4294960000)(hM:MaxG H):
  FnS Tryz.prog 182 [.agg #[.int .i64 ck,gs cn]] H (.bool (cu ck cn)):=by
 refine FnS.enter Tryz.func182 Tryz.ntmps182 rfl rfl (fun w0=>?_)
 refine zm2 ?_
 refine TL.box rfl rfl (fun b1=>?_)
 refine nl ?_;refine zm4 ?_
 refine ah (s:=9) rfl ?_ ?_<;>intro g9
 ·
  have q9:=of_decide_eq_true g9
  refine gF ?_;refine j9 ?_
  exact aw (.inr rfl) (ad rfl (RVal.tmp rfl)) (congrArg Value.bool (by unfold cu;simp_all))
 have q9:=of_decide_eq_false g9
 refine co ?_;refine fK ?_
 refine ag rfl ?_ ?_<;>intro c13
 ·
  refine jt ?_
  exact aw (.inr rfl) (ad rfl (RVal.tmp rfl)) (congrArg Value.bool (by unfold cu;simp_all))
 refine f8 ?_;refine mH ?_
 refine aW rfl ?_ ?_<;>intro c16
 ·
  refine eQ ?_;refine TL.run (cd rfl rfl rfl) rfl (oT ?_)
  exact aw (.inr rfl) (ad rfl (RVal.tmp rfl)) (congrArg Value.bool (by unfold cu;simp_all))
 refine cW ?_;refine eQ ?_;refine aq (ab rfl rfl rfl rfl) (cut_ok cn hn hM) rfl (m3 ?_);refine zm4 ?_;refine ju ?_;refine aq (ab rfl rfl rfl rfl) (bv (jH cn).1) rfl (zm0 ?_)
 refine ah (s:=29) rfl ?_ ?_<;>intro g29
 ·
  refine ef ?_;refine cg ?_
  refine ah (s:=32) rfl ?_ ?_<;>intro g32
  ·
   refine gE ?_;refine cg ?_;refine eD ?_
   exact aw (.inr rfl) (ad rfl (RVal.tmp rfl)) (congrArg Value.bool (by unfold cu;simp_all))
  refine cg ?_;refine aL rfl rfl (ab rfl rfl rfl rfl) (bv (jH cn).2.1) rfl (cg ?_);refine eD ?_
  exact aw (.inr rfl) (ad rfl (RVal.tmp rfl)) (congrArg Value.bool (by unfold cu;simp_all))
 refine gF ?_;refine dD rfl rfl rfl (dD rfl rfl rfl (zm9 ?_));refine eD ?_
 exact aw (.inr rfl) (ad rfl (RVal.tmp rfl)) (congrArg Value.bool (by unfold cu;simp_all))
theorem yI {H:Hp}{l:List SArm}{v:Value}(n:Int)(hA:RdSl H 4 SArm.cells v l)(hz:∀a∈l,a.cn.length≤4294960000)(hM:MaxG H):
  FnS Tryz.prog 135 [v,.int .i64 n] H (.bool (cV l n)):=by
 have hmx:=hA.max
 have one0:=hA.isOne
 obtain⟨va,vc,rfl⟩:=hA.len
 refine FnS.enter Tryz.func135 Tryz.ntmps135 rfl rfl (fun w0=>?_)
 refine lV ?_;refine TL.run (ai rfl rfl hA) rfl (zm4 ?_)
 refine ah (s:=11) rfl ?_ ?_<;>intro g11
 ·
  have q11:=of_decide_eq_true g11
  refine gF ?_;refine j9 ?_
  exact aw (.inr rfl) (ad rfl (RVal.tmp rfl)) (congrArg Value.bool (uf om))
 have q11:=of_decide_eq_false g11
 refine cg ?_;refine aB rfl rfl (ai rfl rfl hA) rfl (fK ?_)
 refine ag rfl ?_ ?_<;>intro c15
 ·
  refine jt ?_
  exact aw (.inr rfl) (ad rfl (RVal.tmp rfl)) (congrArg Value.bool (uf om))
 have hlen:1≤l.length∧l.length≤6:=by omega
 refine qt ?_
 refine vf rfl (fun bm w1 hM1=>?_)
 refine rL ?_;refine TL.run (ai rfl rfl hA) rfl (zm7 ?_)
 refine TC.loop (V:=fun k=>[(19,.int .i64 k)]) (K:=[(1,_),(4,_),(5,_),(17,_),(18,_)]) (L:=fun k=>StM [] w0 H H [] bm ((l.take k.toNat).map (·.label))) (I:=fun k=>(0≤k∧k≤l.length)∧(l.take k.toNat).all (d8 n)=true∧((l.take k.toNat).map (·.label)).Nodup) (μ:=fun k=>(l.length - k).toNat) (i:=(0:Int)) ky ⟨o2q,rfl,List.nodup_nil⟩ (fun w hw=>hM1.over hw) (fun k hI=>?_)
 obtain⟨⟨k0,k1⟩,hal,hnd⟩:=hI
 refine xN (fun w2 hM2=>?_)
 refine zm5 ?_
 refine ag rfl ?_ ?_<;>intro c20
 ·
  obtain⟨x,hx⟩:=ao (l:=l) k0 c20
  refine cQ ?_;refine TL.run (af rfl hA rfl om om) rfl (TL.run (bg hA hx rfl rfl) rfl (TL.alloc rfl (fun b7=>?_)))
  refine kQ ?_
  refine bJ (!d8 n x||decide (x.label∈((l.take k.toNat).map (·.label)))) 49 [(1,_),(4,_),(5,_),(7,_),(17,_),(18,_),(19,_),(20,_),(21,_),(22,_)] ky ?_ ?_
  ·
   refine jg ?_;refine aq (ab rfl rfl rfl rfl) (bv x.label) rfl (zm4 ?_)
   refine ah (s:=27) rfl ?_ ?_<;>intro g27
   ·
    refine lD ?_;refine zm4 ?_;refine rH ?_
    exact aS rfl (by unfold d8;first | (simp_all;done) | (simp_all;omega)) ky
   refine cg ?_;refine co ?_;refine aB rfl rfl (w3 hM2 rfl rfl) rfl (zm4 ?_)
   refine ah (s:=33) rfl ?_ ?_<;>intro g33
   ·
    refine dB ?_;refine zm4 ?_;refine rH ?_
    exact aS rfl (by unfold d8;first | (simp_all;done) | (simp_all;omega)) ky
   refine ia ?_;refine aB rfl rfl (gL rfl (.here _) rfl) rfl (aL rfl rfl (ab rfl rfl rfl rfl) (sQ x.ck x.cn (hz x (List.mem_of_getElem? hx)) hM) rfl (da ?_))
   refine ah (s:=39) rfl ?_ ?_<;>intro g39
   ·
    refine rH ?_
    exact aS rfl (by unfold d8;first | (simp_all;done) | (simp_all;omega)) ky
   refine nk ?_
   refine ah (s:=44) rfl ?_ ?_<;>intro g44
   ·
    have q44:=of_decide_eq_true g44
    refine kR ?_
    exact aS rfl (by unfold d8;first | (simp_all;done) | (simp_all;omega)) ky
   have q44:=of_decide_eq_false g44
   refine co ?_;refine ef ?_;refine dk ?_
   exact aS rfl (by unfold d8;first | (simp_all;done) | (simp_all;omega)) ky
  refine TC.cond rfl ?_ ?_<;>intro c49
  · refine gh ?_;refine jc ?_;exact qn hM2 (aw (.inr rfl) (ad rfl (RVal.tmp rfl)) (congrArg Value.bool (zJ k0 hx (by simpa using c49))))
  have h49:d8 n x=true∧x.label∉((l.take k.toNat).map (·.label)):=by simpa using c49
  refine cW ?_;refine jh ?_;refine xK rfl rfl rfl h49.2 rfl hM2 (mJ ?_)
  exact aM (k+1) ⟨o2q,by rw [bB k0 hx,List.all_append,hal,List.all_cons,h49.1];rfl,uP k0 hx hnd h49.2⟩ ky (fun w hw=>by rw [bF k0 hx];exact hw.drop) om
 refine jv ?_;exact qn hM2 (aw (.inr rfl) (ad rfl (RVal.tmp rfl)) (congrArg Value.bool (zI hlen k0 c20 hal hnd)))
theorem qv {H:Hp}(l:SLocal)(hl:LocalOk H l)(hM:MaxG H):
  FnS Tryz.prog 78 [.agg l.cells.toArray] H (.bool (cH l)):=by
 have ht:=hl.t
 have hmt:=ht.max
 refine FnS.enter Tryz.func78 Tryz.ntmps78 rfl rfl (fun w0=>?_)
 refine zm2 ?_
 refine TL.box rfl rfl (fun b1=>?_)
 refine nl ?_;refine TL.run (ai rfl rfl ht) rfl (zm4 ?_)
 refine ah (s:=9) rfl ?_ ?_<;>intro g9
 ·
  have q9:=of_decide_eq_true g9
  refine dB ?_;refine j9 ?_
  exact aw (.inr rfl) (ad rfl (RVal.tmp rfl)) (congrArg Value.bool (qc om))
 have q9:=of_decide_eq_false g9
 refine co ?_;refine aB rfl rfl (ai rfl rfl ht) rfl (fK ?_)
 refine ag rfl ?_ ?_<;>intro c14
 ·
  refine jt ?_
  exact aw (.inr rfl) (ad rfl (RVal.tmp rfl)) (congrArg Value.bool (qc om))
 have hlen:1≤l.turns.length∧l.turns.length≤40:=by omega
 refine f8 ?_;refine eQ ?_;refine TL.run (ai rfl rfl ht) rfl (zm7 ?_)
 refine TC.loop (V:=fun k=>[(18,.int .i64 k)]) (K:=[(1,_),(2,_),(16,_),(17,_)]) (L:=fun k=>_) (I:=fun k=>(0≤k∧k≤l.turns.length)∧l.turns.all (ep l.turns.length)=(l.turns.drop k.toNat).all (ep l.turns.length)) (μ:=fun k=>(l.turns.length - k).toNat) (i:=(0:Int)) ky ⟨o2q,rfl⟩ (fun w hw=>hw) (fun k hI=>?_)
 obtain⟨⟨k0,k1⟩,hal⟩:=hI
 refine zm5 ?_
 refine ag rfl ?_ ?_<;>intro c19
 ·
  obtain⟨x,hx⟩:=ao (l:=l.turns) k0 c19
  have hT:=hl.ts x (List.mem_of_getElem? hx)
  refine cQ ?_;refine TL.run (af rfl ht rfl om om) rfl (TL.run (bg ht hx rfl rfl) rfl (TL.alloc rfl (fun b4=>?_)))
  refine ni ?_
  refine TL.nil (ae (TC.block (bJ (decide (x.kind=0)) 24 [(1,_),(2,_),(4,_),(16,_),(17,_),(18,_),(19,_),(20,_),(21,_),(22,_),(23,_)] ky ?_ ?_)))
  · exact dY (aD rfl) rfl rfl ky
  refine ag rfl ?_ ?_<;>intro c24
  ·
   refine sD ?_
   refine ah (s:=29) rfl ?_ ?_<;>intro g29
   ·
    have q29:=bi g29
    refine dB ?_;refine ji ?_;refine rt ?_
    exact aw (.inr rfl) (ad rfl (RVal.tmp rfl)) (congrArg Value.bool (gy k0 hx (by unfold ep;simp_all) hal))
   have q29:=a7 g29
   refine co ?_;refine aB rfl rfl (ai rfl rfl hT.a) rfl (fK ?_)
   refine ag rfl ?_ ?_<;>intro c34
   ·
    refine rt ?_
    exact aw (.inr rfl) (ad rfl (RVal.tmp rfl)) (congrArg Value.bool (gy k0 hx (by unfold ep;simp_all) hal))
   refine TC.skip (a8 (mO ?_))
   exact aM (k+1) ⟨o2q,bM (p:=(ep l.turns.length)) k0 hx (by unfold ep;simp_all) hal⟩ ky (fun w hw=>hw.drop) om
  refine bJ (decide (x.kind=1)||decide (x.kind=2)) 35 [(1,_),(2,_),(4,_),(16,_),(17,_),(18,_),(19,_),(20,_),(21,_),(22,_),(23,_),(24,_)] ky ?_ ?_
  · exact bV (aD rfl) rfl rfl ky (dY (aD rfl) rfl rfl ky)
  refine TC.cond rfl ?_ ?_<;>intro c35
  ·
   refine eQ ?_;refine aq (ab rfl rfl rfl rfl) (bv x.peer) rfl (zm4 ?_)
   refine ah (s:=42) rfl ?_ ?_<;>intro g42
   ·
    refine dB ?_;refine gF ?_;refine ji ?_;refine rt ?_
    exact aw (.inr rfl) (ad rfl (RVal.tmp rfl)) (congrArg Value.bool (gy k0 hx (by unfold ep;simp_all) hal))
   refine co ?_;refine f9 ?_;refine aB rfl rfl (ai rfl rfl ht) rfl (aL rfl rfl (ab rfl rfl rfl rfl) (yI _ hT.a hT.z hM) rfl (fK ?_))
   refine TC.cond rfl ?_ ?_<;>intro c50
   ·
    refine rt ?_
    exact aw (.inr rfl) (ad rfl (RVal.tmp rfl)) (congrArg Value.bool (gy k0 hx (by unfold ep;simp_all) hal))
   refine TC.skip (a8 (mO ?_))
   exact aM (k+1) ⟨o2q,bM (p:=(ep l.turns.length)) k0 hx (by unfold ep;simp_all) hal⟩ ky (fun w hw=>hw.drop) om
  refine rt ?_
  exact aw (.inr rfl) (ad rfl (RVal.tmp rfl)) (congrArg Value.bool (gy k0 hx (by unfold ep;simp_all) hal))
 refine jv ?_
 exact aw (.inr rfl) (ad rfl (RVal.tmp rfl)) (congrArg Value.bool (xk hlen k0 c19 hal))
theorem sT {H:Hp}(ck:Int)(cn:Str)(hn:cn.length≤4294960000)(hM:MaxG H):
  FnS Tryz.prog 80 [.agg #[.int .i64 ck,gs cn]] H (.bool (cu ck cn)):=by
 refine FnS.enter Tryz.func80 Tryz.ntmps80 rfl rfl (fun w0=>?_)
 refine zm2 ?_
 refine TL.box rfl rfl (fun b1=>?_)
 refine zm1 ?_;refine eS ?_;refine cE ?_
 refine ax rfl rfl rfl rfl (fun b5=>?_)
 refine cE ?_
 refine ax rfl rfl rfl rfl (fun b7=>?_)
 refine cE ?_;refine dQ (.h1) (cT sq (fun H_b5 le_b5 rd_b5=>?_))
 replace hM:=hM.le le_b5
 have hA5:RdSl H_b5 4 SArm.cells _ ([⟨[120],ck,cn,0⟩]):=RdSl.blk (cap:=1) rd_b5 (by intro x hx;rfl) kr (by show 1≤9223372036854775807;decide)
 refine cT sq (fun H_b7 le_b7 rd_b7=>?_)
 replace hM:=hM.le le_b7
 replace hA5:=hA5.le le_b7
 have hT7:RdSl H_b7 3 STurn.cells _ ([⟨1,[120],[⟨[120],ck,cn,0⟩],(some ⟨b5,0,none⟩,1)⟩]):=RdSl.blk (cap:=1) rd_b7 (by intro x hx;rfl) kr (by show 1≤9223372036854775807;decide)
 refine zm356 ?_;refine dv ?_
 exact aw (.inr rfl) (ad rfl (RVal.tmp rfl)) (congrArg Value.bool (oS ck cn _ _))
end Go.Sx
namespace Go.Sx
open Go Go.Proofs
theorem sS {H:Hp}{l:List Term}{v:Value}(root:Int)(hT:RdSl H 6 Term.cells v l)(hm:dH l root=true):
  FnO Tryz.prog 85 [v,.int .i64 root] H (fun r H1 ob=>OwnSl 1 I64.cells r (eJ l root) ob):=by
 have one1:=hT.isOne
 have hvl:=ln hm
 refine FnO.enter Tryz.func85 Tryz.ntmps85 rfl rfl (fun w0=>?_)
 refine zm2 ?_
 refine mE rfl rfl (fun b2=>?_)
 refine rz ?_
 refine TL.alloc rfl (fun b5=>?_)
 refine fz ?_
 refine TL.alloc rfl (fun b6=>?_)
 refine fY ?_;refine nf ?_
 refine cT sq (fun H_b6 le_b6 rd_b6=>?_)
 refine dQ (.h1) (cT sq (fun H_b2 le_b2 rd_b2=>?_))
 have hT2:=(hT.le le_b6).le le_b2
 have hl:H_b2 b2 0=some v:=rd_b2 0 _ rfl
 have hw:=le_b2 _ _ _ (rd_b6 0 _ rfl)
 refine TL.run (bq rfl hw) rfl (zm0 ?_)
 refine eV (L1:=(b5,[.slice none 0 0])::[]) (ab rfl rfl rfl rfl) (y0 hT2 hl hw (root.toNat+1) root (.inr (qR hm)) _ [] [] OwnSl.nil (by simp;omega)) rfl (fun v10 H10 L10 hle10 hp10=>?_)
 obtain⟨rfl,rfl,u10,ob10,rfl,hO10⟩:=hp10
 rw [List.nil_append] at hO10
 obtain⟨ua10,uc10,rfl⟩:=hO10.form
 refine fz ?_;refine jb ?_;refine dv ?_
 exact dG (.inr rfl) (ad rfl (RVal.tmp rfl)) (.skip _ .all) hO10
theorem kL {H:Hp}{pg:SProg}(s:Str)(n:Int)(hP:ProgOk H pg):
  FnS Tryz.prog 142 [.agg pg.cells.toArray,gs s,.int .i64 n] H (.bool (bD pg.procs s n)):=by
 have hq:=hP.q
 have hmax:=hq.max
 refine FnS.enter Tryz.func142 Tryz.ntmps142 rfl rfl (fun w0=>?_)
 refine zm2 ?_
 refine TL.box rfl rfl (fun b3=>?_)
 refine zm1 ?_;refine eS ?_;refine zm0 ?_;refine aq (ab rfl rfl rfl rfl) (fb s hP) rfl (zm1 ?_);refine fo ?_
 refine ah (s:=13) rfl ?_ ?_<;>intro g13
 ·
  have q13:=of_decide_eq_true g13
  have hfr:=fU pg.procs s
  obtain⟨x,hx⟩:=ao (l:=pg.procs) (i:=cb pg.procs s) om om
  have hxp:=(hP.qs x (List.mem_of_getElem? hx)).pa.max
  refine co ?_;refine cg ?_;refine aB rfl rfl (af rfl hq rfl om om) rfl (ia ?_)
  refine aB rfl rfl (bL hq hx rfl rfl) rfl (aB rfl rfl (ai rfl rfl (hP.qs x (List.mem_of_getElem? hx)).pa) rfl (sG ?_))
  exact aw (.inr rfl) (ad rfl (RVal.tmp rfl)) (congrArg Value.bool (by unfold bD kF;first | (rw [hx];simp_all;done) | (simp_all;done) | (simp_all;omega)))
 have q13:=of_decide_eq_false g13
 refine dB ?_;refine oH ?_;refine eD ?_
 exact aw (.inr rfl) (ad rfl (RVal.tmp rfl)) (congrArg Value.bool (by unfold bD kF;first | (rw [hx];simp_all;done) | (simp_all;done) | (simp_all;omega)))
theorem tx {H:Hp}{pg:SProg}(s:SStep)(hP:ProgOk H pg)(hs:StepOk H s)(hl:s.casts.length≤4):
  FnS Tryz.prog 143 [.agg pg.cells.toArray,.agg s.cells.toArray] H (.bool (dC pg s)):=by
 have hr:=hP.r
 have hrm:=hr.max
 have hc:=hs.c
 refine FnS.enter Tryz.func143 Tryz.ntmps143 rfl rfl (fun w0=>?_)
 refine zm2 ?_
 refine TL.box rfl rfl (fun b2=>?_)
 refine TL.box rfl rfl (fun b3=>?_)
 refine eX ?_;refine fJ ?_;refine TL.run (ai rfl rfl hr) rfl (zm7 ?_)
 refine TC.loop (V:=fun k=>[(15,.int .i64 k)]) (K:=[(3,_),(4,_),(13,_),(14,_)]) (L:=fun k=>_) (I:=fun k=>(0≤k∧k≤pg.protos.length)∧dC pg s=eK s (pg.protos.drop k.toNat)) (μ:=fun k=>(pg.protos.length - k).toNat) (i:=(0:Int)) ky ⟨o2q,rfl⟩ (fun w hw=>hw) (fun k hI=>?_)
 obtain⟨⟨k0,k1⟩,hop⟩:=hI
 have hk0:=k0
 refine zm5 ?_
 refine ag rfl ?_ ?_<;>intro c16
 ·
  obtain⟨x,hx⟩:=ao (l:=pg.protos) k0 c16
  have hxr:=(hP.rs x (List.mem_of_getElem? hx)).r.max
  refine cQ ?_;refine TL.run (af rfl hr rfl om om) rfl (TL.run (bg hr hx rfl rfl) rfl (TL.alloc rfl (fun b6=>?_)))
  refine kQ ?_;refine eQ ?_;refine f7 ?_;refine TL.run (cd rfl rfl rfl) rfl (TL.nil (ae (aW rfl (fun c23=>?_) (fun c23=>?_))))
  ·
   refine sm ?_;refine jS ?_
   exact aM (k+1) ⟨o2q,uK k0 hx c23 hop⟩ ky (fun w hw=>hw.drop) om
  refine cW ?_;refine fJ ?_
  refine ax rfl rfl rfl rfl (fun b26=>?_)
  refine eX ?_;refine fm ?_;refine jT ?_;refine TL.run (ai rfl rfl hc) rfl (zm7 ?_)
  refine aR (V:=fun k v ob H1=>[(7,v),(30,.int .i64 k)]) (K:=[(3,_),(4,_),(6,_),(13,_),(14,_),(15,_),(16,_),(17,_),(18,_),(19,_),(20,_),(21,_),(22,_),(23,_),(24,_),(25,_),(26,_),(27,_),(28,_),(29,_)]) (L:=fun k v ob H1=>St [] w0 H H ((b6,_)::(b3,_)::(b2,_)::ob)) (I:=fun k v ob H1=>(0≤k∧k≤s.casts.length)∧OwnSl 1 Str.cells v (s.peer::(s.casts.take k.toNat).map (·.role)) ob) (μ:=fun k=>(s.casts.length - k).toNat) 0 (.slice (some ⟨b26,0,none⟩) 1 1) [(b26,[gs s.peer])] H ky ⟨o2q,OwnSl.blk (enc:=Str.cells) [s.peer] rfl rfl sq⟩ (fun w hw=>hw.perm (List.perm_append_singleton _ _).symm) (fun k v ob H1 hI=>?_)
  obtain⟨⟨k0,k1⟩,hO⟩:=hI
  obtain⟨va,vc,rfl⟩:=hO.form
  refine zm5 ?_
  refine ag rfl ?_ ?_<;>intro c31
  ·
   obtain⟨y,hy⟩:=ao (l:=s.casts) k0 c31
   refine cQ ?_;refine TL.run (af rfl hc rfl om om) rfl (TL.run (bg hc hy rfl rfl) rfl (TL.alloc rfl (fun b9=>?_)))
   refine ru ?_
   refine ax rfl rfl rfl rfl (fun b37=>?_)
   refine TL.append (enc:=Str.cells) rfl rfl rfl hO (Src.own [y.role] (.here _) rfl rfl) (by simp;omega) rfl (.s4 (.skip _ .all)) rfl (fun a38 c38 ob38 hO38=>?_)
   refine jV ?_
   exact aE (k+1) _ ob38 H ⟨o2q,hO38.cast (by rw [bF k0 hy];rfl)⟩ ky (fun w hw=>hw.drop.drop) om
  refine gG ?_
  refine TC.pubO hO (.s2 (.skip _ .all)) sq (fun HJ leJ hJ=>?_)
  replace hP:=hP.le leJ
  have hJ2:=hJ.cast (show _=dN s by rw [bh c31 k0];rfl)
  clear hJ
  have hJm:=hJ2.max
  refine bJ (!(decide (((dN s).length:Int)=x.roles.length)&&cU (dN s))) 50 [(3,_),(4,_),(6,_),(7,_),(13,_),(14,_),(15,_),(16,_),(17,_),(18,_),(19,_),(20,_),(21,_),(22,_),(23,_),(24,_),(25,_),(26,_),(27,_),(28,_),(29,_),(30,_),(31,_)] ky ?_ ?_
  ·
   refine jN ?_;refine TL.run (ai rfl rfl hJ2) rfl (fw ?_);refine TL.run (ai rfl rfl (hP.rs x (List.mem_of_getElem? hx)).r) rfl (zm4 ?_)
   refine ah (s:=46) rfl ?_ ?_<;>intro g46
   ·
    have q46:=bi g46
    refine jO ?_
    exact aS rfl (by first | (simp_all;done) | (simp_all;omega)) ky
   have q46:=a7 g46
   refine cg ?_;refine aL rfl rfl (ab rfl rfl rfl rfl) (iY hJ2) rfl (ga ?_)
   exact aS rfl (by first | (simp_all;done) | (simp_all;omega)) ky
  refine TC.cond rfl ?_ ?_<;>intro c50
  ·
   refine gh ?_;refine jc ?_
   exact aw (.inr rfl) (ad rfl (RVal.tmp rfl)) (congrArg Value.bool (by first | exact(iX k0 c16 hop).symm | exact(mv hk0 hx c23 hop c50).symm | exact(mu hk0 hx c23 hop c50 h1).symm))
  refine f8 ?_;refine cZ ?_;refine TL.run (ai rfl rfl hJ2) rfl (zm7 ?_)
  refine TC.loop (V:=fun k=>[(53,.int .i64 k)]) (K:=[(3,_),(4,_),(6,_),(7,_),(13,_),(14,_),(15,_),(16,_),(17,_),(18,_),(19,_),(20,_),(21,_),(22,_),(23,_),(24,_),(25,_),(26,_),(27,_),(28,_),(29,_),(30,_),(31,_),(50,_),(51,_),(52,_)]) (L:=fun k=>_) (I:=fun k=>(0≤k∧k≤(dN s).length)∧(dN s).all (fun r=>bX x.roles r)=((dN s).drop k.toNat).all (fun r=>bX x.roles r)) (μ:=fun k=>((dN s).length - k).toNat) (i:=(0:Int)) ky ⟨o2q,rfl⟩ (fun w hw=>hw) (fun k hI=>?_)
  obtain⟨⟨k0,k1⟩,hal⟩:=hI
  refine zm5 ?_
  refine ag rfl ?_ ?_<;>intro c54
  ·
   obtain⟨z,hz⟩:=ao (l:=dN s) k0 c54
   refine cQ ?_;refine TL.run (af rfl hJ2 rfl om om) rfl (TL.run (aJ hJ2 hz rfl rfl) rfl (zm1 ?_));refine lN ?_
   refine aq (ab rfl rfl rfl rfl) (gt z (hP.rs x (List.mem_of_getElem? hx)).r) rfl (zm1 ?_)
   refine TC.cond rfl ?_ ?_<;>intro c61
   ·
    have h1:=cN (p:=fun r=>bX x.roles r) k0 hz (by simpa using c61) hal
    refine lL ?_;refine gi ?_
    exact aw (.inr rfl) (ad rfl (RVal.tmp rfl)) (congrArg Value.bool (by first | exact(iX k0 c16 hop).symm | exact(mv hk0 hx c23 hop c50).symm | exact(mu hk0 hx c23 hop c50 h1).symm))
   refine jP ?_
   exact aM (k+1) ⟨o2q,bM (p:=(fun r=>bX x.roles r)) k0 hz (by simpa using c61) hal⟩ ky (fun w hw=>hw) om
  have h1:=cz (p:=fun r=>bX x.roles r) k0 c54 hal
  refine jv ?_;refine gi ?_
  exact aw (.inr rfl) (ad rfl (RVal.tmp rfl)) (congrArg Value.bool (by first | exact(iX k0 c16 hop).symm | exact(mv hk0 hx c23 hop c50).symm | exact(mu hk0 hx c23 hop c50 h1).symm))
 refine jv ?_
 exact aw (.inr rfl) (ad rfl (RVal.tmp rfl)) (congrArg Value.bool (by first | exact(iX k0 c16 hop).symm | exact(mv hk0 hx c23 hop c50).symm | exact(mu hk0 hx c23 hop c50 h1).symm))
end Go.Sx
namespace Go.Sx
open Go Go.Proofs
theorem wC {H:Hp}{l:List SArm}{v:Value}(hA:RdSl H 4 SArm.cells v l)(hl:l.length≤1000):
  FnO Tryz.prog 46 [v] H (fun r H1 ob=>H1=H∧OwnSl 4 SArm.cells r l ob):=by
 refine FnO.enter Tryz.func46 Tryz.ntmps46 rfl rfl (fun w0=>?_)
 refine sA ?_
 refine ax rfl rfl rfl rfl (fun b3=>?_)
 refine zm0 ?_
 refine TL.append (enc:=SArm.cells) rfl rfl rfl (OwnSl.blk (enc:=SArm.cells) [] rfl rfl dq) (Src.sl hA) (by simp;omega) rfl (.take (.here _) rfl) rfl (fun a5 c5 ob5 hO5=>?_)
 refine dv ?_
 exact dG (.inr rfl) (ad rfl (RVal.tmp rfl)) .all ⟨rfl,hO5.cast sq⟩
theorem ordW_ok {q:SProc}{bx bo bw:Nat}(hS:cj q)(hz2:q.steps.length≤80):
  ∀(f:Nat) {H:Hp} (at_:Int),ProcOk H q→ProcAt H bx q→CellAt H bw (.func (.func 92) #[] #[.pointer (some ⟨bo,0,none⟩),.pointer (some ⟨bx,0,none⟩),.pointer (some ⟨bw,0,none⟩)])→0≤at_→at_<q.steps.length→q.steps.length≤at_.toNat+f→∀(u:Value) (xs:List Int) (ob:aj),OwnSl 1 I64.cells u xs ob→xs.length+(kv q f at_).length≤1000→
   FnX Tryz.prog 92 [.int .i64 at_,.pointer (some ⟨bo,0,none⟩),.pointer (some ⟨bx,0,none⟩),.pointer (some ⟨bw,0,none⟩)] H ((bo,[u])::ob) (fun r H2 L2=>r= .tuple #[]∧H.le H2∧∃u2 ob2,L2=(bo,[u2])::ob2∧OwnSl 1 I64.cells u2 (xs++kv q f at_) ob2):=by
 intro f
 induction f with
 | zero=>
  intro H at_ _ _ _ h0 h1 h2;exfalso;omega
 | succ f ih=>
 intro H at_ hQ hx hw h0 h1 h2 u xs ob hO hlen
 obtain⟨s,hs⟩:∃s,q.steps[at_.toNat]? =some s:=⟨_,List.getElem?_eq_getElem om⟩
 rw [ordW_at hs] at hlen ⊢
 have hsk:=hQ.ss s (List.mem_of_getElem? hs)
 obtain⟨ua,uc,rfl⟩:=hO.form
 obtain⟨hm,hin⟩:=hS _ _ hs
 have hsz:=fF hm
 have hmax:=hQ.s.max
 refine FnX.enterM Tryz.func92 Tryz.ntmps92 rfl rfl (fun w0 M hM=>?_)
 refine zm2 ?_;refine su ?_
 refine ax rfl rfl rfl rfl (fun b9=>?_)
 refine TL.append (enc:=I64.cells) rfl rfl rfl hO (Src.own [at_] (.here _) rfl rfl) (by simp only [List.length_cons] at hlen;simp;omega) rfl (.skip _ (.skip _ .all)) rfl (fun a10 c10 ob10 hO10=>?_)
 refine i3 rfl rfl rfl (.h1) rfl (rW ?_);refine TL.run (bq rfl (hx 3 _ rfl)) rfl (zm0 ?_)
 refine TL.run (af rfl hQ.s rfl om om) rfl (TL.run (bg hQ.s hs rfl rfl) rfl (i6 (ab rfl rfl rfl rfl) (kA s hsk om) rfl (fun v16 H16 ob16 hf16 hle16 hp16=>?_)))
 obtain⟨eH16,hO16⟩:=hp16
 subst H16
 obtain⟨a16,c16,rfl⟩:=hO16.form
 refine TL.pubO hO16 (.s2 (.past _ .all)) (fun p hp hm=>absurd (hM _ hm) (Nat.not_lt.2 (hf16 p hp))) (fun HP16 leP16 hR16=>?_)
 replace hQ:=hQ.le leP16
 replace hx:=hx.le leP16
 replace hw:=hw.le leP16
 have hR16m:=hR16.max
 refine TL.run (ai rfl rfl hR16) rfl (zm7 ?_)
 have hleA:=leP16
 refine aR (V:=fun k v ob H1=>[(18,.int .i64 k)]) (K:=[(3,_),(16,_),(17,_)]) (L:=fun k v ob H1=>St M w0 H H1 ((bo,[v])::ob)) (I:=fun k v ob H1=>(0≤k∧k≤(aT s).length)∧HP16.le H1∧OwnSl 1 I64.cells v (xs++at_::((aT s).take k.toNat).flatMap (kv q f)) ob) (μ:=fun k=>((aT s).length - k).toNat) 0 _ _ HP16 ky ⟨o2q,Hp.le.refl _,hO10.cast sq⟩ (fun w hw=>by have h2:=hw.drop;rw [List.append_nil] at h2;exact h2) (fun k v ob H1 hI=>?_)
 obtain⟨⟨k0,k1⟩,hle,hO⟩:=hI
 obtain⟨va,vc,rfl⟩:=hO.form
 replace hQ:=hQ.le hle
 replace hx:=hx.le hle
 replace hw:=hw.le hle
 replace hR16:=hR16.le hle
 replace hleA:=hleA.trans hle
 refine zm5 ?_
 refine ag rfl ?_ ?_<;>intro c19
 ·
  obtain⟨t,ht⟩:=ao (l:=aT s) k0 c19
  have htb:=hin t (List.mem_of_getElem? ht)
  have hlb:=fm_room (f:=kv q f) k0 ht
  refine cQ ?_;refine TL.run (af rfl hR16 rfl om om) rfl (TL.run (aJ hR16 ht rfl rfl) rfl (zm1 ?_));refine TC.region (TL.run (bq rfl hw) rfl (zm0 ?_))
  refine eV (L1:=(bo,[.slice va _ vc])::ob) (ab rfl rfl rfl rfl) (ih t hQ hx hw om om om _ _ _ hO (by simp only [List.length_append,List.length_cons];simp only [List.length_cons] at hlen;omega)) rfl (fun v24 H24 L24 hle24 hp24=>?_)
  obtain⟨rfl, -,u24,ob24,rfl,hO24⟩:=hp24
  obtain⟨ua24,uc24,rfl⟩:=hO24.form
  replace hw:=hw.le hle24
  replace hle:=hle.trans hle24
  refine mJ ?_
  exact aE (k+1) _ ob24 H24 ⟨o2q,hle,hO24.cast (by rw [bB k0 ht,List.flatMap_append];simp)⟩ ky (fun w hw=>hw) om
 refine TC.exit (bE (bE (cL ?_)))
 exact aO (.inl rfl) (bK rfl) (fun w hw=>hw) ⟨rfl,hleA,_,_,rfl,hO.cast (by rw [bh c19 k0])⟩
theorem vY {H:Hp}{q:SProc}{bx bmv bm bout:Nat}{nm:Str}{pv u sv:Value}{m0:List Int}{o0:List Term}{ob:aj}(root:Int)(hQ:ProcOk H q)(hx:ProcAt H bx q)(hmv:CellAt H bmv (.slice (some ⟨bm,0,none⟩) q.terms.length q.terms.length))(hm:dH q.terms root=true)(hml0:m0.length=q.terms.length)(hO0:OwnSl 6 Term.cells u o0 ob)(hr:o0.length≤300000000000):
  FnX Tryz.prog 93 [.int .i64 root,.pointer (some ⟨bx,0,none⟩),.pointer (some ⟨bmv,0,none⟩),.pointer (some ⟨bout,0,none⟩)] H ((bm,m0.map (Value.int .i64))::(bout,[gs nm,pv,u,sv])::ob) (fun r H2 L2=>r= .int .i64 (bS (eq q.terms root (m0,o0)).1 root)∧∃u2 ob2,L2=(bm,(eq q.terms root (m0,o0)).1.map (Value.int .i64))::(bout,[gs nm,pv,u2,sv])::ob2∧OwnSl 6 Term.cells u2 (eq q.terms root (m0,o0)).2 ob2):=by
 obtain⟨ua,uc,rfl⟩:=hO0.form
 have hpl:=ln hm
 have htr:=qR hm
 have hr0:=yG htr
 have hr1:0≤root:=htr.1
 have hmax:=hQ.t.max
 have hpl2:(eJ q.terms root).length≤33554432:=hpl
 refine FnX.enterM Tryz.func93 Tryz.ntmps93 rfl rfl (fun w0 M hM=>?_)
 refine zm5 ?_;refine fm ?_;refine TL.run (bq rfl (hx 2 _ rfl)) rfl (zm0 ?_)
 refine i6 (ab rfl rfl rfl rfl) (sS root hQ.t hm) rfl (fun v12 H12 ob12 hf12 hle12 hp12=>?_)
 have hO12:OwnSl 1 I64.cells v12 (eJ q.terms root) ob12:=hp12
 obtain⟨a12,c12,rfl⟩:=hO12.form
 replace hQ:=hQ.le hle12
 replace hx:=hx.le hle12
 replace hmv:=hmv.le hle12
 refine TL.pubO hO12 (.s2 (.past _ .all)) (fun p hp hm=>absurd (hM _ hm) (Nat.not_lt.2 (hf12 p hp))) (fun HP12 leP12 hR12=>?_)
 replace hQ:=hQ.le leP12
 replace hx:=hx.le leP12
 replace hmv:=hmv.le leP12
 have hR12m:=hR12.max
 refine TL.run (ai rfl rfl hR12) rfl (zm7 ?_)
 refine aR (V:=fun(p:Int×List Int×List Term) v ob H1=>[(14,.int .i64 p.1)]) (K:=[(0,_),(1,_),(2,_),(3,_),(5,_),(12,_),(13,_)]) (L:=fun(p:Int×List Int×List Term) v ob H1=>St M w0 H H1 ((bm,p.2.1.map (Value.int .i64))::(bout,[gs nm,pv,v,sv])::ob)) (I:=fun(p:Int×List Int×List Term) v ob H1=>(0≤p.1∧p.1≤(eJ q.terms root).length)∧HP12.le H1∧p.2.1.length=q.terms.length∧OwnSl 6 Term.cells v p.2.2 ob∧p.2.2.length≤o0.length+p.1∧eq q.terms root (m0,o0)=ei q.terms ((eJ q.terms root).drop p.1.toNat) (p.2.1,p.2.2)) (μ:=fun(p:Int×List Int×List Term)=>((eJ q.terms root).length - p.1).toNat) ((0:Int),m0,o0) _ _ HP12 ky ⟨o2q,Hp.le.refl _,hml0,hO0,by simp,rfl⟩ (fun w hw=>by rw [List.append_nil] at hw;exact hw) (fun p v ob H1 hI=>?_)
 obtain⟨⟨k0,k1⟩,hle,hml,hO,hol,hT⟩:=hI
 obtain⟨k,m,o⟩:=p
 dsimp only at *
 obtain⟨va,vc,rfl⟩:=hO.form
 replace hQ:=hQ.le hle
 replace hx:=hx.le hle
 replace hmv:=hmv.le hle
 replace hR12:=hR12.le hle
 refine zm5 ?_
 refine ag rfl ?_ ?_<;>intro c15
 ·
  obtain⟨x,hk⟩:=ao (l:=eJ q.terms root) k0 c15
  obtain⟨t,ht,hx0,htl,htr2⟩:=nM _ _ (.inr htr) x (List.mem_of_getElem? hk)
  have hxb:=qY ht
  refine cQ ?_;refine TL.run (af rfl hR12 rfl om om) rfl (TL.run (aJ hR12 hk rfl rfl) rfl (qu ?_));refine TL.run (bq rfl (hx 2 _ rfl)) rfl (zm0 ?_)
  refine TL.run (af rfl hQ.t rfl om om) rfl (TL.run (bg hQ.t ht rfl rfl) rfl (TL.alloc rfl (fun b8=>?_)))
  refine kQ ?_;refine mH ?_
  refine ag rfl ?_ ?_<;>intro c25
  ·
   refine TC.region (TL.run (bq rfl hmv) rfl (fw ?_));refine ec ?_;refine TL.run (ay rfl (.h1) (fT om)) rfl (jR ?_);refine TL.nil (ae (TC.seq (mH ?_)))
   refine ag rfl ?_ ?_<;>intro c34
   ·
    refine TC.region (TL.run (bq rfl hmv) rfl (fw ?_));refine ec ?_;refine TL.run (ay rfl (.h1) (fT om)) rfl (jR ?_);refine fz ?_;refine rq ?_;refine mN ?_
    refine TL.run (bj rfl rfl hO) rfl (ro ?_);refine rm ?_
    refine ax rfl rfl rfl rfl (fun b50=>?_)
    refine TL.append (enc:=Term.cells) rfl rfl rfl hO (Src.own [⟨t.kind,t.name,t.n,t.text,bS m t.l,bS m t.r⟩] (.here _) rfl rfl) (by simp;omega) rfl (.s3 (.skip _ .all)) rfl (fun a51 c51 ob51 hO51=>?_)
    exact vi
   refine qt ?_;refine rq ?_;refine mN ?_;refine TL.run (bj rfl rfl hO) rfl (ro ?_);refine rm ?_
   refine ax rfl rfl rfl rfl (fun b50=>?_)
   refine TL.append (enc:=Term.cells) rfl rfl rfl hO (Src.own [⟨t.kind,t.name,t.n,t.text,bS m t.l,t.r⟩] (.here _) rfl rfl) (by simp;omega) rfl (.s3 (.skip _ .all)) rfl (fun a51 c51 ob51 hO51=>?_)
   exact vi
  refine f8 ?_;refine mH ?_
  refine ag rfl ?_ ?_<;>intro c34
  ·
   refine TC.region (TL.run (bq rfl hmv) rfl (fw ?_));refine ec ?_;refine TL.run (ay rfl (.h1) (fT om)) rfl (jR ?_);refine fz ?_;refine rq ?_;refine mN ?_
   refine TL.run (bj rfl rfl hO) rfl (ro ?_);refine rm ?_
   refine ax rfl rfl rfl rfl (fun b50=>?_)
   refine TL.append (enc:=Term.cells) rfl rfl rfl hO (Src.own [⟨t.kind,t.name,t.n,t.text,t.l,bS m t.r⟩] (.here _) rfl rfl) (by simp;omega) rfl (.s3 (.skip _ .all)) rfl (fun a51 c51 ob51 hO51=>?_)
   exact vi
  refine qt ?_;refine rq ?_;refine mN ?_;refine TL.run (bj rfl rfl hO) rfl (ro ?_);refine rm ?_
  refine ax rfl rfl rfl rfl (fun b50=>?_)
  refine TL.append (enc:=Term.cells) rfl rfl rfl hO (Src.own [⟨t.kind,t.name,t.n,t.text,t.l,t.r⟩] (.here _) rfl rfl) (by simp;omega) rfl (.s3 (.skip _ .all)) rfl (fun a51 c51 ob51 hO51=>?_)
  exact vi
 refine mX ?_;refine rq ?_;refine ec ?_;refine TL.run (ay rfl (.here _) (fT om)) rfl (dv ?_)
 have hE:=tg_end k0 c15 hT
 exact aO (.inr rfl) (ad rfl (RVal.tmp rfl)) (fun w hw=>hw) ⟨by rw [hE],_,_,by rw [hE],by rw [hE];exact hO⟩
end Go.Sx
namespace Go.Sx
open Go Go.Proofs
theorem eT {H:Hp}{q:SProc}{bx bmv bm bout bt:Nat}{nm:Str}{pv u sv vl:Value}{m0:List Int}{o0:List Term}{ob:aj}{l:List Int}(hl:RdSl H 1 I64.cells vl l)(ht:CellAt H bt (.func (.func 93) #[] #[.pointer (some ⟨bx,0,none⟩),.pointer (some ⟨bmv,0,none⟩),.pointer (some ⟨bout,0,none⟩)]))(hQ:ProcOk H q)(hx:ProcAt H bx q)(hmv:CellAt H bmv (.slice (some ⟨bm,0,none⟩) q.terms.length q.terms.length))(hm:∀t∈l,dH q.terms t=true)(hl6:l.length≤6)(hml0:m0.length=q.terms.length)(hO0:OwnSl 6 Term.cells u o0 ob)(hr:o0.length≤290000000000):
  FnX Tryz.prog 94 [vl,.pointer (some ⟨bt,0,none⟩)] H ((bm,m0.map (Value.int .i64))::(bout,[gs nm,pv,u,sv])::ob) (fun r H2 L2=>∃u2 ob2 ob3,L2=(bm,(bf q.terms l [] (m0,o0)).2.1.map (Value.int .i64))::(bout,[gs nm,pv,u2,sv])::(ob2++ob3)∧OwnSl 6 Term.cells u2 (bf q.terms l [] (m0,o0)).2.2 ob2∧OwnSl 1 I64.cells r (bf q.terms l [] (m0,o0)).1 ob3):=by
 obtain⟨ua,uc,rfl⟩:=hO0.form
 have one0:=hl.isOne
 obtain⟨la,lc,rfl⟩:=hl.len
 refine FnX.enterM Tryz.func94 Tryz.ntmps94 rfl rfl (fun w0 M hM=>?_)
 refine ja ?_;refine lV ?_;refine TL.run (ai rfl rfl hl) rfl (zm7 ?_)
 refine aR (V:=fun(p:Int×RS×Value×aj×List Int) v ob H1=>[(4,v),(9,.int .i64 p.1)]) (K:=[(1,_),(3,_),(7,_),(8,_)]) (L:=fun(p:Int×RS×Value×aj×List Int) v ob H1=>St M w0 H H1 ((bm,p.2.1.1.map (Value.int .i64))::(bout,[gs nm,pv,p.2.2.1,sv])::(p.2.2.2.1++ob))) (I:=fun(p:Int×RS×Value×aj×List Int) v ob H1=>(0≤p.1∧p.1≤l.length)∧H.le H1∧(p.2.1.1.length=q.terms.length∧p.2.1.2.length≤o0.length+33554432 * p.1.toNat)∧OwnSl 6 Term.cells p.2.2.1 p.2.1.2 p.2.2.2.1∧OwnSl 1 I64.cells v p.2.2.2.2 ob∧p.2.2.2.2.length≤p.1∧bf q.terms l [] (m0,o0)=bf q.terms (l.drop p.1.toNat) p.2.2.2.2 p.2.1) (μ:=fun(p:Int×RS×Value×aj×List Int)=>(l.length - p.1).toNat) ((0:Int),(m0,o0),(.slice ua o0.length uc),ob,[]) (.slice none 0 0) [] H ky ⟨o2q,Hp.le.refl _,⟨hml0,by simp⟩,hO0,OwnSl.nil,by simp,rfl⟩ (fun w hw=>by rw [List.append_nil];exact hw) (fun p v ob H1 hI=>?_)
 obtain⟨⟨k0,k1⟩,hle,⟨hml,hol⟩,hO1,hO,hac,hT⟩:=hI
 obtain⟨k,⟨m,o⟩,u1,ob1,acc⟩:=p
 dsimp only at *
 obtain⟨va,vc,rfl⟩:=hO.form
 replace hl:=hl.le hle
 replace ht:=ht.le hle
 replace hQ:=hQ.le hle
 replace hx:=hx.le hle
 replace hmv:=hmv.le hle
 refine zm5 ?_
 refine ag rfl ?_ ?_<;>intro c10
 ·
  obtain⟨x,hk⟩:=ao (l:=l) k0 c10
  have hxm:=hm x (List.mem_of_getElem? hk)
  refine cQ ?_;refine TL.run (af rfl hl rfl om om) rfl (TL.run (aJ hl hk rfl rfl) rfl (zm1 ?_));refine jN ?_;refine TL.run (bq rfl ht) rfl (zm0 ?_)
  refine di (L1:=(bm,m.map (Value.int .i64))::(bout,[gs nm,pv,u1,sv])::ob1) (L2:=ob) (ab rfl rfl rfl rfl) (vY x hQ hx hmv hxm hml hO1 om) rfl (fun v16 H16 L16 hle16 hp16=>?_)
  obtain⟨rfl,u16,ob16,rfl,hO16⟩:=hp16
  refine aP (L':=(bm,_)::((bout,_)::(ob16++(ob)))) (List.Perm.refl _) ?_
  replace hle:=hle.trans hle16
  refine ax rfl rfl rfl rfl (fun b17=>?_)
  refine TL.append (enc:=I64.cells) rfl rfl rfl hO (Src.own [bS (eq q.terms x (m,o)).1 x] (.here _) rfl rfl) (by simp;omega) rfl (.s3 (.past _ .all)) rfl (fun a18 c18 ob18 hO18=>?_)
  refine jV ?_
  exact aE (i:=(k,(m,o),u1,ob1,acc)) (k+1,eq q.terms x (m,o),u16,ob16,acc++[bS (eq q.terms x (m,o)).1 x]) _ ob18 H16 ⟨o2q,hle,⟨by rw [kX];exact hml,by have h7:=jy (s:=(m,o)) hxm;simp only at h7 ⊢;omega⟩,hO16,hO18,by simp only [List.length_append,List.length_cons,List.length_nil];omega,ta_next k0 hk hT⟩ ky (fun w hw=>hw.drop) om
 refine oJ ?_
 have hE:=ta_end k0 c10 hT
 exact aO (.inr rfl) (ad rfl (RVal.tmp rfl)) (fun w hw=>hw) ⟨_,_,_,by rw [hE],by rw [hE];exact hO1,by rw [hE];exact hO⟩
end Go.Sx
