import Derived.Test.YtjnlogbbcceaoaaGreatJ9
set_option linter.all false
set_option maxRecDepth 100000
set_option maxHeartbeats 32000000
namespace Go.Sx
open Go Go.Proofs
theorem bF {H:Hp}(s:Str):
  FnS Tryz.prog 79 [gs s] H (.bool (aH s)):=by
 refine FnS.enter Tryz.func79 Tryz.ntmps79 rfl rfl (fun w0=>?_)
 refine n9 ?_;refine TL.run (em rfl rfl) rfl (zm3 ?_)
 refine aj (s:=7) rfl ?_ ?_<;>intro g7
 · exact zq42
 have q7:=of_decide_eq_false g7
 refine cQ ?_;refine az rfl rfl (em rfl rfl) rfl (dg ?_)
 refine aj (s:=12) rfl ?_ ?_<;>intro g12
 ·
  have q12:=of_decide_eq_true g12
  exact zq44
 have q12:=of_decide_eq_false g12
 refine cQ ?_
 have hlen:(0:Int)<s.length:=by have:=of_decide_eq_false g7;omega
 obtain⟨c0,hc0⟩:=al (l:=s) (i:=0) omq hlen
 refine az rfl rfl (gg rfl rfl omq hc0) rfl (aM rfl rfl (ab rfl rfl rfl rfl) (ki c0) rfl (dg ?_))
 refine aj (s:=18) rfl ?_ ?_<;>intro g18
 · exact zq50
 refine cQ ?_;refine aM rfl rfl (ab rfl rfl rfl rfl) (mJ s) rfl (zm1 ?_)
 refine TC.cond rfl ?_ ?_<;>intro c21
 · exact zq56
 have hn:=nF g7 g12 hc0 g18 c21
 have hl12:(s.length:Int)≤12:=by have:=of_decide_eq_false g12;omega
 exact zq0
theorem pI {H:Hp}(k:Int):
  FnS Tryz.prog 95 [.int .i64 k] H (.bool (fA k)):=by
 refine FnS.enter Tryz.func95 Tryz.ntmps95 rfl rfl (fun w0=>?_)
 refine jR ?_
 refine bY (decide (k=1)||(decide (k=2)||(decide (k=4)||(decide (k=7)||(decide (k=8)||decide (k=9)))))) 4 [(2,_)] ⟨rfl,trivial⟩ ?_ ?_
 · refine De ?_;exact cz (aF rfl) rfl rfl ⟨rfl,trivial⟩ (eX (aF rfl) rfl rfl ⟨rfl,trivial⟩)
 refine TC.cond rfl ?_ ?_<;>intro c4
 ·
  refine pd ?_
  exact ar (.inr rfl) (ad rfl (RVal.tmp rfl)) (congrArg Value.bool (by unfold fA;first | exact c4.symm | (rw [c4]) | simp_all))
 refine xh ?_
 exact ar (.inr rfl) (ad rfl (RVal.tmp rfl)) (congrArg Value.bool (by unfold fA;first | exact c4.symm | (rw [c4]) | simp_all))
theorem dU {H:Hp}(e p a:Int):
  FnS Tryz.prog 41 [.int .i64 e,.int .i64 p,.int .i64 a] H (.agg (SFault.cells ⟨e,p,a⟩).toArray):=by
 refine FnS.enter Tryz.func41 Tryz.ntmps41 rfl rfl (fun w0=>?_)
 refine zm2 ?_
 refine TL.alloc rfl (fun b6=>?_)
 refine TL.nil (ag (im ?_));refine dt ?_;refine jm ?_
 exact ar (.inr rfl) (ad rfl (RVal.cellA rfl (.here _) rfl)) rfl
theorem iX {H:Hp}{pg:SProg}(s:Str)(hP:ProgOk H pg):
  FnS Tryz.prog 16 [.agg pg.cells.toArray,gs s] H (.int .i64 (cf pg.procs s)):=by
 have hq:=hP.q
 have hmax:=hq.max
 refine FnS.enter Tryz.func16 Tryz.ntmps16 rfl rfl (fun w0=>?_)
 refine zm2 ?_
 refine TL.box rfl rfl (fun b2=>?_)
 refine qr ?_;refine TL.run (ai rfl rfl hq) rfl (zm8 ?_)
 refine TC.loop (V:=fun k=>[(9,.int .i64 k)]) (K:=[(1,_),(2,_),(4,_),(8,_)]) (L:=fun k=>_) (I:=fun k=>0≤k∧k≤pg.procs.length∧∀j:Nat,j<k.toNat→(pg.procs.map (·.name))[j]? ≠some s) (μ:=fun k=>(pg.procs.length - k).toNat) (i:=(0:Int)) ky ⟨by omega,by omega,fun j hj=>absurd hj sq⟩ (fun w hw=>hw) (fun k hI=>?_)
 refine zm6 ?_
 refine af rfl ?_ ?_<;>intro c10
 ·
  obtain⟨x,hx⟩:=al (l:=pg.procs) hI.1 c10
  refine oE ?_;refine mi ?_;refine TL.run (ae rfl hq rfl omq omq) rfl (zm5 ?_);refine TL.run (bh hq hx rfl rfl) rfl (w6 ?_)
  refine af rfl ?_ ?_<;>intro c19
  ·
   refine w5 ?_
   exact ar (.inr rfl) (ad rfl (RVal.tmp rfl)) (congrArg (Value.int .i64) (by unfold cf;first | exact(dG hI.1 (by rw [iJ hx,c19]) hI.2.2).symm | exact(fq hI.2.2 (by rw [List.length_map];exact c10)).symm))
  refine lY ?_
  exact aQ (k+1) ⟨by omega,by omega,lM hI.1 hI.2.2 (iJ hx) c19⟩ ky (fun w hw=>hw) omq
 refine ga ?_
 exact ar (.inr rfl) (ad rfl (RVal.tmp rfl)) (congrArg (Value.int .i64) (by unfold cf;first | exact(dG hI.1 (by rw [iJ hx,c19]) hI.2.2).symm | exact(fq hI.2.2 (by rw [List.length_map];exact c10)).symm))
theorem bare_ok {H:Hp}(s:SStep):
  FnS Tryz.prog 139 [.agg s.cells.toArray] H (.agg (dr s).cells.toArray):=by
 refine FnS.enter Tryz.func139 Tryz.ntmps139 rfl rfl (fun w0=>?_)
 refine zm2 ?_
 refine TL.box rfl rfl (fun b1=>?_)
 refine TL.alloc rfl (fun b2=>?_)
 refine TL.nil (ag (TC.seq (iD ?_)));refine tD ?_
 refine af rfl ?_ ?_<;>intro c5
 · exact CR
 refine dN ?_
 refine af rfl ?_ ?_<;>intro c9
 · exact TC.region (CQ)
 refine dN ?_
 refine af rfl ?_ ?_<;>intro c12
 · exact CR
 refine dN ?_
 refine af rfl ?_ ?_<;>intro c16
 ·
  refine TC.region (w3 ?_)
  exact CP
 refine dN ?_
 refine af rfl ?_ ?_<;>intro c22
 · exact TC.region (CP)
 refine bY (decide (s.kind=6)||decide (s.kind=7)) 27 [(1,_),(2,_),(4,_)] ky ?_ ?_
 · exact cz (aF rfl) rfl rfl ky (eX (aF rfl) rfl rfl ky)
 refine TC.cond rfl ?_ ?_<;>intro c27
 ·
  have h67:s.kind=6∨s.kind=7:=by simpa using c27
  have h8:¬s.kind=8:=by omega
  have h9:¬s.kind=9:=by omega
  exact CR
 refine dN ?_
 refine af rfl ?_ ?_<;>intro c32
 ·
  refine TC.region (w3 ?_)
  exact CP
 refine dN ?_
 refine af rfl ?_ ?_<;>intro c38
 · exact TC.region (CQ)
 exact TC.skip (zq132)
theorem kL {H:Hp}{l:List Str}{v:Value}(hL:RdSl H 1 Str.cells v l):
  FnS Tryz.prog 81 [v] H (.bool (dT l)):=by
 have hmax:=hL.max
 obtain⟨la,lc,rfl⟩:=hL.len
 refine FnS.enter Tryz.func81 Tryz.ntmps81 rfl rfl (fun w0=>?_)
 refine n9 ?_;refine TL.run (ai rfl rfl hL) rfl (zm8 ?_)
 refine TC.loop (V:=fun k=>[(6,.int .i64 k)]) (K:=[(0,_),(2,_),(5,_)]) (L:=fun k=>_) (I:=fun k=>0≤k∧k≤l.length∧(l.take k.toNat).Nodup) (μ:=fun k=>(l.length - k).toNat) (i:=(0:Int)) ky ⟨by omega,by omega,List.nodup_nil⟩ (fun w hw=>hw) (fun k hI=>?_)
 refine zm6 ?_
 refine af rfl ?_ ?_<;>intro c7
 ·
  obtain⟨x,hx⟩:=al (l:=l) hI.1 c7
  refine oE ?_;refine im ?_;refine oF ?_;refine TL.run (aN hL hx rfl rfl) rfl (au (ab rfl rfl rfl rfl) (rj x hL) rfl (ly ?_))
  refine aP rfl ?_ ?_<;>intro c16
  ·
   refine oD ?_
   exact ar (.inr rfl) (ad rfl (RVal.tmp rfl)) (congrArg Value.bool (by first | exact(mG c7 hI.1 hI.2.2).symm | exact(rb hI.1 hx (by simpa using c16)).symm))
  refine lY ?_
  exact aQ (k+1) ⟨by omega,by omega,lD hI.1 hx hI.2.2 (xS hI.1 hx (by simpa using c16))⟩ ky (fun w hw=>hw) omq
 refine ga ?_
 exact ar (.inr rfl) (ad rfl (RVal.tmp rfl)) (congrArg Value.bool (by first | exact(mG c7 hI.1 hI.2.2).symm | exact(rb hI.1 hx (by simpa using c16)).symm))
end Go.Sx
namespace Go.Sx
open Go Go.Proofs
theorem As {H:Hp}(s:SStep)(hs:StepOk H s):
  FnS Tryz.prog 140 [.agg s.cells.toArray] H (.bool (eA s)):=by
 have hw:=hs.w
 have hmw:=hw.max
 refine FnS.enter Tryz.func140 Tryz.ntmps140 rfl rfl (fun w0=>?_)
 refine zm2 ?_
 refine TL.box rfl rfl (fun b1=>?_)
 refine gB ?_;refine pP ?_
 refine af rfl ?_ ?_<;>intro c8
 ·
  refine fE ?_;refine TL.run (ai rfl rfl hw) rfl (zm3 ?_)
  refine aj (s:=13) rfl ?_ ?_<;>intro g13
  ·
   have q13:=of_decide_eq_true g13
   obtain⟨w0,h0⟩:=al (l:=s.ways) (i:=0) dq omq
   obtain⟨w1,h1⟩:=al (l:=s.ways) (i:=1) dq omq
   refine zm9 ?_;refine Al ?_;refine jN ?_;refine az rfl rfl (bh hw h0 rfl rfl) rfl (m8 ?_);refine zm3 ?_
   refine aj (s:=21) rfl ?_ ?_<;>intro g21
   ·
    have q21:=of_decide_eq_true g21
    refine zm9 ?_;refine Al ?_;refine jN ?_;refine az rfl rfl (bh hw h0 rfl rfl) rfl (m8 ?_);refine zm3 ?_
    refine aj (s:=29) rfl ?_ ?_<;>intro g29
    ·
     have q29:=of_decide_eq_true g29
     refine zm9 ?_;refine Al ?_;refine jN ?_;refine az rfl rfl (bh hw h1 rfl rfl) rfl (m8 ?_);refine zm3 ?_
     refine aj (s:=37) rfl ?_ ?_<;>intro g37
     ·
      have q37:=of_decide_eq_true g37
      refine zm9 ?_;refine Al ?_;refine jN ?_;refine az rfl rfl (bh hw h1 rfl rfl) rfl (m8 ?_);refine zm0 ?_
      exact pN
     have q37:=of_decide_eq_false g37
     refine eq ?_;refine tA ?_
     exact pN
    have q29:=of_decide_eq_false g29
    refine ql ?_;refine tA ?_
    exact pN
   have q21:=of_decide_eq_false g21
   refine ql ?_;refine p5 ?_;refine tA ?_
   exact pN
  have q13:=of_decide_eq_false g13
  refine ql ?_;refine p5 ?_;refine p5 ?_;refine tA ?_
  exact pN
 refine iQ ?_;refine fE ?_;refine TL.run (ai rfl rfl hw) rfl (zm3 ?_)
 refine aj (s:=49) rfl ?_ ?_<;>intro g49
 ·
  have q49:=of_decide_eq_true g49
  refine eq ?_;refine k9 ?_;refine zm2 ?_
  exact pN
 have q49:=of_decide_eq_false g49
 refine zm9 ?_;refine az rfl rfl (ai rfl rfl hw) rfl (gb ?_)
 refine af rfl ?_ ?_<;>intro c54
 ·
  refine zm2 ?_
  exact pN
 have hn7:(1:Int)≤s.ways.length∧(s.ways.length:Int)≤7:=o2q
 refine de ?_;refine wZ ?_;refine TL.run (ai rfl rfl hw) rfl (zm8 ?_)
 refine aY (V:=fun k v ob H1=>[(3,v),(58,.int .i64 k)]) (K:=[(2,_),(56,_),(57,_)]) (L:=fun k v ob H1=>St [] w0 H H ((b1,_)::ob)) (I:=fun k v ob H1=>(0≤k∧k≤s.ways.length)∧OwnSl 1 Str.cells v ((s.ways.take k.toNat).map (·.label)) ob∧s.ways.all (fun w=>!eS w)=(s.ways.drop k.toNat).all (fun w=>!eS w)) (μ:=fun k=>(s.ways.length - k).toNat) 0 (.slice none 0 0) [] H ky ⟨o2q,OwnSl.nil,rfl⟩ (fun w hw=>hw) (fun k v ob H1 hI=>?_)
 obtain⟨⟨k0,k1⟩,hO,hal⟩:=hI
 obtain⟨va,vc,rfl⟩:=hO.form
 refine zm6 ?_
 refine af rfl ?_ ?_<;>intro c59
 ·
  obtain⟨x,hx⟩:=al (l:=s.ways) k0 c59
  refine dx ?_;refine TL.run (ae rfl hw rfl omq omq) rfl (TL.run (bg hw hx rfl rfl) rfl (TL.alloc rfl (fun b5=>?_)))
  refine pb ?_
  refine bY (eS x) 91 [(2,_),(3,_),(5,_),(56,_),(57,_),(58,_),(59,_),(60,_),(61,_)] ky ?_ ?_
  ·
   refine wY ?_
   refine aj (s:=65) rfl ?_ ?_<;>intro g65
   ·
    have q65:=of_decide_eq_true g65
    refine pT ?_
    refine aj (s:=70) rfl ?_ ?_<;>intro g70
    ·
     have q70:=aO g70
     refine xf ?_;refine et rfl rfl rfl (et rfl rfl rfl (cE ?_));refine pV ?_;refine et rfl rfl rfl (et rfl rfl rfl (et rfl rfl rfl (et rfl rfl rfl ?_)));refine cE ?_;refine dP ?_
     exact aZ rfl (by unfold eS;simp_all) ky
    have q70:=aK g70
    exact zq169
   have q65:=of_decide_eq_false g65
   refine jn ?_
   exact zq169
  refine TC.cond rfl ?_ ?_<;>intro c91
  · refine iP ?_;refine aD (bp (aD (aD ?_)));exact bp (zq168)
  refine de ?_;refine k8 ?_
  refine aB rfl rfl rfl rfl (fun b95=>?_)
  refine TL.append (enc:=Str.cells) rfl rfl rfl hO (Src.own [x.label] (.here _) rfl rfl) (by simp;omega) rfl (.s2 (.skip _ .all)) rfl (fun a96 c96 ob96 hO96=>?_)
  refine mh ?_
  exact aI (k+1) _ ob96 H ⟨o2q,by rw [bR k0 hx];exact hO96,cd k0 hx (by simpa using c91) hal⟩ ky (fun w hw=>hw.drop.drop) omq
 refine gn ?_;refine d5 ?_
 refine TL.pubO hO (.skip _ .all) sq (fun HJ leJ hJ=>?_)
 have hO2:=hJ.cast (show _=s.ways.map (·.label) by rw [bA c59 k0])
 refine au (ab rfl rfl rfl rfl) (kL hO2) rfl (eh ?_)
 exact zq165
theorem may_ok {H:Hp}(s:SStep)(hs:StepOk H s):
  FnS Tryz.prog 82 [.agg s.cells.toArray] H (.bool (dO s)):=by
 have hc:=hs.c
 have hmc:=hc.max
 have hB:=bare_rd hs
 refine FnS.enter Tryz.func82 Tryz.ntmps82 rfl rfl (fun w0=>?_)
 refine zm2 ?_
 refine TL.box rfl rfl (fun b1=>?_)
 refine qr ?_;refine zm3 ?_
 refine aj (s:=9) rfl ?_ ?_<;>intro g9
 ·
  have q9:=of_decide_eq_true g9
  refine jj ?_;refine k9 ?_;refine iP ?_
  exact zL
 have q9:=of_decide_eq_false g9
 refine zm9 ?_;refine gb ?_
 refine af rfl ?_ ?_<;>intro c13
 ·
  refine iP ?_
  exact zL
 refine de ?_;refine gq ?_;refine au (ab rfl rfl rfl rfl) (bare_ok s) rfl (TL.alloc rfl (fun b3=>?_))
 refine pb ?_
 refine bY (je (dr s)) 61 [(1,_),(2,_)] ⟨rfl,rfl,trivial⟩ ?_ ?_
 ·
  refine wY ?_
  refine aj (s:=19) rfl ?_ ?_<;>intro g19
  ·
   have q19:=aO g19
   refine jn ?_;refine jn ?_
   exact CN
  have q19:=aK g19
  refine pT ?_
  refine aj (s:=24) rfl ?_ ?_<;>intro g24
  ·
   have q24:=aO g24
   refine jn ?_
   exact CN
  have q24:=aK g24
  refine pT ?_
  refine aj (s:=29) rfl ?_ ?_<;>intro g29
  ·
   have q29:=aO g29
   exact CN
  have q29:=aK g29
  refine pT ?_
  refine aj (s:=34) rfl ?_ ?_<;>intro g34
  ·
   have q34:=aO g34
   exact zq188
  have q34:=aK g34
  refine qq ?_
  refine aj (s:=39) rfl ?_ ?_<;>intro g39
  ·
   have q39:=aO g39
   exact zq193
  have q39:=aK g39
  refine zm9 ?_;refine az rfl rfl (ai rfl rfl hB.a) rfl (dg ?_)
  refine aj (s:=45) rfl ?_ ?_<;>intro g45
  ·
   have q45:=of_decide_eq_true g45
   exact zq199
  have q45:=of_decide_eq_false g45
  refine zm9 ?_;refine az rfl rfl (ai rfl rfl hB.c) rfl (dg ?_)
  refine aj (s:=51) rfl ?_ ?_<;>intro g51
  ·
   have q51:=of_decide_eq_true g51
   exact zq205
  have q51:=of_decide_eq_false g51
  refine zm9 ?_;refine az rfl rfl (ai rfl rfl hB.w) rfl (dg ?_)
  refine aj (s:=57) rfl ?_ ?_<;>intro g57
  ·
   have q57:=of_decide_eq_true g57
   refine lX ?_
   exact aZ rfl (by unfold je;simp_all) ⟨rfl,rfl,trivial⟩
  have q57:=of_decide_eq_false g57
  refine zm9 ?_;refine iF ?_
  exact aZ rfl (by unfold je;simp_all) ⟨rfl,rfl,trivial⟩
 refine TC.cond rfl ?_ ?_<;>intro c61
 ·
  refine iP ?_
  exact zL
 refine iQ ?_;refine iD ?_;refine TL.nil (ag (TC.block (bY (decide (s.kind=1)||decide (s.kind=9)) 64 [(1,_),(2,_),(63,_)] ky ?_ ?_)))
 · exact cz (aF rfl) rfl rfl ky (eX (aF rfl) rfl rfl ky)
 refine TC.cond rfl ?_ ?_<;>intro c64
 · refine iD ?_;exact au (ab rfl rfl rfl rfl) (bF s.name) rfl (kZ)
 refine dN ?_
 refine af rfl ?_ ?_<;>intro c70
 · refine mg ?_;exact au (ab rfl rfl rfl rfl) (As s hs) rfl (kZ)
 refine dN ?_
 refine af rfl ?_ ?_<;>intro c74
 ·
  refine iD ?_;refine au (ab rfl rfl rfl rfl) (bF s.name) rfl (zm0 ?_)
  refine aj (s:=79) rfl ?_ ?_<;>intro g79
  ·
   refine fR ?_;refine aM rfl rfl (ab rfl rfl rfl rfl) (bF s.peer) rfl (zm3 ?_)
   refine aj (s:=84) rfl ?_ ?_<;>intro g84
   ·
    refine fR ?_;refine aM rfl rfl (ab rfl rfl rfl rfl) (bF s.label) rfl (zm0 ?_)
    exact kZ
   refine jj ?_;refine zm0 ?_
   exact kZ
  refine jn ?_;refine jj ?_;refine zm0 ?_
  exact kZ
 refine dN ?_
 refine af rfl ?_ ?_<;>intro c89
 ·
  refine iD ?_;refine au (ab rfl rfl rfl rfl) (bF s.name) rfl (zm0 ?_)
  refine aj (s:=94) rfl ?_ ?_<;>intro g94
  ·
   refine fR ?_;refine aM rfl rfl (ab rfl rfl rfl rfl) (bF s.peer) rfl (zm3 ?_)
   refine aj (s:=99) rfl ?_ ?_<;>intro g99
   ·
    refine az rfl rfl (a7 rfl (.h1) rfl) rfl (aM rfl rfl (ab rfl rfl rfl rfl) (As s hs) rfl (zm0 ?_))
    exact kZ
   refine tA ?_
   exact kZ
  refine jn ?_;refine tA ?_
  exact kZ
 refine bY (decide (s.kind=6)||decide (s.kind=7)) 103 [(1,_),(2,_),(63,_)] ky ?_ ?_
 · exact cz (aF rfl) rfl rfl ky (eX (aF rfl) rfl rfl ky)
 refine TC.cond rfl ?_ ?_<;>intro c103
 ·
  refine iD ?_;refine au (ab rfl rfl rfl rfl) (bF s.proc) rfl (zm0 ?_)
  refine aj (s:=109) rfl ?_ ?_<;>intro g109
  ·
   refine fR ?_;refine az rfl rfl (ai rfl rfl hs.a) rfl (cQ ?_);refine zm0 ?_
   exact kZ
  refine eq ?_;refine zm0 ?_
  exact kZ
 refine dN ?_
 refine af rfl ?_ ?_<;>intro c115
 ·
  refine TC.seq (iD ?_);refine au (ab rfl rfl rfl rfl) (bF s.name) rfl (zm3 ?_)
  refine aj (s:=121) rfl ?_ ?_<;>intro g121
  ·
   refine wX ?_;refine mj ?_
   exact pM
  refine fR ?_;refine aM rfl rfl (ab rfl rfl rfl rfl) (bF s.label) rfl (dg ?_)
  refine aj (s:=127) rfl ?_ ?_<;>intro g127
  ·
   refine vV ?_;refine mj ?_
   exact pM
  refine fR ?_;refine aM rfl rfl (ab rfl rfl rfl rfl) (bF s.peer) rfl (dg ?_)
  refine aj (s:=133) rfl ?_ ?_<;>intro g133
  ·
   refine n7 ?_;refine mj ?_
   exact pM
  refine fR ?_;refine az rfl rfl (ai rfl rfl hc) rfl (dg ?_)
  refine aj (s:=139) rfl ?_ ?_<;>intro g139
  ·
   have q139:=of_decide_eq_true g139
   refine eq ?_;refine mj ?_
   exact pM
  have q139:=of_decide_eq_false g139
  refine fR ?_;refine az rfl rfl (ai rfl rfl hc) rfl (gb ?_)
  refine af rfl ?_ ?_<;>intro c144
  ·
   refine lA ?_
   exact pM
  refine de ?_;refine iD ?_;refine TL.run (ai rfl rfl hc) rfl (zm8 ?_)
  refine TC.loop (V:=fun k=>[(148,.int .i64 k)]) (K:=[(2,_),(146,_),(147,_)]) (L:=fun k=>_) (I:=fun k=>(0≤k∧k≤s.casts.length)∧s.casts.all (fun c=>!dD c)=(s.casts.drop k.toNat).all (fun c=>!dD c)) (μ:=fun k=>(s.casts.length - k).toNat) (i:=(0:Int)) ky ⟨o2q,rfl⟩ (fun w hw=>hw) (fun k hI=>?_)
  obtain⟨⟨k0,k1⟩,hal⟩:=hI
  refine zm6 ?_
  refine af rfl ?_ ?_<;>intro c149
  ·
   obtain⟨x,hx⟩:=al (l:=s.casts) k0 c149
   have hxa:=hs.cs x (List.mem_of_getElem? hx)
   refine dx ?_;refine TL.run (ae rfl hc rfl omq omq) rfl (TL.run (bg hc hx rfl rfl) rfl (TL.alloc rfl (fun b5=>?_)))
   refine fC ?_
   refine bY (dD x) 167 [(2,_),(5,_),(146,_),(147,_),(148,_),(149,_),(150,_),(151,_)] ky ?_ ?_
   ·
    refine pO ?_;refine au (ab rfl rfl rfl rfl) (bF x.role) rfl (zm3 ?_)
    refine aj (s:=156) rfl ?_ ?_<;>intro g156
    ·
     refine n7 ?_;refine dP ?_
     exact aZ rfl (by unfold dD;simp_all) ky
    refine zm9 ?_;refine aM rfl rfl (ab rfl rfl rfl rfl) (bF x.proc) rfl (dg ?_)
    refine aj (s:=162) rfl ?_ ?_<;>intro g162
    ·
     refine na ?_
     exact aZ rfl (by unfold dD;simp_all) ky
    refine zm9 ?_;refine az rfl rfl (ai rfl rfl hxa) rfl (iF ?_)
    exact aZ rfl (by unfold dD;simp_all) ky
   refine TC.cond rfl ?_ ?_<;>intro c167
   ·
    have hall:=dm (p:=fun c=>!dD c) k0 hx (by simp [c167]) hal
    clear hal
    refine pd ?_;exact aD (bp (pM))
   refine lY ?_
   exact aQ (k+1) ⟨o2q,cd k0 hx (by simpa using c167) hal⟩ ky (fun w hw=>hw.drop) omq
  have hall:=cP (p:=fun c=>!dD c) k0 c149 hal
  clear hal
  refine TC.exit (bQ (bQ (dc ?_)));refine bq (ag (iP ?_))
  exact CO
 refine xh ?_
 exact CO
theorem mH {H:Hp}(s:SStep)(hs:StepOk H s)(hl:s.ways.length≤1000):
  FnO Tryz.prog 83 [.agg s.cells.toArray] H (fun v H1 ob=>H1=H∧OwnSl 1 I64.cells v (aL s) ob):=by
 have hw:=hs.w
 have hmw:=hw.max
 refine FnO.enter Tryz.func83 Tryz.ntmps83 rfl rfl (fun w0=>?_)
 refine zm2 ?_
 refine TL.box rfl rfl (fun b1=>?_)
 refine qr ?_;refine au (ab rfl rfl rfl rfl) (pI s.kind) rfl (TL.nil (ag (TC.cond rfl (fun c8=>?_) (fun c8=>?_))))
 ·
  refine fE ?_
  refine aB rfl rfl rfl rfl (fun b11=>?_)
  refine sL ?_
  exact ez (.inr rfl) (ad rfl (RVal.tmp rfl)) (.take (.here _) rfl) ⟨rfl,by unfold aL;rw [if_pos c8];exact OwnSl.blk (enc:=I64.cells) [s.next] rfl rfl dq⟩
 refine de ?_;refine wZ ?_;refine TL.run (ai rfl rfl hw) rfl (zm8 ?_)
 refine aY (V:=fun k v ob H1=>[(3,v),(15,.int .i64 k)]) (K:=[(2,_),(13,_),(14,_)]) (L:=fun k v ob H1=>St [] w0 H H ((b1,_)::ob)) (I:=fun k v ob H1=>(0≤k∧k≤s.ways.length)∧OwnSl 1 I64.cells v ((s.ways.take k.toNat).map (·.next)) ob) (μ:=fun k=>(s.ways.length - k).toNat) 0 (.slice none 0 0) [] H ky ⟨o2q,OwnSl.nil⟩ (fun w hw=>hw) (fun k v ob H1 hI=>?_)
 obtain⟨⟨k0,k1⟩,hO⟩:=hI
 obtain⟨va,vc,rfl⟩:=hO.form
 refine zm6 ?_
 refine af rfl ?_ ?_<;>intro c16
 ·
  obtain⟨x,hx⟩:=al (l:=s.ways) k0 c16
  refine dx ?_;refine TL.run (ae rfl hw rfl omq omq) rfl (TL.run (bg hw hx rfl rfl) rfl (TL.alloc rfl (fun b5=>?_)))
  refine wW ?_
  refine aB rfl rfl rfl rfl (fun b22=>?_)
  refine TL.append (enc:=I64.cells) rfl rfl rfl hO (Src.own [x.next] (.here _) rfl rfl) (by simp;omega) rfl (.s2 (.skip _ .all)) rfl (fun a23 c23 ob23 hO23=>?_)
  refine mh ?_
  exact aI (k+1) _ ob23 H ⟨o2q,by rw [bR k0 hx];exact hO23⟩ ky (fun w hw=>hw.drop.drop) omq
 refine sj ?_
 exact ez (.inr rfl) (ad rfl (RVal.tmp rfl)) (.skip _ .all) ⟨rfl,hO.cast (by unfold aL;rw [if_neg (by rw [c8];decide),bA c16 k0])⟩
end Go.Sx
namespace Go.Sx
open Go Go.Proofs
theorem xv {H:Hp}(s:SStep)(hs:StepOk H s)(hl:s.args.length≤6∧s.casts.length≤4∧∀c∈s.casts,c.args.length≤6):
  FnO Tryz.prog 84 [.agg s.cells.toArray] H (fun v H1 ob=>H1=H∧OwnSl 1 I64.cells v (a8 s) ob):=by
 have hc:=hs.c
 have ha:=hs.a
 obtain⟨hl1,hl2,hl3⟩:=hl
 refine FnO.enter Tryz.func84 Tryz.ntmps84 rfl rfl (fun w0=>?_)
 refine zm2 ?_
 refine TL.box rfl rfl (fun b1=>?_)
 refine zm1 ?_;refine wZ ?_;refine TL.nil (ag (TC.block (bY (decide (s.kind=1)||(decide (s.kind=2)||decide (s.kind=3))) 8 [(1,_),(2,_),(3,_),(7,_)] ky ?_ ?_)))
 · exact cz (aF rfl) rfl rfl ky (cz (aF rfl) rfl rfl ky (eX (aF rfl) rfl rfl ky))
 refine TC.cond rfl ?_ ?_<;>intro c8
 ·
  have h8:s.kind=1∨s.kind=2∨s.kind=3:=by simpa [or_assoc] using c8
  refine k8 ?_
  refine aB rfl rfl rfl rfl (fun b15=>?_)
  refine TL.append (enc:=I64.cells) rfl rfl rfl (OwnSl.nil (enc:=I64.cells)) (Src.own [s.term] (.here _) rfl rfl) sq rfl (.new _ rfl) rfl (fun a16 c16 ob16 hO16=>?_)
  refine dP ?_;refine bq (ag (d5 ?_));refine jl ?_
  refine TL.append (enc:=I64.cells) rfl rfl rfl hO16 (Src.sl ha) (by simp;omega) rfl (.skip _ (.skip _ .all)) rfl (fun a30 c30 ob30 hO30=>?_)
  refine qk ?_;refine TL.run (ai rfl rfl hc) rfl (zm8 ?_)
  refine aY (V:=fun k v ob H1=>[(3,v),(34,.int .i64 k)]) (K:=[(2,_),(32,_),(33,_)]) (L:=fun k v ob H1=>St [] w0 H H ((b15,_)::(b1,_)::ob)) (I:=fun k v ob H1=>(0≤k∧k≤s.casts.length)∧OwnSl 1 I64.cells v (jJ s++(s.casts.take k.toNat).flatMap (·.args)) ob∧((s.casts.take k.toNat).flatMap (·.args)).length≤6 * k.toNat) (μ:=fun k=>(s.casts.length - k).toNat) 0 _ ob30 H ky ⟨o2q,hO30.cast (by first | (rw [uS h8];simp) | (rw [uT c17 c21];simp) | (rw [kB h8 (.inr c21)];simp) | (rw [kB h8 (.inl c17)];simp)),by simp⟩ (fun w hw=>hw) (fun k v ob H1 hI=>?_)
  exact zq240
 have h8:¬s.kind=1∧¬s.kind=2∧¬s.kind=3:=by simpa [and_assoc] using c8
 refine dN ?_
 refine af rfl ?_ ?_<;>intro c17
 ·
  refine pP ?_
  refine aP rfl ?_ ?_<;>intro c21
  ·
   refine k8 ?_
   refine aB rfl rfl rfl rfl (fun b25=>?_)
   refine TL.append (enc:=I64.cells) rfl rfl rfl (OwnSl.nil (enc:=I64.cells)) (Src.own [s.term] (.here _) rfl rfl) sq rfl (.new _ rfl) rfl (fun a26 c26 ob26 hO26=>?_)
   refine dP ?_;refine bq (ag (d5 ?_));refine jl ?_
   refine TL.append (enc:=I64.cells) rfl rfl rfl hO26 (Src.sl ha) (by simp;omega) rfl (.skip _ (.skip _ .all)) rfl (fun a30 c30 ob30 hO30=>?_)
   refine qk ?_;refine TL.run (ai rfl rfl hc) rfl (zm8 ?_)
   refine aY (V:=fun k v ob H1=>[(3,v),(34,.int .i64 k)]) (K:=[(2,_),(32,_),(33,_)]) (L:=fun k v ob H1=>St [] w0 H H ((b25,_)::(b1,_)::ob)) (I:=fun k v ob H1=>(0≤k∧k≤s.casts.length)∧OwnSl 1 I64.cells v (jJ s++(s.casts.take k.toNat).flatMap (·.args)) ob∧((s.casts.take k.toNat).flatMap (·.args)).length≤6 * k.toNat) (μ:=fun k=>(s.casts.length - k).toNat) 0 _ ob30 H ky ⟨o2q,hO30.cast (by first | (rw [uS h8];simp) | (rw [uT c17 c21];simp) | (rw [kB h8 (.inr c21)];simp) | (rw [kB h8 (.inl c17)];simp)),by simp⟩ (fun w hw=>hw) (fun k v ob H1 hI=>?_)
   exact zq240
  exact zq208
 exact zq208
theorem rS {H:Hp}(s:SStep)(hs:StepOk H s)(hl:s.ways.length≤1000):
  FnO Tryz.prog 87 [.agg s.cells.toArray] H (fun v H1 ob=>H1=H∧OwnSl 1 Str.cells v (bK s) ob):=by
 have hw:=hs.w
 have hnl:=BV s hl
 refine FnO.enter Tryz.func87 Tryz.ntmps87 rfl rfl (fun w0=>?_)
 refine zm2 ?_
 refine TL.box rfl rfl (fun b1=>?_)
 refine qr ?_;refine TL.nil (ag (TC.block (bY (decide (s.kind=1)||decide (s.kind=8)) 8 [(1,_),(2,_),(7,_)] ky ?_ ?_)))
 · exact cz (aF rfl) rfl rfl ky (eX (aF rfl) rfl rfl ky)
 refine TC.cond rfl ?_ ?_<;>intro c8
 ·
  have h8:s.kind=1∨s.kind=8:=by simpa using c8
  refine fE ?_
  refine aB rfl rfl rfl rfl (fun b13=>?_)
  refine eh ?_;exact bp (aD (ez (.inr rfl) (ad rfl (RVal.tmp rfl)) (.take (.here _) rfl) ⟨rfl,(OwnSl.blk (enc:=Str.cells) [s.name] rfl rfl sq).cast (by unfold bK;rw [if_pos h8])⟩))
 have h8:¬(s.kind=1∨s.kind=8):=by simpa using c8
 refine dN ?_
 refine af rfl ?_ ?_<;>intro c14
 ·
  refine wZ ?_;refine TL.run (ai rfl rfl hw) rfl (zm8 ?_)
  refine aY (V:=fun k v ob H1=>[(3,v),(19,.int .i64 k)]) (K:=[(1,_),(2,_),(17,_),(18,_)]) (L:=fun k v ob H1=>St [] w0 H H ((b1,_)::ob)) (I:=fun k v ob H1=>(0≤k∧k≤s.ways.length)∧OwnSl 1 Str.cells v ((s.ways.take k.toNat).map (·.name)) ob) (μ:=fun k=>(s.ways.length - k).toNat) 0 (.slice none 0 0) [] H ky ⟨o2q,OwnSl.nil⟩ (fun w hw=>hw) (fun k v ob H1 hI=>?_)
  obtain⟨⟨k0,k1⟩,hO⟩:=hI
  obtain⟨va,vc,rfl⟩:=hO.form
  refine zm6 ?_
  refine af rfl ?_ ?_<;>intro c20
  ·
   obtain⟨x,hx⟩:=al (l:=s.ways) k0 c20
   refine dx ?_;refine TL.run (ae rfl hw rfl omq omq) rfl (TL.run (bg hw hx rfl rfl) rfl (TL.alloc rfl (fun b5=>?_)))
   refine wW ?_
   refine aB rfl rfl rfl rfl (fun b26=>?_)
   refine TL.append (enc:=Str.cells) rfl rfl rfl hO (Src.own [x.name] (.here _) rfl rfl) (by simp;omega) rfl (.s2 (.skip _ .all)) rfl (fun a27 c27 ob27 hO27=>?_)
   refine mh ?_
   exact aI (k+1) _ ob27 H ⟨o2q,by rw [bR k0 hx];exact hO27⟩ ky (fun w hw=>hw.drop.drop) omq
  refine sj ?_;exact bp (aD (ez (.inr rfl) (ad rfl (RVal.tmp rfl)) (.skip _ .all) ⟨rfl,hO.cast (by unfold bK;rw [if_neg h8,if_pos c14,bA c20 k0])⟩))
 refine TC.skip (bq (ag (gq ?_)))
 refine cV (ab rfl rfl rfl rfl) (mH s hs hl) rfl (fun v31 H31 ob31 hle31 hp31=>?_)
 obtain⟨rfl,hO31⟩:=hp31
 obtain⟨a31,c31,rfl⟩:=hO31.form
 refine TL.run (bC rfl rfl hO31) rfl (gH rfl rfl (by first | omega | decide) (by first | omega | decide) (by first | omega | decide) rfl (fun b33=>?_))
 refine eh ?_
 exact ez (.inr rfl) (ad rfl (RVal.tmp rfl)) (.take (.here _) rfl) ⟨rfl,DP (by unfold bK;rw [if_neg h8,if_neg c14]) omq⟩
theorem D6 {H:Hp}{at_:Int}{bl bo bw:Nat}{u:Value}{xs:List Int}{ob:ak}(hneg:at_<0)(hO:OwnSl 1 I64.cells u xs ob):
  FnX Tryz.prog 141 [.int .i64 at_,.pointer (some ⟨bw,0,none⟩),.pointer (some ⟨bl,0,none⟩),.pointer (some ⟨bo,0,none⟩)] H ((bo,[u])::ob) (fun r H' L'=>r= .tuple #[]∧H'=H∧∃u' ob',L'=(bo,[u'])::ob'∧OwnSl 1 I64.cells u' xs ob'):=by
 refine FnX.enter Tryz.func141 Tryz.ntmps141 rfl rfl (fun w0=>?_)
 refine qn ?_
 refine af rfl ?_ ?_<;>intro c6
 · exact TC.ret (aD (aU (.inr rfl) (bZ rfl) (fun w hw=>hw) ⟨rfl,rfl,_,_,rfl,hO⟩))
 exact absurd hneg c6
theorem D5 {H:Hp}{l:List Term}{v:Value}{bl bo bw:Nat}(hT:RdSl H 6 Term.cells v l)(hl:H bl 0=some v)(hw:H bw 0=some (.func (.func 141) #[] #[.pointer (some ⟨bw,0,none⟩),.pointer (some ⟨bl,0,none⟩),.pointer (some ⟨bo,0,none⟩)])):
  ∀(f:Nat) (at_:Int),(at_<0∨Tr l f at_)→∀(u:Value) (xs:List Int) (ob:ak),OwnSl 1 I64.cells u xs ob→xs.length+(cv l f at_).length≤100000000→
   FnX Tryz.prog 141 [.int .i64 at_,.pointer (some ⟨bw,0,none⟩),.pointer (some ⟨bl,0,none⟩),.pointer (some ⟨bo,0,none⟩)] H ((bo,[u])::ob) (fun r H' L'=>r= .tuple #[]∧H'=H∧∃u' ob',L'=(bo,[u'])::ob'∧OwnSl 1 I64.cells u' (xs++cv l f at_) ob'):=by
 intro f
 induction f with
 | zero=>
  intro at_ h u xs ob hO hlen
  have h0:at_<0:=h.resolve_right (fun h=>h)
  rw [db h0,List.append_nil]
  exact D6 h0 hO
 | succ f ih=>
 intro at_ h u xs ob hO hlen
 have one0:=hT.isOne
 obtain⟨ua,uc,rfl⟩:=hO.form
 refine FnX.enter Tryz.func141 Tryz.ntmps141 rfl rfl (fun w0=>?_)
 refine qn ?_
 refine af rfl ?_ ?_<;>intro c6
 · exact TC.ret (aD (aU (.inr rfl) (bZ rfl) (fun w hw=>hw) ⟨rfl,rfl,_,_,rfl,by rw [db c6,List.append_nil];exact hO⟩))
 obtain⟨h0,t,hx,_,_,hTl0,hTl1,hTr0,hTr1⟩:=h.resolve_left c6
 have hlt:at_.toNat<l.length:=(List.getElem?_eq_some_iff.1 hx).1
 rw [fe c6 hx] at hlen
 simp only [List.length_append,List.length_cons,List.length_nil] at hlen
 have hTl:t.l<0∨Tr l f t.l:=by rcases Int.lt_or_le (ah t.kind) 1 with h1 | h1;exact .inl (by have:=hTl1 h1;omega);exact .inr (hTl0 h1)
 have hTr:t.r<0∨Tr l f t.r:=by rcases Int.lt_or_le (ah t.kind) 2 with h1 | h1;exact .inl (by have:=hTr1 h1;omega);exact .inr (hTr0 h1)
 refine iQ ?_;refine eY ?_;refine Am ?_;refine aW (bD rfl hw) rfl (w4 ?_)
 refine bz (f7 (L1:=(bo,[(.slice ua _ uc)])::ob) (ab rfl rfl rfl rfl) (ih t.l (hTl) _ _ _ hO omq) rfl (fun v13 H13 L13 hle13 hp13=>?_))
 obtain⟨rfl,rfl,u13,ob13,rfl,hO13⟩:=hp13
 obtain⟨ua13,uc13,rfl⟩:=hO13.form
 refine jS ?_;refine lz ?_;refine Am ?_;refine aW (bD rfl hw) rfl (w4 ?_)
 refine bz (f7 (L1:=(bo,[(.slice ua13 _ uc13)])::ob13) (ab rfl rfl rfl rfl) (ih t.r (hTr) _ _ _ hO13 (by simp only [List.length_append];omega)) rfl (fun v20 H20 L20 hle20 hp20=>?_))
 obtain⟨rfl,rfl,u20,ob20,rfl,hO20⟩:=hp20
 obtain⟨ua20,uc20,rfl⟩:=hO20.form
 refine jS ?_;refine TC.region (xa ?_)
 refine aB rfl rfl rfl rfl (fun b23=>?_)
 refine TL.append (enc:=I64.cells) rfl rfl rfl hO20 (Src.own [at_] (.here _) rfl rfl) (by simp;omega) rfl (.skip _ (.skip _ .all)) rfl (fun a24 c24 ob24 hO24=>?_)
 exact kP rfl rfl rfl (.h1) rfl (TL.nil (aU (.inl rfl) (bZ rfl) (fun w hw=>hw.drop) ⟨rfl,rfl,_,_,rfl,by rw [fe c6 hx,← List.append_assoc,← List.append_assoc];exact hO24⟩))
end Go.Sx
namespace Go.Sx
open Go Go.Proofs
theorem xx {H:Hp}(ck:Int)(cn:Str)(hn:cn.length≤4294960000)(hM:MaxG H):
  FnS Tryz.prog 182 [.agg #[.int .i64 ck,gs cn]] H (.bool (di ck cn)):=by
 refine FnS.enter Tryz.func182 Tryz.ntmps182 rfl rfl (fun w0=>?_)
 refine zm2 ?_
 refine TL.box rfl rfl (fun b1=>?_)
 refine qr ?_;refine zm3 ?_
 refine aj (s:=9) rfl ?_ ?_<;>intro g9
 ·
  have q9:=of_decide_eq_true g9
  refine jj ?_;refine mj ?_
  exact ar (.inr rfl) (ad rfl (RVal.tmp rfl)) (congrArg Value.bool (by unfold di;simp_all))
 have q9:=of_decide_eq_false g9
 refine zm9 ?_;refine gb ?_
 refine af rfl ?_ ?_<;>intro c13
 ·
  refine lA ?_
  exact ar (.inr rfl) (ad rfl (RVal.tmp rfl)) (congrArg Value.bool (by unfold di;simp_all))
 refine iQ ?_;refine pP ?_
 refine aP rfl ?_ ?_<;>intro c16
 ·
  refine fE ?_;refine TL.run (bW rfl rfl rfl) rfl (sL ?_)
  exact ar (.inr rfl) (ad rfl (RVal.tmp rfl)) (congrArg Value.bool (by unfold di;simp_all))
 refine de ?_;refine fE ?_;refine au (ab rfl rfl rfl rfl) (cut_ok cn hn hM) rfl (qj ?_);refine zm3 ?_;refine lB ?_;refine au (ab rfl rfl rfl rfl) (bF (lS cn).1) rfl (zm0 ?_)
 refine aj (s:=29) rfl ?_ ?_<;>intro g29
 ·
  refine fj ?_;refine cQ ?_
  refine aj (s:=32) rfl ?_ ?_<;>intro g32
  ·
   refine ji ?_;refine wV ?_
   exact ar (.inr rfl) (ad rfl (RVal.tmp rfl)) (congrArg Value.bool (by unfold di;simp_all))
  refine cQ ?_;refine aM rfl rfl (ab rfl rfl rfl rfl) (bF (lS cn).2.1) rfl (wV ?_)
  exact ar (.inr rfl) (ad rfl (RVal.tmp rfl)) (congrArg Value.bool (by unfold di;simp_all))
 refine jj ?_;refine et rfl rfl rfl (et rfl rfl rfl (cE ?_));refine fQ ?_
 exact ar (.inr rfl) (ad rfl (RVal.tmp rfl)) (congrArg Value.bool (by unfold di;simp_all))
theorem DA {H:Hp}{l:List SArm}{v:Value}(n:Int)(hA:RdSl H 4 SArm.cells v l)(hz:∀a∈l,a.cn.length≤4294960000)(hM:MaxG H):
  FnS Tryz.prog 135 [v,.int .i64 n] H (.bool (dZ l n)):=by
 have hmx:=hA.max
 have one0:=hA.isOne
 obtain⟨va,vc,rfl⟩:=hA.len
 refine FnS.enter Tryz.func135 Tryz.ntmps135 rfl rfl (fun w0=>?_)
 refine n9 ?_;refine TL.run (ai rfl rfl hA) rfl (zm3 ?_)
 refine aj (s:=11) rfl ?_ ?_<;>intro g11
 ·
  have q11:=of_decide_eq_true g11
  refine jj ?_;refine mj ?_
  exact ar (.inr rfl) (ad rfl (RVal.tmp rfl)) (congrArg Value.bool (yF omq))
 have q11:=of_decide_eq_false g11
 refine cQ ?_;refine az rfl rfl (ai rfl rfl hA) rfl (gb ?_)
 refine af rfl ?_ ?_<;>intro c15
 ·
  refine lA ?_
  exact ar (.inr rfl) (ad rfl (RVal.tmp rfl)) (congrArg Value.bool (yF omq))
 have hlen:1≤l.length∧l.length≤6:=by omega
 refine de ?_;refine zm2 ?_
 refine zH rfl (fun bm w1 hM1=>?_)
 refine tz ?_;refine TL.run (ai rfl rfl hA) rfl (zm8 ?_)
 refine TC.loop (V:=fun k=>[(19,.int .i64 k)]) (K:=[(1,_),(4,_),(5,_),(17,_),(18,_)]) (L:=fun k=>StM [] w0 H H [] bm ((l.take k.toNat).map (·.label))) (I:=fun k=>(0≤k∧k≤l.length)∧(l.take k.toNat).all (fm n)=true∧((l.take k.toNat).map (·.label)).Nodup) (μ:=fun k=>(l.length - k).toNat) (i:=(0:Int)) ky ⟨o2q,rfl,List.nodup_nil⟩ (fun w hw=>hM1.over hw) (fun k hI=>?_)
 obtain⟨⟨k0,k1⟩,hal,hnd⟩:=hI
 refine CI (fun w2 hM2=>?_)
 refine zm6 ?_
 refine af rfl ?_ ?_<;>intro c20
 ·
  obtain⟨x,hx⟩:=al (l:=l) k0 c20
  refine dx ?_;refine TL.run (ae rfl hA rfl omq omq) rfl (TL.run (bg hA hx rfl rfl) rfl (TL.alloc rfl (fun b7=>?_)))
  refine pb ?_
  refine bY (!fm n x||decide (x.label∈((l.take k.toNat).map (·.label)))) 49 [(1,_),(4,_),(5,_),(7,_),(17,_),(18,_),(19,_),(20,_),(21,_),(22,_)] ky ?_ ?_
  ·
   refine pO ?_;refine au (ab rfl rfl rfl rfl) (bF x.label) rfl (zm3 ?_)
   refine aj (s:=27) rfl ?_ ?_<;>intro g27
   ·
    refine n7 ?_;refine zm3 ?_;refine wU ?_
    exact aZ rfl (by unfold fm;first | (simp_all;done) | (simp_all;omega)) ky
   refine cQ ?_;refine zm9 ?_;refine az rfl rfl (BL hM2 rfl rfl) rfl (zm3 ?_)
   refine aj (s:=33) rfl ?_ ?_<;>intro g33
   ·
    refine eq ?_;refine zm3 ?_;refine wU ?_
    exact aZ rfl (by unfold fm;first | (simp_all;done) | (simp_all;omega)) ky
   refine jN ?_;refine az rfl rfl (jx rfl (.here _) rfl) rfl (aM rfl rfl (ab rfl rfl rfl rfl) (xx x.ck x.cn (hz x (List.mem_of_getElem? hx)) hM) rfl (dg ?_))
   refine aj (s:=39) rfl ?_ ?_<;>intro g39
   ·
    refine wU ?_
    exact aZ rfl (by unfold fm;first | (simp_all;done) | (simp_all;omega)) ky
   refine qq ?_
   refine aj (s:=44) rfl ?_ ?_<;>intro g44
   ·
    have q44:=of_decide_eq_true g44
    refine na ?_
    exact aZ rfl (by unfold fm;first | (simp_all;done) | (simp_all;omega)) ky
   have q44:=of_decide_eq_false g44
   refine zm9 ?_;refine fj ?_;refine dP ?_
   exact aZ rfl (by unfold fm;first | (simp_all;done) | (simp_all;omega)) ky
  refine TC.cond rfl ?_ ?_<;>intro c49
  · refine iP ?_;refine kW ?_;exact uK hM2 (ar (.inr rfl) (ad rfl (RVal.tmp rfl)) (congrArg Value.bool (EZ k0 hx (by simpa using c49))))
  have h49:fm n x=true∧x.label∉((l.take k.toNat).map (·.label)):=by simpa using c49
  refine de ?_;refine k8 ?_;refine CF rfl rfl rfl h49.2 rfl hM2 (pS ?_)
  exact aQ (k+1) ⟨o2q,by rw [bM k0 hx,List.all_append,hal,List.all_cons,h49.1];rfl,zm k0 hx hnd h49.2⟩ ky (fun w hw=>by rw [bR k0 hx];exact hw.drop) omq
 refine ga ?_;exact uK hM2 (ar (.inr rfl) (ad rfl (RVal.tmp rfl)) (congrArg Value.bool (EY hlen k0 c20 hal hnd)))
theorem uR {H:Hp}(l:SLocal)(hl:LocalOk H l)(hM:MaxG H):
  FnS Tryz.prog 78 [.agg l.cells.toArray] H (.bool (bP l)):=by
 have ht:=hl.t
 have hmt:=ht.max
 refine FnS.enter Tryz.func78 Tryz.ntmps78 rfl rfl (fun w0=>?_)
 refine zm2 ?_
 refine TL.box rfl rfl (fun b1=>?_)
 refine qr ?_;refine TL.run (ai rfl rfl ht) rfl (zm3 ?_)
 refine aj (s:=9) rfl ?_ ?_<;>intro g9
 ·
  have q9:=of_decide_eq_true g9
  refine eq ?_;refine mj ?_
  exact ar (.inr rfl) (ad rfl (RVal.tmp rfl)) (congrArg Value.bool (ux omq))
 have q9:=of_decide_eq_false g9
 refine zm9 ?_;refine az rfl rfl (ai rfl rfl ht) rfl (gb ?_)
 refine af rfl ?_ ?_<;>intro c14
 ·
  refine lA ?_
  exact ar (.inr rfl) (ad rfl (RVal.tmp rfl)) (congrArg Value.bool (ux omq))
 have hlen:1≤l.turns.length∧l.turns.length≤40:=by omega
 refine iQ ?_;refine fE ?_;refine TL.run (ai rfl rfl ht) rfl (zm8 ?_)
 refine TC.loop (V:=fun k=>[(18,.int .i64 k)]) (K:=[(1,_),(2,_),(16,_),(17,_)]) (L:=fun k=>_) (I:=fun k=>(0≤k∧k≤l.turns.length)∧l.turns.all (fo l.turns.length)=(l.turns.drop k.toNat).all (fo l.turns.length)) (μ:=fun k=>(l.turns.length - k).toNat) (i:=(0:Int)) ky ⟨o2q,rfl⟩ (fun w hw=>hw) (fun k hI=>?_)
 obtain⟨⟨k0,k1⟩,hal⟩:=hI
 refine zm6 ?_
 refine af rfl ?_ ?_<;>intro c19
 ·
  obtain⟨x,hx⟩:=al (l:=l.turns) k0 c19
  have hT:=hl.ts x (List.mem_of_getElem? hx)
  refine dx ?_;refine TL.run (ae rfl ht rfl omq omq) rfl (TL.run (bg ht hx rfl rfl) rfl (TL.alloc rfl (fun b4=>?_)))
  refine qo ?_
  refine TL.nil (ag (TC.block (bY (decide (x.kind=0)) 24 [(1,_),(2,_),(4,_),(16,_),(17,_),(18,_),(19,_),(20,_),(21,_),(22,_),(23,_)] ky ?_ ?_)))
  · exact eX (aF rfl) rfl rfl ky
  refine af rfl ?_ ?_<;>intro c24
  ·
   refine xg ?_
   refine aj (s:=29) rfl ?_ ?_<;>intro g29
   ·
    have q29:=aO g29
    refine eq ?_;refine k9 ?_;refine wT ?_
    exact ar (.inr rfl) (ad rfl (RVal.tmp rfl)) (congrArg Value.bool (ja k0 hx (by unfold fo;simp_all) hal))
   have q29:=aK g29
   refine zm9 ?_;refine az rfl rfl (ai rfl rfl hT.a) rfl (gb ?_)
   refine af rfl ?_ ?_<;>intro c34
   ·
    refine wT ?_
    exact ar (.inr rfl) (ad rfl (RVal.tmp rfl)) (congrArg Value.bool (ja k0 hx (by unfold fo;simp_all) hal))
   refine TC.skip (bq (pU ?_))
   exact aQ (k+1) ⟨o2q,cd (p:=(fo l.turns.length)) k0 hx (by unfold fo;simp_all) hal⟩ ky (fun w hw=>hw.drop) omq
  refine bY (decide (x.kind=1)||decide (x.kind=2)) 35 [(1,_),(2,_),(4,_),(16,_),(17,_),(18,_),(19,_),(20,_),(21,_),(22,_),(23,_),(24,_)] ky ?_ ?_
  · exact cz (aF rfl) rfl rfl ky (eX (aF rfl) rfl rfl ky)
  refine TC.cond rfl ?_ ?_<;>intro c35
  ·
   refine fE ?_;refine au (ab rfl rfl rfl rfl) (bF x.peer) rfl (zm3 ?_)
   refine aj (s:=42) rfl ?_ ?_<;>intro g42
   ·
    refine eq ?_;refine jj ?_;refine k9 ?_;refine wT ?_
    exact ar (.inr rfl) (ad rfl (RVal.tmp rfl)) (congrArg Value.bool (ja k0 hx (by unfold fo;simp_all) hal))
   refine zm9 ?_;refine fR ?_;refine az rfl rfl (ai rfl rfl ht) rfl (aM rfl rfl (ab rfl rfl rfl rfl) (DA _ hT.a hT.z hM) rfl (gb ?_))
   refine TC.cond rfl ?_ ?_<;>intro c50
   ·
    refine wT ?_
    exact ar (.inr rfl) (ad rfl (RVal.tmp rfl)) (congrArg Value.bool (ja k0 hx (by unfold fo;simp_all) hal))
   refine TC.skip (bq (pU ?_))
   exact aQ (k+1) ⟨o2q,cd (p:=(fo l.turns.length)) k0 hx (by unfold fo;simp_all) hal⟩ ky (fun w hw=>hw.drop) omq
  refine wT ?_
  exact ar (.inr rfl) (ad rfl (RVal.tmp rfl)) (congrArg Value.bool (ja k0 hx (by unfold fo;simp_all) hal))
 refine ga ?_
 exact ar (.inr rfl) (ad rfl (RVal.tmp rfl)) (congrArg Value.bool (Cf hlen k0 c19 hal))
theorem xF {H:Hp}(ck:Int)(cn:Str)(hn:cn.length≤4294960000)(hM:MaxG H):
  FnS Tryz.prog 80 [.agg #[.int .i64 ck,gs cn]] H (.bool (di ck cn)):=by
 refine FnS.enter Tryz.func80 Tryz.ntmps80 rfl rfl (fun w0=>?_)
 refine zm2 ?_
 refine TL.box rfl rfl (fun b1=>?_)
 refine zm1 ?_;refine gq ?_;refine dt ?_
 refine aB rfl rfl rfl rfl (fun b5=>?_)
 refine dt ?_
 refine aB rfl rfl rfl rfl (fun b7=>?_)
 refine dt ?_;refine eL (.h1) (dI sq (fun H_b5 le_b5 rd_b5=>?_))
 replace hM:=hM.le le_b5
 have hA5:RdSl H_b5 4 SArm.cells _ ([⟨[120],ck,cn,0⟩]):=RdSl.blk (cap:=1) rd_b5 (by intro x hx;rfl) kr (by show 1≤9223372036854775807;decide)
 refine dI sq (fun H_b7 le_b7 rd_b7=>?_)
 replace hM:=hM.le le_b7
 replace hA5:=hA5.le le_b7
 have hT7:RdSl H_b7 3 STurn.cells _ ([⟨1,[120],[⟨[120],ck,cn,0⟩],(some ⟨b5,0,none⟩,1)⟩]):=RdSl.blk (cap:=1) rd_b7 (by intro x hx;rfl) kr (by show 1≤9223372036854775807;decide)
 refine zm364 ?_;refine eh ?_
 exact ar (.inr rfl) (ad rfl (RVal.tmp rfl)) (congrArg Value.bool (sH ck cn _ _))
end Go.Sx
namespace Go.Sx
open Go Go.Proofs
theorem xE {H:Hp}{l:List Term}{v:Value}(root:Int)(hT:RdSl H 6 Term.cells v l)(hm:cq l root=true):
  FnO Tryz.prog 85 [v,.int .i64 root] H (fun r H1 ob=>OwnSl 1 I64.cells r (postS l root) ob):=by
 have one1:=hT.isOne
 have hvl:=nI hm
 refine FnO.enter Tryz.func85 Tryz.ntmps85 rfl rfl (fun w0=>?_)
 refine zm2 ?_
 refine pL rfl rfl (fun b2=>?_)
 refine wS ?_
 refine TL.alloc rfl (fun b5=>?_)
 refine gD ?_
 refine TL.alloc rfl (fun b6=>?_)
 refine gE ?_;refine qm ?_
 refine dI sq (fun H_b6 le_b6 rd_b6=>?_)
 refine eL (.h1) (dI sq (fun H_b2 le_b2 rd_b2=>?_))
 have hT2:=(hT.le le_b6).le le_b2
 have hl:H_b2 b2 0=some v:=rd_b2 0 _ rfl
 have hw:=le_b2 _ _ _ (rd_b6 0 _ rfl)
 refine TL.run (bD rfl hw) rfl (zm0 ?_)
 refine f7 (L1:=(b5,[.slice none 0 0])::[]) (ab rfl rfl rfl rfl) (D5 hT2 hl hw (root.toNat+1) root (.inr (iz hm)) _ [] [] OwnSl.nil (by simp;omega)) rfl (fun v10 H10 L10 hle10 hp10=>?_)
 obtain⟨rfl,rfl,u10,ob10,rfl,hO10⟩:=hp10
 rw [List.nil_append] at hO10
 obtain⟨ua10,uc10,rfl⟩:=hO10.form
 refine gD ?_;refine kU ?_;refine eh ?_
 exact ez (.inr rfl) (ad rfl (RVal.tmp rfl)) (.skip _ .all) hO10
theorem mZ {H:Hp}{pg:SProg}(s:Str)(n:Int)(hP:ProgOk H pg):
  FnS Tryz.prog 142 [.agg pg.cells.toArray,gs s,.int .i64 n] H (.bool (br pg.procs s n)):=by
 have hq:=hP.q
 have hmax:=hq.max
 refine FnS.enter Tryz.func142 Tryz.ntmps142 rfl rfl (fun w0=>?_)
 refine zm2 ?_
 refine TL.box rfl rfl (fun b3=>?_)
 refine zm1 ?_;refine gq ?_;refine zm0 ?_;refine au (ab rfl rfl rfl rfl) (iX s hP) rfl (zm1 ?_);refine im ?_
 refine aj (s:=13) rfl ?_ ?_<;>intro g13
 ·
  have q13:=of_decide_eq_true g13
  have hfr:=rH pg.procs s
  obtain⟨x,hx⟩:=al (l:=pg.procs) (i:=cf pg.procs s) omq omq
  have hxp:=(hP.qs x (List.mem_of_getElem? hx)).pa.max
  refine zm9 ?_;refine cQ ?_;refine az rfl rfl (ae rfl hq rfl omq omq) rfl (jN ?_)
  refine az rfl rfl (bh hq hx rfl rfl) rfl (az rfl rfl (ai rfl rfl (hP.qs x (List.mem_of_getElem? hx)).pa) rfl (xi ?_))
  exact ar (.inr rfl) (ad rfl (RVal.tmp rfl)) (congrArg Value.bool (by unfold br lR;first | (rw [hx];simp_all;done) | (simp_all;done) | (simp_all;omega)))
 have q13:=of_decide_eq_false g13
 refine eq ?_;refine si ?_;refine fQ ?_
 exact ar (.inr rfl) (ad rfl (RVal.tmp rfl)) (congrArg Value.bool (by unfold br lR;first | (rw [hx];simp_all;done) | (simp_all;done) | (simp_all;omega)))
theorem xV {H:Hp}{pg:SProg}(s:SStep)(hP:ProgOk H pg)(hs:StepOk H s)(hl:s.casts.length≤4):
  FnS Tryz.prog 143 [.agg pg.cells.toArray,.agg s.cells.toArray] H (.bool (eg pg s)):=by
 have hr:=hP.r
 have hrm:=hr.max
 have hc:=hs.c
 refine FnS.enter Tryz.func143 Tryz.ntmps143 rfl rfl (fun w0=>?_)
 refine zm2 ?_
 refine TL.box rfl rfl (fun b2=>?_)
 refine TL.box rfl rfl (fun b3=>?_)
 refine qk ?_;refine TL.run (ai rfl rfl hr) rfl (zm8 ?_)
 refine TC.loop (V:=fun k=>[(15,.int .i64 k)]) (K:=[(3,_),(4,_),(13,_),(14,_)]) (L:=fun k=>_) (I:=fun k=>(0≤k∧k≤pg.protos.length)∧eg pg s=dk s (pg.protos.drop k.toNat)) (μ:=fun k=>(pg.protos.length - k).toNat) (i:=(0:Int)) ky ⟨o2q,rfl⟩ (fun w hw=>hw) (fun k hI=>?_)
 obtain⟨⟨k0,k1⟩,hop⟩:=hI
 have hk0:=k0
 refine zm6 ?_
 refine af rfl ?_ ?_<;>intro c16
 ·
  obtain⟨x,hx⟩:=al (l:=pg.protos) k0 c16
  have hxr:=(hP.rs x (List.mem_of_getElem? hx)).r.max
  refine dx ?_;refine TL.run (ae rfl hr rfl omq omq) rfl (TL.run (bg hr hx rfl rfl) rfl (TL.alloc rfl (fun b6=>?_)))
  refine pb ?_;refine fE ?_;refine jl ?_;refine TL.run (bW rfl rfl rfl) rfl (TL.nil (ag (aP rfl (fun c23=>?_) (fun c23=>?_))))
  ·
   refine w8 ?_;refine k7 ?_
   exact aQ (k+1) ⟨o2q,zj k0 hx c23 hop⟩ ky (fun w hw=>hw.drop) omq
  refine de ?_;refine iD ?_
  refine aB rfl rfl rfl rfl (fun b26=>?_)
  refine gB ?_;refine gp ?_;refine sh ?_;refine TL.run (ai rfl rfl hc) rfl (zm8 ?_)
  refine aY (V:=fun k v ob H1=>[(7,v),(30,.int .i64 k)]) (K:=[(3,_),(4,_),(6,_),(13,_),(14,_),(15,_),(16,_),(17,_),(18,_),(19,_),(20,_),(21,_),(22,_),(23,_),(24,_),(25,_),(26,_),(27,_),(28,_),(29,_)]) (L:=fun k v ob H1=>St [] w0 H H ((b6,_)::(b3,_)::(b2,_)::ob)) (I:=fun k v ob H1=>(0≤k∧k≤s.casts.length)∧OwnSl 1 Str.cells v (s.peer::(s.casts.take k.toNat).map (·.role)) ob) (μ:=fun k=>(s.casts.length - k).toNat) 0 (.slice (some ⟨b26,0,none⟩) 1 1) [(b26,[gs s.peer])] H ky ⟨o2q,OwnSl.blk (enc:=Str.cells) [s.peer] rfl rfl sq⟩ (fun w hw=>hw.perm (List.perm_append_singleton _ _).symm) (fun k v ob H1 hI=>?_)
  obtain⟨⟨k0,k1⟩,hO⟩:=hI
  obtain⟨va,vc,rfl⟩:=hO.form
  refine zm6 ?_
  refine af rfl ?_ ?_<;>intro c31
  ·
   obtain⟨y,hy⟩:=al (l:=s.casts) k0 c31
   refine dx ?_;refine TL.run (ae rfl hc rfl omq omq) rfl (TL.run (bg hc hy rfl rfl) rfl (TL.alloc rfl (fun b9=>?_)))
   refine wW ?_
   refine aB rfl rfl rfl rfl (fun b37=>?_)
   refine TL.append (enc:=Str.cells) rfl rfl rfl hO (Src.own [y.role] (.here _) rfl rfl) (by simp;omega) rfl (.s4 (.skip _ .all)) rfl (fun a38 c38 ob38 hO38=>?_)
   refine mh ?_
   exact aI (k+1) _ ob38 H ⟨o2q,hO38.cast (by rw [bR k0 hy];rfl)⟩ ky (fun w hw=>hw.drop.drop) omq
  refine gC ?_
  refine TC.pubO hO (.s2 (.skip _ .all)) sq (fun HJ leJ hJ=>?_)
  replace hP:=hP.le leJ
  have hJ2:=hJ.cast (show _=dv s by rw [bA c31 k0];rfl)
  clear hJ
  have hJm:=hJ2.max
  refine bY (!(decide (((dv s).length:Int)=x.roles.length)&&dT (dv s))) 50 [(3,_),(4,_),(6,_),(7,_),(13,_),(14,_),(15,_),(16,_),(17,_),(18,_),(19,_),(20,_),(21,_),(22,_),(23,_),(24,_),(25,_),(26,_),(27,_),(28,_),(29,_),(30,_),(31,_)] ky ?_ ?_
  ·
   refine jk ?_;refine TL.run (ai rfl rfl hJ2) rfl (fD ?_);refine TL.run (ai rfl rfl (hP.rs x (List.mem_of_getElem? hx)).r) rfl (zm3 ?_)
   refine aj (s:=46) rfl ?_ ?_<;>intro g46
   ·
    have q46:=aO g46
    refine lX ?_
    exact aZ rfl (by first | (simp_all;done) | (simp_all;omega)) ky
   have q46:=aK g46
   refine cQ ?_;refine aM rfl rfl (ab rfl rfl rfl rfl) (kL hJ2) rfl (iF ?_)
   exact aZ rfl (by first | (simp_all;done) | (simp_all;omega)) ky
  refine TC.cond rfl ?_ ?_<;>intro c50
  ·
   refine iP ?_;refine kW ?_
   exact ar (.inr rfl) (ad rfl (RVal.tmp rfl)) (congrArg Value.bool (by first | exact(kJ k0 c16 hop).symm | exact(pB hk0 hx c23 hop c50).symm | exact(pA hk0 hx c23 hop c50 h1).symm))
  refine iQ ?_;refine d5 ?_;refine TL.run (ai rfl rfl hJ2) rfl (zm8 ?_)
  refine TC.loop (V:=fun k=>[(53,.int .i64 k)]) (K:=[(3,_),(4,_),(6,_),(7,_),(13,_),(14,_),(15,_),(16,_),(17,_),(18,_),(19,_),(20,_),(21,_),(22,_),(23,_),(24,_),(25,_),(26,_),(27,_),(28,_),(29,_),(30,_),(31,_),(50,_),(51,_),(52,_)]) (L:=fun k=>_) (I:=fun k=>(0≤k∧k≤(dv s).length)∧(dv s).all (fun r=>cj x.roles r)=((dv s).drop k.toNat).all (fun r=>cj x.roles r)) (μ:=fun k=>((dv s).length - k).toNat) (i:=(0:Int)) ky ⟨o2q,rfl⟩ (fun w hw=>hw) (fun k hI=>?_)
  obtain⟨⟨k0,k1⟩,hal⟩:=hI
  refine zm6 ?_
  refine af rfl ?_ ?_<;>intro c54
  ·
   obtain⟨z,hz⟩:=al (l:=dv s) k0 c54
   refine dx ?_;refine TL.run (ae rfl hJ2 rfl omq omq) rfl (TL.run (aN hJ2 hz rfl rfl) rfl (zm1 ?_));refine mi ?_
   refine au (ab rfl rfl rfl rfl) (i4 z (hP.rs x (List.mem_of_getElem? hx)).r) rfl (zm1 ?_)
   refine TC.cond rfl ?_ ?_<;>intro c61
   ·
    have h1:=dm (p:=fun r=>cj x.roles r) k0 hz (by simpa using c61) hal
    refine oD ?_;refine iO ?_
    exact ar (.inr rfl) (ad rfl (RVal.tmp rfl)) (congrArg Value.bool (by first | exact(kJ k0 c16 hop).symm | exact(pB hk0 hx c23 hop c50).symm | exact(pA hk0 hx c23 hop c50 h1).symm))
   refine lY ?_
   exact aQ (k+1) ⟨o2q,cd (p:=(fun r=>cj x.roles r)) k0 hz (by simpa using c61) hal⟩ ky (fun w hw=>hw) omq
  have h1:=cP (p:=fun r=>cj x.roles r) k0 c54 hal
  refine ga ?_;refine iO ?_
  exact ar (.inr rfl) (ad rfl (RVal.tmp rfl)) (congrArg Value.bool (by first | exact(kJ k0 c16 hop).symm | exact(pB hk0 hx c23 hop c50).symm | exact(pA hk0 hx c23 hop c50 h1).symm))
 refine ga ?_
 exact ar (.inr rfl) (ad rfl (RVal.tmp rfl)) (congrArg Value.bool (by first | exact(kJ k0 c16 hop).symm | exact(pB hk0 hx c23 hop c50).symm | exact(pA hk0 hx c23 hop c50 h1).symm))
end Go.Sx
namespace Go.Sx
open Go Go.Proofs
theorem Bb {H:Hp}{l:List SArm}{v:Value}(hA:RdSl H 4 SArm.cells v l)(hl:l.length≤1000):
  FnO Tryz.prog 46 [v] H (fun r H1 ob=>H1=H∧OwnSl 4 SArm.cells r l ob):=by
 refine FnO.enter Tryz.func46 Tryz.ntmps46 rfl rfl (fun w0=>?_)
 refine xd ?_
 refine aB rfl rfl rfl rfl (fun b3=>?_)
 refine zm0 ?_
 refine TL.append (enc:=SArm.cells) rfl rfl rfl (OwnSl.blk (enc:=SArm.cells) [] rfl rfl dq) (Src.sl hA) (by simp;omega) rfl (.take (.here _) rfl) rfl (fun a5 c5 ob5 hO5=>?_)
 refine eh ?_
 exact ez (.inr rfl) (ad rfl (RVal.tmp rfl)) .all ⟨rfl,hO5.cast sq⟩
theorem ordW_ok {q:SProc}{bx bo bw:Nat}(hS:bI q)(hz2:q.steps.length≤80):
  ∀(f:Nat) {H:Hp} (at_:Int),ProcOk H q→ProcAt H bx q→CellAt H bw (.func (.func 92) #[] #[.pointer (some ⟨bo,0,none⟩),.pointer (some ⟨bx,0,none⟩),.pointer (some ⟨bw,0,none⟩)])→0≤at_→at_<q.steps.length→q.steps.length≤at_.toNat+f→∀(u:Value) (xs:List Int) (ob:ak),OwnSl 1 I64.cells u xs ob→xs.length+(ordW q f at_).length≤1000→
   FnX Tryz.prog 92 [.int .i64 at_,.pointer (some ⟨bo,0,none⟩),.pointer (some ⟨bx,0,none⟩),.pointer (some ⟨bw,0,none⟩)] H ((bo,[u])::ob) (fun r H2 L2=>r= .tuple #[]∧H.le H2∧∃u2 ob2,L2=(bo,[u2])::ob2∧OwnSl 1 I64.cells u2 (xs++ordW q f at_) ob2):=by
 intro f
 induction f with
 | zero=>
  intro H at_ _ _ _ h0 h1 h2;exfalso;omega
 | succ f ih=>
 intro H at_ hQ hx hw h0 h1 h2 u xs ob hO hlen
 obtain⟨s,hs⟩:∃s,q.steps[at_.toNat]? =some s:=⟨_,List.getElem?_eq_getElem omq⟩
 rw [iy hs] at hlen ⊢
 have hsk:=hQ.ss s (List.mem_of_getElem? hs)
 obtain⟨ua,uc,rfl⟩:=hO.form
 obtain⟨hm,hin⟩:=hS _ _ hs
 have hsz:=gL hm
 have hmax:=hQ.s.max
 refine FnX.enterM Tryz.func92 Tryz.ntmps92 rfl rfl (fun w0 M hM=>?_)
 refine zm2 ?_;refine xa ?_
 refine aB rfl rfl rfl rfl (fun b9=>?_)
 refine TL.append (enc:=I64.cells) rfl rfl rfl hO (Src.own [at_] (.here _) rfl rfl) (by simp only [List.length_cons] at hlen;simp;omega) rfl (.skip _ (.skip _ .all)) rfl (fun a10 c10 ob10 hO10=>?_)
 refine kP rfl rfl rfl (.h1) rfl (wR ?_);refine TL.run (bD rfl (hx 3 _ rfl)) rfl (zm0 ?_)
 refine TL.run (ae rfl hQ.s rfl omq omq) rfl (TL.run (bg hQ.s hs rfl rfl) rfl (kR (ab rfl rfl rfl rfl) (mH s hsk omq) rfl (fun v16 H16 ob16 hf16 hle16 hp16=>?_)))
 obtain⟨eH16,hO16⟩:=hp16
 subst H16
 obtain⟨a16,c16,rfl⟩:=hO16.form
 refine TL.pubO hO16 (.s2 (.past _ .all)) (fun p hp hm=>absurd (hM _ hm) (Nat.not_lt.2 (hf16 p hp))) (fun HP16 leP16 hR16=>?_)
 replace hQ:=hQ.le leP16
 replace hx:=hx.le leP16
 replace hw:=hw.le leP16
 have hR16m:=hR16.max
 refine TL.run (ai rfl rfl hR16) rfl (zm8 ?_)
 have hleA:=leP16
 refine aY (V:=fun k v ob H1=>[(18,.int .i64 k)]) (K:=[(3,_),(16,_),(17,_)]) (L:=fun k v ob H1=>St M w0 H H1 ((bo,[v])::ob)) (I:=fun k v ob H1=>(0≤k∧k≤(aL s).length)∧HP16.le H1∧OwnSl 1 I64.cells v (xs++at_::((aL s).take k.toNat).flatMap (ordW q f)) ob) (μ:=fun k=>((aL s).length - k).toNat) 0 _ _ HP16 ky ⟨o2q,Hp.le.refl _,hO10.cast sq⟩ (fun w hw=>by have h2:=hw.drop;rw [List.append_nil] at h2;exact h2) (fun k v ob H1 hI=>?_)
 obtain⟨⟨k0,k1⟩,hle,hO⟩:=hI
 obtain⟨va,vc,rfl⟩:=hO.form
 replace hQ:=hQ.le hle
 replace hx:=hx.le hle
 replace hw:=hw.le hle
 replace hR16:=hR16.le hle
 replace hleA:=hleA.trans hle
 refine zm6 ?_
 refine af rfl ?_ ?_<;>intro c19
 ·
  obtain⟨t,ht⟩:=al (l:=aL s) k0 c19
  have htb:=hin t (List.mem_of_getElem? ht)
  have hlb:=fm_room (f:=ordW q f) k0 ht
  refine dx ?_;refine TL.run (ae rfl hR16 rfl omq omq) rfl (TL.run (aN hR16 ht rfl rfl) rfl (zm1 ?_));refine TC.region (TL.run (bD rfl hw) rfl (zm0 ?_))
  refine f7 (L1:=(bo,[.slice va _ vc])::ob) (ab rfl rfl rfl rfl) (ih t hQ hx hw omq omq omq _ _ _ hO (by simp only [List.length_append,List.length_cons];simp only [List.length_cons] at hlen;omega)) rfl (fun v24 H24 L24 hle24 hp24=>?_)
  obtain⟨rfl, -,u24,ob24,rfl,hO24⟩:=hp24
  obtain⟨ua24,uc24,rfl⟩:=hO24.form
  replace hw:=hw.le hle24
  replace hle:=hle.trans hle24
  refine pS ?_
  exact aI (k+1) _ ob24 H24 ⟨o2q,hle,hO24.cast (by rw [bM k0 ht,List.flatMap_append];simp)⟩ ky (fun w hw=>hw) omq
 refine TC.exit (bQ (bQ (dc ?_)))
 exact aU (.inl rfl) (bZ rfl) (fun w hw=>hw) ⟨rfl,hleA,_,_,rfl,hO.cast (by rw [bA c19 k0])⟩
theorem AA {H:Hp}{q:SProc}{bx bmv bm bout:Nat}{nm:Str}{pv u sv:Value}{m0:List Int}{o0:List Term}{ob:ak}(root:Int)(hQ:ProcOk H q)(hx:ProcAt H bx q)(hmv:CellAt H bmv (.slice (some ⟨bm,0,none⟩) q.terms.length q.terms.length))(hm:cq q.terms root=true)(hml0:m0.length=q.terms.length)(hO0:OwnSl 6 Term.cells u o0 ob)(hr:o0.length≤300000000000):
  FnX Tryz.prog 93 [.int .i64 root,.pointer (some ⟨bx,0,none⟩),.pointer (some ⟨bmv,0,none⟩),.pointer (some ⟨bout,0,none⟩)] H ((bm,m0.map (Value.int .i64))::(bout,[gs nm,pv,u,sv])::ob) (fun r H2 L2=>r= .int .i64 (aG (eu q.terms root (m0,o0)).1 root)∧∃u2 ob2,L2=(bm,(eu q.terms root (m0,o0)).1.map (Value.int .i64))::(bout,[gs nm,pv,u2,sv])::ob2∧OwnSl 6 Term.cells u2 (eu q.terms root (m0,o0)).2 ob2):=by
 obtain⟨ua,uc,rfl⟩:=hO0.form
 have hpl:=nI hm
 have htr:=iz hm
 have hr0:=Dx htr
 have hr1:0≤root:=htr.1
 have hmax:=hQ.t.max
 have hpl2:(postS q.terms root).length≤33554432:=hpl
 refine FnX.enterM Tryz.func93 Tryz.ntmps93 rfl rfl (fun w0 M hM=>?_)
 refine zm6 ?_;refine gp ?_;refine TL.run (bD rfl (hx 2 _ rfl)) rfl (zm0 ?_)
 refine kR (ab rfl rfl rfl rfl) (xE root hQ.t hm) rfl (fun v12 H12 ob12 hf12 hle12 hp12=>?_)
 have hO12:OwnSl 1 I64.cells v12 (postS q.terms root) ob12:=hp12
 obtain⟨a12,c12,rfl⟩:=hO12.form
 replace hQ:=hQ.le hle12
 replace hx:=hx.le hle12
 replace hmv:=hmv.le hle12
 refine TL.pubO hO12 (.s2 (.past _ .all)) (fun p hp hm=>absurd (hM _ hm) (Nat.not_lt.2 (hf12 p hp))) (fun HP12 leP12 hR12=>?_)
 replace hQ:=hQ.le leP12
 replace hx:=hx.le leP12
 replace hmv:=hmv.le leP12
 have hR12m:=hR12.max
 refine TL.run (ai rfl rfl hR12) rfl (zm8 ?_)
 refine aY (V:=fun(p:Int×List Int×List Term) v ob H1=>[(14,.int .i64 p.1)]) (K:=[(0,_),(1,_),(2,_),(3,_),(5,_),(12,_),(13,_)]) (L:=fun(p:Int×List Int×List Term) v ob H1=>St M w0 H H1 ((bm,p.2.1.map (Value.int .i64))::(bout,[gs nm,pv,v,sv])::ob)) (I:=fun(p:Int×List Int×List Term) v ob H1=>(0≤p.1∧p.1≤(postS q.terms root).length)∧HP12.le H1∧p.2.1.length=q.terms.length∧OwnSl 6 Term.cells v p.2.2 ob∧p.2.2.length≤o0.length+p.1∧eu q.terms root (m0,o0)=cJ q.terms ((postS q.terms root).drop p.1.toNat) (p.2.1,p.2.2)) (μ:=fun(p:Int×List Int×List Term)=>((postS q.terms root).length - p.1).toNat) ((0:Int),m0,o0) _ _ HP12 ky ⟨o2q,Hp.le.refl _,hml0,hO0,by simp,rfl⟩ (fun w hw=>by rw [List.append_nil] at hw;exact hw) (fun p v ob H1 hI=>?_)
 obtain⟨⟨k0,k1⟩,hle,hml,hO,hol,hT⟩:=hI
 obtain⟨k,m,o⟩:=p
 dsimp only at *
 obtain⟨va,vc,rfl⟩:=hO.form
 replace hQ:=hQ.le hle
 replace hx:=hx.le hle
 replace hmv:=hmv.le hle
 replace hR12:=hR12.le hle
 refine zm6 ?_
 refine af rfl ?_ ?_<;>intro c15
 ·
  obtain⟨x,hk⟩:=al (l:=postS q.terms root) k0 c15
  obtain⟨t,ht,hx0,htl,htr2⟩:=qY _ _ (.inr htr) x (List.mem_of_getElem? hk)
  have hxb:=iK ht
  refine dx ?_;refine TL.run (ae rfl hR12 rfl omq omq) rfl (TL.run (aN hR12 hk rfl rfl) rfl (uO ?_));refine TL.run (bD rfl (hx 2 _ rfl)) rfl (zm0 ?_)
  refine TL.run (ae rfl hQ.t rfl omq omq) rfl (TL.run (bg hQ.t ht rfl rfl) rfl (TL.alloc rfl (fun b8=>?_)))
  refine pb ?_;refine pP ?_
  refine af rfl ?_ ?_<;>intro c25
  ·
   refine TC.region (TL.run (bD rfl hmv) rfl (fD ?_));refine fi ?_;refine TL.run (aE rfl (.h1) (ib omq)) rfl (sg ?_);refine TC.seq (pP ?_)
   refine af rfl ?_ ?_<;>intro c34
   ·
    refine TC.region (TL.run (bD rfl hmv) rfl (fD ?_));refine fi ?_;refine TL.run (aE rfl (.h1) (ib omq)) rfl (pW ?_);refine gD ?_;refine wQ ?_;refine se ?_
    refine TL.run (bC rfl rfl hO) rfl (wP ?_);refine wO ?_
    refine aB rfl rfl rfl rfl (fun b50=>?_)
    refine TL.append (enc:=Term.cells) rfl rfl rfl hO (Src.own [⟨t.kind,t.name,t.n,t.text,aG m t.l,aG m t.r⟩] (.here _) rfl rfl) (by simp;omega) rfl (.s3 (.skip _ .all)) rfl (fun a51 c51 ob51 hO51=>?_)
    exact zK
   refine de ?_;refine zm2 ?_;refine wQ ?_;refine se ?_;refine TL.run (bC rfl rfl hO) rfl (wP ?_);refine wO ?_
   refine aB rfl rfl rfl rfl (fun b50=>?_)
   refine TL.append (enc:=Term.cells) rfl rfl rfl hO (Src.own [⟨t.kind,t.name,t.n,t.text,aG m t.l,t.r⟩] (.here _) rfl rfl) (by simp;omega) rfl (.s3 (.skip _ .all)) rfl (fun a51 c51 ob51 hO51=>?_)
   exact zK
  refine iQ ?_;refine pP ?_
  refine af rfl ?_ ?_<;>intro c34
  ·
   refine TC.region (TL.run (bD rfl hmv) rfl (fD ?_));refine fi ?_;refine TL.run (aE rfl (.h1) (ib omq)) rfl (pW ?_);refine gD ?_;refine wQ ?_;refine se ?_
   refine TL.run (bC rfl rfl hO) rfl (wP ?_);refine wO ?_
   refine aB rfl rfl rfl rfl (fun b50=>?_)
   refine TL.append (enc:=Term.cells) rfl rfl rfl hO (Src.own [⟨t.kind,t.name,t.n,t.text,t.l,aG m t.r⟩] (.here _) rfl rfl) (by simp;omega) rfl (.s3 (.skip _ .all)) rfl (fun a51 c51 ob51 hO51=>?_)
   exact zK
  refine de ?_;refine zm2 ?_;refine wQ ?_;refine se ?_;refine TL.run (bC rfl rfl hO) rfl (wP ?_);refine wO ?_
  refine aB rfl rfl rfl rfl (fun b50=>?_)
  refine TL.append (enc:=Term.cells) rfl rfl rfl hO (Src.own [⟨t.kind,t.name,t.n,t.text,t.l,t.r⟩] (.here _) rfl rfl) (by simp;omega) rfl (.s3 (.skip _ .all)) rfl (fun a51 c51 ob51 hO51=>?_)
  exact zK
 refine qi ?_;refine wQ ?_;refine fi ?_;refine TL.run (aE rfl (.here _) (ib omq)) rfl (eh ?_)
 have hE:=tg_end k0 c15 hT
 exact aU (.inr rfl) (ad rfl (RVal.tmp rfl)) (fun w hw=>hw) ⟨by rw [hE],_,_,by rw [hE],by rw [hE];exact hO⟩
end Go.Sx
namespace Go.Sx
open Go Go.Proofs
theorem fU {H:Hp}{q:SProc}{bx bmv bm bout bt:Nat}{nm:Str}{pv u sv vl:Value}{m0:List Int}{o0:List Term}{ob:ak}{l:List Int}(hl:RdSl H 1 I64.cells vl l)(ht:CellAt H bt (.func (.func 93) #[] #[.pointer (some ⟨bx,0,none⟩),.pointer (some ⟨bmv,0,none⟩),.pointer (some ⟨bout,0,none⟩)]))(hQ:ProcOk H q)(hx:ProcAt H bx q)(hmv:CellAt H bmv (.slice (some ⟨bm,0,none⟩) q.terms.length q.terms.length))(hm:∀t∈l,cq q.terms t=true)(hl6:l.length≤6)(hml0:m0.length=q.terms.length)(hO0:OwnSl 6 Term.cells u o0 ob)(hr:o0.length≤290000000000):
  FnX Tryz.prog 94 [vl,.pointer (some ⟨bt,0,none⟩)] H ((bm,m0.map (Value.int .i64))::(bout,[gs nm,pv,u,sv])::ob) (fun r H2 L2=>∃u2 ob2 ob3,L2=(bm,(bj q.terms l [] (m0,o0)).2.1.map (Value.int .i64))::(bout,[gs nm,pv,u2,sv])::(ob2++ob3)∧OwnSl 6 Term.cells u2 (bj q.terms l [] (m0,o0)).2.2 ob2∧OwnSl 1 I64.cells r (bj q.terms l [] (m0,o0)).1 ob3):=by
 obtain⟨ua,uc,rfl⟩:=hO0.form
 have one0:=hl.isOne
 obtain⟨la,lc,rfl⟩:=hl.len
 refine FnX.enterM Tryz.func94 Tryz.ntmps94 rfl rfl (fun w0 M hM=>?_)
 refine kS ?_;refine n9 ?_;refine TL.run (ai rfl rfl hl) rfl (zm8 ?_)
 refine aY (V:=fun(p:Int×RS×Value×ak×List Int) v ob H1=>[(4,v),(9,.int .i64 p.1)]) (K:=[(1,_),(3,_),(7,_),(8,_)]) (L:=fun(p:Int×RS×Value×ak×List Int) v ob H1=>St M w0 H H1 ((bm,p.2.1.1.map (Value.int .i64))::(bout,[gs nm,pv,p.2.2.1,sv])::(p.2.2.2.1++ob))) (I:=fun(p:Int×RS×Value×ak×List Int) v ob H1=>(0≤p.1∧p.1≤l.length)∧H.le H1∧(p.2.1.1.length=q.terms.length∧p.2.1.2.length≤o0.length+33554432 * p.1.toNat)∧OwnSl 6 Term.cells p.2.2.1 p.2.1.2 p.2.2.2.1∧OwnSl 1 I64.cells v p.2.2.2.2 ob∧p.2.2.2.2.length≤p.1∧bj q.terms l [] (m0,o0)=bj q.terms (l.drop p.1.toNat) p.2.2.2.2 p.2.1) (μ:=fun(p:Int×RS×Value×ak×List Int)=>(l.length - p.1).toNat) ((0:Int),(m0,o0),(.slice ua o0.length uc),ob,[]) (.slice none 0 0) [] H ky ⟨o2q,Hp.le.refl _,⟨hml0,by simp⟩,hO0,OwnSl.nil,by simp,rfl⟩ (fun w hw=>by rw [List.append_nil];exact hw) (fun p v ob H1 hI=>?_)
 obtain⟨⟨k0,k1⟩,hle,⟨hml,hol⟩,hO1,hO,hac,hT⟩:=hI
 obtain⟨k,⟨m,o⟩,u1,ob1,acc⟩:=p
 dsimp only at *
 obtain⟨va,vc,rfl⟩:=hO.form
 replace hl:=hl.le hle
 replace ht:=ht.le hle
 replace hQ:=hQ.le hle
 replace hx:=hx.le hle
 replace hmv:=hmv.le hle
 refine zm6 ?_
 refine af rfl ?_ ?_<;>intro c10
 ·
  obtain⟨x,hk⟩:=al (l:=l) k0 c10
  have hxm:=hm x (List.mem_of_getElem? hk)
  refine dx ?_;refine TL.run (ae rfl hl rfl omq omq) rfl (TL.run (aN hl hk rfl rfl) rfl (zm1 ?_));refine jk ?_;refine TL.run (bD rfl ht) rfl (zm0 ?_)
  refine dW (L1:=(bm,m.map (Value.int .i64))::(bout,[gs nm,pv,u1,sv])::ob1) (L2:=ob) (ab rfl rfl rfl rfl) (AA x hQ hx hmv hxm hml hO1 omq) rfl (fun v16 H16 L16 hle16 hp16=>?_)
  obtain⟨rfl,u16,ob16,rfl,hO16⟩:=hp16
  refine aV (L':=(bm,_)::((bout,_)::(ob16++(ob)))) (List.Perm.refl _) ?_
  replace hle:=hle.trans hle16
  refine aB rfl rfl rfl rfl (fun b17=>?_)
  refine TL.append (enc:=I64.cells) rfl rfl rfl hO (Src.own [aG (eu q.terms x (m,o)).1 x] (.here _) rfl rfl) (by simp;omega) rfl (.s3 (.past _ .all)) rfl (fun a18 c18 ob18 hO18=>?_)
  refine mh ?_
  exact aI (i:=(k,(m,o),u1,ob1,acc)) (k+1,eu q.terms x (m,o),u16,ob16,acc++[aG (eu q.terms x (m,o)).1 x]) _ ob18 H16 ⟨o2q,hle,⟨by rw [nj];exact hml,by have h7:=lE (s:=(m,o)) hxm;simp only at h7 ⊢;omega⟩,hO16,hO18,by simp only [List.length_append,List.length_cons,List.length_nil];omega,ta_next k0 hk hT⟩ ky (fun w hw=>hw.drop) omq
 refine sj ?_
 have hE:=ta_end k0 c10 hT
 exact aU (.inr rfl) (ad rfl (RVal.tmp rfl)) (fun w hw=>hw) ⟨_,_,_,by rw [hE],by rw [hE];exact hO1,by rw [hE];exact hO⟩
end Go.Sx
