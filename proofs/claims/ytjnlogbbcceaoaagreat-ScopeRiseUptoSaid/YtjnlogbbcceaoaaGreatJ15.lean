import Derived.Test.YtjnlogbbcceaoaaGreatJ14
set_option linter.all false
set_option maxRecDepth 100000
set_option maxHeartbeats 32000000
namespace Go.Sx
open Go Go.Proofs
theorem Bh {H:Hp}{p:SProto}(role:Str)(hp:ProtoOk H p){bw:Nat}{sv:Value}{lv:Value}{l:List Int}(hl:RdSl H 1 I64.cells lv l)(hr:∀j∈l,0≤j∧j<p.points.length):
  KFn Tryz.prog bw (WK p role sv) 174 [.pointer (some ⟨bw,0,none⟩),lv] H (fun v H1 ob=>ob=[]∧H1=H∧v= .tuple #[.int .i64 (du p role l).1,gs (du p role l).2.1,.int .i64 (du p role l).2.2]):=by
 have hpt:=hp.pt
 have hlm:=hl.max
 refine FnX.enter Tryz.func174 Tryz.ntmps174 rfl rfl (fun w0=>?_)
 refine w9 ?_;refine dN ?_;refine jT ?_
 refine TC.loop (V:=fun(q:Int×Int×Str)=>[(7,.int .i64 q.2.1),(8,gs q.2.2),(9,.int .i64 q.1)]) (K:=[(0,_),(1,_),(4,_),(5,_),(6,_)]) (L:=fun(q:Int×Int×Str)=>_) (I:=fun(q:Int×Int×Str)=>(0≤q.1∧q.1≤l.length)∧fG p role q.1.toNat q.2.1 q.2.2 (l.drop q.1.toNat)=du p role l) (μ:=fun(q:Int×Int×Str)=>(l.length - q.1).toNat) (i:=((0:Int),(0:Int),([]:Str))) ky ⟨o2q,rfl⟩ (fun w hw=>hw) (fun(q:Int×Int×Str) hI=>?_)
 obtain⟨⟨k0,k1⟩,hI3⟩:=hI
 refine f8 ?_;refine TL.run (ai rfl rfl hl) rfl (zm1 ?_)
 refine af rfl ?_ ?_<;>intro c16
 ·
  obtain⟨j,hx⟩:=al (l:=l) k0 c16
  have hjr:=hr j (List.mem_of_getElem? hx)
  obtain⟨x,hxp⟩:=al (l:=p.points) hjr.1 hjr.2
  refine wo ?_;refine aT [true] [(0,1),(1,1),(2,1),(3,1),(4,4),(5,1),(6,1),(7,1),(8,4),(9,1),(10,4),(11,3),(12,5)] kr kr (iR ?_);refine zm4 ?_;refine wj ?_
  refine gQ ?_
  refine aw (ae rfl hl rfl omq omq) rfl (aJ (S1 SN) (Hp.le.refl _) (fun _ _=>aN hl hx rfl rfl) rfl (aw (ae rfl hpt rfl omq omq) rfl (aJ (S1 SN) (Hp.le.refl _) (fun _ _=>bg hpt hxp rfl rfl) rfl ?_)))
  refine TF.alloc rfl (fun b10=>?_)
  refine ao rfl (gc ?_);refine aq (S0 (S1 SN)) (Hp.le.refl _) (TF.nil (ag (n6 ?_)));refine wk ?_;refine TQ.nil (ag (TC.seq (n6 ?_)));refine ov ?_;refine TQ.run (cg rfl) rfl (fP ?_)
  refine TQ.run (aE rfl (.h1) rfl) rfl (TQ.run (bW rfl rfl rfl) rfl (TQ.nil (ag ?_)))
  refine af rfl ?_ ?_<;>intro c38
  ·
   refine rX kr kr (wk ?_);refine TQ.nil (ag (f8 ?_));refine zm0 ?_
   refine aj (s:=43) rfl ?_ ?_<;>intro g43
   ·
    have q43:=of_decide_eq_true g43
    refine fj ?_;refine fj ?_
    refine aj (s:=47) rfl ?_ ?_<;>intro g47
    ·
     have q47:=aO g47
     refine jj ?_;refine gb ?_;refine cW rfl (p7 ?_);refine kW ?_
     refine aU (.inr rfl) (fc rfl (RVal.tmp rfl) (RVal.tmp rfl) (RVal.tmp rfl)) (fun w hw=>hw.drop) ⟨[],rfl,rfl,rfl,by rw [← hI3,jq (role:=role) hx hxp (by refine⟨by omega,fun h=>?_⟩;simp_all)];rfl⟩
    have q47:=aK g47
    refine fj ?_;refine m8 ?_;refine gb ?_
    refine aP rfl ?_ ?_<;>intro c52
    ·
     refine p7 ?_;refine kW ?_
     refine aU (.inr rfl) (fc rfl (RVal.tmp rfl) (RVal.tmp rfl) (RVal.tmp rfl)) (fun w hw=>hw.drop) ⟨[],rfl,rfl,rfl,by rw [← hI3,jq (role:=role) hx hxp (by refine⟨by omega,fun h=>?_⟩;simp_all)];rfl⟩
    refine wJ ?_;refine mb ?_;refine jP ?_
    exact aQ (q.1+1,2,x.frm) ⟨o2q,by have key:=iq (role:=role) (kind:=q.2.1) (peer:=q.2.2) (i:=q.1.toNat) hx hxp (by rintro⟨_,h⟩;apply h;constructor<;>simp_all);rw [if_pos c38,if_pos c38] at key;show fG p role (q.1+1).toNat 2 x.frm (l.drop (q.1+1).toNat)=du p role l;rw [show(q.1+1).toNat=q.1.toNat+1 by omega,← key];exact hI3⟩ ky (fun w hw=>hw.drop) omq
   have q43:=of_decide_eq_false g43
   refine xf ?_;refine et rfl rfl rfl (cE ?_);refine o9 ?_;refine wJ ?_;refine mb ?_;refine jP ?_
   exact aQ (q.1+1,2,x.frm) ⟨o2q,by have key:=iq (role:=role) (kind:=q.2.1) (peer:=q.2.2) (i:=q.1.toNat) hx hxp omq;rw [if_pos c38,if_pos c38] at key;show fG p role (q.1+1).toNat 2 x.frm (l.drop (q.1+1).toNat)=du p role l;rw [show(q.1+1).toNat=q.1.toNat+1 by omega,← key];exact hI3⟩ ky (fun w hw=>hw.drop) omq
  refine iQ ?_;refine im ?_
  refine aj (s:=43) rfl ?_ ?_<;>intro g43
  ·
   have q43:=of_decide_eq_true g43
   refine fj ?_;refine fj ?_
   refine aj (s:=47) rfl ?_ ?_<;>intro g47
   ·
    have q47:=aO g47
    refine jj ?_;refine gb ?_;refine cW rfl (p7 ?_);refine kW ?_
    refine aU (.inr rfl) (fc rfl (RVal.tmp rfl) (RVal.tmp rfl) (RVal.tmp rfl)) (fun w hw=>hw.drop) ⟨[],rfl,rfl,rfl,by rw [← hI3,jq (role:=role) hx hxp (by refine⟨by omega,fun h=>?_⟩;simp_all)];rfl⟩
   have q47:=aK g47
   refine fj ?_;refine m8 ?_;refine gb ?_
   refine aP rfl ?_ ?_<;>intro c52
   ·
    refine p7 ?_;refine kW ?_
    refine aU (.inr rfl) (fc rfl (RVal.tmp rfl) (RVal.tmp rfl) (RVal.tmp rfl)) (fun w hw=>hw.drop) ⟨[],rfl,rfl,rfl,by rw [← hI3,jq (role:=role) hx hxp (by refine⟨by omega,fun h=>?_⟩;simp_all)];rfl⟩
   refine wJ ?_;refine mb ?_;refine jP ?_
   exact aQ (q.1+1,1,x.to) ⟨o2q,by have key:=iq (role:=role) (kind:=q.2.1) (peer:=q.2.2) (i:=q.1.toNat) hx hxp (by rintro⟨_,h⟩;apply h;constructor<;>simp_all);rw [if_neg c38,if_neg c38] at key;show fG p role (q.1+1).toNat 1 x.to (l.drop (q.1+1).toNat)=du p role l;rw [show(q.1+1).toNat=q.1.toNat+1 by omega,← key];exact hI3⟩ ky (fun w hw=>hw.drop) omq
  have q43:=of_decide_eq_false g43
  refine xf ?_;refine et rfl rfl rfl (cE ?_);refine o9 ?_;refine wJ ?_;refine mb ?_;refine jP ?_
  exact aQ (q.1+1,1,x.to) ⟨o2q,by have key:=iq (role:=role) (kind:=q.2.1) (peer:=q.2.2) (i:=q.1.toNat) hx hxp omq;rw [if_neg c38,if_neg c38] at key;show fG p role (q.1+1).toNat 1 x.to (l.drop (q.1+1).toNat)=du p role l;rw [show(q.1+1).toNat=q.1.toNat+1 by omega,← key];exact hI3⟩ ky (fun w hw=>hw.drop) omq
 refine gn ?_;refine eN ?_;refine zm3 ?_;refine eh ?_
 exact aU (.inr rfl) (fc rfl (RVal.tmp rfl) (RVal.tmp rfl) (RVal.tmp rfl)) (fun w hw=>hw) ⟨[],rfl,rfl,rfl,by rw [← hI3,List.drop_eq_nil_of_le omq];rfl⟩
end Go.Sx
namespace Go.Sx
open Go Go.Proofs
theorem rput_ok {H:Hp}{l:List Str}{v:Value}(s:Str)(hL:RdSl H 1 Str.cells v l)(hlen:l.length≤1000000):
  Fn Tryz.prog 185 [v,gs s] H (fun r H1=>RdSl H1 1 Str.cells r (cw l s)):=by
 obtain⟨va,vc,rfl⟩:=hL.len
 have hrm:=hL.room _ _ _ rfl
 refine Fn.enter Tryz.func185 Tryz.ntmps185 rfl rfl (fun w0=>?_)
 refine kS ?_;refine zm6 ?_
 refine TC.block (TC.loop (V:=fun k=>[(5,.int .i64 k)]) (K:=[(0,_),(1,_),(4,_)]) (L:=fun k=>_) (I:=fun k=>0≤k∧k≤l.length∧cw l s=l.take k.toNat++cw (l.drop k.toNat) s) (μ:=fun k=>(l.length - k).toNat) (i:=(0:Int)) ky ⟨by omega,by omega,by simp⟩ (fun w hw=>hw) (fun k hI=>?_))
 refine p8 ?_;refine zm3 ?_
 refine aj (s:=11) rfl ?_ ?_<;>intro g11
 ·
  have q11:=of_decide_eq_true g11
  obtain⟨x,hx⟩:=al (l:=l) hI.1 omq
  refine fj ?_;refine az rfl rfl (ae rfl hL rfl omq omq) rfl (az rfl rfl (aN hL hx rfl rfl) rfl (cQ ?_));refine m8 ?_;refine zm1 ?_
  refine TC.cond rfl ?_ ?_<;>intro c18
  · refine de ?_;refine TC.block (jk ?_);refine k7 ?_;exact bq (aQ (k+1) ⟨by omega,by omega,DV hI.1 hI.2.2 hx (by simp_all)⟩ ky (fun w hw=>hw) omq)
  refine gn ?_;refine p8 ?_;refine zm3 ?_
  refine aj (s:=25) rfl ?_ ?_<;>intro g25
  ·
   have q25:=of_decide_eq_true g25
   exact zq460
  exact zq432
 have q11:=of_decide_eq_false g11
 refine eq ?_;refine ji ?_;refine o9 ?_;refine gn ?_;refine p8 ?_;refine zm3 ?_
 refine aj (s:=25) rfl ?_ ?_<;>intro g25
 ·
  have q25:=of_decide_eq_true g25
  obtain⟨x,hx⟩:=al (l:=l) hI.1 omq
  exact zq460
 exact zq432
theorem DS {H:Hp}{l:List Str}{v:Value}(s:Str)(hL:RdSl H 1 Str.cells v l)(hlen:l.length≤100000):
  Fn Tryz.prog 153 [v,gs s] H (fun r H1=>RdSl H1 1 Str.cells r (l.foldl cw [s])):=by
 obtain⟨la,lc,rfl⟩:=hL.len
 refine Fn.enter Tryz.func153 Tryz.ntmps153 rfl rfl (fun w0=>?_)
 refine l9 ?_
 refine aB rfl rfl rfl rfl (fun b8=>?_)
 refine tC ?_
 refine dI sq (fun H_b8 le_b8 rd_b8=>?_)
 have h8:RdSl H_b8 1 Str.cells _ [s]:=RdSl.blk (cap:=1) rd_b8 (by intro x hx;rfl) kr sq
 replace hL:=hL.le le_b8
 refine zm8 ?_
 refine aY (V:=fun k v ob H1=>[(5,v),(6,.int .i64 k)]) (K:=[(0,_),(4,_)]) (L:=fun k v ob H1=>St [] w0 H H1 ob) (I:=fun k v ob H1=>0≤k∧k≤l.length∧ob=[]∧H_b8.le H1∧RdSl H1 1 Str.cells v ((l.take k.toNat).foldl cw [s])) (μ:=fun k=>(l.length - k).toNat) 0 (.slice (some ⟨b8,0,none⟩) 1 1) [] H_b8 ky ⟨by omega,by omega,rfl,Hp.le.refl _,h8⟩ (fun w hw=>hw) (fun k v ob H1 hI=>?_)
 obtain⟨h0,h1,rfl,hle,hR⟩:=hI
 replace hL:=hL.le hle
 refine p8 ?_;refine zm1 ?_
 refine af rfl ?_ ?_<;>intro c12
 ·
  obtain⟨x,hx⟩:=al (l:=l) h0 c12
  have hfl:=yv s (l.take k.toNat)
  refine gv ?_;refine pQ ?_;refine oF ?_;refine TL.run (aN hL hx rfl rfl) rfl (TL.call (ab rfl rfl rfl rfl) (rput_ok x hR (by simp at hfl;omega)) rfl (fun v20 H20 hle20 hp20=>?_))
  refine l5 ?_
  exact aI (k+1) _ [] H20 ⟨by omega,by omega,rfl,hle.trans hle20,by rw [bM h0 hx,List.foldl_append];exact hp20⟩ ky (fun w hw=>hw) omq
 refine sj ?_
 exact aR (.inr rfl) (ad rfl (RVal.tmp rfl)) (by rw [bA c12 h0] at hR;exact hR)
end Go.Sx
namespace Go.Sx
open Go Go.Proofs
theorem xj {H:Hp}{p:SProto}(role:Str)(hp:ProtoOk H p){bw:Nat}{sv:Value}{lv:Value}{l:List Int}(hl:RdSl H 1 I64.cells lv l)(hr:∀j∈l,0≤j∧j<p.points.length)(hll:l.length≤1000)(h6:∀x∈p.points,x.arms.length≤6):
  KFn Tryz.prog bw (WK p role sv) 175 [.pointer (some ⟨bw,0,none⟩),lv] H (fun v H1 ob=>ob=[]∧∃lv',v= .tuple #[lv',.bool (nV p l)]∧RdSl H1 1 Str.cells lv' (eG p l)):=by
 refine FnX.enter Tryz.func175 Tryz.ntmps175 rfl rfl (fun w0=>?_)
 refine dN ?_;refine jR ?_
 refine aY (V:=fun k v ob H1=>[(6,v),(7,.int .i64 k)]) (K:=[(0,_),(1,_),(4,_),(5,_)]) (L:=fun k v ob H1=>St (keys [(bw,WK p role sv)]) w0 H H1 [(bw,WK p role sv)]) (I:=fun k v ob H1=>(0≤k∧k≤l.length)∧H.le H1∧RdSl H1 1 Str.cells v (mP p [] (l.take k.toNat))) (μ:=fun k=>(l.length - k).toNat) 0 (.slice none 0 0) [] H ky ⟨o2q,.refl _,RdSl.nil⟩ (fun w hw=>hw) (fun k v ob H1 hI=>?_)
 obtain⟨⟨k0,k1⟩,hIA,hI3⟩:=hI
 have hp1:=hp.le hIA
 have hl1:=hl.le hIA
 have hpt1:=hp1.pt
 have hlm:=hl.max
 refine f8 ?_;refine TL.run (ai rfl rfl hl1) rfl (zm1 ?_)
 refine af rfl ?_ ?_<;>intro c14
 ·
  obtain⟨j,hx⟩:=al (l:=l) k0 c14
  have hjr:=hr j (List.mem_of_getElem? hx)
  obtain⟨x,hxp⟩:=al (l:=p.points) hjr.1 hjr.2
  have hxa:=(hp1.ps x (List.mem_of_getElem? hxp)).a
  have hx6:=h6 x (List.mem_of_getElem? hxp)
  have hln:=yl h6 (l.take k.toNat) []
  have hlt:=List.length_take_le k.toNat l
  have hlt2:(l.take k.toNat).length≤l.length:=by rw [List.length_take];omega
  simp only [List.length_nil] at hln
  refine pY ?_;refine tj ?_;refine fP ?_;refine wk ?_
  refine TQ.run (ae rfl hl1 rfl omq omq) rfl (TQ.run (aN hl1 hx rfl rfl) rfl (TQ.run (ae rfl hpt1 rfl omq omq) rfl (fP ?_)));refine TQ.run (bh hpt1 hxp rfl rfl) rfl (kV ?_)
  refine jI ?_
  refine aY (V:=fun m v ob H2=>[(6,v),(9,.int .i64 m)]) (K:=[(0,_),(1,_),(4,_),(5,_),(7,_),(8,_),(11,_),(12,_),(13,_),(14,_),(17,_),(18,_),(19,_),(20,_),(21,_),(22,_),(23,_),(24,_),(25,_),(26,_),(27,_),(28,_)]) (L:=fun m v ob H2=>St (keys [(bw,WK p role sv)]) w0 H H2 [(bw,WK p role sv)]) (I:=fun m v ob H2=>(0≤m∧m≤x.arms.length)∧H1.le H2∧RdSl H2 1 Str.cells v (kn (mP p [] (l.take k.toNat)) (x.arms.take m.toNat))) (μ:=fun m=>(x.arms.length - m).toNat) 0 v [] H1 ky ⟨o2q,.refl _,hI3⟩ (fun w hw=>hw) (fun m v ob H2 hI=>?_)
  obtain⟨⟨m0,m1⟩,hI2,hI3⟩:=hI
  have hxa2:=hxa.le hI2
  have hxm:=hxa.max
  refine f8 ?_;refine TL.run (ai rfl rfl hxa2) rfl (zm1 ?_)
  refine af rfl ?_ ?_<;>intro c32
  ·
   obtain⟨a,ha⟩:=al (l:=x.arms) m0 c32
   have hla:=ry (mP p [] (l.take k.toNat)) (x.arms.take m.toNat)
   have hlt3:(x.arms.take m.toNat).length≤x.arms.length:=by rw [List.length_take];omega
   refine gv ?_;refine pQ ?_;refine TL.run (ae rfl hxa2 rfl omq omq) rfl (zm5 ?_)
   refine TL.run (bh hxa2 ha rfl rfl) rfl (TL.call (ab rfl rfl rfl rfl) (DS a.label hI3 omq) rfl (fun v41 H41 hle41 hp41=>?_))
   refine l5 ?_
   exact aI (m+1) v41 [] H41 ⟨o2q,hI2.trans hle41,by rw [Cj m0 ha];exact hp41⟩ ky (fun w hw=>hw) omq
  refine wl ?_
  exact aI (k+1) v [] H2 ⟨o2q,hIA.trans hI2,by rw [Ci k0 hx hxp];rw [show x.arms.take m.toNat=x.arms from List.take_of_length_le omq] at hI3;exact hI3⟩ ky (fun w hw=>hw) omq
 refine gC ?_;refine zm2 ?_
 rw [List.take_of_length_le omq] at hI3
 have hO:RdSl H1 1 Str.cells v (eG p l):=hI3
 refine zm8 ?_
 refine TC.loop (V:=fun k=>[(10,.int .i64 k)]) (K:=[(0,_),(1,_),(4,_),(5,_),(6,_)]) (L:=fun k=>_) (I:=fun k=>(0≤k∧k≤l.length)∧l.all (oL p (eG p l).length)=(l.drop k.toNat).all (oL p (eG p l).length)) (μ:=fun k=>(l.length - k).toNat) (i:=(0:Int)) ky ⟨o2q,rfl⟩ (fun w hw=>hw) (fun k hI=>?_)
 obtain⟨⟨k0,k1⟩,hal⟩:=hI
 refine f8 ?_;refine TL.run (ai rfl rfl hl1) rfl (zm1 ?_)
 refine af rfl ?_ ?_<;>intro c45
 ·
  obtain⟨j,hx⟩:=al (l:=l) k0 c45
  have hjr:=hr j (List.mem_of_getElem? hx)
  obtain⟨x,hxp⟩:=al (l:=p.points) hjr.1 hjr.2
  have hxa:=(hp1.ps x (List.mem_of_getElem? hxp)).a
  refine pY ?_;refine tj ?_;refine fP ?_;refine wk ?_
  refine TQ.run (ae rfl hl1 rfl omq omq) rfl (TQ.run (aN hl1 hx rfl rfl) rfl (TQ.run (ae rfl hpt1 rfl omq omq) rfl (fP ?_)))
  refine TQ.run (bh hpt1 hxp rfl rfl) rfl (TQ.run (ai rfl rfl hxa) rfl (TQ.run (aF rfl) rfl (TQ.run (ai rfl rfl hO) rfl ?_)));refine kV ?_
  refine aP rfl ?_ ?_<;>intro c63
  ·
   refine p7 ?_;refine iO ?_
   exact aU (.inr rfl) (co rfl (RVal.tmp rfl) (RVal.tmp rfl)) (fun w hw=>hw) ⟨[],rfl,rfl,_,by rw [show nV p l=false from dm (p:=oL p (eG p l).length) k0 hx (by unfold oL;rw [hxp];simpa using c63) hal],hO⟩
  refine iE ?_
  exact aQ (k+1) ⟨o2q,cd (p:=oL p (eG p l).length) k0 hx (by unfold oL;rw [hxp];simpa using c63) hal⟩ ky (fun w hw=>hw) omq
 refine gn ?_;refine p7 ?_
 exact aU (.inr rfl) (co rfl (RVal.tmp rfl) (RVal.tmp rfl)) (fun w hw=>hw) ⟨[],rfl,rfl,_,by rw [show nV p l=true from cP (p:=oL p (eG p l).length) k0 c45 hal],hO⟩
end Go.Sx
namespace Go.Sx
open Go Go.Proofs
theorem eqCar (k k':Int)(s s':Str):ie Tryz.prog 4 40 [.int .i64 k,gs s] [.int .i64 k',gs s']=some (decide (k=k'∧s=s')):=by
 have h:ie Tryz.prog 4 40 [.int .i64 k,gs s] [.int .i64 k',gs s']=some ((k==k')&&(((ByteArray.mk s.toArray).toList==(ByteArray.mk s'.toArray).toList)&&true)):=by kernel_rfl
 rw [h,nL,nL]
 by_cases h1:k=k'<;>by_cases h2:s=s'<;>simp [h1,h2]
theorem mn {H:Hp}{p:SProto}(role:Str)(hp:ProtoOk H p){bw:Nat}{sv:Value}{lv:Value}{l:List Int}(hl:RdSl H 1 I64.cells lv l)(hr:∀j∈l,0≤j∧j<p.points.length)(s:Str)(hll:l.length≤1000):
  KFn Tryz.prog bw (WK p role sv) 176 [.pointer (some ⟨bw,0,none⟩),lv,gs s] H (fun v H1 ob=>H1=H∧∃tv,v= .tuple #[.agg #[.int .i64 (el p l s).1,gs (el p l s).2.1],tv,.bool (el p l s).2.2.2]∧((el p l s).2.2.2=true→OwnSl 1 I64.cells tv (el p l s).2.2.1 ob)):=by
 have hpt:=hp.pt
 have hlm:=hl.max
 refine FnX.enter Tryz.func176 Tryz.ntmps176 rfl rfl (fun w0=>?_)
 refine zm2 ?_
 refine TL.alloc rfl (fun b6=>?_)
 refine ly ?_;refine zm2 ?_
 refine TL.alloc rfl (fun b9=>?_)
 refine TL.nil (ag (jR ?_))
 refine aY (V:=fun(q:Int×Int×Str) v ob H1=>[(10,v),(11,.int .i64 q.1)]) (K:=[(0,_),(1,_),(2,_),(6,_),(7,_),(8,_),(9,_)]) (L:=fun(q:Int×Int×Str) v ob H1=>St (keys [(bw,WK p role sv)]) w0 H H ((b9,[.int .i64 q.2.1,gs q.2.2])::(b6,[.int .i64 0,gs []])::(bw,WK p role sv)::ob)) (I:=fun(q:Int×Int×Str) v ob H1=>(0≤q.1∧q.1≤l.length)∧∃to,OwnSl 1 I64.cells v to ob∧jD p s q.2.1 q.2.2 to (l.drop q.1.toNat)=el p l s∧to.length≤q.1.toNat) (μ:=fun(q:Int×Int×Str)=>(l.length - q.1).toNat) ((0:Int),(0:Int),([]:Str)) (.slice none 0 0) [] H ky ⟨o2q,[],OwnSl.nil,rfl,by simp⟩ (fun w hw=>hw) (fun q v ob H1 hI=>?_)
 obtain⟨⟨k0,k1⟩,to,hO,hI3,hI4⟩:=hI
 obtain⟨va,vc,rfl⟩:=hO.form
 refine f8 ?_;refine TL.run (ai rfl rfl hl) rfl (zm1 ?_)
 refine af rfl ?_ ?_<;>intro c17
 ·
  obtain⟨j,hx⟩:=al (l:=l) k0 c17
  have hjr:=hr j (List.mem_of_getElem? hx)
  obtain⟨x,hxp⟩:=al (l:=p.points) hjr.1 hjr.2
  have hxa:=(hp.ps x (List.mem_of_getElem? hxp)).a
  have hfr:=mE (x.arms.map (·.label)) s
  rw [List.length_map] at hfr
  refine pY ?_;refine tj ?_;refine fP ?_;refine fP ?_;refine TQ.run (aE rfl (.h2) rfl) rfl (lV ?_)
  refine TQ.run (ae rfl hl rfl omq omq) rfl (TQ.run (aN hl hx rfl rfl) rfl (TQ.run (ae rfl hpt rfl omq omq) rfl (fP ?_)));refine TQ.run (bh hpt hxp rfl rfl) rfl (kV ?_)
  refine eN ?_;refine au (ab rfl rfl rfl rfl) (zc s hxa) rfl (oz ?_)
  refine af rfl ?_ ?_<;>intro c36
  ·
   refine TC.exit (bQ (dc (ag ?_)));refine jk ?_;refine k7 ?_
   exact aI (q.1+1,q.2) _ ob H ⟨o2q,_,hO,by rw [show(q.1+1).toNat=q.1.toNat+1 by omega,← Cz hx hxp c36];exact hI3,by omega⟩ ky (fun w hw=>hw) omq
  obtain⟨a,ha⟩:=al (l:=x.arms) (i:=ci (x.arms.map (·.label)) s) omq omq
  refine iQ ?_;refine n6 ?_;refine TQ.run (aF rfl) rfl (TQ.run (bC rfl rfl hO) rfl (lV ?_))
  refine eK (s:=40) rfl ?_ ?_<;>intro g40
  ·
   have q40:=of_decide_eq_true g40
   refine lg ?_;refine bi rfl rfl (ae rfl hxa rfl omq omq) rfl (iC ?_)
   refine bi rfl rfl (qX hxa ha rfl rfl) rfl (bi rfl rfl (a7 rfl (.here _) rfl) rfl (bi rfl rfl (lL rfl rfl kr kr (eqCar _ _ _ _)) rfl (kV ?_)))
   refine TC.cond rfl ?_ ?_<;>intro c48
   ·
    refine gq ?_;refine sJ ?_;refine fQ ?_;refine kW ?_
    have hE:el p l s=(q.2.1,q.2.2,[],false):=by rw [← hI3];exact EP hx hxp c36 ha ⟨by omega,fun h=>by simp [h.1,h.2] at c48⟩
    exact aU (.inr rfl) (fc rfl (RVal.cellA rfl (.h1) rfl) (RVal.tmp rfl) (RVal.tmp rfl)) (fun w hw=>hw.drop.drop) ⟨ob,rfl,rfl,_,by rw [hE];rfl,fun h=>by rw [hE] at h ⊢;first | exact hO | cases h⟩
   refine wL ?_;refine TL.run (ae rfl hxa rfl omq omq) rfl (zm5 ?_);refine TL.run (qX hxa ha rfl rfl) rfl (fC ?_);refine pQ ?_;refine wm ?_
   refine aB rfl rfl rfl rfl (fun b61=>?_)
   refine TL.append (enc:=I64.cells) rfl rfl rfl hO (Src.own [a.next] (.here _) rfl rfl) (by simp;omega) rfl (.s3 (.skip _ .all)) rfl (fun a62 c62 ob62 hO62=>?_)
   refine l5 ?_
   exact aI (q.1+1,a.ck,a.cn) _ ob62 H ⟨o2q,_,hO62,by rw [show(q.1+1).toNat=q.1.toNat+1 by omega,← uJ hx hxp c36 ha (by rintro⟨h1,h2⟩;exact h2 (by simpa using c48))];exact hI3,by simp only [List.length_append,List.length_cons,List.length_nil];omega⟩ ky (fun w hw=>hw.drop) omq
  have q40:=of_decide_eq_false g40
  refine Db ?_;refine jH rfl rfl rfl rfl (jH rfl rfl rfl rfl (jH rfl rfl rfl rfl (kV ?_)));refine eM rfl (wL ?_);refine TL.run (ae rfl hxa rfl omq omq) rfl (zm5 ?_)
  refine TL.run (qX hxa ha rfl rfl) rfl (fC ?_);refine pQ ?_;refine wm ?_
  refine aB rfl rfl rfl rfl (fun b61=>?_)
  refine TL.append (enc:=I64.cells) rfl rfl rfl hO (Src.own [a.next] (.here _) rfl rfl) (by simp;omega) rfl (.s3 (.skip _ .all)) rfl (fun a62 c62 ob62 hO62=>?_)
  refine l5 ?_
  exact aI (q.1+1,a.ck,a.cn) _ ob62 H ⟨o2q,_,hO62,by rw [show(q.1+1).toNat=q.1.toNat+1 by omega,← uJ hx hxp c36 ha omq];exact hI3,by simp only [List.length_append,List.length_cons,List.length_nil];omega⟩ ky (fun w hw=>hw.drop) omq
 refine gn ?_;refine gq ?_;refine zm0 ?_;refine sJ ?_;refine fQ ?_
 have hE:el p l s=(q.2.1,q.2.2,to,true):=by rw [← hI3];exact(by rw [List.drop_eq_nil_of_le omq];rfl)
 exact aU (.inr rfl) (fc rfl (RVal.cellA rfl (.h1) rfl) (RVal.tmp rfl) (RVal.tmp rfl)) (fun w hw=>hw.drop.drop) ⟨ob,rfl,rfl,_,by rw [hE];rfl,fun h=>by rw [hE] at h ⊢;first | exact hO | cases h⟩
end Go.Sx
namespace Go.Sx
open Go Go.Proofs
theorem turn_ok {H:Hp}{p:SProto}(role:Str)(hp:ProtoOk H p)(hN:nY p)(hn:p.points.length≤1000){bw:Nat}{sv:Value}{ob:ak}{rows:List GRow}(hO:OwnSl 1 GRow.cells sv rows ob)(hrw:GRowsOk H rows)(hrl:rows.length≤40)(h6:∀x∈p.points,x.arms.length≤6){fv:Value}{set:List Int}(hf:RdSl H 1 I64.cells fv set)(hr:∀j∈set,0≤j∧j<p.points.length)(hfl:set.length≤1000):
  FnX Tryz.prog 126 [.pointer (some ⟨bw,0,none⟩),fv] H ((bw,WK p role sv)::ob) (fun v H1 L1=>∃sv' ob' rows' av oa,L1=(bw,WK p role sv')::(ob'++oa)∧OwnSl 1 GRow.cells sv' rows' ob'∧GRowsOk H1 rows'∧rows'.length≤40∧rows'.map (·.l)=(bH p role (rows.map (·.l)) set).2.2∧OwnSl 4 SArm.cells av (bH p role (rows.map (·.l)) set).1.2.2 oa∧v= .tuple #[.agg #[.int .i64 (bH p role (rows.map (·.l)) set).1.1,gs (bH p role (rows.map (·.l)) set).1.2.1,av],.int .i64 (bH p role (rows.map (·.l)) set).2.1]):=by
 refine FnX.enterM Tryz.func126 Tryz.ntmps126 rfl rfl (fun w0 M hM=>?_)
 refine zm2 ?_
 refine TL.alloc rfl (fun b4=>?_)
 refine tz ?_;refine TL.run (ai rfl rfl hf) rfl (zm1 ?_)
 refine af rfl ?_ ?_<;>intro c24
 ·
  refine wi ?_
  have hE:bH p role (rows.map (·.l)) set=((0,[],[]),0,rows.map (·.l)):=by unfold bH;rw [if_pos omq]
  exact aU (.inr rfl) (co rfl (RVal.cellA rfl (.here _) rfl) (RVal.tmp rfl)) (fun w hw=>by rw [List.append_nil];exact hw.drop) ⟨_,ob,rows,.slice none 0 0,[],rfl,hO,hrw,hrl,by rw [hE],by rw [hE];exact OwnSl.nil,by rw [hE];rfl⟩
 refine wL ?_
 refine m5 (X:=[(b4,_)]) (b:=bw) rfl (ab rfl rfl rfl rfl) (Bh role hp hf hr) rfl (fun v29 H29 ob29 hle29 hf29 hp29=>?_)
 obtain⟨eb29,eH29,rfl⟩:=hp29
 subst eb29
 replace eH29:=eH29.symm
 subst eH29
 rw [List.append_nil]
 refine qj ?_;refine zm3 ?_;refine oz ?_
 refine aP rfl ?_ ?_<;>intro c34
 ·
  refine k6 ?_;refine zm0 ?_;refine CX ?_
  have hE:bH p role (rows.map (·.l)) set=((0,[],[]),(du p role set).2.2,rows.map (·.l)):=by unfold bH;rw [if_neg omq,if_pos c34]
  exact aU (.inr rfl) (co rfl (RVal.cellA rfl (.here _) rfl) (RVal.tmp rfl)) (fun w hw=>by rw [List.append_nil];exact hw.drop) ⟨_,ob,rows,.slice none 0 0,[],rfl,hO,hrw,hrl,by rw [hE],by rw [hE];exact OwnSl.nil,by rw [hE];rfl⟩
 have h34:¬(du p role set).2.2≠0:=by simpa using c34
 refine wL ?_
 refine m5 (X:=[(b4,_)]) (b:=bw) rfl (ab rfl rfl rfl rfl) (xj role hp hf hr hfl h6) rfl (fun v40 H40 ob40 hle40 hf40 hp40=>?_)
 obtain⟨eb40,lv40,rfl,hlab⟩:=hp40
 subst eb40
 rw [List.append_nil]
 replace hp:=hp.le hle40
 replace hf:=hf.le hle40
 replace hrw:=hrw.le hle40
 obtain⟨la,lc,rfl⟩:=hlab.len
 have hlm:=hlab.max
 refine qj ?_;refine gB ?_;refine im ?_
 refine aj (s:=45) rfl ?_ ?_<;>intro g45
 ·
  have q45:=of_decide_eq_true g45
  refine fj ?_;refine zm1 ?_
  refine TC.cond rfl ?_ ?_<;>intro c48
  ·
   refine wi ?_
   have hE:bH p role (rows.map (·.l)) set=((0,[],[]),803,rows.map (·.l)):=by unfold bH;rw [if_neg omq,if_neg h34,if_pos ⟨q45,by simpa using c48⟩]
   exact aU (.inr rfl) (co rfl (RVal.cellA rfl (.here _) rfl) (RVal.tmp rfl)) (fun w hw=>by rw [List.append_nil];exact hw.drop) ⟨_,ob,rows,.slice none 0 0,[],rfl,hO,hrw,hrl,by rw [hE],by rw [hE];exact OwnSl.nil,by rw [hE];rfl⟩
  exact zq470
 have q45:=of_decide_eq_false g45
 refine ji ?_;refine o9 ?_
 exact zq470
end Go.Sx
namespace Go.Sx
open Go Go.Proofs
theorem gI {H:Hp}(s:Str):
  FnS Tryz.prog 51 [gs s] H (.bool (aH s)):=by
 refine FnS.enter Tryz.func51 Tryz.ntmps51 rfl rfl (fun w0=>?_)
 refine n9 ?_;refine TL.run (em rfl rfl) rfl (zm3 ?_)
 refine aj (s:=7) rfl ?_ ?_<;>intro g7
 · exact zq42
 have q7:=of_decide_eq_false g7
 refine cQ ?_;refine az rfl rfl (em rfl rfl) rfl (dg ?_)
 refine aj (s:=12) rfl ?_ ?_<;>intro g12
 ·
  have q12:=of_decide_eq_true g12
  exact zq44
 have q12:=of_decide_eq_false g12
 refine cQ ?_
 have hlen:(0:Int)<s.length:=by have:=of_decide_eq_false g7;omega
 obtain⟨c0,hc0⟩:=al (l:=s) (i:=0) omq hlen
 refine az rfl rfl (gg rfl rfl omq hc0) rfl (aM rfl rfl (ab rfl rfl rfl rfl) (oN c0) rfl (dg ?_))
 refine aj (s:=18) rfl ?_ ?_<;>intro g18
 · exact zq50
 refine cQ ?_;refine aM rfl rfl (ab rfl rfl rfl rfl) (u9 s) rfl (zm1 ?_)
 refine TC.cond rfl ?_ ?_<;>intro c21
 · exact zq56
 have hn:=nF g7 g12 hc0 g18 c21
 have hl12:(s.length:Int)≤12:=by have:=of_decide_eq_false g12;omega
 refine m9 ?_
 refine TC.loop (V:=fun k=>[(3,.int .i64 k)]) (K:=[(0,_),(2,_)]) (L:=fun k=>_) (I:=fun k=>1≤k∧k≤s.length∧(s.drop 1).all fw=(s.drop k.toNat).all fw) (μ:=fun k=>(s.length - k).toNat) (i:=(1:Int)) ky ⟨by omega,by omega,rfl⟩ (fun w hw=>hw) (fun k hI=>?_)
 refine f8 ?_;refine TL.run (em rfl rfl) rfl (zm1 ?_)
 refine af rfl ?_ ?_<;>intro c25
 ·
  refine dx ?_
  obtain⟨c,hc⟩:=al (l:=s) (i:=k) omq c25
  refine zm3 ?_;refine TL.run (gg rfl rfl omq hc) rfl (au (ab rfl rfl rfl rfl) (oN c) rfl (zm3 ?_))
  refine aj (s:=33) rfl ?_ ?_<;>intro g33
  · refine fj ?_;exact az rfl rfl (gg rfl rfl omq hc) rfl (aM rfl rfl (ab rfl rfl rfl rfl) (y7 c) rfl (zq36))
  refine si ?_;refine o9 ?_
  exact zq35
 refine ga ?_
 exact zq20
theorem qV {H:Hp}(s:Str)(hs:s.length≤4294960000):
  FnS Tryz.prog 183 [gs s] H (.bool (kx s)):=by
 refine FnS.enter Tryz.func183 Tryz.ntmps183 rfl rfl (fun w0=>?_)
 refine jR ?_
 refine TC.loop (V:=fun k=>[(3,.int .i64 k)]) (K:=[(0,_),(2,_)]) (L:=fun k=>_) (I:=fun k=>(0≤k∧k≤s.length)∧∀j:Nat,j<k.toNat→s[j]? ≠some 46) (μ:=fun k=>(s.length - k).toNat) (i:=(0:Int)) ky ⟨o2q,fun j h=>absurd h omq⟩ (fun w hw=>hw) (fun k hI=>?_)
 obtain⟨⟨k0,k1⟩,hn⟩:=hI
 refine f8 ?_;refine TL.run (em rfl rfl) rfl (zm1 ?_)
 refine af rfl ?_ ?_<;>intro c7
 ·
  obtain⟨c,hc⟩:=al (l:=s) k0 c7
  refine qc ?_;refine TL.run (gg rfl rfl omq hc) rfl (zm1 ?_)
  refine af rfl ?_ ?_<;>intro c13
  ·
   have hcd:s[k.toNat]? =some 46:=by rw [hc];congr 1;exact u8_of c13
   refine eN ?_;refine TL.run (pr_strH rfl rfl omq omq) rfl (au (ab rfl rfl rfl rfl) (gI (s.take k.toNat)) rfl (zm0 ?_))
   refine aj (s:=18) rfl ?_ ?_<;>intro g18
   ·
    refine fj ?_;refine An ?_;refine az rfl rfl (pr_strL rfl rfl omq omq) rfl (aM rfl rfl (ab rfl rfl rfl rfl) (gI (s.drop (k+1).toNat)) rfl (fQ ?_));refine iO ?_
    exact ar (.inr rfl) (ad rfl (RVal.tmp rfl)) (congrArg Value.bool (by first | (rw [lC k0 hcd hn];simp_all;done) | exact(jW (fun j hj=>hn j omq)).symm))
   refine si ?_;refine fQ ?_;refine iO ?_
   exact ar (.inr rfl) (ad rfl (RVal.tmp rfl)) (congrArg Value.bool (by first | (rw [lC k0 hcd hn];simp_all;done) | exact(jW (fun j hj=>hn j omq)).symm))
  refine iE ?_
  exact aQ (k+1) ⟨o2q,fun j hj=>by by_cases e:j<k.toNat;exact hn j e;rw [show j=k.toNat by omega,hc];intro e2;exact c13 (by cases e2;rfl)⟩ ky (fun w hw=>hw) omq
 refine gn ?_;refine d5 ?_;refine au (ab rfl rfl rfl rfl) (gI s) rfl (eh ?_)
 exact ar (.inr rfl) (ad rfl (RVal.tmp rfl)) (congrArg Value.bool (by first | (rw [lC k0 hcd hn];simp_all;done) | exact(jW (fun j hj=>hn j omq)).symm))
theorem ny {H:Hp}(ck:Int)(cn:Str)(hn:cn.length≤4294960000):
  FnS Tryz.prog 148 [.agg #[.int .i64 ck,gs cn]] H (.bool (di ck cn)):=by
 refine FnS.enter Tryz.func148 Tryz.ntmps148 rfl rfl (fun w0=>?_)
 refine zm2 ?_
 refine TL.box rfl rfl (fun b1=>?_)
 refine gB ?_;refine pP ?_
 refine af rfl ?_ ?_<;>intro c5
 ·
  refine fE ?_;refine au (ab rfl rfl rfl rfl) (qV cn hn) rfl (sL ?_)
  exact ar (.inr rfl) (ad rfl (RVal.tmp rfl)) (congrArg Value.bool (by first | exact(kO c5).symm | (rw [fB c5];simp_all;done) | (rw [fB c5];simp_all;omega)))
 refine de ?_;refine fE ?_;refine zm3 ?_
 refine aj (s:=12) rfl ?_ ?_<;>intro g12
 ·
  have q12:=of_decide_eq_true g12
  refine qq ?_
  refine aj (s:=17) rfl ?_ ?_<;>intro g17
  ·
   have q17:=of_decide_eq_true g17
   refine sM ?_;refine fQ ?_
   exact ar (.inr rfl) (ad rfl (RVal.tmp rfl)) (congrArg Value.bool (by first | exact(kO c5).symm | (rw [fB c5];simp_all;done) | (rw [fB c5];simp_all;omega)))
  have q17:=of_decide_eq_false g17
  refine xe ?_
  exact ar (.inr rfl) (ad rfl (RVal.tmp rfl)) (congrArg Value.bool (by first | exact(kO c5).symm | (rw [fB c5];simp_all;done) | (rw [fB c5];simp_all;omega)))
 have q12:=of_decide_eq_false g12
 refine jn ?_;refine xe ?_
 exact ar (.inr rfl) (ad rfl (RVal.tmp rfl)) (congrArg Value.bool (by first | exact(kO c5).symm | (rw [fB c5];simp_all;done) | (rw [fB c5];simp_all;omega)))
theorem sx {H:Hp}{l:List SArm}{v:Value}(n:Int)(hA:RdSl H 4 SArm.cells v l)(hz:∀a∈l,a.cn.length≤4294960000):
  FnS Tryz.prog 98 [v,.int .i64 n] H (.bool (dZ l n)):=by
 have hmax:=hA.max
 refine FnS.enter Tryz.func98 Tryz.ntmps98 rfl rfl (fun w0=>?_)
 refine jR ?_
 refine TC.loop (V:=fun k=>[(5,.int .i64 k)]) (K:=[(0,_),(1,_),(4,_)]) (L:=fun k=>_) (I:=fun k=>(0≤k∧k≤l.length)∧l.all (fm n)=(l.drop k.toNat).all (fm n)∧((l.map (·.label)).take k.toNat).Nodup) (μ:=fun k=>(l.length - k).toNat) (i:=(0:Int)) ky ⟨o2q,rfl,List.nodup_nil⟩ (fun w hw=>hw) (fun k hI=>?_)
 obtain⟨⟨k0,k1⟩,hal,hnd⟩:=hI
 refine f8 ?_;refine TL.run (ai rfl rfl hA) rfl (zm1 ?_)
 refine af rfl ?_ ?_<;>intro c10
 ·
  obtain⟨a,hx⟩:=al (l:=l) k0 c10
  refine gv ?_;refine TC.seq (bY (!fm n a) 45 [(0,_),(1,_),(4,_),(5,_),(7,_),(8,_),(9,_),(10,_)] ky ?_ ?_)
  ·
   refine lW ?_;refine TL.run (ae rfl hA rfl omq omq) rfl (zm5 ?_);refine TL.run (bh hA hx rfl rfl) rfl (au (ab rfl rfl rfl rfl) (gI a.label) rfl (zm3 ?_))
   refine aj (s:=20) rfl ?_ ?_<;>intro g20
   ·
    refine eq ?_;refine lf ?_;refine p5 ?_;refine lX ?_
    exact aZ rfl (by unfold fm;first | (simp_all;done) | (simp_all;omega)) ky
   refine fj ?_;refine az rfl rfl (ae rfl hA rfl omq omq) rfl (jN ?_)
   refine az rfl rfl (qX hA hx rfl rfl) rfl (aM rfl rfl (ab rfl rfl rfl rfl) (ny a.ck a.cn (hz a (List.mem_of_getElem? hx))) rfl (dg ?_))
   refine aj (s:=29) rfl ?_ ?_<;>intro g29
   ·
    refine ql ?_;refine lX ?_
    exact aZ rfl (by unfold fm;first | (simp_all;done) | (simp_all;omega)) ky
   refine fj ?_;refine az rfl rfl (ae rfl hA rfl omq omq) rfl (jN ?_);refine az rfl rfl (bh hA hx rfl rfl) rfl (dg ?_)
   refine aj (s:=37) rfl ?_ ?_<;>intro g37
   ·
    have q37:=of_decide_eq_true g37
    refine eq ?_;refine lX ?_
    exact aZ rfl (by unfold fm;first | (simp_all;done) | (simp_all;omega)) ky
   have q37:=of_decide_eq_false g37
   refine fj ?_;refine az rfl rfl (ae rfl hA rfl omq omq) rfl (jN ?_);refine az rfl rfl (bh hA hx rfl rfl) rfl (fj ?_);refine dP ?_
   exact aZ rfl (by unfold fm;first | (simp_all;done) | (simp_all;omega)) ky
  refine TC.cond rfl ?_ ?_<;>intro c45
  ·
   refine iP ?_;refine kW ?_
   exact ar (.inr rfl) (ad rfl (RVal.tmp rfl)) (congrArg Value.bool (BE k0 hx (by simpa using c45) hal))
  have ha:fm n a=true:=by simpa using c45
  refine de ?_;refine jI ?_
  refine TC.loop (V:=fun m=>[(6,.int .i64 m)]) (K:=[(0,_),(1,_),(4,_),(5,_),(7,_),(8,_),(9,_),(10,_),(45,_)]) (L:=fun m=>_) (I:=fun m=>0≤m∧m≤k∧∀j:Nat,j<m.toNat→(l.map (·.label))[j]? ≠some a.label) (μ:=fun m=>(k - m).toNat) (i:=(0:Int)) ky ⟨by omega,by omega,fun j h=>absurd h omq⟩ (fun w hw=>hw) (fun m hI=>?_)
  obtain⟨m0,m1,hI2⟩:=hI
  refine f8 ?_;refine zm1 ?_
  refine af rfl ?_ ?_<;>intro c48
  ·
   obtain⟨b,hb⟩:=al (l:=l) m0 omq
   refine CW ?_;refine TQ.run (ae rfl hA rfl omq omq) rfl (fP ?_);refine TQ.run (bh hA hb rfl rfl) rfl (lV ?_);refine TQ.run (ae rfl hA rfl omq omq) rfl (fP ?_)
   refine TQ.run (bh hA hx rfl rfl) rfl (TQ.run (bW rfl rfl rfl) rfl (TQ.nil (ag ?_)))
   refine af rfl ?_ ?_<;>intro c61
   ·
    refine pd ?_;refine aD (bp (iO ?_))
    exact ar (.inr rfl) (ad rfl (RVal.tmp rfl)) (congrArg Value.bool (BD k0 m0 c48 hx hb c61))
   refine iE ?_
   exact aQ (m+1) ⟨by omega,by omega,fun j hj=>by by_cases e:j<m.toNat;exact hI2 j e;rw [show j=m.toNat by omega,iJ hb];intro e2;exact c61 (by simpa using e2)⟩ ky (fun w hw=>hw) omq
  refine wl ?_
  exact aQ (k+1) ⟨o2q,cd (p:=fm n) k0 hx ha hal,DR k0 hx hnd omq hI2⟩ ky (fun w hw=>hw) omq
 refine gn ?_;refine d5 ?_;refine TL.run (ai rfl rfl hA) rfl (zm3 ?_)
 refine aj (s:=65) rfl ?_ ?_<;>intro g65
 ·
  have q65:=of_decide_eq_true g65
  refine cQ ?_;refine az rfl rfl (ai rfl rfl hA) rfl (wV ?_)
  exact ar (.inr rfl) (ad rfl (RVal.tmp rfl)) (congrArg Value.bool (t8 k0 c10 hal hnd (by first | (simp_all;done) | (simp_all;omega))))
 have q65:=of_decide_eq_false g65
 refine xe ?_
 exact ar (.inr rfl) (ad rfl (RVal.tmp rfl)) (congrArg Value.bool (t8 k0 c10 hal hnd (by first | (simp_all;done) | (simp_all;omega))))
end Go.Sx
namespace Go.Sx
open Go Go.Proofs
theorem y8 {H:Hp}{l:List Str}{v:Value}(s:Str)(hL:RdSl H 1 Str.cells v l):
  FnS Tryz.prog 147 [v,gs s] H (.int .i64 (ci l s)):=by
 have hmax:=hL.max
 refine FnS.enter Tryz.func147 Tryz.ntmps147 rfl rfl (fun w0=>?_)
 refine jR ?_
 refine TC.loop (V:=fun k=>[(5,.int .i64 k)]) (K:=[(0,_),(1,_),(4,_)]) (L:=fun k=>_) (I:=fun k=>0≤k∧k≤l.length∧∀j:Nat,j<k.toNat→l[j]? ≠some s) (μ:=fun k=>(l.length - k).toNat) (i:=(0:Int)) ky ⟨by omega,by omega,fun j hj=>absurd hj sq⟩ (fun w hw=>hw) (fun k hI=>?_)
 refine p8 ?_;refine zm1 ?_
 refine af rfl ?_ ?_<;>intro c9
 ·
  obtain⟨x,hx⟩:=al (l:=l) hI.1 c9
  refine qc ?_;refine oF ?_;refine TL.run (aN hL hx rfl rfl) rfl (w6 ?_)
  refine af rfl ?_ ?_<;>intro c17
  ·
   refine w5 ?_
   exact ar (.inr rfl) (ad rfl (RVal.tmp rfl)) (congrArg (Value.int .i64) (by first | exact(dG hI.1 (by rw [hx,c17]) hI.2.2).symm | exact(fq hI.2.2 c9).symm))
  refine iE ?_
  exact aQ (k+1) ⟨by omega,by omega,lM hI.1 hI.2.2 hx c17⟩ ky (fun w hw=>hw) omq
 refine ga ?_
 exact ar (.inr rfl) (ad rfl (RVal.tmp rfl)) (congrArg (Value.int .i64) (by first | exact(dG hI.1 (by rw [hx,c17]) hI.2.2).symm | exact(fq hI.2.2 c9).symm))
theorem mA {H:Hp}{l:List Str}{v:Value}(s:Str)(hL:RdSl H 1 Str.cells v l):
  FnS Tryz.prog 97 [v,gs s] H (.bool (cj l s)):=by
 refine FnS.enter Tryz.func97 Tryz.ntmps97 rfl rfl (fun w0=>?_)
 refine tB ?_;refine au (ab rfl rfl rfl rfl) (y8 s hL) rfl (fQ ?_)
 exact ar (.inr rfl) (ad rfl (RVal.tmp rfl)) (congrArg Value.bool (by rw [← rC]))
theorem BF {H:Hp}{l:List Str}{v:Value}(hL:RdSl H 1 Str.cells v l):
  FnS Tryz.prog 96 [v] H (.bool (dT l)):=by
 have hmax:=hL.max
 obtain⟨la,lc,rfl⟩:=hL.len
 have hroom:=hL.room _ _ _ rfl
 refine FnS.enter Tryz.func96 Tryz.ntmps96 rfl rfl (fun w0=>?_)
 refine jR ?_
 refine TC.loop (V:=fun k=>[(3,.int .i64 k)]) (K:=[(0,_),(2,_)]) (L:=fun k=>_) (I:=fun k=>0≤k∧k≤l.length∧(l.take k.toNat).Nodup) (μ:=fun k=>(l.length - k).toNat) (i:=(0:Int)) ky ⟨by omega,by omega,List.nodup_nil⟩ (fun w hw=>hw) (fun k hI=>?_)
 refine p8 ?_;refine zm1 ?_
 refine af rfl ?_ ?_<;>intro c7
 ·
  obtain⟨x,hx⟩:=al (l:=l) hI.1 c7
  refine CW ?_;refine TQ.run (uk rfl rfl omq omq) rfl (lV ?_)
  refine TQ.run (ae rfl hL rfl omq omq) rfl (TQ.run (aN hL hx rfl rfl) rfl (il (ab rfl rfl rfl rfl) (mA x (hL.sliced (i:=0) (j:=k.toNat) omq omq)) rfl (TQ.nil ?_)))
  refine ag (TC.cond rfl (fun c17=>?_) (fun c17=>?_))
  ·
   refine oD ?_
   exact ar (.inr rfl) (ad rfl (RVal.tmp rfl)) (congrArg Value.bool (by first | exact(mG c7 hI.1 hI.2.2).symm | exact(xW hI.1 hx c17).symm))
  refine iE ?_
  exact aQ (k+1) ⟨by omega,by omega,lD hI.1 hx hI.2.2 (has_not c17)⟩ ky (fun w hw=>hw) omq
 refine ga ?_
 exact ar (.inr rfl) (ad rfl (RVal.tmp rfl)) (congrArg Value.bool (by first | exact(mG c7 hI.1 hI.2.2).symm | exact(xW hI.1 hx c17).symm))
end Go.Sx
namespace Go.Sx
open Go Go.Proofs
theorem iw {H:Hp}(p:SProto)(hP:ProtoOk H p):
  FnS Tryz.prog 49 [.agg p.cells.toArray] H (.bool (dB p)):=by
 have hr:=hP.r
 have hpt:=hP.pt
 have hrm:=hr.max
 have hpm:=hpt.max
 refine FnS.enter Tryz.func49 Tryz.ntmps49 rfl rfl (fun w0=>?_)
 refine zm2 ?_
 refine TL.box rfl rfl (fun b1=>?_)
 refine gB ?_
 refine bY (!jL p) 39 [(1,_),(2,_)] ⟨rfl,rfl,trivial⟩ ?_ ?_
 ·
  refine pO ?_;refine au (ab rfl rfl rfl rfl) (gI p.name) rfl (zm3 ?_)
  refine aj (s:=10) rfl ?_ ?_<;>intro g10
  ·
   refine wX ?_;refine pV ?_;refine dP ?_
   exact aZ rfl (by unfold jL;by_cases h24:(24:Int)<p.points.length<;>by_cases h24b:(p.points.length:Int)≤24<;>first | (exfalso;omega) | (simp_all;done) | (simp_all;omega)) ⟨rfl,rfl,trivial⟩
  refine zm9 ?_;refine az rfl rfl (ai rfl rfl hr) rfl (dg ?_)
  refine aj (s:=16) rfl ?_ ?_<;>intro g16
  ·
   have q16:=of_decide_eq_true g16
   refine wX ?_;refine dP ?_
   exact aZ rfl (by unfold jL;by_cases h24:(24:Int)<p.points.length<;>by_cases h24b:(p.points.length:Int)≤24<;>first | (exfalso;omega) | (simp_all;done) | (simp_all;omega)) ⟨rfl,rfl,trivial⟩
  have q16:=of_decide_eq_false g16
  refine zm9 ?_;refine az rfl rfl (ai rfl rfl hr) rfl (dg ?_)
  refine aj (s:=22) rfl ?_ ?_<;>intro g22
  ·
   have q22:=of_decide_eq_true g22
   refine vV ?_;refine dP ?_
   exact aZ rfl (by unfold jL;by_cases h24:(24:Int)<p.points.length<;>by_cases h24b:(p.points.length:Int)≤24<;>first | (exfalso;omega) | (simp_all;done) | (simp_all;omega)) ⟨rfl,rfl,trivial⟩
  have q22:=of_decide_eq_false g22
  refine zm9 ?_;refine aM rfl rfl (ab rfl rfl rfl rfl) (BF hr) rfl (dg ?_)
  refine aj (s:=28) rfl ?_ ?_<;>intro g28
  ·
   refine n7 ?_;refine dP ?_
   exact aZ rfl (by unfold jL;by_cases h24:(24:Int)<p.points.length<;>by_cases h24b:(p.points.length:Int)≤24<;>first | (exfalso;omega) | (simp_all;done) | (simp_all;omega)) ⟨rfl,rfl,trivial⟩
  refine zm9 ?_;refine az rfl rfl (ai rfl rfl hpt) rfl (dg ?_)
  refine aj (s:=34) rfl ?_ ?_<;>intro g34
  ·
   have q34:=of_decide_eq_true g34
   refine na ?_
   exact aZ rfl (by unfold jL;by_cases h24:(24:Int)<p.points.length<;>by_cases h24b:(p.points.length:Int)≤24<;>first | (exfalso;omega) | (simp_all;done) | (simp_all;omega)) ⟨rfl,rfl,trivial⟩
  have q34:=of_decide_eq_false g34
  refine zm9 ?_;refine az rfl rfl (ai rfl rfl hpt) rfl (iF ?_)
  exact aZ rfl (by unfold jL;by_cases h24:(24:Int)<p.points.length<;>by_cases h24b:(p.points.length:Int)≤24<;>first | (exfalso;omega) | (simp_all;done) | (simp_all;omega)) ⟨rfl,rfl,trivial⟩
 refine TC.cond rfl ?_ ?_<;>intro c39
 ·
  refine lA ?_
  exact ar (.inr rfl) (ad rfl (RVal.tmp rfl)) (congrArg Value.bool (by first | exact mx c39 | exact mw hr1 | exact mv hp1 | exact mu hh hr1 hp1))
 have hh:jL p=true:=by simpa using c39
 refine m9 ?_
 refine TC.loop (V:=fun k=>[(3,.int .i64 k)]) (K:=[(1,_),(2,_)]) (L:=fun k=>_) (I:=fun k=>(0≤k∧k≤p.roles.length)∧p.roles.all aH=(p.roles.drop k.toNat).all aH) (μ:=fun k=>(p.roles.length - k).toNat) (i:=(0:Int)) ky ⟨o2q,rfl⟩ (fun w hw=>hw) (fun k hI=>?_)
 obtain⟨⟨k0,k1⟩,hal⟩:=hI
 refine sS ?_;refine TL.run (ai rfl rfl hr) rfl (zm1 ?_)
 refine af rfl ?_ ?_<;>intro c44
 ·
  obtain⟨y,hy⟩:=al (l:=p.roles) k0 c44
  refine gv ?_;refine mi ?_;refine TL.run (ae rfl hr rfl omq omq) rfl (TL.run (aN hr hy rfl rfl) rfl (au (ab rfl rfl rfl rfl) (gI y) rfl (zm1 ?_)))
  refine TC.cond rfl ?_ ?_<;>intro c53
  ·
   have hr1:=dm (p:=aH) k0 hy (by simpa using c53) hal
   refine oD ?_
   exact ar (.inr rfl) (ad rfl (RVal.tmp rfl)) (congrArg Value.bool (by first | exact mx c39 | exact mw hr1 | exact mv hp1 | exact mu hh hr1 hp1))
  refine iE ?_
  exact aQ (k+1) ⟨o2q,cd (p:=aH) k0 hy (by simpa using c53) hal⟩ ky (fun w hw=>hw) omq
 have hr1:=cP (p:=aH) k0 c44 hal
 refine wq ?_
 refine TC.loop (V:=fun k=>[(4,.int .i64 k)]) (K:=[(1,_),(2,_)]) (L:=fun k=>_) (I:=fun k=>(0≤k∧k≤p.points.length)∧p.points.all (cX p.roles p.points.length)=(p.points.drop k.toNat).all (cX p.roles p.points.length)) (μ:=fun k=>(p.points.length - k).toNat) (i:=(0:Int)) ky ⟨o2q,rfl⟩ (fun w hw=>hw) (fun k hI=>?_)
 obtain⟨⟨k0,k1⟩,hal⟩:=hI
 refine sS ?_;refine TL.run (ai rfl rfl hpt) rfl (zm1 ?_)
 refine af rfl ?_ ?_<;>intro c58
 ·
  obtain⟨x,hx⟩:=al (l:=p.points) k0 c58
  have hxa:=(hP.ps x (List.mem_of_getElem? hx)).a
  have hxz:=(hP.ps x (List.mem_of_getElem? hx)).z
  have hxm:=hxa.max
  refine gv ?_;refine mi ?_;refine TL.run (ae rfl hpt rfl omq omq) rfl (TL.run (bg hpt hx rfl rfl) rfl (TL.alloc rfl (fun b5=>?_)))
  refine pb ?_
  refine bY (eV x) 79 [(1,_),(2,_),(4,_),(5,_),(54,_),(55,_),(56,_),(57,_),(58,_),(61,_),(62,_),(63,_),(64,_),(65,_)] ky ?_ ?_
  ·
   refine wY ?_
   refine aj (s:=69) rfl ?_ ?_<;>intro g69
   ·
    have q69:=of_decide_eq_true g69
    refine pT ?_
    refine aj (s:=74) rfl ?_ ?_<;>intro g74
    ·
     have q74:=of_decide_eq_true g74
     refine zm9 ?_;refine az rfl rfl (ai rfl rfl hxa) rfl (iF ?_)
     exact aZ rfl (by unfold eV;simp_all) ky
    have q74:=of_decide_eq_false g74
    refine na ?_
    exact aZ rfl (by unfold eV;simp_all) ky
   have q69:=of_decide_eq_false g69
   refine wU ?_
   exact aZ rfl (by unfold eV;simp_all) ky
  refine TC.cond rfl ?_ ?_<;>intro c79
  ·
   refine TC.exit (bQ (dc (ag ?_)));refine jk ?_;refine k7 ?_
   exact aQ (k+1) ⟨o2q,cd (p:=(cX p.roles p.points.length)) k0 hx (by first | exact rpt_1 c79 | exact rpt_2 c109) hal⟩ ky (fun w hw=>hw.drop) omq
  refine de ?_
  refine bY (!za p.roles p.points.length x) 109 [(1,_),(2,_),(4,_),(5,_),(54,_),(55,_),(56,_),(57,_),(58,_),(61,_),(62,_),(63,_),(64,_),(65,_),(79,_)] ky ?_ ?_
  ·
   refine pO ?_;refine fD ?_;refine l3 ?_
   refine aj (s:=85) rfl ?_ ?_<;>intro g85
   ·
    have q85:=of_decide_eq_true g85
    refine ql ?_;refine p5 ?_;refine lX ?_
    exact aZ rfl (by unfold za eT;simp_all) ky
   have q85:=of_decide_eq_false g85
   refine li ?_;refine aM rfl rfl (ab rfl rfl rfl rfl) (mA x.frm hr) rfl (dg ?_)
   refine aj (s:=93) rfl ?_ ?_<;>intro g93
   ·
    refine ql ?_;refine lX ?_
    exact aZ rfl (by unfold za eT;simp_all) ky
   refine li ?_;refine aM rfl rfl (ab rfl rfl rfl rfl) (mA x.to hr) rfl (dg ?_)
   refine aj (s:=101) rfl ?_ ?_<;>intro g101
   ·
    refine eq ?_;refine lX ?_
    exact aZ rfl (by unfold za eT;simp_all) ky
   refine zm9 ?_;refine fR ?_;refine az rfl rfl (ai rfl rfl hpt) rfl (aM rfl rfl (ab rfl rfl rfl rfl) (sx p.points.length hxa hxz) rfl (iF ?_))
   exact aZ rfl (by unfold za eT;simp_all) ky
  refine TC.cond rfl ?_ ?_<;>intro c109
  ·
   have hp1:=dm (p:=(cX p.roles p.points.length)) k0 hx (rpt_3 c79 c109) hal
   refine oD ?_
   exact ar (.inr rfl) (ad rfl (RVal.tmp rfl)) (congrArg Value.bool (by first | exact mx c39 | exact mw hr1 | exact mv hp1 | exact mu hh hr1 hp1))
  refine iE ?_
  exact aQ (k+1) ⟨o2q,cd (p:=(cX p.roles p.points.length)) k0 hx (by first | exact rpt_1 c79 | exact rpt_2 c109) hal⟩ ky (fun w hw=>hw.drop) omq
 have hp1:=cP (p:=(cX p.roles p.points.length)) k0 c58 hal
 refine ga ?_
 exact ar (.inr rfl) (ad rfl (RVal.tmp rfl)) (congrArg Value.bool (by first | exact mx c39 | exact mw hr1 | exact mv hp1 | exact mu hh hr1 hp1))
end Go.Sx
namespace Go.Sx
open Go Go.Proofs
theorem AF {H:Hp}(p:SProto)(role:Str)(hp:ProtoOk H p)(hnm:p.name.length≤1000)(hrl:role.length≤1000){B:Nat}(hB:∀x∈p.points,∀a∈x.arms,a.cn.length≤B)(hB2:B≤4294960000):
  Fn Tryz.prog 67 [.agg p.cells.toArray,gs role] H (fun v H1=>∃nm ts tp,v= .tuple #[.agg (SLocal.cells ⟨nm,ts,tp⟩).toArray,.int .i64 (dL p role).1]∧((dL p role).1=0→nm=(p.name++[46])++role∧LocalOk H1 ⟨nm,ts,tp⟩∧ts.map tt=(dL p role).2)):=by
 refine Fn.enter Tryz.func67 Tryz.ntmps67 rfl rfl (fun w0=>?_)
 refine zm2 ?_
 refine TL.box rfl rfl (fun b2=>?_)
 refine TL.alloc rfl (fun b4=>?_)
 refine gB ?_;refine mg ?_;refine au (ab rfl rfl rfl rfl) (iw p hp) rfl (zm3 ?_)
 refine aj (s:=16) rfl ?_ ?_<;>intro g16
 ·
  refine si ?_;refine k9 ?_;refine wi ?_
  have hE:(dL p role).1=800:=by unfold dL;rw [if_pos (by first | exact c22 | simp_all)]
  exact aR (.inr rfl) (co rfl (RVal.cellA rfl (.here _) rfl) (RVal.tmp rfl)) ⟨[],[],(none,0),by rw [hE];rfl,fun h=>absurd (hE.symm.trans h) dq⟩
 refine fR ?_;refine cQ ?_;refine aM rfl rfl (ab rfl rfl rfl rfl) (mA role hp.r) rfl (gb ?_)
 refine TC.cond rfl ?_ ?_<;>intro c22
 ·
  refine wi ?_
  have hE:(dL p role).1=800:=by unfold dL;rw [if_pos (by first | exact c22 | simp_all)]
  exact aR (.inr rfl) (co rfl (RVal.cellA rfl (.here _) rfl) (RVal.tmp rfl)) ⟨[],[],(none,0),by rw [hE];rfl,fun h=>absurd (hE.symm.trans h) dq⟩
 have hrh:(dB p&&cj p.roles role)=true:=by simp_all
 have hRP:=RPOk.of (p:=p) (by simp_all)
 refine de ?_;refine mg ?_;refine zm0 ?_;refine dt ?_
 refine TL.box rfl rfl (fun b27=>?_)
 refine dP ?_;refine or ?_;refine or ?_
 obtain⟨bw,hbw⟩:∃bw,bw=b27:=⟨_,rfl⟩
 subst hbw
 refine ag (d5 ?_)
 refine aB rfl rfl rfl rfl (fun b30=>?_)
 refine dI sq (fun H_b30 le_b30 rd_b30=>?_)
 have hA30:RdSl H_b30 1 I64.cells (.slice (some ⟨b30,0,none⟩) 1 1) [0]:=RdSl.blk (l:=[0]) (enc:=I64.cells) rd_b30 (by intro x hx;rfl) rfl (by show 1≤9223372036854775807;decide)
 replace hp:=hp.le le_b30
 refine nX (X:=[(b4,_),(b2,_)]) (A:=(bw,_)::[]) (Y:=[]) rfl (ab rfl rfl rfl rfl) (AT role hp hRP.nx (by have:=hRP.n24;omega) (OwnSl.nil (enc:=GRow.cells)) (rows:=[]) (by intro r hr;simp at hr) sq hA30 sq) rfl (fun v31 H31 A31 hle31 hp31=>?_)
 obtain⟨sv31,ob31,rows31,rfl,hO31,hrw31,hrl31,hm31,rfl⟩:=hp31
 replace hp:=hp.le hle31
 rw [List.append_nil]
 have hm31':rows31.map (·.l)=(bS p role [] [0]).2.2:=hm31
 refine qj ?_;refine oz ?_
 refine aP rfl ?_ ?_<;>intro c35
 ·
  have c35b:(bS p role [] [0]).2.1≠0:=c35
  refine k6 ?_;refine zm0 ?_;refine CX ?_
  have hE:(dL p role).1=(bS p role [] [0]).2.1:=by unfold dL;rw [if_neg (by rw [hrh];decide),if_pos c35b]
  exact aR (.inr rfl) (co rfl (RVal.cellA rfl (.here _) rfl) (RVal.tmp rfl)) ⟨[],[],(none,0),by rw [hE];rfl,fun h=>absurd (hE.symm.trans h) (c35b)⟩
 have h35:¬(bS p role [] [0]).2.1≠0:=by simpa using c35
 refine de ?_;refine iD ?_;refine TL.run (eo rfl rfl (by simp only [List.length_append,List.length_cons,List.length_nil];omega)) rfl (zm0 ?_)
 refine TL.run (eo rfl rfl (by simp only [List.length_append,List.length_cons,List.length_nil];omega)) rfl (dt ?_)
 refine TL.alloc rfl (fun b9=>?_)
 refine fC ?_;refine jT ?_
 have hlk:=rt (p:=p) (role:=role) hRP.nx (sets:=[]) (frm:=[0]) (by intro s hs;simp at hs)
 refine TC.loop (ι:=TQ2) (V:=fun q=>[(10,.int .i64 q.k)]) (K:=[(4,_),(5,_),(6,_),(9,_)]) (L:=fun q=>St [] w0 H q.h ((b9,[gs ((p.name++[46])++role),q.v])::(b4,[gs [],.slice none 0 0])::(b2,p.cells)::(bw,WK p role q.sv)::(q.ob++q.oa))) (I:=fun q=>(0≤q.k∧q.k≤q.rows.length)∧H31.le q.h∧OwnSl 1 GRow.cells q.sv q.rows q.ob∧GRowsOk q.h q.rows∧q.rows.length≤40∧OwnSl 3 STurn.cells q.v q.ts q.oa∧kX p role (41 - q.k.toNat) q.k.toNat (q.rows.map (·.l)) (q.ts.map tt)=kX p role 41 0 (rows31.map (·.l)) []∧kw p.points.length (q.rows.map (·.l))∧(∀t∈q.ts,TurnOk q.h t)∧(q.ts.length:Int)=q.k) (μ:=fun q=>(41 - q.k).toNat) (i:=⟨0,H31,_,ob31,rows31,.slice none 0 0,[],[]⟩) ky ⟨⟨by show(0:Int)≤0;omega,by show(0:Int)≤_;omega⟩,.refl _,hO31,hrw31,hrl31,OwnSl.nil,rfl,by rw [hm31'];exact hlk,by simp,rfl⟩ (fun w hw=>by rw [List.append_nil];exact hw) (fun q hI=>?_)
 obtain⟨⟨k0,k1⟩,hq2,hq3,hq4,hq5,hq6,hq7,hSO,hq9,hq10⟩:=hI
 rw [hm31'] at hq7
 have hp2:=hp.le hq2
 obtain⟨va,vc,hv⟩:=hq6.form
 refine f8 ?_;refine eZ ?_;refine lh ?_;refine TL.run (bC rfl rfl hq3) rfl (zm1 ?_)
 refine af rfl ?_ ?_<;>intro c50
 ·
  obtain⟨r,hrx⟩:=al (l:=q.rows) k0 c50
  have hs:(q.rows.map (·.l))[q.k.toNat]? =some r.l:=by rw [List.getElem?_map,hrx];rfl
  have hsr:=hSO _ (List.mem_of_getElem? hs)
  have hsl:r.l.length≤1000:=by have:=hRP.n24;have:=hsr.2;omega
  refine qc ?_;refine eZ ?_;refine lh ?_;refine zm0 ?_
  refine TL.run (bN rfl rfl hq3 omq omq) rfl (TL.run (ef (j:=0) rfl hq3 (.s4 (.app _)) hrx rfl) rfl (nX (X:=[(b9,_),(b4,_),(b2,_)]) (A:=(bw,_)::q.ob) rfl (ab rfl rfl rfl rfl) (turn_ok role hp2 hRP.nx (by have:=hRP.n24;omega) hq3 hq4 hq5 hRP.a6 (hq4 r (List.mem_of_getElem? hrx)) hsr.1 hsl) rfl (fun v62 H62 A62 hle62 hp62=>?_)))
  obtain⟨sv62,ob62,rows62,av62,oa62,rfl,hO62,hrw62,hrl62,hm62,hA62,rfl⟩:=hp62
  obtain⟨aa62,ac62,rfl⟩:=hA62.form
  refine zm3 ?_;refine zm0 ?_
  refine TL.alloc rfl (fun b11=>?_)
  refine gc ?_;refine oz ?_
  refine aP rfl ?_ ?_<;>intro c66
  ·
   refine k6 ?_;refine zm0 ?_;refine cH rfl rfl rfl rfl rfl (.h2) rfl rfl (eh ?_);refine kW ?_
   have hE:(dL p role).1=(bH p role (q.rows.map (·.l)) r.l).2.1:=by unfold dL;rw [if_neg (by rw [hrh];decide),if_neg h35,← hq7,show 41 - q.k.toNat=(40 - q.k.toNat)+1 by omega,xK hs c66]
   exact aR (.inr rfl) (co rfl (RVal.cellA rfl (.h2) rfl) (RVal.tmp rfl)) ⟨[],[],(none,0),by rw [hE];rfl,fun h=>absurd (hE.symm.trans h) (c66)⟩
  refine rY (perm_as [(b11,_),(b9,_),(b4,_),(b2,_)]) (TC.pubO hA62 (.s5 ((.past _ (.app _)))) sq (fun HP62 leP62 hT62=>?_))
  rw [List.nil_append]
  replace hrw62:=hrw62.le leP62
  have hTk:TurnOk HP62 ⟨(bH p role (q.rows.map (·.l)) r.l).1.1,(bH p role (q.rows.map (·.l)) r.l).1.2.1,(bH p role (q.rows.map (·.l)) r.l).1.2.2,(aa62,ac62)⟩:=⟨hT62,fun a ha=>Nat.le_trans (Du hB a ha) hB2⟩
  have hge:q.rows.length≤rows62.length:=by have h1:=congrArg List.length hm62;rw [List.length_map] at h1;rw [h1];have h2:=xo (p:=p) (role:=role) (set:=r.l) (sets:=q.rows.map (·.l));rwa [List.length_map] at h2
  refine de ?_;refine qf ?_;refine gP ?_
  refine aB rfl rfl rfl rfl (fun b72=>?_)
  refine TL.append (enc:=STurn.cells) rfl rfl rfl hq6 (Src.own [⟨(bH p role (q.rows.map (·.l)) r.l).1.1,(bH p role (q.rows.map (·.l)) r.l).1.2.1,(bH p role (q.rows.map (·.l)) r.l).1.2.2,(aa62,ac62)⟩] (.here _) rfl rfl) (by simp only [List.length_cons,List.length_nil];omega) rfl (.s6 (.past _ .all)) rfl (fun a73 c73 ob73 hO73=>?_)
  refine wF ?_;refine TL.nil (jP ?_)
  exact aQ (⟨q.k+1,HP62,sv62,ob62,rows62,_,ob73,q.ts++[⟨(bH p role (q.rows.map (·.l)) r.l).1.1,(bH p role (q.rows.map (·.l)) r.l).1.2.1,(bH p role (q.rows.map (·.l)) r.l).1.2.2,(aa62,ac62)⟩]⟩:TQ2) ⟨⟨by show 0≤q.k+1;omega,by show q.k+1≤(rows62.length:Int);omega⟩,hq2.trans (hle62.trans leP62),hO62,hrw62,hrl62,hO73,by show kX p role (41 - (q.k+1).toNat) (q.k+1).toNat (rows62.map (·.l)) _=_;rw [hm31',← hq7,show 41 - q.k.toNat=(41 - (q.k+1).toNat)+1 by omega,t7 hs (by simpa using c66),hm62,show(q.k+1).toNat=q.k.toNat+1 by omega,List.map_append];rfl,by show kw _ (rows62.map (·.l));rw [hm62];exact Ds hRP.nx hSO,fN (fun t ht=>(hq9 t ht).le (hle62.trans leP62)) hTk,by show _=q.k+1;simp only [List.length_append,List.length_cons,List.length_nil];omega⟩ ky (fun w hw=>hw.drop.drop) (by show(41 - (q.k+1)).toNat<(41 - q.k).toNat;omega)
 refine qi ?_
 rw [hv] at hq6 ⊢
 refine gP ?_;refine sJ ?_;refine eh ?_
 have hE:dL p role=(0,q.ts.map tt):=by unfold dL;rw [if_neg (by rw [hrh];decide),if_neg h35,← hq7,xJ (by rw [List.length_map];omega)]
 refine TX.pubO hq6 (.s4 (.past _ .all)) sq (fun H2 hle2 hR=>?_)
 exact aR (.inr rfl) (co rfl (RVal.cellA rfl (.h1) rfl) (RVal.tmp rfl)) ⟨_,q.ts,(va,vc),by rw [hE];rfl,fun _=>⟨rfl,⟨hR,fun t ht=>(hq9 t ht).le hle2⟩,by rw [hE]⟩⟩
end Go.Sx
namespace Go.Sx
open Go Go.Proofs
theorem uh {H:Hp}(p:SProto)(hp:ProtoOk H p)(hnm:p.name.length≤1000)(hrl:∀r∈p.roles,r.length≤1000):
  Fn Tryz.prog 30 [.agg p.cells.toArray] H (fun v H1=>∃lv,v= .tuple #[lv,.int .i64 (kY p).2,.int .i64 (kY p).1]∧((kY p).1=0→∃ls,RdSl H1 2 SLocal.cells lv ls∧LsOk H1 p p.roles.length ls)∧((kY p).1≠0→lv= .slice none 0 0)):=by
 have hro:=hp.r
 have hrm:=hro.max
 refine Fn.enter Tryz.func30 Tryz.ntmps30 rfl rfl (fun w0=>?_)
 refine zm2 ?_
 refine TL.box rfl rfl (fun b1=>?_)
 refine zm3 ?_;refine gB ?_;refine gq ?_;refine au (ab rfl rfl rfl rfl) (iw p hp) rfl (zm1 ?_)
 refine TC.cond rfl ?_ ?_<;>intro c11
 ·
  refine eN ?_;refine sL ?_
  have hE:kY p=(800,0):=by unfold kY;rw [if_pos (by simpa using c11)]
  exact aR (.inr rfl) (fc rfl (RVal.tmp rfl) (RVal.tmp rfl) (RVal.tmp rfl)) ⟨_,by rw [hE],fun h=>absurd h (by rw [hE];decide),fun _=>rfl⟩
 have hRB:dB p=true:=by simpa using c11
 have hr5:=(RPOk.of hRB).r5
 refine de ?_;refine jR ?_
 refine aY (V:=fun k v ob H1=>[(5,v),(6,.int .i64 k)]) (K:=[(1,_),(2,_),(3,_),(4,_)]) (L:=fun k v ob H1=>St [] w0 H H1 ((b1,p.cells)::ob)) (I:=fun k v ob H1=>(0≤k∧k≤p.roles.length)∧H.le H1∧j5 p k.toNat (p.roles.drop k.toNat)=j5 p 0 p.roles∧∃ls,OwnSl 2 SLocal.cells v ls ob∧LsOk H1 p k ls) (μ:=fun k=>(p.roles.length - k).toNat) 0 (.slice none 0 0) [] H ky ⟨o2q,.refl _,rfl,[],OwnSl.nil,⟨rfl,by simp⟩⟩ (fun w hw=>hw) (fun k v ob H1 hI=>?_)
 obtain⟨⟨k0,k1⟩,hI2,hI3,ls,hO,hLs⟩:=hI
 have hp1:=hp.le hI2
 have hro1:=hp1.r
 obtain⟨va,vc,rfl⟩:=hO.form
 refine sS ?_;refine TL.run (ai rfl rfl hro1) rfl (zm1 ?_)
 refine af rfl ?_ ?_<;>intro c16
 ·
  obtain⟨rr,hrx⟩:=al (l:=p.roles) k0 c16
  refine wo ?_
  refine TD.part 6 10 rfl rfl rfl ?_ ?_
  ·
   refine cI [(0,2),(1,1),(2,2),(3,1),(4,1),(5,2),(6,3),(7,1),(8,1),(9,1),(10,3),(11,0),(12,1)] kr kr (aW (a7 rfl (.here _) rfl) rfl (zP ?_))
   refine aw (ae rfl hro1 rfl omq omq) rfl (aW (aN hro1 hrx rfl rfl) rfl (TF.call (ab rfl rfl rfl rfl) (AF p rr hp1 hnm (hrl rr (List.mem_of_getElem? hrx)) (fun x hx a ha=>(hp.ps x hx).z a ha) (Nat.le_refl _)) rfl (fun v26 H26 hle26 hp26=>?_)))
   obtain⟨nm,ts,tp,rfl,hRo⟩:=hp26
   refine ou ?_
   refine TF.alloc rfl (fun b7=>?_)
   exact zq627
  refine cI [(0,2),(1,1),(2,2),(3,1),(4,1),(5,2),(10,3),(6,3),(7,1),(8,1),(9,1),(11,0),(12,1)] kr kr (aW (a7 rfl (.here _) rfl) rfl (zP ?_))
  refine aw (ae rfl hro1 rfl omq omq) rfl (aW (aN hro1 hrx rfl rfl) rfl (TF.alloc rfl (fun b7=>?_)))
  refine TF.call (ab rfl rfl rfl rfl) (AF p rr hp1 hnm (hrl rr (List.mem_of_getElem? hrx)) (fun x hx a ha=>(hp.ps x hx).z a ha) (Nat.le_refl _)) rfl (fun v26 H26 hle26 hp26=>?_)
  obtain⟨nm,ts,tp,rfl,hRo⟩:=hp26
  refine ou ?_
  exact zq627
 refine gn ?_;refine eN ?_;refine fQ ?_
 have hE:kY p=(0,0):=by unfold kY;rw [if_neg (by rw [hRB];decide),← hI3,List.drop_eq_nil_of_le omq];rfl
 refine TX.pubO hO (.skip _ .all) sq (fun H2 hle2 hR=>?_)
 have hk:k=p.roles.length:=by omega
 exact aR (.inr rfl) (fc rfl (RVal.tmp rfl) (RVal.tmp rfl) (RVal.tmp rfl)) ⟨_,by rw [hE],fun _=>⟨ls,hR,hk▸hLs.le hle2⟩,fun h=>absurd (by rw [hE]) h⟩
end Go.Sx
namespace Go.Sx
open Go Go.Proofs
theorem uv {H:Hp}{bd:Nat}{dl:Value}{at_:Int}(hd:DiceOk H dl at_){tv:Value}{types:List Str}(hty:RdSl H 1 Str.cells tv types)(htn:∀s∈types,TyNm s)(htl:types.length≤100)(name:Str)(hnl:name.length≤1000):
  DFn Tryz.prog bd dl at_ 64 [gs name,tv] H (fun v H1 ob=>ob=[]∧(H.le H1∧∃p:SProto,v= .agg p.cells.toArray∧ProtoOk H1 p∧p.name=name∧∃n,2≤n∧n≤5∧p.roles=rolesL.take n)):=by
 refine FnX.enter Tryz.func64 Tryz.ntmps64 rfl rfl (fun w0=>?_)
 refine zm2 ?_
 refine TL.alloc rfl (fun b6=>?_)
 refine TL.nil (ag (im ?_))
 refine aA (X:=[(b6,_)]) (bd:=bd) rfl (ab rfl rfl rfl rfl) (vv hd hty htn htl name) rfl (fun v14 H14 at14 hle14 hd14 hp14=>?_)
 obtain⟨hle14_,p,rfl,hP,hNm,n,hn2,hn5,hRo⟩:=hp14
 replace hty:=hty.le hle14
 have hrl:∀r∈p.roles,r.length≤1000:=by
  intro r hr;rw [hRo] at hr;have:=my hr;omega
 refine TL.alloc rfl (fun b7=>?_)
 refine fC ?_;refine gq ?_
 refine TL.call (ab rfl rfl rfl rfl) (uh p hP (by rw [hNm];exact hnl) hrl) rfl (fun v17 H17 hle17 hp17=>?_)
 obtain⟨lv17,rfl,hok17,hno17⟩:=hp17
 replace hty:=hty.le hle17
 replace hd14:=hd14.le hle17
 refine qj ?_;refine zm3 ?_;refine oz ?_
 refine af rfl ?_ ?_<;>intro c22
 · refine vU ?_;exact aD (aU (.inr rfl) (ad rfl (RVal.cellA rfl (.h1) rfl)) (fun w hw=>hw.drop.drop) ⟨_,[],rfl,hd14,rfl,hle14_.trans hle17,p,rfl,hP.le hle17,hNm,n,hn2,hn5,hRo⟩)
 refine w7 ?_
 refine aA (X:=[(b7,_),(b6,_)]) (bd:=bd) rfl (ab rfl rfl rfl rfl) (vw hd14 hty htn htl name 2 omq omq) rfl (fun v27 H27 at27 hle27 hd27 hp27=>?_)
 obtain⟨hle27_,p2,rfl,hP2,hNm2,hRo2,hA2⟩:=hp27
 refine l4 ?_
 exact aU (.inr rfl) (ad rfl (RVal.cellA rfl (.h1) rfl)) (fun w hw=>hw.drop.drop) ⟨_,[],rfl,hd27,rfl,(hle14_.trans hle17).trans hle27_,p2,rfl,hP2,hNm2,_,by decide,by decide,hRo2⟩
end Go.Sx
namespace Go.Sx
open Go Go.Proofs
theorem sB {H:Hp}{bd:Nat}{dl:Value}{at_:Int}(hd:DiceOk H dl at_):
  DFn Tryz.prog bd dl at_ 29 [] H (fun v H1 ob=>ob=[]∧(H.le H1∧∃ps,RdSl H1 3 SProto.cells v ps∧PsOk H1 ps)):=by
 refine FnX.enter Tryz.func29 Tryz.ntmps29 rfl rfl (fun w0=>?_)
 refine l9 ?_
 refine aA (X:=[]) (bd:=bd) rfl (ab rfl rfl rfl rfl) (uv hd RdSl.nil sq sq [112] dq) rfl (fun v6 H6 at6 hle6 hd6 hp6=>?_)
 obtain⟨hle6_,p,rfl,hP_,hNmp,np,hn2p,hn5p,hRop⟩:=hp6
 have hP:GP _ [112] p:=⟨hP_,hNmp,np,hn2p,hn5p,hRop⟩
 refine TL.alloc rfl (fun b3=>?_)
 refine ww ?_
 have hrlp:p.roles.length≤5:=by rw [hRop,List.length_take];show min np 5≤5;omega
 refine ag (gq ?_)
 refine aB rfl rfl rfl rfl (fun b8=>?_)
 refine tz ?_
 refine aA (X:=[(b8,_),(b3,_)]) (bd:=bd) rfl (ab rfl rfl rfl rfl) (bn 2 omq hd6) rfl (fun v10 H10 at10 hle10 hd10 hp10=>?_)
 obtain⟨eH10,r10,rfl,hr10⟩:=hp10
 replace eH10:=eH10.symm;subst eH10
 have hra10:=hr10.1
 have hrb10:=hr10.2.1 omq
 refine zm1 ?_
 refine af rfl ?_ ?_<;>intro c11
 ·
  refine lW ?_
  refine TL.run (a7 rfl (.h1) rfl) rfl (TL.call (ab rfl rfl rfl rfl) (sA p hP.ok (by rw [hP.nm];decide) (by have:=hrlp;omega) (fun r hr=>by have:=my (hRop▸hr);omega)) rfl (fun v15 H15 hle15 hp15=>?_))
  replace hd10:=hd10.le hle15
  rw [hP.nm] at hp15
  refine aA (X:=[(b8,_),(b3,_)]) (bd:=bd) rfl (ab rfl rfl rfl rfl) (uv hd10 hp15 (tyNm_of hRop) (by have:=hrlp;simp only [List.length_map];omega) [113] dq) rfl (fun v16 H16 at16 hle16 hd16 hp16=>?_)
  obtain⟨hle16_,q,rfl,hQ_,hNmq,nq,hn2q,hn5q,hRoq⟩:=hp16
  have hQ:GP _ [113] q:=⟨hQ_,hNmq,nq,hn2q,hn5q,hRoq⟩
  refine aB rfl rfl rfl rfl (fun b17=>?_)
  refine TL.append (enc:=SProto.cells) rfl rfl rfl (OwnSl.blk (enc:=SProto.cells) [⟨_,_,_,_,_⟩] rfl rfl dq) (Src.own [q] (.here _) rfl rfl) sq rfl (.take (.h1) rfl) rfl (fun a18 c18 ob18 hO18=>?_)
  refine zm1 ?_;refine pX ?_
  refine dV (X:=[(b17,_),(b3,_),(bd,_)]) hO18 rfl (by simp [keys]) (fun H2 hle2 hR=>?_)
  exact aU (.inr rfl) (ad rfl (RVal.tmp rfl)) (fun w hw=>hw.drop.drop) ⟨_,[],rfl,hd16.le hle2,rfl,⟨(((hle6_.trans hle15).trans hle16_)).trans hle2,_,hR,p,hP.le (hle15.trans (hle16_.trans hle2)),.inr ⟨q,hQ.le hle2,rfl⟩⟩⟩
 refine de ?_;refine pX ?_
 refine cD (by simp [keys]) (fun H_b8 le_b8 rd_b8=>?_)
 replace hd10:=hd10.le le_b8
 have hR:RdSl H_b8 3 SProto.cells _ ([p]):=RdSl.blk (cap:=1) rd_b8 (by intro x hx;rfl) kr (by show 1≤9223372036854775807;decide)
 exact aU (.inr rfl) (ad rfl (RVal.tmp rfl)) (fun w hw=>hw.drop) ⟨_,[],rfl,hd10,rfl,⟨hle6_.trans le_b8,_,hR,p,hP.le le_b8,.inl rfl⟩⟩
end Go.Sx
namespace Go.Sx
open Go Go.Proofs
theorem fa {F:Fx}{V:WV}(s:TStep)(hs:s.Ok V.S):
  WFn Tryz.prog F V 75 [.agg s.cells.toArray] 1 (fun v V1=>v= .int .i64 (V.sn:Int)∧V1.sn=V.sn+1):=by
 refine WFn.enter Tryz.func75 Tryz.ntmps75 rfl rfl (fun m w0 hW hm=>?_)
 refine zm2 ?_
 refine TL.box rfl rfl (fun b3=>?_)
 refine lB ?_;refine gP ?_
 refine ay (F:=F) (V:=V) (m:=m) [(b3,_)] rfl rfl (ab rfl rfl rfl rfl) (fF s hs) hW omq rfl (fun v8 V8 hle8 hW8 hS8 hs8 ht8 hp8=>?_)
 obtain⟨rfl,hn8⟩:=hp8
 obtain⟨b,j,q,ha,hb,hj⟩:=hW8.s.at omq
 refine wC ?_;refine aT [true,true,true] [(0,1),(1,1),(2,1),(3,1),(4,4),(5,1),(6,1),(7,1),(8,1),(9,1),(10,4),(11,1),(12,1),(13,1),(14,5)] kr kr (iR ?_)
 refine tG ?_;refine l8 ?_;refine tG ?_;refine aw (dj rfl rfl) rfl (aw (cM (tb:=3) rfl rfl ha omq omq) rfl (zm4 ?_))
 refine ao rfl (dw (t:=3) (f:=9) (ct:=.int) rfl rfl hW8.bag (.s2 (.skip _ .all)) hb rfl hj omq rfl (⟨_,rfl⟩) rfl rfl (fun Bst1 hBst1=>?_))
 refine aq (S1 (S1 (S1 SN))) (Hp.le.refl _) (TF.nil (ag (pX ?_)))
 exact bv (V':={V8 with B:=Bst1}) (X:=[(b3,_)]) (.inr rfl) (ad rfl (RVal.tmp rfl)) rfl rfl ((hW8.bagB hBst1).more omq) hS8 (by(try dsimp only);omega) (by(try dsimp only);omega) ⟨rfl,hn8⟩
theorem nc {F:Fx}{V:WV}(o:Bool):
  WFn Tryz.prog F V 127 [.bool o] 2 (fun v V1=>v= .int .i64 (V.sn:Int)∧V.sn<V1.sn):=by
 refine WFn.enter Tryz.func127 Tryz.ntmps127 rfl rfl (fun m w0 hW hm=>?_)
 refine l9 ?_;refine eZ ?_;refine fD ?_;refine TL.run (dj rfl rfl) rfl (oz ?_)
 refine TC.cond rfl ?_ ?_<;>intro c14
 ·
  refine zm2 ?_;refine au (ab rfl rfl rfl rfl) (cU 9) rfl (TL.alloc rfl (fun b6=>?_))
  refine fC ?_;refine gp ?_;refine Aq ?_;refine wg ?_
  refine ay (F:=F) (V:=V) (m:=m) [(b6,_)] rfl rfl (ab rfl rfl rfl rfl) (fa ⟨9,[99],[],[],[], -1,none,0,0,none,0,0,none,0,0, -1⟩ ⟨.inr (.inl rfl),.nil,.nil,.nil,.nil,.nil,.nil,Nat.zero_le _,Nat.zero_le _,Nat.zero_le _⟩) hW omq rfl (fun v19 V19 hle19 hW19 hS19 hs19 ht19 hp19=>?_)
  obtain⟨rfl,hn19⟩:=hp19
  refine gE ?_
  refine au (ab rfl rfl rfl rfl) (cU 0) rfl (ay (F:=F) (V:=V19) (m:=m+1) [(b6,_)] rfl rfl (ab rfl rfl rfl rfl) (fF ⟨0,[],[],[],[], -1,none,0,0,none,0,0,none,0,0, -1⟩ ⟨.nil,.nil,.nil,.nil,.nil,.nil,.nil,Nat.zero_le _,Nat.zero_le _,Nat.zero_le _⟩) hW19 omq rfl (fun v22 V22 hle22 hW22 hS22 hs22 ht22 hp22=>?_))
  obtain⟨rfl,hn22⟩:=hp22
  refine we ?_
  exact bv (V':=V22) (X:=[(b6,_)]) (.inr rfl) (ad rfl (RVal.tmp rfl)) rfl rfl (hW22.more omq) (hS19.trans (hS22)) (by(try dsimp only);omega) (by(try dsimp only);omega) ⟨rfl,by omega⟩
 refine oB ?_
 refine au (ab rfl rfl rfl rfl) (cU 0) rfl (ay (F:=F) (V:=V) (m:=m) [] rfl rfl (ab rfl rfl rfl rfl) (fF ⟨0,[],[],[],[], -1,none,0,0,none,0,0,none,0,0, -1⟩ ⟨.nil,.nil,.nil,.nil,.nil,.nil,.nil,Nat.zero_le _,Nat.zero_le _,Nat.zero_le _⟩) hW omq rfl (fun v22 V22 hle22 hW22 hS22 hs22 ht22 hp22=>?_))
 obtain⟨rfl,hn22⟩:=hp22
 refine we ?_
 exact bv (V':=V22) (X:=[]) (.inr rfl) (ad rfl (RVal.tmp rfl)) rfl rfl (hW22.more omq) hS22 (by(try dsimp only);omega) (by(try dsimp only);omega) ⟨rfl,by omega⟩
theorem qw {F:Fx}{V:WV}(s:Str):
  WFn Tryz.prog F V 179 [gs s] 0 (fun v V1=>∃p r,v= .tuple #[.agg p.cells.toArray,gs r]∧p∈F.ps∧r∈p.roles):=by
 refine WFn.enter Tryz.func179 Tryz.ntmps179 rfl rfl (fun m w0 hW hm=>?_)
 have hfx:=hW.fx
 have hps:=hfx.ps
 have hmx:=hps.max
 have hpn:=hfx.pn
 obtain⟨p0,hp0⟩:=al (l:=F.ps) (i:=0) omq omq
 have hG0:=(hfx.pg p0 (List.mem_of_getElem? hp0)).r2
 have hro0:=(hfx.pk p0 (List.mem_of_getElem? hp0)).r
 obtain⟨r0,hr0⟩:=al (l:=p0.roles) (i:=0) omq omq
 refine zm2 ?_
 refine TL.alloc rfl (fun b4=>?_)
 refine gB ?_;refine jI ?_
 refine TC.loop (V:=fun k=>[(6,.int .i64 k)]) (K:=[(0,_),(1,_),(4,_),(5,_)]) (L:=fun k=>_) (I:=fun k=>0≤k∧k≤F.ps.length) (μ:=fun k=>(F.ps.length - k).toNat) (i:=(0:Int)) ky o2q (fun w hw=>hw) (fun k hI=>?_)
 obtain⟨k0,k1⟩:=hI
 refine f8 ?_;refine eZ ?_;refine m7 ?_;refine TL.run (ai rfl rfl hps) rfl (zm1 ?_)
 refine af rfl ?_ ?_<;>intro c14
 ·
  obtain⟨p,hp⟩:=al (l:=F.ps) k0 c14
  have hro:=(hfx.pk p (List.mem_of_getElem? hp)).r
  have hrm:=hro.max
  refine gv ?_;refine jI ?_
  refine TC.loop (V:=fun q=>[(7,.int .i64 q)]) (K:=[(0,_),(1,_),(4,_),(5,_),(6,_),(8,_),(9,_),(10,_),(11,_),(12,_),(13,_),(14,_)]) (L:=fun q=>_) (I:=fun q=>0≤q∧q≤p.roles.length) (μ:=fun q=>(p.roles.length - q).toNat) (i:=(0:Int)) ky o2q (fun w hw=>hw) (fun q hI=>?_)
  obtain⟨q0,q1⟩:=hI
  refine f8 ?_;refine eZ ?_;refine m7 ?_;refine zm0 ?_;refine TL.run (ae rfl hps rfl omq omq) rfl (zm5 ?_);refine TL.run (bh hps hp rfl rfl) rfl (TL.run (ai rfl rfl hro) rfl (zm1 ?_))
  refine af rfl ?_ ?_<;>intro c27
  ·
   obtain⟨rr,hr⟩:=al (l:=p.roles) q0 c27
   have hG:=hfx.pg p (List.mem_of_getElem? hp)
   have hnm:p.name.length=1:=by rcases hG.nm with h | h<;>rw [h]<;>rfl
   have hr1:=hG.rs rr (List.mem_of_getElem? hr)
   refine pY ?_;refine tj ?_;refine zO ?_;refine TQ.run (ae rfl hps rfl omq omq) rfl (fP ?_)
   refine TQ.run (bh hps hp rfl rfl) rfl (TQ.run (eo rfl rfl (by simp only [List.length_append,List.length_cons,List.length_nil];omega)) rfl (tj ?_));refine zO ?_
   refine TQ.run (ae rfl hps rfl omq omq) rfl (fP ?_)
   refine TQ.run (bh hps hp rfl rfl) rfl (TQ.run (aF rfl) rfl (TQ.run (ae rfl hro rfl omq omq) rfl (TQ.run (aN hro hr rfl rfl) rfl ?_)))
   refine TQ.run (eo rfl rfl (by simp only [List.length_append,List.length_cons,List.length_nil];omega)) rfl (TQ.run (aF rfl) rfl (TQ.run (bW rfl rfl rfl) rfl (TQ.nil ?_)))
   refine ag (af rfl (fun c52=>?_) (fun c52=>?_))
   ·
    refine lz ?_;refine zm375 ?_;refine iR ?_;refine zZ ?_;refine zm7 ?_
    refine aw (ae rfl hps rfl omq omq) rfl (aJ (S0 (S1 (S1 SN))) (Hp.le.refl _) (fun _ _=>bg hps hp rfl rfl) rfl (iR ?_));refine zZ ?_;refine zm7 ?_
    refine aw (ae rfl hps rfl omq omq) rfl (zm4 ?_);refine aJ (S0 (S1 (S1 SN))) (Hp.le.refl _) (fun _ _=>bh hps hp rfl rfl) rfl (zm7 ?_);refine wr ?_
    refine aJ (S0 (S1 (S1 SN))) (Hp.le.refl _) (fun _ _=>aN hro hr rfl rfl) rfl (wd ?_);refine ti ?_;refine wK ?_
    exact bv (V':=V) (X:=[(b4,_)]) (.inr rfl) (co rfl (RVal.cellA rfl (.here _) rfl) (RVal.tmp rfl)) rfl rfl (hW.more omq) (.refl _) (by(try dsimp only);omega) (by(try dsimp only);omega) ⟨p,rr,rfl,List.mem_of_getElem? hp,List.mem_of_getElem? hr⟩
   refine iE ?_
   exact aQ (q+1) o2q ky (fun w hw=>hw) omq
  refine wl ?_
  exact aQ (k+1) o2q ky (fun w hw=>hw) omq
 refine gC ?_;refine eY ?_
 refine aT [false,true,true] [(0,1),(1,1),(2,1),(3,4),(4,1),(5,4),(6,1),(7,1),(8,1),(9,4),(10,1),(11,1),(12,4),(13,1),(14,4),(15,5),(16,1)] kr kr (iR ?_)
 refine zZ ?_;refine aw (ae rfl hps rfl omq omq) rfl (aJ (S0 (S1 (S1 SN))) (Hp.le.refl _) (fun _ _=>bg hps hp0 rfl rfl) rfl (iR ?_));refine zZ ?_
 refine aw (ae rfl hps rfl omq omq) rfl (zm4 ?_)
 refine aJ (S0 (S1 (S1 SN))) (Hp.le.refl _) (fun _ _=>bh hps hp0 rfl rfl) rfl (aw (ae rfl hro0 rfl omq omq) rfl (aJ (S0 (S1 (S1 SN))) (Hp.le.refl _) (fun _ _=>aN hro0 hr0 rfl rfl) rfl (wd ?_)))
 refine ti ?_
 exact bv (V':=V) (X:=[(b4,_)]) (.inr rfl) (co rfl (RVal.cellA rfl (.here _) rfl) (RVal.tmp rfl)) rfl rfl (hW.more omq) (.refl _) (by(try dsimp only);omega) (by(try dsimp only);omega) ⟨p0,r0,rfl,List.mem_of_getElem? hp0,List.mem_of_getElem? hr0⟩
end Go.Sx
namespace Go.Sx
open Go Go.Proofs
theorem j7 {H:Hp}(p:SProto)(r:Str)(h1:p.name.length≤1000)(h2:r.length≤1000):
  FnS Tryz.prog 68 [.agg p.cells.toArray,gs r] H (gs (p.name++r)):=by
 refine FnS.enter Tryz.func68 Tryz.ntmps68 rfl rfl (fun w0=>?_)
 refine zm2 ?_
 refine TL.box rfl rfl (fun b2=>?_)
 refine zm1 ?_;refine mi ?_;refine TL.run (eo rfl rfl omq) rfl (eh ?_)
 exact ar (.inr rfl) (ad rfl (RVal.tmp rfl)) rfl
theorem tK {F:Fx}{V:WV}(p:SProto)(role:Str)(hp:ProtoOk V.H p)(hG:GPr p)(hr:AnyNm role):
  WFn Tryz.prog F V 70 [.agg p.cells.toArray,gs role] 12 (fun v V1=>∃s,v=gs s∧VarNm s):=by
 refine WFn.enter Tryz.func70 Tryz.ntmps70 rfl rfl (fun m w0 hW hm=>?_)
 have hro:=hp.r
 have hmx:=hro.max
 have hr5:=hG.r5
 have hn1:=hG.n1
 refine zm2 ?_
 refine TL.box rfl rfl (fun b4=>?_)
 refine wS ?_;refine au (ab rfl rfl rfl rfl) (cU 8) rfl (TL.alloc rfl (fun b7=>?_))
 refine qb ?_;refine aT [false,true,false,false] [(0,1),(2,1),(3,4),(4,1),(1,5),(5,1),(6,5),(7,1),(8,5),(9,1),(10,0)] kr kr (o8 ?_)
 refine aJ (S0 (S1 SN)) (Hp.le.refl _) (fun _ _=>aE rfl (.here _) rfl) rfl (zm7 ?_)
 refine ao rfl (ay (F:=F) (V:=V) (m:=m) [(b7,_),(b4,_)] rfl rfl (ab rfl rfl rfl rfl) (tL) hW omq rfl (fun v11 V11 hle11 hW11 hS11 hs11 ht11 hp11=>?_))
 replace hro:=hro.le hle11
 obtain⟨s11,rfl,hv11⟩:=hp11
 refine aq (S0 (S1 SN)) hle11 (wb ?_);refine aq (S0 (S1 SN)) hle11 (wb ?_);refine aq (S0 (S1 SN)) hle11 (f9 ?_);refine aX rfl rfl rfl (.here _) rfl rfl (jS ?_);refine jT ?_
 refine r4 (V:=fun(k:Int) (V1:WV) (r:Rw)=>[(8,.int .i64 k)]) (K:=[(0,_),(2,_),(4,_),(6,_),(7,_)]) (L:=fun k V1 r=>St (keys (F.L V)) w0 V.H V1.H ((b7,TStep.cells ⟨8,s11,role,p.name,[], -1,none,0,0,r.a,r.n,r.c,none,0,0, -1⟩)::(b4,p.cells)::Fx.L F V1)) (I:=fun k V1 r=>WI F V1 (m+1+2 * k.toNat)∧(0≤k∧k≤p.roles.length)∧V.H.le V1.H∧V.S.le V1.S∧V.sn≤V1.sn∧V.tn≤V1.tn∧SlT V1.S 2 r.a r.n r.c∧r.n≤k.toNat) (μ:=fun k=>(p.roles.length - k).toNat) 0 V11 ⟨none,0,0⟩ ky (⟨by simpa using hW11,o2q,hle11,hS11,hs11,ht11,.nil,by simp⟩) (fun w hw=>hw) (fun k V1 r hI=>?_)
 obtain⟨hI1,⟨k0,k1⟩,hI3,hI4,hI5,hI6,hI7,hI8⟩:=hI
 replace hro:=hp.r.le hI3
 refine oe ?_;refine TL.run (ai rfl rfl hro) rfl (zm1 ?_)
 refine af rfl ?_ ?_<;>intro c22
 ·
  obtain⟨rr,hrx⟩:=al (l:=p.roles) k0 c22
  have hrr:=hG.rl (List.mem_of_getElem? hrx)
  refine gv ?_;refine iD ?_;refine zm0 ?_;refine TL.run (ae rfl hro rfl omq omq) rfl (TL.run (aN hro hrx rfl rfl) rfl (w6 ?_))
  refine aP rfl ?_ ?_<;>intro c31
  ·
   refine eY ?_;refine zm376 ?_;refine ot ?_;refine zm4 ?_;refine sR ?_;refine zm7 ?_;refine wr ?_
   refine aJ (S1 (S1 SN)) (Hp.le.refl _) (fun _ _=>aN hro hrx rfl rfl) rfl (aJ (S1 (S1 SN)) (Hp.le.refl _) (fun _ _=>a7 rfl (.h1) rfl) rfl (zm4 ?_));refine sR ?_;refine zm7 ?_
   refine wr ?_;refine aJ (S1 (S1 SN)) (Hp.le.refl _) (fun _ _=>aN hro hrx rfl rfl) rfl (l8 ?_);refine qh ?_
   refine E4 (ab rfl rfl rfl rfl) (j7 p rr omq omq) rfl (ao rfl (aA (X:=[(b7,_),(b4,_),(F.bw,_)]) (bd:=F.bd) rfl (ab rfl rfl rfl rfl) (bn 4 omq hI1.d) rfl (fun v51 H51 at51 hle51 hd51 hp51=>?_)))
   obtain⟨rfl,r51,rfl,hr51⟩:=hp51
   refine aq (S1 (S1 SN)) (Hp.le.refl _) (ao rfl (ay (F:=F) (V:={V1 with at_:=at51}) (m:=m+1+2 * k.toNat) [(b7,_),(b4,_)] rfl rfl (ab rfl rfl rfl rfl) (eO _) (hI1.dice (.refl _) hd51) omq rfl (fun v52 V52 hle52 hW52 hS52 hs52 ht52 hp52=>?_)))
   dsimp only at hle52 hS52 hs52 ht52 hp52
   obtain⟨i52,rfl⟩:=hp52
   refine aq (S1 (S1 SN)) hle52 (aC rfl rfl rfl rfl (fun b53=>?_))
   refine dQ ?_
   refine aC rfl rfl rfl rfl (fun b55=>?_)
   refine ao rfl (jg (enc:=I64.cells) (t:=4) (X:=[(b55,_)]) (Y:=[(b7,_),(b4,_),(F.bw,_),(F.bd,_)]) [_] rfl hW52.bag rfl rfl rfl (by intro y hy;exact⟨⟨_,rfl⟩,trivial⟩) (fun Sb53 Bb53 hSb53 hNb53 hbb53 hBb53=>?_))
   refine iM (enc:=TCast.cells) (t:=2) rfl rfl rfl (hW52.bagA hSb53 hNb53 hBb53).bag (hI7.le (hS52.trans (hSb53))) (Src.own [⟨rr,p.name++rr,some ⟨b53,0,none⟩,1,1⟩] (.here _) rfl rfl) rfl (by intro y hy;rw [List.mem_singleton.1 hy];exact TCast.all (s:=⟨rr,p.name++rr,some ⟨b53,0,none⟩,1,1⟩) (Nat.le_trans hrr dq) (hG.proc hrr) (SlT.blk hbb53 (by show 1≤9223372036854775807;decide)) (by have:=hW52.n10;dsimp only at *;omega)) zt2 (by simp only [List.length_cons,List.length_nil];omega) rfl (.s4 (.skip _ .all)) rfl (fun S56 a56 c56 B56 hS56 hN56 hT56 hB56=>?_)
   change _=_+1 at hN56
   refine aq (S0 (S1 (S1 SN))) hle52 (wv ?_);refine TF.back (TF.nil (jP ?_))
   exact gN (k+1) ({{V52 with S:=Sb53,B:=Bb53} with S:=S56,B:=B56}) ⟨a56,r.n+1,c56⟩ (⟨((hW52.bagA hSb53 hNb53 hBb53).bagT hS56 hN56 hB56).more omq,o2q,hI3.trans hle52,(hI4.trans (hS52.trans (hSb53.trans (hS56)))),by dsimp only;omega,by dsimp only;omega,hT56,by dsimp only;omega⟩) ky (fun w hw=>hw.drop) omq
  refine iE ?_
  exact gN (k+1) V1 r (⟨hI1.more omq,o2q,hI3,hI4,hI5,hI6,hI7,by omega⟩) ky (fun w hw=>hw) omq
 refine gn ?_;refine vZ ?_
 refine ay (F:=F) (V:=V1) (m:=m+1+2 * k.toNat) [(b7,_),(b4,_)] rfl rfl (ab rfl rfl rfl rfl) (fa ⟨8,s11,role,p.name,[], -1,none,0,0,r.a,r.n,r.c,none,0,0, -1⟩ ⟨hv11,hr,by simp only [AnyNm];omega,.nil,.nil,hI7,.nil,Nat.zero_le _,by have:=hI1.n10;dsimp only;omega,Nat.zero_le _⟩) hI1 omq rfl (fun v60 V60 hle60 hW60 hS60 hs60 ht60 hp60=>?_)
 obtain⟨rfl,hn60⟩:=hp60
 refine TL.nil (ag (fE ?_));refine eh ?_
 exact bv (V':=V60) (X:=[(b7,_),(b4,_)]) (.inr rfl) (ad rfl (RVal.tmp rfl)) rfl rfl (hW60.more omq) (hI4.trans (hS60)) (by(try dsimp only);omega) (by(try dsimp only);omega) ⟨_,rfl,hv11⟩
end Go.Sx
