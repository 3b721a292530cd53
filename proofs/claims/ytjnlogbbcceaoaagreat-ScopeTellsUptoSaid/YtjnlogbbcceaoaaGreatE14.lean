import Derived.Test.YtjnlogbbcceaoaaGreatE13
set_option linter.all false
set_option maxRecDepth 100000
set_option maxHeartbeats 32000000
namespace Go.Sx
open Go Go.Proofs
theorem o9 {H:Hp}(x:SPoint)(r:Str):
  FnS Tryz.prog 194 [.agg x.cells.toArray,gs r] H (.bool (fX x r)):=by
 refine FnS.enter Tryz.func194 Tryz.ntmps194 rfl rfl (fun w0=>?_)
 refine zm2 ?_
 refine TL.box rfl rfl (fun b2=>?_)
 refine tG ?_;refine ot ?_
 refine ag (s:=9) rfl ?_ ?_<;>intro g9
 ·
  have q9:=of_decide_eq_true g9
  refine dE ?_;refine gm ?_
  exact ao (.inr rfl) (ad rfl (RVal.tmp rfl)) (congrArg Value.bool (by unfold fX;simp_all))
 have q9:=of_decide_eq_false g9
 refine m5 ?_;refine nI ?_;refine gm ?_
 exact ao (.inr rfl) (ad rfl (RVal.tmp rfl)) (congrArg Value.bool (by unfold fX;simp_all))
theorem uu {H:Hp}{a b:List Int}{va vb:Value}(ha:RdSl H 1 I64.cells va a)(hb:RdSl H 1 I64.cells vb b):
  FnS Tryz.prog 173 [va,vb] H (.bool (decide (a=b))):=by
 have hma:=ha.max
 have hmb:=hb.max
 refine FnS.enter Tryz.func173 Tryz.ntmps173 rfl rfl (fun w0=>?_)
 refine qU ?_
 refine aV rfl ?_ ?_<;>intro c10
 ·
  refine gq ?_
  exact ao (.inr rfl) (ad rfl (RVal.tmp rfl)) (congrArg Value.bool (by first | exact(qg c10).symm | exact(uk hx hy c25).symm | exact(qh hl k0 c14 hI2).symm))
 have hl:a.length=b.length:=by omega
 refine jn ?_
 refine TC.loop (V:=fun k=>[(5,.int .i64 k)]) (K:=[(0,_),(1,_),(4,_)]) (L:=fun k=>_) (I:=fun k=>(0≤k∧k≤a.length)∧a.take k.toNat=b.take k.toNat) (μ:=fun k=>(a.length - k).toNat) (i:=(0:Int)) ky ⟨o2q,rfl⟩ (fun w hw=>hw) (fun k hI=>?_)
 obtain⟨⟨k0,k1⟩,hI2⟩:=hI
 refine qT ?_
 refine af rfl ?_ ?_<;>intro c14
 ·
  obtain⟨x,hx⟩:=aj (l:=a) k0 c14
  obtain⟨y,hy⟩:=aj (l:=b) k0 om
  refine qS ?_;refine TQ.run (aL ha hx rfl rfl) rfl (qR ?_);refine TQ.run (aL hb hy rfl rfl) rfl (k4 ?_)
  refine aV rfl ?_ ?_<;>intro c25
  ·
   refine kX ?_
   exact ao (.inr rfl) (ad rfl (RVal.tmp rfl)) (congrArg Value.bool (by first | exact(qg c10).symm | exact(uk hx hy c25).symm | exact(qh hl k0 c14 hI2).symm))
  refine d6 ?_
  exact aD (k+1) ⟨o2q,by rw [bi k0 hx,bi k0 hy,hI2];congr 2<;>omega⟩ ky (fun w hw=>hw) om
 refine fD ?_
 exact ao (.inr rfl) (ad rfl (RVal.tmp rfl)) (congrArg Value.bool (by first | exact(qg c10).symm | exact(uk hx hy c25).symm | exact(qh hl k0 c14 hI2).symm))
theorem C7 {H:Hp}{l:List SArm}{v:Value}(s:Str)(hL:RdSl H 4 SArm.cells v l):
  FnS Tryz.prog 195 [v,gs s] H (.int .i64 (bS (l.map (·.label)) s)):=by
 have hmax:=hL.max
 refine FnS.enter Tryz.func195 Tryz.ntmps195 rfl rfl (fun w0=>?_)
 refine kg ?_
 refine TC.loop (V:=fun k=>[(5,.int .i64 k)]) (K:=[(0,_),(1,_),(4,_)]) (L:=fun k=>_) (I:=fun k=>0≤k∧k≤l.length∧∀j:Nat,j<k.toNat→(l.map (·.label))[j]? ≠some s) (μ:=fun k=>(l.length - k).toNat) (i:=(0:Int)) ky ⟨by omega,by omega,fun j h=>absurd h om⟩ (fun w hw=>hw) (fun k hI=>?_)
 refine Aa ?_
 refine af rfl ?_ ?_<;>intro c9
 ·
  obtain⟨x,hx⟩:=aj (l:=l) hI.1 c9
  refine lj ?_;refine th ?_;refine tN ?_
  refine af rfl ?_ ?_<;>intro c18
  ·
   refine rC ?_
   exact ao (.inr rfl) (ad rfl (RVal.tmp rfl)) (congrArg (Value.int .i64) (by first | exact(cS hI.1 (by rw [dz hx,c18]) hI.2.2).symm | exact(dU hI.2.2 (by rw [List.length_map];exact c9)).symm))
  refine d6 ?_
  exact aD (k+1) ⟨by omega,by omega,fun j hj=>by by_cases hjk:j<k.toNat;exact hI.2.2 j hjk;rw [show j=k.toNat by omega,dz hx];intro e;exact c18 (by simpa using e)⟩ ky (fun w hw=>hw) om
 refine fD ?_
 exact ao (.inr rfl) (ad rfl (RVal.tmp rfl)) (congrArg (Value.int .i64) (by first | exact(cS hI.1 (by rw [dz hx,c18]) hI.2.2).symm | exact(dU hI.2.2 (by rw [List.length_map];exact c9)).symm))
theorem Ey {H:Hp}{p:SProto}(role:Str)(hp:ProtoOk H p)(hN:qJ p)(hn:p.points.length≤1000){fv:Value}{frm:List Int}(hf:RdSl H 1 I64.cells fv frm)(hfl:frm.length≤1000):
  FnO Tryz.prog 170 [.agg p.cells.toArray,gs role,fv] H (fun v H1 ob=>H1=H∧OwnSl 1 I64.cells v (dC p role frm) ob):=by
 have hpt:=hp.pt
 refine FnO.enter Tryz.func170 Tryz.ntmps170 rfl rfl (fun w0=>?_)
 refine zm2 ?_
 refine TL.box rfl rfl (fun b3=>?_)
 refine z8 ?_;refine TL.run (ah rfl rfl hpt) rfl (fh rfl rfl (by first | omega | decide) (by first | omega | decide) (by first | omega | decide) rfl (fun b18=>?_))
 refine ti ?_
 refine aK (V:=fun(q:Int×List Bool) v ob H1=>[(8,v),(9,.int .i64 q.1)]) (K:=[(1,_),(2,_),(3,_),(6,_),(7,_)]) (L:=fun(q:Int×List Bool) v ob H1=>St [] w0 H H ((b18,q.2.map Value.bool)::(b3,p.cells)::ob)) (I:=fun(q:Int×List Bool) v ob H1=>(0≤q.1∧q.1≤frm.length)∧∃todo,OwnSl 1 I64.cells v todo ob∧Met p.points.length q.2 todo∧jU q.2 todo (frm.drop q.1.toNat)=jT p role frm) (μ:=fun(q:Int×List Bool)=>(frm.length - q.1).toNat) (0,List.replicate p.points.length false) (.slice none 0 0) [] H ky ⟨o2q,[],OwnSl.nil,Met.zero _,rfl⟩ (fun w hw=>by rw [← reps_b];exact hw) (fun q v ob H1 hI=>?_)
 obtain⟨⟨k0,k1⟩,todo,hO,hM,hI3⟩:=hI
 have hfm:=hf.max
 refine fk ?_;refine TL.run (ah rfl rfl hf) rfl (zm1 ?_)
 refine af rfl ?_ ?_<;>intro c22
 ·
  obtain⟨x,hx⟩:=aj (l:=frm) k0 c22
  refine lj ?_;refine TL.run (ae rfl hf rfl om om) rfl (TL.run (aL hf hx rfl rfl) rfl (zm3 ?_))
  refine ag (s:=30) rfl ?_ ?_<;>intro g30
  ·
   have q30:=of_decide_eq_true g30
   refine eG ?_;refine aw rfl rfl (ae rfl hf rfl om om) rfl (aw rfl rfl (aL hf hx rfl rfl) rfl (cv ?_));refine aw rfl rfl (ij rfl rfl) rfl (cM ?_)
   refine ag (s:=39) rfl ?_ ?_<;>intro g39
   ·
    have q39:=of_decide_eq_true g39
    refine xd ?_;refine aw rfl rfl (ae rfl hf rfl om om) rfl (aw rfl rfl (aL hf hx rfl rfl) rfl ?_)
    obtain⟨b,hbm,hb⟩:=Dm (met:=q.2) (i:=x) om (by rw [hM.len];omega)
    refine aw rfl rfl (it rfl rfl om om) rfl (aw rfl rfl (aE rfl (.here _) hb) rfl (fP ?_))
    refine TC.cond rfl ?_ ?_<;>intro c48
    ·
     have hbf:q.2[x.toNat]? =some false:=by rw [hbm];simpa using c48
     have h0x:0≤x:=by omega
     refine fO ?_;refine TL.run (ae rfl hf rfl om om) rfl (TL.run (aL hf hx rfl rfl) rfl (eD ?_))
     refine br rfl rfl rfl (.here _) (by rw [Nat.blt_eq,List.length_map,hM.len];omega) rfl (TL.nil (ai (jN ?_)))
     refine TL.run (ae rfl hf rfl om om) rfl (TL.run (aL hf hx rfl rfl) rfl (aA rfl rfl rfl rfl (fun b60=>?_)))
     refine TL.append (enc:=I64.cells) rfl rfl rfl hO (Src.own [x] (.here _) rfl rfl) (by simp;have:=hM.le;omega) rfl (.s2 (.skip _ .all)) rfl (fun a61 c61 ob61 hO61=>?_)
     refine iW ?_
     exact ay (q.1+1,q.2.set x.toNat true) _ ob61 H ⟨o2q,_,hO61,hM.set h0x hbf,by rw [show(q.1+1).toNat=q.1.toNat+1 by omega,← Fv hx ⟨h0x,hbf⟩];exact hI3⟩ ky (fun w hw=>(mset hw.drop)) om
    refine d6 ?_
    exact ay (q.1+1,q.2) _ ob H ⟨o2q,_,hO,hM,by rw [show(q.1+1).toNat=q.1.toNat+1 by omega,← ue hx (by rintro⟨_,e⟩;rw [hbm] at e;cases e;simp at c48)];exact hI3⟩ ky (fun w hw=>hw) om
   have q39:=of_decide_eq_false g39
   refine dE ?_;refine dE ?_;refine pR ?_;refine d6 ?_
   refine ay (q.1+1,q.2) _ ob H ⟨o2q,_,hO,hM,by rw [show(q.1+1).toNat=q.1.toNat+1 by omega,← ue hx (by rintro⟨e0,e⟩;have:=(List.getElem?_eq_some_iff.1 e).1;rw [hM.len] at this;omega)];exact hI3⟩ ky (fun w hw=>hw) om
  have q30:=of_decide_eq_false g30
  refine dE ?_;refine li ?_;refine dE ?_;refine pR ?_;refine d6 ?_
  refine ay (q.1+1,q.2) _ ob H ⟨o2q,_,hO,hM,by rw [show(q.1+1).toNat=q.1.toNat+1 by omega,← ue hx (by rintro⟨e0,e⟩;have:=(List.getElem?_eq_some_iff.1 e).1;rw [hM.len] at this;omega)];exact hI3⟩ ky (fun w hw=>hw) om
 refine tf ?_
 refine aK (V:=fun(q:Int×List Bool) v ob H1=>[(8,v),(10,.int .i64 q.1)]) (K:=[(1,_),(3,_),(6,_),(7,_)]) (L:=fun(q:Int×List Bool) v ob H1=>St [] w0 H H ((b18,q.2.map Value.bool)::(b3,p.cells)::ob)) (I:=fun(q:Int×List Bool) v ob H1=>0≤q.1∧∃todo,OwnSl 1 I64.cells v todo ob∧Met p.points.length q.2 todo∧q.1≤todo.length∧iJ p role (p.points.length - q.1.toNat) q.1.toNat q.2 todo=iJ p role p.points.length 0 (jT p role frm).1 (jT p role frm).2) (μ:=fun(q:Int×List Bool)=>(p.points.length - q.1).toNat) (0,q.2) _ ob H ky ⟨by omega,_,hO,hM,by omega,by rw [← hI3,List.drop_eq_nil_of_le om];rfl⟩ (fun w hw=>hw) (fun q v ob H1 hI=>?_)
 obtain⟨k0,todo,hO,hM,hI3,hI4⟩:=hI
 refine fk ?_;refine TL.run (bK rfl rfl hO) rfl (zm1 ?_)
 refine af rfl ?_ ?_<;>intro c65
 ·
  have htl:=hM.le
  obtain⟨j,hj⟩:=aj (l:=todo) k0 c65
  have hjr:=hM.rng j (List.mem_of_getElem? hj)
  obtain⟨x,hxp⟩:=aj (l:=p.points) hjr.1 hjr.2
  have hxa:=(hp.ps x (List.mem_of_getElem? hxp)).a
  have hxm:=hxa.max
  refine te ?_;refine cy [(0,1),(1,2),(2,1),(3,1),(4,1),(5,2),(6,1),(7,2),(8,3),(9,0)] kr kr (ln ?_);refine iz ?_
  refine az (bY rfl rfl hO om om) rfl (bg (eK (j:=0) rfl hO (.skip _ (.skip _ .all)) hj rfl) rfl (az (ae rfl hpt rfl om om) rfl (bg (aY hpt hxp rfl rfl) rfl ?_)))
  refine TF.alloc rfl (fun b11=>?_)
  refine bB (ga ?_);refine kY ?_;refine iq ?_
  refine aK (V:=fun(u:Int×List Bool) v ob H1=>[(8,v),(12,.int .i64 u.1)]) (K:=[(1,_),(3,_),(6,_),(7,_),(10,_),(11,_),(62,_),(63,_),(64,_),(65,_),(68,_),(69,_),(70,_),(71,_),(72,_),(73,_),(74,_),(75,_)]) (L:=fun(u:Int×List Bool) v ob H1=>St [] w0 H H ((b11,x.cells)::(b18,u.2.map Value.bool)::(b3,p.cells)::ob)) (I:=fun(u:Int×List Bool) v ob H1=>(0≤u.1∧u.1≤x.arms.length)∧∃td,OwnSl 1 I64.cells v td ob∧Met p.points.length u.2 td∧todo.length≤td.length∧(fX x role=true→u.2=q.2∧td=todo)∧(¬fX x role=true→jk u.2 td (x.arms.drop u.1.toNat)=jk q.2 todo x.arms)) (μ:=fun(u:Int×List Bool)=>(x.arms.length - u.1).toNat) (0,q.2) _ ob H ky ⟨o2q,_,hO,hM,Nat.le_refl _,fun _=>⟨rfl,rfl⟩,fun _=>rfl⟩ (fun w hw=>hw) (fun u v ob H1 hI=>?_)
  obtain⟨⟨u0,u1⟩,td,hO,hM,hI2,hI3,hI5⟩:=hI
  refine jO ?_;refine TL.run (ah rfl rfl hxa) rfl (zm3 ?_)
  refine ag (s:=81) rfl ?_ ?_<;>intro g81
  ·
   have q81:=of_decide_eq_true g81
   refine oO ?_;refine cv ?_;refine aH rfl rfl (ab rfl rfl rfl rfl) (o9 x role) rfl (fP ?_)
   refine TC.cond rfl ?_ ?_<;>intro c86
   ·
    have hnw:¬fX x role=true:=by simpa using c86
    obtain⟨a,ha⟩:=aj (l:=x.arms) u0 om
    have hax:=hN x (List.mem_of_getElem? hxp) a (List.mem_of_getElem? ha)
    refine oN ?_;refine fj ?_;refine zm0 ?_;refine z7 ?_
    obtain⟨b,hbm,hb⟩:=Dm (met:=u.2) (i:=a.next) om (by rw [hM.len];omega)
    refine eD ?_;refine TL.run (aE rfl (.h1) hb) rfl (zm1 ?_)
    refine TC.cond rfl ?_ ?_<;>intro c98
    ·
     have hbf:u.2[a.next.toNat]? =some false:=by rw [hbm];simpa using c98
     refine el ?_;refine fj ?_;refine zm0 ?_;refine z7 ?_;refine eD ?_;refine br rfl rfl rfl (.h1) (by rw [Nat.blt_eq,List.length_map,hM.len];omega) rfl (TL.nil (ai (qQ ?_)))
     refine z7 ?_
     refine aA rfl rfl rfl rfl (fun b114=>?_)
     refine TL.append (enc:=I64.cells) rfl rfl rfl hO (Src.own [a.next] (.here _) rfl rfl) (by simp;have:=hM.le;omega) rfl (.s3 (.skip _ .all)) rfl (fun a115 c115 ob115 hO115=>?_)
     refine iW ?_
     exact ay (u.1+1,u.2.set a.next.toNat true) _ ob115 H ⟨o2q,_,hO115,hM.set hax.1 hbf,by rw [List.length_append];omega,fun h=>absurd h hnw,fun h=>by rw [show(u.1+1).toNat=u.1.toNat+1 by omega,← GD ha hbf];exact hI5 h⟩ ky (fun w hw=>(mset1 hw.drop)) om
    refine d6 ?_
    exact ay (u.1+1,u.2) _ ob H ⟨o2q,_,hO,hM,hI2,fun h=>absurd h hnw,fun h=>by rw [show(u.1+1).toNat=u.1.toNat+1 by omega,← Jx ha (by rw [hbm];intro e;cases e;simp at c98)];exact hI5 h⟩ ky (fun w hw=>hw) om
   have hw:fX x role=true:=by simpa using c86
   refine kJ ?_
   exact ay (q.1+1,u.2) _ ob H ⟨by omega,_,hO,hM,by omega,by rw [← hI4,show(q.1+1).toNat=q.1.toNat+1 by omega,show p.points.length - q.1.toNat=(p.points.length - (q.1.toNat+1))+1 by omega,ud hj hxp (r:=(u.2,td)) (by rw [if_pos hw];obtain⟨e1,e2⟩:=hI3 hw;rw [e1,e2])]⟩ ky (fun w hw=>hw.drop) om
  have q81:=of_decide_eq_false g81
  refine dE ?_;refine pR ?_;refine kJ ?_
  exact ay (q.1+1,u.2) _ ob H ⟨by omega,_,hO,hM,by omega,by rw [← hI4,show(q.1+1).toNat=q.1.toNat+1 by omega,show p.points.length - q.1.toNat=(p.points.length - (q.1.toNat+1))+1 by omega,ud hj hxp (r:=(u.2,td)) (by by_cases hw:fX x role=true;(rw [if_pos hw];obtain⟨e1,e2⟩:=hI3 hw;rw [e1,e2]);(rw [if_neg hw,← hI5 hw,List.drop_eq_nil_of_le om];rfl))]⟩ ky (fun w hw=>hw.drop) om
 refine fN ?_;refine kg ?_
 refine aK (V:=fun k v ob H1=>[(13,v),(14,.int .i64 k)]) (K:=[(6,_),(7,_)]) (L:=fun k v ob H1=>St [] w0 H H ((b18,q.2.map Value.bool)::(b3,p.cells)::ob)) (I:=fun k v ob H1=>(0≤k∧k≤p.points.length)∧OwnSl 1 I64.cells v (lG q.2 k.toNat) ob) (μ:=fun k=>(p.points.length - k).toNat) 0 (.slice none 0 0) [] H ky ⟨o2q,OwnSl.nil⟩ (fun w hw=>St.dropT (A:=[(b18,_),(b3,_)]) hw) (fun k v ob H1 hI=>?_)
 obtain⟨⟨k0,k1⟩,hO⟩:=hI
 refine fk ?_;refine lz ?_;refine zm1 ?_
 refine af rfl ?_ ?_<;>intro c119
 ·
  obtain⟨b,hbm,hb⟩:=Dm (met:=q.2) (i:=k) om (by rw [hM.len];omega)
  refine lj ?_;refine eD ?_;refine TL.run (aE rfl (.here _) hb) rfl (TL.nil (ai (TC.cond rfl (fun c125=>?_) (fun c125=>?_))))
  ·
   refine mW ?_
   refine aA rfl rfl rfl rfl (fun b128=>?_)
   refine TL.append (enc:=I64.cells) rfl rfl rfl hO (Src.own [k] (.here _) rfl rfl) (by simp;have:=xE q.2 k.toNat;omega) rfl (.s2 (.skip _ .all)) rfl (fun a129 c129 ob129 hO129=>?_)
   refine iW ?_
   exact ay (k+1) _ ob129 H ⟨o2q,by rw [Fm k0 (by rw [hbm,c125])];exact hO129⟩ ky (fun w hw=>hw.drop) om
  refine d6 ?_
  exact ay (k+1) _ ob H ⟨o2q,by rw [HT k0 (by rw [hbm];simpa using c125)];exact hO⟩ ky (fun w hw=>hw) om
 refine jA ?_
 exact cf (.inr rfl) (ad rfl (RVal.tmp rfl)) (.skip _ (.skip _ .all)) ⟨rfl,hO.cast (by unfold dC;rw [← hI4,Fu om];show lG q.2 k.toNat=lG q.2 q.2.length;rw [hM.len];congr 1;omega)⟩
theorem EN {H:Hp}{p:SProto}(role:Str)(hp:ProtoOk H p){lv:Value}{l:List Int}(hl:RdSl H 1 I64.cells lv l)(hr:∀j∈l,0≤j∧j<p.points.length)(hll:l.length≤100000):
  FnO Tryz.prog 171 [.agg p.cells.toArray,gs role,lv] H (fun v H1 ob=>H1=H∧OwnSl 1 I64.cells v (eO p role l) ob):=by
 have hpt:=hp.pt
 refine FnO.enter Tryz.func171 Tryz.ntmps171 rfl rfl (fun w0=>?_)
 refine zm2 ?_
 refine TL.box rfl rfl (fun b3=>?_)
 refine ti ?_
 refine aK (V:=fun k v ob H1=>[(7,v),(8,.int .i64 k)]) (K:=[(1,_),(2,_),(3,_),(6,_)]) (L:=fun k v ob H1=>St [] w0 H H ((b3,p.cells)::ob)) (I:=fun k v ob H1=>(0≤k∧k≤l.length)∧OwnSl 1 I64.cells v (eO p role (l.take k.toNat)) ob) (μ:=fun k=>(l.length - k).toNat) 0 (.slice none 0 0) [] H ky ⟨o2q,OwnSl.nil⟩ (fun w hw=>hw) (fun k v ob H1 hI=>?_)
 obtain⟨⟨k0,k1⟩,hO⟩:=hI
 refine fk ?_;refine TL.run (ah rfl rfl hl) rfl (zm1 ?_)
 refine af rfl ?_ ?_<;>intro c12
 ·
  obtain⟨j,hx⟩:=aj (l:=l) k0 c12
  have hjr:=hr j (List.mem_of_getElem? hx)
  obtain⟨x,hxp⟩:=aj (l:=p.points) hjr.1 hjr.2
  refine nc ?_;refine z6 ?_
  refine TQ.run (ae rfl hl rfl om om) rfl (TQ.run (aL hl hx rfl rfl) rfl (TQ.run (ae rfl hpt rfl om om) rfl (TQ.run (aY hpt hxp rfl rfl) rfl ?_)))
  refine TQ.run (aG rfl) rfl (gJ (ab rfl rfl rfl rfl) (o9 x role) rfl (TQ.nil (ai ?_)))
  refine TC.cond rfl ?_ ?_<;>intro c24
  ·
   refine jN ?_;refine TL.run (ae rfl hl rfl om om) rfl (TL.run (aL hl hx rfl rfl) rfl (aA rfl rfl rfl rfl (fun b30=>?_)))
   refine TL.append (enc:=I64.cells) rfl rfl rfl hO (Src.own [j] (.here _) rfl rfl) (by have:=qr (p:=p) (role:=role) (l.take k.toNat);have:=List.length_take_le k.toNat l;simp only [List.length_cons,List.length_nil];have:=List.length_take_le' k.toNat l;omega) rfl (.skip _ (.skip _ .all)) rfl (fun a31 c31 ob31 hO31=>?_)
   refine iW ?_
   exact ay (k+1) _ ob31 H ⟨o2q,by rw [IS k0 hx (by unfold inP;rw [hxp];exact c24)];exact hO31⟩ ky (fun w hw=>hw.drop) om
  refine d6 ?_
  exact ay (k+1) _ ob H ⟨o2q,by rw [near_no k0 hx (by unfold inP;rw [hxp];simpa using c24)];exact hO⟩ ky (fun w hw=>hw) om
 refine jA ?_
 exact cf (.inr rfl) (ad rfl (RVal.tmp rfl)) (.skip _ .all) ⟨rfl,hO.cast (by rw [aX c12 k0])⟩
theorem lost_ok {H:Hp}{p:SProto}(role:Str)(hp:ProtoOk H p)(hN:qJ p)(hn:p.points.length≤1000)(at_:Int):
  Fn Tryz.prog 172 [.agg p.cells.toArray,gs role,.int .i64 at_] H (fun v H1=>v= .bool (nF p role at_)):=by
 refine Fn.enter Tryz.func172 Tryz.ntmps172 rfl rfl (fun w0=>?_)
 refine zm2 ?_
 refine TL.box rfl rfl (fun b3=>?_)
 refine wS ?_
 refine aU [true] [(0,4),(1,1),(2,4),(3,1),(4,1),(5,3),(6,5),(7,5),(8,1),(9,1),(10,1)] kr kr (aO (S1 SN) (Hp.le.refl _) (fun _ _=>bA rfl (.here _) rfl) rfl (zm6 ?_))
 refine aO (S1 SN) (Hp.le.refl _) (fun _ _=>bA rfl (.here _) rfl) rfl (iz ?_)
 refine aJ rfl rfl rfl rfl (fun b12=>?_)
 refine TF.pub sq (fun H_b12 le_b12 rd_b12=>?_)
 replace hp:=hp.le le_b12
 have hA12:RdSl H_b12 1 I64.cells (.slice (some ⟨b12,0,none⟩) 1 1) [at_]:=RdSl.blk (l:=[at_]) (enc:=I64.cells) rd_b12 (by intro x hx;rfl) rfl (by show 1≤9223372036854775807;decide)
 refine au rfl (bD (ab rfl rfl rfl rfl) (Ey role hp hN hn hA12 sq) rfl (fun v13 H13 ob13 hle13 hp13=>?_))
 obtain⟨eH13,hO13⟩:=hp13
 subst H13
 obtain⟨a13,c13,rfl⟩:=hO13.form
 refine TL.pubO hO13 (.skip _ .all) sq (fun HP13 leP13 hR13=>?_)
 replace hp:=hp.le leP13
 refine ax (S1 SN) (le_b12.trans (leP13)) (au rfl (bD (ab rfl rfl rfl rfl) (EN role hp hR13 (qd hN) (by have:=mx (role:=role) hN (frm:=[at_]);omega)) rfl (fun v14 H14 ob14 hle14 hp14=>?_)))
 obtain⟨eH14,hO14⟩:=hp14
 subst H14
 obtain⟨a14,c14,rfl⟩:=hO14.form
 refine TL.pubO hO14 (.skip _ .all) sq (fun HP14 leP14 hQ14=>?_)
 refine ax (S1 SN) (le_b12.trans (leP13.trans (leP14))) (az (ah rfl rfl hQ14) rfl (iz ?_))
 exact TF.nil (ai (TC.ret (aR (.inr rfl) (ad rfl (RVal.tmp rfl)) (congrArg Value.bool (by unfold nF;exact decide_eq_decide.2 om)))))
theorem ER {H:Hp}{p:SProto}(role:Str)(hp:ProtoOk H p)(hN:qJ p)(hn:p.points.length≤1000){bw:Nat}{sv:Value}{ob:aq}{rows:List GRow}(hO:OwnSl 1 GRow.cells sv rows ob)(hrw:GRowsOk H rows)(hrl:rows.length≤40){fv:Value}{frm:List Int}(hf:RdSl H 1 I64.cells fv frm)(hfl:frm.length≤1000):
  FnX Tryz.prog 125 [.pointer (some ⟨bw,0,none⟩),fv] H ((bw,WK p role sv)::ob) (fun v H1 L1=>∃sv' ob' rows',L1=(bw,WK p role sv')::ob'∧OwnSl 1 GRow.cells sv' rows' ob'∧GRowsOk H1 rows'∧rows'.length≤40∧rows'.map (·.l)=(bZ p role (rows.map (·.l)) frm).2.2∧v= .tuple #[.int .i64 (bZ p role (rows.map (·.l)) frm).1,.int .i64 (bZ p role (rows.map (·.l)) frm).2.1]):=by
 obtain⟨sva,svc,rfl⟩:=hO.form
 have hsl:=mx (role:=role) hN (frm:=frm)
 have hnl:=qr (p:=p) (role:=role) (dC p role frm)
 refine FnX.enterM Tryz.func125 Tryz.ntmps125 rfl rfl (fun w0 M hM=>?_)
 refine el ?_;refine wS ?_;refine zm436 ?_;refine jM ?_;refine aO (S1 SN) (Hp.le.refl _) (fun _ _=>ko rfl (.here _) rfl) rfl (jM ?_);refine wG ?_;refine zm6 ?_
 refine au rfl (ka (ab rfl rfl rfl rfl) (Ey role hp hN hn hf hfl) rfl (fun v19 H19 ob19 hf19 hle19 hp19=>?_))
 obtain⟨eH19,hO19⟩:=hp19
 subst H19
 obtain⟨a19,c19,rfl⟩:=hO19.form
 refine TL.pubO hO19 (.skip _ (.past _ .all)) (fun p hp hm=>absurd (hM _ hm) (Nat.not_lt.2 (hf19 p hp))) (fun HP19 leP19 hA19=>?_)
 replace hp:=hp.le leP19
 replace hrw:=hrw.le leP19
 refine ax (S1 SN) leP19 (zm6 ?_);refine TF.nil (ai (rA ?_));refine zm436 ?_;refine jM ?_;refine aO (S1 SN) (Hp.le.refl _) (fun _ _=>ko rfl (.here _) rfl) rfl (jM ?_);refine wG ?_;refine zm6 ?_
 refine au rfl (ka (ab rfl rfl rfl rfl) (EN role hp hA19 (qd hN) (by have:=mx (role:=role) hN (frm:=frm);omega)) rfl (fun v29 H29 ob29 hf29 hle29 hp29=>?_))
 obtain⟨eH29,hO29⟩:=hp29
 subst H29
 obtain⟨a29,c29,rfl⟩:=hO29.form
 refine TL.pubO hO29 (.skip _ (.past _ .all)) (fun p hp hm=>absurd (hM _ hm) (Nat.not_lt.2 (hf29 p hp))) (fun HP29 leP29 hB29=>?_)
 replace hp:=hp.le leP29
 replace hrw:=hrw.le leP29
 replace hA19:=hA19.le leP29
 have hB1:=hB29
 have hA1:=hA19
 have hp1:=hp
 have hrw1:=hrw
 refine ax (S1 SN) leP29 (zm6 ?_);refine TF.nil (ai (ra ?_))
 refine aK (V:=fun k v obx H1=>[(8,.int .i64 k)]) (K:=[(0,_),(4,_),(5,_),(6,_),(7,_)]) (L:=fun k v obx H1=>St M w0 H H1 ((bw,WK p role (.slice sva rows.length svc))::ob)) (I:=fun k v obx H1=>(0≤k∧k≤(dC p role frm).length)∧HP29.le H1∧∀j:Nat,j<k.toNat→∀i,(dC p role frm)[j]? =some i→nF p role i=false) (μ:=fun k=>((dC p role frm).length - k).toNat) 0 (.slice none 0 0) [] HP29 ky ⟨o2q,.refl _,fun j h=>absurd h om⟩ (fun w hw=>by simpa only [List.append_nil] using hw) (fun k v obx H1 hI=>?_)
 obtain⟨⟨k0,k1⟩,hI1,hI2⟩:=hI
 have hA2:=hA1.le hI1
 have hB2:=hB1.le hI1
 have hp2:=hp1.le hI1
 replace hrw1:=hrw1.le hI1
 refine fk ?_;refine TL.run (ah rfl rfl hA2) rfl (zm3 ?_)
 refine ag (s:=34) rfl ?_ ?_<;>intro g34
 ·
  have q34:=of_decide_eq_true g34
  refine cv ?_;refine aw rfl rfl (ah rfl rfl hB2) rfl (fP ?_)
  refine af rfl ?_ ?_<;>intro c38
  ·
   have hn0:0<(eO p role (dC p role frm)).length:=by omega
   obtain⟨j,hx⟩:=aj (l:=(dC p role frm)) k0 om
   refine te ?_;refine aU [true] [(0,1),(1,1),(2,1),(3,4),(4,1),(5,1),(6,1),(7,4),(8,1),(9,1),(10,1),(11,4),(12,5)] kr kr (jM ?_)
   refine aO (S1 SN) (Hp.le.refl _) (fun _ _=>ko rfl (.here _) rfl) rfl (jM ?_);refine wG ?_;refine iz ?_
   refine az (ae rfl hA2 rfl om om) rfl (aO (S1 SN) (Hp.le.refl _) (fun _ _=>aL hA2 hx rfl rfl) rfl (au rfl (TL.call (ab rfl rfl rfl rfl) (lost_ok role hp2 hN hn j) rfl (fun v53 H53 hle53 hp53=>?_))))
   replace hrw1:=hrw1.le hle53
   subst hp53
   refine ax (S1 SN) hle53 (TF.nil (ai (TC.cond rfl (fun c53=>?_) (fun c53=>?_))))
   ·
    refine rC ?_
    have hEq:=Ge (sets:=rows.map (·.l)) hx c53 hn0
    exact aZ (.inr rfl) (co rfl (RVal.tmp rfl) (RVal.tmp rfl)) (fun w hw=>hw) ⟨_,_,rows,rfl,hO,hrw1,hrl,by rw [hEq],by rw [hEq]⟩
   refine d6 ?_
   exact ay (k+1) (.slice none 0 0) [] H53 ⟨o2q,hI1.trans hle53,fun j2 h2 i hi=>by by_cases e:j2<k.toNat;exact hI2 j2 e i hi;rw [show j2=k.toNat by omega,hx] at hi;cases hi;simpa using c53⟩ ky (fun w hw=>hw) om
  exact zq419
 have q34:=of_decide_eq_false g34
 refine gn ?_;refine pR ?_
 exact zq419
theorem Fe {H:Hp}{p:SProto}(role:Str)(hp:ProtoOk H p){bw:Nat}{sv:Value}{lv:Value}{l:List Int}(hl:RdSl H 1 I64.cells lv l)(hr:∀j∈l,0≤j∧j<p.points.length):
  KFn Tryz.prog bw (WK p role sv) 174 [.pointer (some ⟨bw,0,none⟩),lv] H (fun v H1 ob=>ob=[]∧H1=H∧v= .tuple #[.int .i64 (dP p role l).1,gs (dP p role l).2.1,.int .i64 (dP p role l).2.2]):=by
 have hpt:=hp.pt
 have hlm:=hl.max
 refine FnX.enter Tryz.func174 Tryz.ntmps174 rfl rfl (fun w0=>?_)
 refine dH ?_;refine kW ?_;refine kh ?_
 refine TC.loop (V:=fun(q:Int×Int×Str)=>[(7,.int .i64 q.2.1),(8,gs q.2.2),(9,.int .i64 q.1)]) (K:=[(0,_),(1,_),(4,_),(5,_),(6,_)]) (L:=fun(q:Int×Int×Str)=>_) (I:=fun(q:Int×Int×Str)=>(0≤q.1∧q.1≤l.length)∧gu p role q.1.toNat q.2.1 q.2.2 (l.drop q.1.toNat)=dP p role l) (μ:=fun(q:Int×Int×Str)=>(l.length - q.1).toNat) (i:=((0:Int),(0:Int),([]:Str))) ky ⟨o2q,rfl⟩ (fun w hw=>hw) (fun(q:Int×Int×Str) hI=>?_)
 obtain⟨⟨k0,k1⟩,hI3⟩:=hI
 refine fk ?_;refine TL.run (ah rfl rfl hl) rfl (zm1 ?_)
 refine af rfl ?_ ?_<;>intro c16
 ·
  obtain⟨j,hx⟩:=aj (l:=l) k0 c16
  have hjr:=hr j (List.mem_of_getElem? hx)
  obtain⟨x,hxp⟩:=aj (l:=p.points) hjr.1 hjr.2
  refine te ?_;refine aU [true] [(0,1),(1,1),(2,1),(3,1),(4,4),(5,1),(6,1),(7,1),(8,4),(9,1),(10,4),(11,3),(12,5)] kr kr (jM ?_);refine zm4 ?_;refine wG ?_
  refine iz ?_
  refine az (ae rfl hl rfl om om) rfl (aO (S1 SN) (Hp.le.refl _) (fun _ _=>aL hl hx rfl rfl) rfl (az (ae rfl hpt rfl om om) rfl (aO (S1 SN) (Hp.le.refl _) (fun _ _=>aY hpt hxp rfl rfl) rfl ?_)))
  refine TF.alloc rfl (fun b10=>?_)
  refine au rfl (ga ?_);refine ax (S0 (S1 SN)) (Hp.le.refl _) (TF.nil (ai (TC.seq ?_)));refine fW kr kr (z6 ?_);refine TQ.nil (ai (TC.seq (TC.seq ?_)))
  refine fW kr kr (kL ?_);refine TQ.run (bR rfl) rfl (gl ?_);refine TQ.run (aE rfl (.h1) rfl) rfl (wF ?_)
  refine af rfl ?_ ?_<;>intro c38
  ·
   refine fW kr kr (z6 ?_);refine TQ.nil (ai (fk ?_));refine zm0 ?_
   refine ag (s:=43) rfl ?_ ?_<;>intro g43
   ·
    have q43:=of_decide_eq_true g43
    refine eG ?_;refine eG ?_
    refine ag (s:=47) rfl ?_ ?_<;>intro g47
    ·
     have q47:=aQ g47
     refine gn ?_;refine cv ?_;refine iG ?_;refine nl ?_;refine od ?_
     refine aZ (.inr rfl) (fT rfl (RVal.tmp rfl) (RVal.tmp rfl) (RVal.tmp rfl)) (fun w hw=>hw.drop) ⟨[],rfl,rfl,rfl,by rw [← hI3,km (role:=role) hx hxp (by refine⟨by omega,fun h=>?_⟩;simp_all)];rfl⟩
    have q47:=aM g47
    refine eG ?_;refine nI ?_;refine fP ?_
    refine aV rfl ?_ ?_<;>intro c52
    ·
     refine nl ?_;refine od ?_
     refine aZ (.inr rfl) (fT rfl (RVal.tmp rfl) (RVal.tmp rfl) (RVal.tmp rfl)) (fun w hw=>hw.drop) ⟨[],rfl,rfl,rfl,by rw [← hI3,km (role:=role) hx hxp (by refine⟨by omega,fun h=>?_⟩;simp_all)];rfl⟩
    refine Ao ?_;refine iA ?_;refine iX ?_
    exact aD (q.1+1,2,x.frm) ⟨o2q,by have key:=jr (role:=role) (kind:=q.2.1) (peer:=q.2.2) (i:=q.1.toNat) hx hxp (by rintro⟨_,h⟩;apply h;constructor<;>simp_all);rw [if_pos c38,if_pos c38] at key;show gu p role (q.1+1).toNat 2 x.frm (l.drop (q.1+1).toNat)=dP p role l;rw [show(q.1+1).toNat=q.1.toNat+1 by omega,← key];exact hI3⟩ ky (fun w hw=>hw.drop) om
   have q43:=of_decide_eq_false g43
   refine AO ?_;refine pR ?_;refine Ao ?_;refine iA ?_;refine iX ?_
   exact aD (q.1+1,2,x.frm) ⟨o2q,by have key:=jr (role:=role) (kind:=q.2.1) (peer:=q.2.2) (i:=q.1.toNat) hx hxp om;rw [if_pos c38,if_pos c38] at key;show gu p role (q.1+1).toNat 2 x.frm (l.drop (q.1+1).toNat)=dP p role l;rw [show(q.1+1).toNat=q.1.toNat+1 by omega,← key];exact hI3⟩ ky (fun w hw=>hw.drop) om
  refine gp ?_;refine fO ?_
  refine ag (s:=43) rfl ?_ ?_<;>intro g43
  ·
   have q43:=of_decide_eq_true g43
   refine eG ?_;refine eG ?_
   refine ag (s:=47) rfl ?_ ?_<;>intro g47
   ·
    have q47:=aQ g47
    refine gn ?_;refine cv ?_;refine iG ?_;refine nl ?_;refine od ?_
    refine aZ (.inr rfl) (fT rfl (RVal.tmp rfl) (RVal.tmp rfl) (RVal.tmp rfl)) (fun w hw=>hw.drop) ⟨[],rfl,rfl,rfl,by rw [← hI3,km (role:=role) hx hxp (by refine⟨by omega,fun h=>?_⟩;simp_all)];rfl⟩
   have q47:=aM g47
   refine eG ?_;refine nI ?_;refine fP ?_
   refine aV rfl ?_ ?_<;>intro c52
   ·
    refine nl ?_;refine od ?_
    refine aZ (.inr rfl) (fT rfl (RVal.tmp rfl) (RVal.tmp rfl) (RVal.tmp rfl)) (fun w hw=>hw.drop) ⟨[],rfl,rfl,rfl,by rw [← hI3,km (role:=role) hx hxp (by refine⟨by omega,fun h=>?_⟩;simp_all)];rfl⟩
   refine Ao ?_;refine iA ?_;refine iX ?_
   exact aD (q.1+1,1,x.to) ⟨o2q,by have key:=jr (role:=role) (kind:=q.2.1) (peer:=q.2.2) (i:=q.1.toNat) hx hxp (by rintro⟨_,h⟩;apply h;constructor<;>simp_all);rw [if_neg c38,if_neg c38] at key;show gu p role (q.1+1).toNat 1 x.to (l.drop (q.1+1).toNat)=dP p role l;rw [show(q.1+1).toNat=q.1.toNat+1 by omega,← key];exact hI3⟩ ky (fun w hw=>hw.drop) om
  have q43:=of_decide_eq_false g43
  refine AO ?_;refine pR ?_;refine Ao ?_;refine iA ?_;refine iX ?_
  exact aD (q.1+1,1,x.to) ⟨o2q,by have key:=jr (role:=role) (kind:=q.2.1) (peer:=q.2.2) (i:=q.1.toNat) hx hxp om;rw [if_neg c38,if_neg c38] at key;show gu p role (q.1+1).toNat 1 x.to (l.drop (q.1+1).toNat)=dP p role l;rw [show(q.1+1).toNat=q.1.toNat+1 by omega,← key];exact hI3⟩ ky (fun w hw=>hw.drop) om
 refine fN ?_;refine dH ?_;refine zm3 ?_;refine em ?_
 exact aZ (.inr rfl) (fT rfl (RVal.tmp rfl) (RVal.tmp rfl) (RVal.tmp rfl)) (fun w hw=>hw) ⟨[],rfl,rfl,rfl,by rw [← hI3,List.drop_eq_nil_of_le om];rfl⟩
theorem EB {H:Hp}{l:List Str}{v:Value}(s:Str)(hL:RdSl H 1 Str.cells v l)(hlen:l.length≤1000000):
  Fn Tryz.prog 185 [v,gs s] H (fun r H1=>RdSl H1 1 Str.cells r (cj l s)):=by
 obtain⟨va,vc,rfl⟩:=hL.len
 have hrm:=hL.room _ _ _ rfl
 refine Fn.enter Tryz.func185 Tryz.ntmps185 rfl rfl (fun w0=>?_)
 refine jK ?_;refine zm7 ?_
 refine TC.block (TC.loop (V:=fun k=>[(5,.int .i64 k)]) (K:=[(0,_),(1,_),(4,_)]) (L:=fun k=>_) (I:=fun k=>0≤k∧k≤l.length∧cj l s=l.take k.toNat++cj (l.drop k.toNat) s) (μ:=fun k=>(l.length - k).toNat) (i:=(0:Int)) ky ⟨by omega,by omega,by simp⟩ (fun w hw=>hw) (fun k hI=>?_))
 refine DO ?_;refine zm3 ?_
 refine ag (s:=11) rfl ?_ ?_<;>intro g11
 ·
  have q11:=of_decide_eq_true g11
  obtain⟨x,hx⟩:=aj (l:=l) hI.1 om
  refine eG ?_;refine aw rfl rfl (ae rfl hL rfl om om) rfl (aw rfl rfl (aL hL hx rfl rfl) rfl (cv ?_));refine nI ?_;refine zm1 ?_
  refine TC.cond rfl ?_ ?_<;>intro c18
  · refine dn ?_;refine TC.block (z2 ?_);exact bn (aD (k+1) ⟨by omega,by omega,Iw hI.1 hI.2.2 hx (by simp_all)⟩ ky (fun w hw=>hw) om)
  refine fN ?_;refine DO ?_;refine zm3 ?_
  refine ag (s:=25) rfl ?_ ?_<;>intro g25
  ·
   have q25:=of_decide_eq_true g25
   exact zq505
  exact zq477
 have q11:=of_decide_eq_false g11
 refine dE ?_;refine jL ?_;refine pR ?_;refine fN ?_;refine DO ?_;refine zm3 ?_
 refine ag (s:=25) rfl ?_ ?_<;>intro g25
 ·
  have q25:=of_decide_eq_true g25
  obtain⟨x,hx⟩:=aj (l:=l) hI.1 om
  exact zq505
 exact zq477
theorem jW {H:Hp}{l:List Str}{v:Value}(s:Str)(hL:RdSl H 1 Str.cells v l)(hlen:l.length≤100000):
  Fn Tryz.prog 153 [v,gs s] H (fun r H1=>RdSl H1 1 Str.cells r (l.foldl cj [s])):=by
 obtain⟨la,lc,rfl⟩:=hL.len
 refine Fn.enter Tryz.func153 Tryz.ntmps153 rfl rfl (fun w0=>?_)
 refine oF ?_
 refine aA rfl rfl rfl rfl (fun b8=>?_)
 refine oP ?_
 refine dT sq (fun H_b8 le_b8 rd_b8=>?_)
 have h8:RdSl H_b8 1 Str.cells _ [s]:=RdSl.blk (cap:=1) rd_b8 (by intro x hx;rfl) kr sq
 replace hL:=hL.le le_b8
 refine zm9 ?_
 refine aK (V:=fun k v ob H1=>[(5,v),(6,.int .i64 k)]) (K:=[(0,_),(4,_)]) (L:=fun k v ob H1=>St [] w0 H H1 ob) (I:=fun k v ob H1=>0≤k∧k≤l.length∧ob=[]∧H_b8.le H1∧RdSl H1 1 Str.cells v ((l.take k.toNat).foldl cj [s])) (μ:=fun k=>(l.length - k).toNat) 0 (.slice (some ⟨b8,0,none⟩) 1 1) [] H_b8 ky ⟨by omega,by omega,rfl,Hp.le.refl _,h8⟩ (fun w hw=>hw) (fun k v ob H1 hI=>?_)
 obtain⟨h0,h1,rfl,hle,hR⟩:=hI
 replace hL:=hL.le hle
 refine Aa ?_
 refine af rfl ?_ ?_<;>intro c12
 ·
  obtain⟨x,hx⟩:=aj (l:=l) h0 c12
  have hfl:=Cf s (l.take k.toNat)
  refine fi ?_;refine jN ?_;refine ov ?_;refine TL.run (aL hL hx rfl rfl) rfl (TL.call (ab rfl rfl rfl rfl) (EB x hR (by simp at hfl;omega)) rfl (fun v20 H20 hle20 hp20=>?_))
  refine iW ?_
  exact ay (k+1) _ [] H20 ⟨by omega,by omega,rfl,hle.trans hle20,by rw [bi h0 hx,List.foldl_append];exact hp20⟩ ky (fun w hw=>hw) om
 refine jA ?_
 exact aR (.inr rfl) (ad rfl (RVal.tmp rfl)) (by rw [aX c12 h0] at hR;exact hR)
theorem AS {H:Hp}{p:SProto}(role:Str)(hp:ProtoOk H p){bw:Nat}{sv:Value}{lv:Value}{l:List Int}(hl:RdSl H 1 I64.cells lv l)(hr:∀j∈l,0≤j∧j<p.points.length)(hll:l.length≤1000)(h6:∀x∈p.points,x.arms.length≤6):
  KFn Tryz.prog bw (WK p role sv) 175 [.pointer (some ⟨bw,0,none⟩),lv] H (fun v H1 ob=>ob=[]∧∃lv',v= .tuple #[lv',.bool (qF p l)]∧RdSl H1 1 Str.cells lv' (fu p l)):=by
 refine FnX.enter Tryz.func175 Tryz.ntmps175 rfl rfl (fun w0=>?_)
 refine eE ?_;refine kg ?_
 refine aK (V:=fun k v ob H1=>[(6,v),(7,.int .i64 k)]) (K:=[(0,_),(1,_),(4,_),(5,_)]) (L:=fun k v ob H1=>St (keys [(bw,WK p role sv)]) w0 H H1 [(bw,WK p role sv)]) (I:=fun k v ob H1=>(0≤k∧k≤l.length)∧H.le H1∧RdSl H1 1 Str.cells v (py p [] (l.take k.toNat))) (μ:=fun k=>(l.length - k).toNat) 0 (.slice none 0 0) [] H ky ⟨o2q,.refl _,RdSl.nil⟩ (fun w hw=>hw) (fun k v ob H1 hI=>?_)
 obtain⟨⟨k0,k1⟩,hIA,hI3⟩:=hI
 have hp1:=hp.le hIA
 have hl1:=hl.le hIA
 have hpt1:=hp1.pt
 have hlm:=hl.max
 refine fk ?_;refine TL.run (ah rfl rfl hl1) rfl (zm1 ?_)
 refine af rfl ?_ ?_<;>intro c14
 ·
  obtain⟨j,hx⟩:=aj (l:=l) k0 c14
  have hjr:=hr j (List.mem_of_getElem? hx)
  obtain⟨x,hxp⟩:=aj (l:=p.points) hjr.1 hjr.2
  have hxa:=(hp1.ps x (List.mem_of_getElem? hxp)).a
  have hx6:=h6 x (List.mem_of_getElem? hxp)
  have hln:=BQ h6 (l.take k.toNat) []
  have hlt:=List.length_take_le k.toNat l
  have hlt2:(l.take k.toNat).length≤l.length:=by rw [List.length_take];omega
  simp only [List.length_nil] at hln
  refine nc ?_;refine wT ?_;refine gl ?_;refine z6 ?_
  refine TQ.run (ae rfl hl1 rfl om om) rfl (TQ.run (aL hl1 hx rfl rfl) rfl (TQ.run (ae rfl hpt1 rfl om om) rfl (gl ?_)));refine TQ.run (aT hpt1 hxp rfl rfl) rfl (k4 ?_)
  refine iq ?_
  refine aK (V:=fun m v ob H2=>[(6,v),(9,.int .i64 m)]) (K:=[(0,_),(1,_),(4,_),(5,_),(7,_),(8,_),(11,_),(12,_),(13,_),(14,_),(17,_),(18,_),(19,_),(20,_),(21,_),(22,_),(23,_),(24,_),(25,_),(26,_),(27,_),(28,_)]) (L:=fun m v ob H2=>St (keys [(bw,WK p role sv)]) w0 H H2 [(bw,WK p role sv)]) (I:=fun m v ob H2=>(0≤m∧m≤x.arms.length)∧H1.le H2∧RdSl H2 1 Str.cells v (lZ (py p [] (l.take k.toNat)) (x.arms.take m.toNat))) (μ:=fun m=>(x.arms.length - m).toNat) 0 v [] H1 ky ⟨o2q,.refl _,hI3⟩ (fun w hw=>hw) (fun m v ob H2 hI=>?_)
  obtain⟨⟨m0,m1⟩,hI2,hI3⟩:=hI
  have hxa2:=hxa.le hI2
  have hxm:=hxa.max
  refine fk ?_;refine TL.run (ah rfl rfl hxa2) rfl (zm1 ?_)
  refine af rfl ?_ ?_<;>intro c32
  ·
   obtain⟨a,ha⟩:=aj (l:=x.arms) m0 c32
   have hla:=u4 (py p [] (l.take k.toNat)) (x.arms.take m.toNat)
   have hlt3:(x.arms.take m.toNat).length≤x.arms.length:=by rw [List.length_take];omega
   refine fi ?_;refine jN ?_;refine TL.run (ae rfl hxa2 rfl om om) rfl (zm5 ?_)
   refine TL.run (aT hxa2 ha rfl rfl) rfl (TL.call (ab rfl rfl rfl rfl) (jW a.label hI3 om) rfl (fun v41 H41 hle41 hp41=>?_))
   refine iW ?_
   exact ay (m+1) v41 [] H41 ⟨o2q,hI2.trans hle41,by rw [Gi m0 ha];exact hp41⟩ ky (fun w hw=>hw) om
  refine kJ ?_
  exact ay (k+1) v [] H2 ⟨o2q,hIA.trans hI2,by rw [Gh k0 hx hxp];rw [show x.arms.take m.toNat=x.arms from List.take_of_length_le om] at hI3;exact hI3⟩ ky (fun w hw=>hw) om
 refine tx ?_
 rw [List.take_of_length_le om] at hI3
 have hO:RdSl H1 1 Str.cells v (fu p l):=hI3
 refine zm9 ?_
 refine TC.loop (V:=fun k=>[(10,.int .i64 k)]) (K:=[(0,_),(1,_),(4,_),(5,_),(6,_)]) (L:=fun k=>_) (I:=fun k=>(0≤k∧k≤l.length)∧l.all (rM p (fu p l).length)=(l.drop k.toNat).all (rM p (fu p l).length)) (μ:=fun k=>(l.length - k).toNat) (i:=(0:Int)) ky ⟨o2q,rfl⟩ (fun w hw=>hw) (fun k hI=>?_)
 obtain⟨⟨k0,k1⟩,hal⟩:=hI
 refine fk ?_;refine TL.run (ah rfl rfl hl1) rfl (zm1 ?_)
 refine af rfl ?_ ?_<;>intro c45
 ·
  obtain⟨j,hx⟩:=aj (l:=l) k0 c45
  have hjr:=hr j (List.mem_of_getElem? hx)
  obtain⟨x,hxp⟩:=aj (l:=p.points) hjr.1 hjr.2
  have hxa:=(hp1.ps x (List.mem_of_getElem? hxp)).a
  refine nc ?_;refine wT ?_;refine gl ?_;refine z6 ?_
  refine TQ.run (ae rfl hl1 rfl om om) rfl (TQ.run (aL hl1 hx rfl rfl) rfl (TQ.run (ae rfl hpt1 rfl om om) rfl (gl ?_)))
  refine TQ.run (aT hpt1 hxp rfl rfl) rfl (TQ.run (ah rfl rfl hxa) rfl (TQ.run (aG rfl) rfl (TQ.run (ah rfl rfl hO) rfl ?_)));refine k4 ?_
  refine aV rfl ?_ ?_<;>intro c63
  ·
   refine nl ?_;refine iy ?_
   exact aZ (.inr rfl) (co rfl (RVal.tmp rfl) (RVal.tmp rfl)) (fun w hw=>hw) ⟨[],rfl,rfl,_,by rw [show qF p l=false from ce (p:=rM p (fu p l).length) k0 hx (by unfold rM;rw [hxp];simpa using c63) hal],hO⟩
  refine d6 ?_
  exact aD (k+1) ⟨o2q,bC (p:=rM p (fu p l).length) k0 hx (by unfold rM;rw [hxp];simpa using c63) hal⟩ ky (fun w hw=>hw) om
 refine fN ?_;refine nl ?_
 exact aZ (.inr rfl) (co rfl (RVal.tmp rfl) (RVal.tmp rfl)) (fun w hw=>hw) ⟨[],rfl,rfl,_,by rw [show qF p l=true from bU (p:=rM p (fu p l).length) k0 c45 hal],hO⟩
theorem eqCar (k k':Int)(s s':Str):jj Tryz.prog 4 40 [.int .i64 k,gs s] [.int .i64 k',gs s']=some (decide (k=k'∧s=s')):=by
 have h:jj Tryz.prog 4 40 [.int .i64 k,gs s] [.int .i64 k',gs s']=some ((k==k')&&(((ByteArray.mk s.toArray).toList==(ByteArray.mk s'.toArray).toList)&&true)):=by kernel_rfl
 rw [h,qy,qy]
 by_cases h1:k=k'<;>by_cases h2:s=s'<;>simp [h1,h2]
theorem oR {H:Hp}{p:SProto}(role:Str)(hp:ProtoOk H p){bw:Nat}{sv:Value}{lv:Value}{l:List Int}(hl:RdSl H 1 I64.cells lv l)(hr:∀j∈l,0≤j∧j<p.points.length)(s:Str)(hll:l.length≤1000):
  KFn Tryz.prog bw (WK p role sv) 176 [.pointer (some ⟨bw,0,none⟩),lv,gs s] H (fun v H1 ob=>H1=H∧∃tv,v= .tuple #[.agg #[.int .i64 (eQ p l s).1,gs (eQ p l s).2.1],tv,.bool (eQ p l s).2.2.2]∧((eQ p l s).2.2.2=true→OwnSl 1 I64.cells tv (eQ p l s).2.2.1 ob)):=by
 have hpt:=hp.pt
 have hlm:=hl.max
 refine FnX.enter Tryz.func176 Tryz.ntmps176 rfl rfl (fun w0=>?_)
 refine zm2 ?_
 refine TL.alloc rfl (fun b6=>?_)
 refine kS ?_;refine zm2 ?_
 refine TL.alloc rfl (fun b9=>?_)
 refine TL.nil (ai (kg ?_))
 refine aK (V:=fun(q:Int×Int×Str) v ob H1=>[(10,v),(11,.int .i64 q.1)]) (K:=[(0,_),(1,_),(2,_),(6,_),(7,_),(8,_),(9,_)]) (L:=fun(q:Int×Int×Str) v ob H1=>St (keys [(bw,WK p role sv)]) w0 H H ((b9,[.int .i64 q.2.1,gs q.2.2])::(b6,[.int .i64 0,gs []])::(bw,WK p role sv)::ob)) (I:=fun(q:Int×Int×Str) v ob H1=>(0≤q.1∧q.1≤l.length)∧∃to,OwnSl 1 I64.cells v to ob∧kC p s q.2.1 q.2.2 to (l.drop q.1.toNat)=eQ p l s∧to.length≤q.1.toNat) (μ:=fun(q:Int×Int×Str)=>(l.length - q.1).toNat) ((0:Int),(0:Int),([]:Str)) (.slice none 0 0) [] H ky ⟨o2q,[],OwnSl.nil,rfl,by simp⟩ (fun w hw=>hw) (fun q v ob H1 hI=>?_)
 obtain⟨⟨k0,k1⟩,to,hO,hI3,hI4⟩:=hI
 obtain⟨va,vc,rfl⟩:=hO.form
 refine fk ?_;refine TL.run (ah rfl rfl hl) rfl (zm1 ?_)
 refine af rfl ?_ ?_<;>intro c17
 ·
  obtain⟨j,hx⟩:=aj (l:=l) k0 c17
  have hjr:=hr j (List.mem_of_getElem? hx)
  obtain⟨x,hxp⟩:=aj (l:=p.points) hjr.1 hjr.2
  have hxa:=(hp.ps x (List.mem_of_getElem? hxp)).a
  have hfr:=kp (x.arms.map (·.label)) s
  rw [List.length_map] at hfr
  refine nc ?_;refine wT ?_;refine gl ?_;refine gl ?_;refine TQ.run (aE rfl (.h2) rfl) rfl (mV ?_)
  refine TQ.run (ae rfl hl rfl om om) rfl (TQ.run (aL hl hx rfl rfl) rfl (TQ.run (ae rfl hpt rfl om om) rfl (gl ?_)));refine TQ.run (aT hpt hxp rfl rfl) rfl (k4 ?_)
  refine dH ?_;refine ar (ab rfl rfl rfl rfl) (C7 s hxa) rfl (kM ?_)
  refine af rfl ?_ ?_<;>intro c36
  ·
   refine TC.exit (cI (dZ (ai ?_)));refine z2 ?_
   exact ay (q.1+1,q.2) _ ob H ⟨o2q,_,hO,by rw [show(q.1+1).toNat=q.1.toNat+1 by omega,← Gy hx hxp c36];exact hI3,by omega⟩ ky (fun w hw=>hw) om
  obtain⟨a,ha⟩:=aj (l:=x.arms) (i:=bS (x.arms.map (·.label)) s) om om
  refine gp ?_;refine TC.seq (fW kr kr (TQ.run (aG rfl) rfl (TQ.run (bK rfl rfl hO) rfl ?_)));refine mV ?_
  refine fV (s:=40) rfl ?_ ?_<;>intro g40
  ·
   have q40:=of_decide_eq_true g40
   refine nk ?_;refine bz rfl rfl (ae rfl hxa rfl om om) rfl (kf ?_)
   refine bz rfl rfl (qn hxa ha rfl rfl) rfl (bz rfl rfl (bA rfl (.here _) rfl) rfl (bz rfl rfl (uw rfl rfl kr kr (eqCar _ _ _ _)) rfl (k4 ?_)))
   refine TC.cond rfl ?_ ?_<;>intro c48
   ·
    refine il ?_;refine wo ?_;refine gm ?_;refine od ?_
    have hE:eQ p l s=(q.2.1,q.2.2,[],false):=by rw [← hI3];exact Jm hx hxp c36 ha ⟨by omega,fun h=>by simp [h.1,h.2] at c48⟩
    exact aZ (.inr rfl) (fT rfl (RVal.cellA rfl (.h1) rfl) (RVal.tmp rfl) (RVal.tmp rfl)) (fun w hw=>hw.drop.drop) ⟨ob,rfl,rfl,_,by rw [hE];rfl,fun h=>by rw [hE] at h ⊢;first | exact hO | cases h⟩
   refine tz ?_;refine TL.run (ae rfl hxa rfl om om) rfl (zm5 ?_);refine TL.run (qn hxa ha rfl rfl) rfl (ik ?_);refine jN ?_;refine z7 ?_
   refine aA rfl rfl rfl rfl (fun b61=>?_)
   refine TL.append (enc:=I64.cells) rfl rfl rfl hO (Src.own [a.next] (.here _) rfl rfl) (by simp;omega) rfl (.s3 (.skip _ .all)) rfl (fun a62 c62 ob62 hO62=>?_)
   refine iW ?_
   exact ay (q.1+1,a.ck,a.cn) _ ob62 H ⟨o2q,_,hO62,by rw [show(q.1+1).toNat=q.1.toNat+1 by omega,← yw hx hxp c36 ha (by rintro⟨h1,h2⟩;exact h2 (by simpa using c48))];exact hI3,by simp only [List.length_append,List.length_cons,List.length_nil];omega⟩ ky (fun w hw=>hw.drop) om
  have q40:=of_decide_eq_false g40
  refine Al ?_;refine kE rfl rfl rfl rfl (kE rfl rfl rfl rfl (kE rfl rfl rfl rfl (k4 ?_)));refine gK rfl (tz ?_);refine TL.run (ae rfl hxa rfl om om) rfl (zm5 ?_)
  refine TL.run (qn hxa ha rfl rfl) rfl (ik ?_);refine jN ?_;refine z7 ?_
  refine aA rfl rfl rfl rfl (fun b61=>?_)
  refine TL.append (enc:=I64.cells) rfl rfl rfl hO (Src.own [a.next] (.here _) rfl rfl) (by simp;omega) rfl (.s3 (.skip _ .all)) rfl (fun a62 c62 ob62 hO62=>?_)
  refine iW ?_
  exact ay (q.1+1,a.ck,a.cn) _ ob62 H ⟨o2q,_,hO62,by rw [show(q.1+1).toNat=q.1.toNat+1 by omega,← yw hx hxp c36 ha om];exact hI3,by simp only [List.length_append,List.length_cons,List.length_nil];omega⟩ ky (fun w hw=>hw.drop) om
 refine fN ?_;refine il ?_;refine zm0 ?_;refine wo ?_;refine gm ?_
 have hE:eQ p l s=(q.2.1,q.2.2,to,true):=by rw [← hI3];exact(by rw [List.drop_eq_nil_of_le om];rfl)
 exact aZ (.inr rfl) (fT rfl (RVal.cellA rfl (.h1) rfl) (RVal.tmp rfl) (RVal.tmp rfl)) (fun w hw=>hw.drop.drop) ⟨ob,rfl,rfl,_,by rw [hE];rfl,fun h=>by rw [hE] at h ⊢;first | exact hO | cases h⟩
theorem turn_ok {H:Hp}{p:SProto}(role:Str)(hp:ProtoOk H p)(hN:qJ p)(hn:p.points.length≤1000){bw:Nat}{sv:Value}{ob:aq}{rows:List GRow}(hO:OwnSl 1 GRow.cells sv rows ob)(hrw:GRowsOk H rows)(hrl:rows.length≤40)(h6:∀x∈p.points,x.arms.length≤6){fv:Value}{set:List Int}(hf:RdSl H 1 I64.cells fv set)(hr:∀j∈set,0≤j∧j<p.points.length)(hfl:set.length≤1000):
  FnX Tryz.prog 126 [.pointer (some ⟨bw,0,none⟩),fv] H ((bw,WK p role sv)::ob) (fun v H1 L1=>∃sv' ob' rows' av oa,L1=(bw,WK p role sv')::(ob'++oa)∧OwnSl 1 GRow.cells sv' rows' ob'∧GRowsOk H1 rows'∧rows'.length≤40∧rows'.map (·.l)=(bQ p role (rows.map (·.l)) set).2.2∧OwnSl 4 SArm.cells av (bQ p role (rows.map (·.l)) set).1.2.2 oa∧v= .tuple #[.agg #[.int .i64 (bQ p role (rows.map (·.l)) set).1.1,gs (bQ p role (rows.map (·.l)) set).1.2.1,av],.int .i64 (bQ p role (rows.map (·.l)) set).2.1]):=by
 refine FnX.enterM Tryz.func126 Tryz.ntmps126 rfl rfl (fun w0 M hM=>?_)
 refine zm2 ?_
 refine TL.alloc rfl (fun b4=>?_)
 refine tH ?_;refine TL.run (ah rfl rfl hf) rfl (zm1 ?_)
 refine af rfl ?_ ?_<;>intro c24
 ·
  refine z1 ?_
  have hE:bQ p role (rows.map (·.l)) set=((0,[],[]),0,rows.map (·.l)):=by unfold bQ;rw [if_pos om]
  exact aZ (.inr rfl) (co rfl (RVal.cellA rfl (.here _) rfl) (RVal.tmp rfl)) (fun w hw=>by rw [List.append_nil];exact hw.drop) ⟨_,ob,rows,.slice none 0 0,[],rfl,hO,hrw,hrl,by rw [hE],by rw [hE];exact OwnSl.nil,by rw [hE];rfl⟩
 refine tz ?_
 refine pO (X:=[(b4,_)]) (b:=bw) rfl (ab rfl rfl rfl rfl) (Fe role hp hf hr) rfl (fun v29 H29 ob29 hle29 hf29 hp29=>?_)
 obtain⟨eb29,eH29,rfl⟩:=hp29
 subst eb29
 replace eH29:=eH29.symm
 subst eH29
 rw [List.append_nil]
 refine lq ?_;refine zm3 ?_;refine kM ?_
 refine aV rfl ?_ ?_<;>intro c34
 ·
  refine k9 ?_;refine zm0 ?_;refine Hd ?_
  have hE:bQ p role (rows.map (·.l)) set=((0,[],[]),(dP p role set).2.2,rows.map (·.l)):=by unfold bQ;rw [if_neg om,if_pos c34]
  exact aZ (.inr rfl) (co rfl (RVal.cellA rfl (.here _) rfl) (RVal.tmp rfl)) (fun w hw=>by rw [List.append_nil];exact hw.drop) ⟨_,ob,rows,.slice none 0 0,[],rfl,hO,hrw,hrl,by rw [hE],by rw [hE];exact OwnSl.nil,by rw [hE];rfl⟩
 have h34:¬(dP p role set).2.2≠0:=by simpa using c34
 refine tz ?_
 refine pO (X:=[(b4,_)]) (b:=bw) rfl (ab rfl rfl rfl rfl) (AS role hp hf hr hfl h6) rfl (fun v40 H40 ob40 hle40 hf40 hp40=>?_)
 obtain⟨eb40,lv40,rfl,hlab⟩:=hp40
 subst eb40
 rw [List.append_nil]
 replace hp:=hp.le hle40
 replace hf:=hf.le hle40
 replace hrw:=hrw.le hle40
 obtain⟨la,lc,rfl⟩:=hlab.len
 have hlm:=hlab.max
 refine lq ?_;refine iM ?_;refine fO ?_
 refine ag (s:=45) rfl ?_ ?_<;>intro g45
 ·
  have q45:=of_decide_eq_true g45
  refine eG ?_;refine zm1 ?_
  refine TC.cond rfl ?_ ?_<;>intro c48
  ·
   refine z1 ?_
   have hE:bQ p role (rows.map (·.l)) set=((0,[],[]),803,rows.map (·.l)):=by unfold bQ;rw [if_neg om,if_neg h34,if_pos ⟨q45,by simpa using c48⟩]
   exact aZ (.inr rfl) (co rfl (RVal.cellA rfl (.here _) rfl) (RVal.tmp rfl)) (fun w hw=>by rw [List.append_nil];exact hw.drop) ⟨_,ob,rows,.slice none 0 0,[],rfl,hO,hrw,hrl,by rw [hE],by rw [hE];exact OwnSl.nil,by rw [hE];rfl⟩
  exact zq515
 have q45:=of_decide_eq_false g45
 refine jL ?_;refine pR ?_
 exact zq515
theorem EV:∀{s:Str} {k:Nat},s[k]? =some 46→(∀j,j<k→s[j]? ≠some 46)→Lib.index s [46]=(k:Int)
 | [],_,h,_=>by simp at h
 | b::l,0,h,_=>by
  simp at h;subst h
  simp [Lib.index,List.isPrefixOf]
 | b::l,k+1,h,hn=>by
  have h0:b≠46:=fun e=>hn 0 om (by simp [e])
  have ih:=EV (s:=l) (k:=k) (by simpa using h) (fun j hj=>by have:=hn (j+1) om;simpa using this)
  have h1:((46:UInt8)==b)=false:=by simpa using Ne.symm h0
  have h2:((k:Int)== -1)=false:=by rw [beq_eq_false_iff_ne];omega
  simp [Lib.index,List.isPrefixOf,h1,ih,h2]
theorem BY:∀{s:Str},(∀j,j<s.length→s[j]? ≠some 46)→Lib.index s [46]= -1
 | [],_=>by simp [Lib.index]
 | b::l,hn=>by
  have h0:b≠46:=fun e=>hn 0 sq (by simp [e])
  have ih:=BY (s:=l) (fun j hj=>by have:=hn (j+1) (by simp;omega);simpa using this)
  have h1:((46:UInt8)==b)=false:=by simpa using Ne.symm h0
  simp [Lib.index,List.isPrefixOf,h1,ih]
theorem cut_hit {s:Str}{k:Nat}(h:s[k]? =some 46)(hn:∀j,j<k→s[j]? ≠some 46):n7 s=(s.take k,s.drop (k+1),true):=by
 unfold n7 Lib.cut
 rw [EV h hn,if_pos om]
 simp
theorem Jj {s:Str}(hn:∀j,j<s.length→s[j]? ≠some 46):n7 s=(s,[],false):=by
 unfold n7 Lib.cut
 rw [BY hn,if_neg om]
def mq (s:Str):Bool:=aN (n7 s).1&&(!(n7 s).2.2||aN (n7 s).2.1)
theorem nL {s:Str}{k:Int}(k0:0≤k)(h:s[k.toNat]? =some 46)(hn:∀j:Nat,j<k.toNat→s[j]? ≠some 46):mq s=(aN (s.take k.toNat)&&aN (s.drop (k+1).toNat)):=by
 unfold mq
 rw [cut_hit h hn,show(k+1).toNat=k.toNat+1 by omega];rfl
theorem lF {s:Str}(hn:∀j:Nat,j<s.length→s[j]? ≠some 46):mq s=aN s:=by
 unfold mq
 rw [Jj hn];simp
theorem mP {ck:Int}{cn:Str}(h:ck=5):dM ck cn=mq cn:=by subst h;rfl
theorem gk {ck:Int}{cn:Str}(h:¬ck=5):dM ck cn=(decide (0≤ck)&&(decide (ck<5)&&decide (cn=[]))):=by
 unfold dM
 by_cases h1:ck<0∨5<ck
 ·rw [if_pos h1]
  rcases h1 with h1 | h1
  ·rw [show decide (0≤ck)=false from decide_eq_false om];rfl
  ·rw [show decide (ck<5)=false from decide_eq_false om];simp
 ·rw [if_neg h1,if_pos h,show decide (0≤ck)=true from decide_eq_true om,show decide (ck<5)=true from decide_eq_true om];simp
def cO (roles:List Str)(n:Int)(x:SPoint):Bool:=ez x||(eT roles x&&eA x.arms n)
def jX (p:SProto):Bool:=aN p.name&&(decide ((2:Int)≤p.roles.length)&&(decide ((p.roles.length:Int)≤5)&&(dt p.roles&&(decide ((1:Int)≤p.points.length)&&decide ((p.points.length:Int)≤24)))))
def dw (p:SProto):Bool:=jX p&&(p.roles.all aN&&p.points.all (cO p.roles p.points.length))
theorem u8_of {c:UInt8}(h:(c.toNat:Int)=46):c=46:=by
 apply UInt8.toNat_inj.1
 have:(46:UInt8).toNat=46:=rfl
 omega
section
variable {l:List SArm}{n k m:Int}{a b:SArm}
theorem FP (k0:0≤k)(hx:l[k.toNat]? =some a)(h:f8 n a=false)(hal:l.all (f8 n)=(l.drop k.toNat).all (f8 n)):false=eA l n:=by
 have h1:l.all (f8 n)=false:=ce k0 hx h hal
 unfold eA;rw [h1];simp
theorem FO (k0:0≤k)(m0:0≤m)(hm:m<k)(hx:l[k.toNat]? =some a)(hb:l[m.toNat]? =some b)(h:b.label=a.label):false=eA l n:=by
 have h1:dt (l.map (·.label))=false:=by
  unfold dt
  simp only [decide_eq_false_iff_not]
  intro hn
  have h2:(l.map (·.label))[k.toNat]? =some a.label:=dz hx
  have h3:(l.map (·.label))[m.toNat]? =some b.label:=dz hb
  obtain⟨hi,hi'⟩:=List.getElem?_eq_some_iff.1 h2
  obtain⟨hj,hj'⟩:=List.getElem?_eq_some_iff.1 h3
  exact List.pairwise_iff_getElem.1 hn m.toNat k.toNat hj hi om (by rw [hi',hj',h])
 unfold eA;rw [h1];simp
theorem Im (k0:0≤k)(hx:l[k.toNat]? =some a)(hnd:((l.map (·.label)).take k.toNat).Nodup)(hm:k≤m)(h:∀j:Nat,j<m.toNat→(l.map (·.label))[j]? ≠some a.label):((l.map (·.label)).take (k+1).toNat).Nodup:=by
 refine nO k0 (dz hx) hnd (fun hm2=>?_)
 obtain⟨j,hj⟩:=List.getElem?_of_mem hm2
 have hlt:=(List.getElem?_eq_some_iff.1 hj).1
 rw [List.length_take] at hlt
 rw [List.getElem?_take,if_pos om] at hj
 exact h j om hj
theorem xP (k0:0≤k)(hk:¬k<l.length)(hal:l.all (f8 n)=(l.drop k.toNat).all (f8 n))(hnd:((l.map (·.label)).take k.toNat).Nodup){r:Bool}(hr:r=(decide ((1:Int)≤l.length)&&decide ((l.length:Int)≤6))):r=eA l n:=by
 have h1:l.all (f8 n)=true:=bU k0 hk hal
 rw [List.take_of_length_le (by rw [List.length_map];omega)] at hnd
 unfold eA dt
 rw [h1,hr,decide_eq_true hnd]
 have e1:decide ((1:Int)≤l.length)=decide (1≤l.length):=decide_eq_decide.2 om
 have e2:decide ((l.length:Int)≤6)=decide (l.length≤6):=decide_eq_decide.2 om
 rw [e1,e2];simp
end
theorem rpt_1 {r:List Str}{n:Int}{x:SPoint}(h:ez x=true):cO r n x=true:=by unfold cO;rw [h];rfl
def C4 (r:List Str)(n:Int)(x:SPoint):Bool:=eT r x&&eA x.arms n
theorem rpt_2 {r:List Str}{n:Int}{x:SPoint}(h:(!C4 r n x)=false):cO r n x=true:=by unfold cO;rw [show(eT r x&&eA x.arms n)=true from eX h,Bool.or_true]
theorem rpt_3 {r:List Str}{n:Int}{x:SPoint}(h1:ez x=false)(h:(!C4 r n x)=true):cO r n x=false:=by unfold cO;rw [show(eT r x&&eA x.arms n)=false from gD h,h1];rfl
theorem o5 {p:SProto}(h:(!jX p)=true):false=dw p:=by unfold dw;rw [gD h];rfl
theorem o4 {p:SProto}(h1:p.roles.all aN=false):false=dw p:=by unfold dw;rw [h1];simp
theorem o3 {p:SProto}(h1:p.points.all (cO p.roles p.points.length)=false):false=dw p:=by unfold dw;rw [h1];simp
theorem oZ {p:SProto}(h:jX p=true)(h1:p.roles.all aN=true)(h2:p.points.all (cO p.roles p.points.length)=true):true=dw p:=by unfold dw;rw [h,h1,h2];rfl
structure RPOk (p:SProto):Prop where
 n1:1≤p.points.length
 n24:p.points.length≤24
 r5:p.roles.length≤5
 nx:qJ p
 a6:∀x∈p.points,x.arms.length≤6
 rn:∀r∈p.roles,aN r=true
 nm:aN p.name=true
 pt:∀x∈p.points,cO p.roles p.points.length x=true
theorem RPOk.of {p:SProto}(h:dw p=true):RPOk p:=by
 unfold dw jX at h
 simp only [Bool.and_eq_true,decide_eq_true_eq] at h
 obtain⟨⟨h1,h2,h3,h4,h5,h6⟩,h7,h8⟩:=h
 have hpt:∀x∈p.points,cO p.roles p.points.length x=true:=List.all_eq_true.1 h8
 have key:∀x∈p.points,x.arms=[]∨eA x.arms p.points.length=true:=fun x hx=>by
  have:=hpt x hx
  unfold cO ez at this
  simp only [Bool.or_eq_true,Bool.and_eq_true,decide_eq_true_eq] at this
  rcases this with ⟨_,_,h⟩ | ⟨_,h⟩
  ·exact .inl (List.length_eq_zero_iff.1 om)
  ·exact .inr h
 refine⟨by omega,by omega,by omega,fun x hx a ha=>?_,fun x hx=>?_,List.all_eq_true.1 h7,h1,hpt⟩
 ·rcases key x hx with h | h
  ·rw [h] at ha;simp at ha
  ·unfold eA at h
   simp only [Bool.and_eq_true] at h
   have:=List.all_eq_true.1 h.2.1 a ha
   unfold f8 at this
   simp only [Bool.and_eq_true,Bool.not_eq_true',decide_eq_false_iff_not] at this
   omega
 ·rcases key x hx with h | h
  ·rw [h];simp
  ·unfold eA at h
   simp only [Bool.and_eq_true,decide_eq_true_eq] at h
   omega
theorem pK {p:SProto}{s:Str}{B:Nat}(hB:∀x∈p.points,∀a∈x.arms,a.cn.length≤B):∀(l:List Int) (ck:Int) (cn:Str) (to:List Int),cn.length≤B→(kC p s ck cn to l).2.1.length≤B
 | [],_,_,_,h=>h
 | j::r,ck,cn,to,h=>by
  unfold kC
  split
  ·exact pK hB r _ _ _ h
  ·rename_i x hx
   split
   ·exact pK hB r _ _ _ h
   ·split
    ·exact pK hB r _ _ _ h
    ·rename_i a ha
     split
     ·exact h
     ·exact pK hB r _ _ _ (hB x (List.mem_of_getElem? hx) a (List.mem_of_getElem? ha))
theorem A0 {p:SProto}{role:Str}{set:List Int}{B:Nat}(hB:∀x∈p.points,∀a∈x.arms,a.cn.length≤B):∀(l:List Str) (sets:List (List Int)) (acc:List SArm),(∀a∈acc,a.cn.length≤B)→∀a∈(dI p role set l sets acc).1,a.cn.length≤B
 | [],_,_,h=>h
 | lb::r,sets,acc,h=>by
  unfold dI
  split
  ·simp
  ·exact A0 hB r _ _ (gI h (pK hB set 0 [] [] sq))
theorem HQ {p:SProto}{role:Str}{sets:List (List Int)}{set:List Int}{B:Nat}(hB:∀x∈p.points,∀a∈x.arms,a.cn.length≤B):∀a∈(bQ p role sets set).1.2.2,a.cn.length≤B:=by
 unfold bQ
 split; · simp
 split; · simp
 split; · simp
 split; · simp
 split; · simp
 split; · simp
 exact A0 hB _ _ _ sq
def mn (n:Nat)(sets:List (List Int)):Prop:=∀s∈sets,(∀j∈s,0≤j∧j<(n:Int))∧s.length≤n
theorem uV {p:SProto}{role:Str}(hN:qJ p){sets:List (List Int)}{frm:List Int}(h:mn p.points.length sets):mn p.points.length (bZ p role sets frm).2.2:=by
 unfold bZ
 split
 ·exact h
 ·split
  ·exact h
  ·split
   ·exact h
   ·refine gI h ⟨fun j hj=>qd hN j (List.mem_filter.1 hj).1,Nat.le_trans (qr _) (mx hN)⟩
theorem tU {p:SProto}{role:Str}(hN:qJ p){set:List Int}:∀(l:List Str) (sets:List (List Int)) (acc:List SArm),mn p.points.length sets→mn p.points.length (dI p role set l sets acc).2.2
 | [],_,_,h=>h
 | lb::r,sets,acc,h=>by
  unfold dI
  split
  ·exact uV hN h
  ·exact tU hN r _ _ (uV hN h)
theorem HO {p:SProto}{role:Str}(hN:qJ p){set:List Int}{sets:List (List Int)}(h:mn p.points.length sets):mn p.points.length (bQ p role sets set).2.2:=by
 unfold bQ
 split; · exact h
 split; · exact h
 split; · exact h
 split; · exact h
 split; · exact h
 split; · exact tU hN _ _ _ h
 exact tU hN _ _ _ h
abbrev TT:=Int×Str×List SArm
def tt (t:STurn):TT:=(t.kind,t.peer,t.arms)
def m7 (p:SProto)(role:Str):Nat→Nat→List (List Int)→List TT→Int×List TT
 | 0,_,_,acc=>(0,acc)
 | f+1,i,sets,acc=>match sets[i]? with
  | none=>(0,acc)
  | some s=>if(bQ p role sets s).2.1≠0 then((bQ p role sets s).2.1,[]) else m7 p role f (i+1) (bQ p role sets s).2.2 (acc++[(bQ p role sets s).1])
def ek (p:SProto)(role:Str):Int×List TT:=
 if(dw p&&bI p.roles role)=false then(800,[])
 else if(bZ p role [] [0]).2.1≠0 then((bZ p role [] [0]).2.1,[])
 else m7 p role 41 0 (bZ p role [] [0]).2.2 []
section
variable {p:SProto}{role:Str}{f i:Nat}{sets:List (List Int)}{acc:List TT}{s:List Int}
theorem Be (hs:sets[i]? =some s)(h:(bQ p role sets s).2.1≠0):m7 p role (f+1) i sets acc=((bQ p role sets s).2.1,[]):=by
 rw [m7,hs];simp only [if_pos h]
theorem xO (hs:sets[i]? =some s)(h:¬(bQ p role sets s).2.1≠0):m7 p role (f+1) i sets acc=m7 p role f (i+1) (bQ p role sets s).2.2 (acc++[(bQ p role sets s).1]):=by
 rw [m7,hs];simp only [if_neg h]
theorem Bd (h:sets.length≤i):m7 p role f i sets acc=(0,acc):=by
 cases f with
 | zero=>rfl
 | succ f=>rw [m7,List.getElem?_eq_none h]
end
structure TQ2 where
 k:Int
 h:Hp
 sv:Value
 ob:aq
 rows:List GRow
 v:Value
 oa:aq
 ts:List STurn
theorem uX {p:SProto}{role:Str}{sets:List (List Int)}{frm:List Int}:sets.length≤(bZ p role sets frm).2.2.length:=by
 unfold bZ
 split; · simp
 split; · simp
 split<;>simp
theorem tW {p:SProto}{role:Str}{set:List Int}:∀(l:List Str) (sets:List (List Int)) (acc:List SArm),sets.length≤(dI p role set l sets acc).2.2.length
 | [],_,_=>Nat.le_refl _
 | lb::r,sets,acc=>by
  unfold dI
  split
  ·exact uX
  ·exact Nat.le_trans uX (tW r _ _)
theorem AZ {p:SProto}{role:Str}{set:List Int}{sets:List (List Int)}:sets.length≤(bQ p role sets set).2.2.length:=by
 unfold bQ
 split; · simp
 split; · simp
 split; · simp
 split; · simp
 split; · simp
 split; · exact tW _ _ _
 exact tW _ _ _
theorem perm_as (X:aq){a:Nat×List Value}{A B C:aq}:(X++((a::(A++B))++C)).Perm (X++(a::(A++(B++C)))):=by
 rw [List.cons_append,List.append_assoc]
def lO (p:SProto):Nat→List Str→Int×Int
 | _,[]=>(0,0)
 | i,r::rs=>if(ek p r).1≠0 then((ek p r).1,(i:Int)) else lO p (i+1) rs
def m9 (p:SProto):Int×Int:=if dw p=false then(800,0) else lO p 0 p.roles
theorem FT {p:SProto}{l:List Str}{k i:Nat}{r:Str}(hx:l[k]? =some r)(h:(ek p r).1≠0):lO p i (l.drop k)=((ek p r).1,(i:Int)):=by
 rw [List.drop_eq_getElem?_toList_append,hx]
 simp only [Option.toList_some,List.singleton_append,lO,if_pos h]
theorem C6 {p:SProto}{l:List Str}{k i:Nat}{r:Str}(hx:l[k]? =some r)(h:¬(ek p r).1≠0):lO p i (l.drop k)=lO p (i+1) (l.drop (k+1)):=by
 rw [List.drop_eq_getElem?_toList_append,hx]
 simp only [Option.toList_some,List.singleton_append,lO,if_neg h]
structure LsOk (H:Hp)(p:SProto)(k:Int)(ls:List SLocal):Prop where
 len:(ls.length:Int)=k
 at_:∀(i:Nat) (l:SLocal),ls[i]? =some l→∃r,p.roles[i]? =some r∧l.name=(p.name++[46])++r∧LocalOk H l∧l.turns.map tt=(ek p r).2
theorem LsOk.le {H H':Hp}{p:SProto}{k:Int}{ls:List SLocal}(h:LsOk H p k ls)(hl:H.le H'):LsOk H' p k ls:=⟨h.len,fun i l hi=>by
 obtain⟨r,h1,h2,h3,h4⟩:=h.at_ i l hi
 exact⟨r,h1,h2,h3.le hl,h4⟩⟩
theorem LsOk.snoc {H:Hp}{p:SProto}{k:Int}{ls:List SLocal}{l:SLocal}{r:Str}(h:LsOk H p k ls)(hr:p.roles[k.toNat]? =some r)(h1:l.name=(p.name++[46])++r)(h2:LocalOk H l)(h3:l.turns.map tt=(ek p r).2):LsOk H p (k+1) (ls++[l]):=by
 have hl:=h.len
 refine⟨by simp;omega,fun i x hi=>?_⟩
 by_cases hlt:i<ls.length
 ·rw [List.getElem?_append_left hlt] at hi;exact h.at_ i x hi
 ·rw [List.getElem?_append_right om] at hi
  have h4:i - ls.length=0:=by
   have:=(List.getElem?_eq_some_iff.1 hi).1
   simp at this;omega
  rw [h4] at hi
  simp at hi;subst hi
  exact⟨r,by rwa [show i=k.toNat by omega],h1,h2,h3⟩
theorem cR {H:Hp}(s:Str):
  FnS Tryz.prog 51 [gs s] H (.bool (aN s)):=by
 refine FnS.enter Tryz.func51 Tryz.ntmps51 rfl rfl (fun w0=>?_)
 refine ni ?_;refine TL.run (dF rfl rfl) rfl (zm3 ?_)
 refine ag (s:=7) rfl ?_ ?_<;>intro g7
 · exact zq48
 have q7:=of_decide_eq_false g7
 refine cv ?_;refine aw rfl rfl (dF rfl rfl) rfl (cM ?_)
 refine ag (s:=12) rfl ?_ ?_<;>intro g12
 · exact zq72
 have q12:=of_decide_eq_false g12
 refine cv ?_
 have hlen:(0:Int)<s.length:=by have:=of_decide_eq_false g7;omega
 obtain⟨c0,hc0⟩:=aj (l:=s) (i:=0) om hlen
 refine aw rfl rfl (gB rfl rfl om hc0) rfl (aH rfl rfl (ab rfl rfl rfl rfl) (lN c0) rfl (cM ?_))
 refine ag (s:=18) rfl ?_ ?_<;>intro g18
 · exact GL
 refine cv ?_;refine aH rfl rfl (ab rfl rfl rfl rfl) (o8 s) rfl (zm1 ?_)
 refine TC.cond rfl ?_ ?_<;>intro c21
 · exact GK
 have hn:=mG g7 g12 hc0 g18 c21
 have hl12:(s.length:Int)≤12:=by have:=of_decide_eq_false g12;omega
 exact zq73
theorem ut {H:Hp}(s:Str)(hs:s.length≤4294960000):
  FnS Tryz.prog 183 [gs s] H (.bool (mq s)):=by
 refine FnS.enter Tryz.func183 Tryz.ntmps183 rfl rfl (fun w0=>?_)
 refine kg ?_
 refine TC.loop (V:=fun k=>[(3,.int .i64 k)]) (K:=[(0,_),(2,_)]) (L:=fun k=>_) (I:=fun k=>(0≤k∧k≤s.length)∧∀j:Nat,j<k.toNat→s[j]? ≠some 46) (μ:=fun k=>(s.length - k).toNat) (i:=(0:Int)) ky ⟨o2q,fun j h=>absurd h om⟩ (fun w hw=>hw) (fun k hI=>?_)
 obtain⟨⟨k0,k1⟩,hn⟩:=hI
 refine fk ?_;refine TL.run (dF rfl rfl) rfl (zm1 ?_)
 refine af rfl ?_ ?_<;>intro c7
 ·
  obtain⟨c,hc⟩:=aj (l:=s) k0 c7
  refine lj ?_;refine TL.run (gB rfl rfl om hc) rfl (zm1 ?_)
  refine af rfl ?_ ?_<;>intro c13
  ·
   have hcd:s[k.toNat]? =some 46:=by rw [hc];congr 1;exact u8_of c13
   refine dH ?_;refine TL.run (pr_strH rfl rfl om om) rfl (ar (ab rfl rfl rfl rfl) (cR (s.take k.toNat)) rfl (zm0 ?_))
   refine ag (s:=18) rfl ?_ ?_<;>intro g18
   ·
    refine eG ?_;refine Ei ?_;refine aw rfl rfl (pr_strL rfl rfl om om) rfl (aH rfl rfl (ab rfl rfl rfl rfl) (cR (s.drop (k+1).toNat)) rfl (gm ?_));refine iy ?_
    exact ao (.inr rfl) (ad rfl (RVal.tmp rfl)) (congrArg Value.bool (by first | (rw [nL k0 hcd hn];simp_all;done) | exact(lF (fun j hj=>hn j om)).symm))
   refine lh ?_;refine gm ?_;refine iy ?_
   exact ao (.inr rfl) (ad rfl (RVal.tmp rfl)) (congrArg Value.bool (by first | (rw [nL k0 hcd hn];simp_all;done) | exact(lF (fun j hj=>hn j om)).symm))
  refine d6 ?_
  exact aD (k+1) ⟨o2q,fun j hj=>by by_cases e:j<k.toNat;exact hn j e;rw [show j=k.toNat by omega,hc];intro e2;exact c13 (by cases e2;rfl)⟩ ky (fun w hw=>hw) om
 refine tL ?_;refine ar (ab rfl rfl rfl rfl) (cR s) rfl (em ?_)
 exact ao (.inr rfl) (ad rfl (RVal.tmp rfl)) (congrArg Value.bool (by first | (rw [nL k0 hcd hn];simp_all;done) | exact(lF (fun j hj=>hn j om)).symm))
theorem jY {H:Hp}(ck:Int)(cn:Str)(hn:cn.length≤4294960000):
  FnS Tryz.prog 148 [.agg #[.int .i64 ck,gs cn]] H (.bool (dM ck cn)):=by
 refine FnS.enter Tryz.func148 Tryz.ntmps148 rfl rfl (fun w0=>?_)
 refine zm2 ?_
 refine TL.box rfl rfl (fun b1=>?_)
 refine iM ?_;refine oe ?_
 refine af rfl ?_ ?_<;>intro c5
 ·
  refine fC ?_;refine ar (ab rfl rfl rfl rfl) (ut cn hn) rfl (sU ?_)
  exact ao (.inr rfl) (ad rfl (RVal.tmp rfl)) (congrArg Value.bool (by first | exact(mP c5).symm | (rw [gk c5];simp_all;done) | (rw [gk c5];simp_all;omega)))
 refine dn ?_;refine fC ?_;refine zm3 ?_
 refine ag (s:=12) rfl ?_ ?_<;>intro g12
 ·
  have q12:=of_decide_eq_true g12
  refine m6 ?_
  refine ag (s:=17) rfl ?_ ?_<;>intro g17
  ·
   have q17:=of_decide_eq_true g17
   refine qM ?_;refine gm ?_
   exact ao (.inr rfl) (ad rfl (RVal.tmp rfl)) (congrArg Value.bool (by first | exact(mP c5).symm | (rw [gk c5];simp_all;done) | (rw [gk c5];simp_all;omega)))
  have q17:=of_decide_eq_false g17
  refine xj ?_
  exact ao (.inr rfl) (ad rfl (RVal.tmp rfl)) (congrArg Value.bool (by first | exact(mP c5).symm | (rw [gk c5];simp_all;done) | (rw [gk c5];simp_all;omega)))
 have q12:=of_decide_eq_false g12
 refine im ?_;refine xj ?_
 exact ao (.inr rfl) (ad rfl (RVal.tmp rfl)) (congrArg Value.bool (by first | exact(mP c5).symm | (rw [gk c5];simp_all;done) | (rw [gk c5];simp_all;omega)))
theorem nA {H:Hp}{l:List SArm}{v:Value}(n:Int)(hA:RdSl H 4 SArm.cells v l)(hz:∀a∈l,a.cn.length≤4294960000):
  FnS Tryz.prog 98 [v,.int .i64 n] H (.bool (eA l n)):=by
 have hmax:=hA.max
 refine FnS.enter Tryz.func98 Tryz.ntmps98 rfl rfl (fun w0=>?_)
 refine kg ?_
 refine TC.loop (V:=fun k=>[(5,.int .i64 k)]) (K:=[(0,_),(1,_),(4,_)]) (L:=fun k=>_) (I:=fun k=>(0≤k∧k≤l.length)∧l.all (f8 n)=(l.drop k.toNat).all (f8 n)∧((l.map (·.label)).take k.toNat).Nodup) (μ:=fun k=>(l.length - k).toNat) (i:=(0:Int)) ky ⟨o2q,rfl,List.nodup_nil⟩ (fun w hw=>hw) (fun k hI=>?_)
 obtain⟨⟨k0,k1⟩,hal,hnd⟩:=hI
 refine fk ?_;refine TL.run (ah rfl rfl hA) rfl (zm1 ?_)
 refine af rfl ?_ ?_<;>intro c10
 ·
  obtain⟨a,hx⟩:=aj (l:=l) k0 c10
  refine fi ?_;refine TC.seq (a7 (!f8 n a) 45 [(0,_),(1,_),(4,_),(5,_),(7,_),(8,_),(9,_),(10,_)] ky ?_ ?_)
  ·
   refine mW ?_;refine TL.run (ae rfl hA rfl om om) rfl (zm5 ?_);refine TL.run (aT hA hx rfl rfl) rfl (ar (ab rfl rfl rfl rfl) (cR a.label) rfl (zm3 ?_))
   refine ag (s:=20) rfl ?_ ?_<;>intro g20
   ·
    refine dE ?_;refine li ?_;refine sS ?_;refine iC ?_
    exact aB rfl (by unfold f8;first | (simp_all;done) | (simp_all;omega)) ky
   refine eG ?_;refine aw rfl rfl (ae rfl hA rfl om om) rfl (gM ?_)
   refine aw rfl rfl (qn hA hx rfl rfl) rfl (aH rfl rfl (ab rfl rfl rfl rfl) (jY a.ck a.cn (hz a (List.mem_of_getElem? hx))) rfl (cM ?_))
   refine ag (s:=29) rfl ?_ ?_<;>intro g29
   ·
    refine wu ?_;refine iC ?_
    exact aB rfl (by unfold f8;first | (simp_all;done) | (simp_all;omega)) ky
   refine eG ?_;refine aw rfl rfl (ae rfl hA rfl om om) rfl (gM ?_);refine aw rfl rfl (aT hA hx rfl rfl) rfl (cM ?_)
   refine ag (s:=37) rfl ?_ ?_<;>intro g37
   ·
    have q37:=of_decide_eq_true g37
    refine sZ ?_
    exact aB rfl (by unfold f8;first | (simp_all;done) | (simp_all;omega)) ky
   have q37:=of_decide_eq_false g37
   refine eG ?_;refine aw rfl rfl (ae rfl hA rfl om om) rfl (gM ?_);refine aw rfl rfl (aT hA hx rfl rfl) rfl (eG ?_);refine cu ?_
   exact aB rfl (by unfold f8;first | (simp_all;done) | (simp_all;omega)) ky
  refine TC.cond rfl ?_ ?_<;>intro c45
  ·
   refine AA ?_
   exact ao (.inr rfl) (ad rfl (RVal.tmp rfl)) (congrArg Value.bool (FP k0 hx (by simpa using c45) hal))
  have ha:f8 n a=true:=by simpa using c45
  refine dn ?_;refine iq ?_
  refine TC.loop (V:=fun m=>[(6,.int .i64 m)]) (K:=[(0,_),(1,_),(4,_),(5,_),(7,_),(8,_),(9,_),(10,_),(45,_)]) (L:=fun m=>_) (I:=fun m=>0≤m∧m≤k∧∀j:Nat,j<m.toNat→(l.map (·.label))[j]? ≠some a.label) (μ:=fun m=>(k - m).toNat) (i:=(0:Int)) ky ⟨by omega,by omega,fun j h=>absurd h om⟩ (fun w hw=>hw) (fun m hI=>?_)
  obtain⟨m0,m1,hI2⟩:=hI
  refine oD ?_
  refine af rfl ?_ ?_<;>intro c48
  ·
   obtain⟨b,hb⟩:=aj (l:=l) m0 om
   refine Hc ?_;refine TQ.run (ae rfl hA rfl om om) rfl (gl ?_);refine TQ.run (aT hA hb rfl rfl) rfl (mV ?_);refine TQ.run (ae rfl hA rfl om om) rfl (gl ?_)
   refine TQ.run (aT hA hx rfl rfl) rfl (wF ?_)
   refine af rfl ?_ ?_<;>intro c61
   ·
    refine ki ?_;refine wr ?_
    exact ao (.inr rfl) (ad rfl (RVal.tmp rfl)) (congrArg Value.bool (FO k0 m0 c48 hx hb c61))
   refine d6 ?_
   exact aD (m+1) ⟨by omega,by omega,fun j hj=>by by_cases e:j<m.toNat;exact hI2 j e;rw [show j=m.toNat by omega,dz hb];intro e2;exact c61 (by simpa using e2)⟩ ky (fun w hw=>hw) om
  refine kJ ?_
  exact aD (k+1) ⟨o2q,bC (p:=f8 n) k0 hx ha hal,Im k0 hx hnd om hI2⟩ ky (fun w hw=>hw) om
 refine tL ?_;refine TL.run (ah rfl rfl hA) rfl (zm3 ?_)
 refine ag (s:=65) rfl ?_ ?_<;>intro g65
 ·
  have q65:=of_decide_eq_true g65
  refine cv ?_;refine aw rfl rfl (ah rfl rfl hA) rfl (rt ?_)
  exact ao (.inr rfl) (ad rfl (RVal.tmp rfl)) (congrArg Value.bool (xP k0 c10 hal hnd (by first | (simp_all;done) | (simp_all;omega))))
 have q65:=of_decide_eq_false g65
 refine xj ?_
 exact ao (.inr rfl) (ad rfl (RVal.tmp rfl)) (congrArg Value.bool (xP k0 c10 hal hnd (by first | (simp_all;done) | (simp_all;omega))))
theorem C2 {H:Hp}{l:List Str}{v:Value}(s:Str)(hL:RdSl H 1 Str.cells v l):
  FnS Tryz.prog 147 [v,gs s] H (.int .i64 (bS l s)):=by
 have hmax:=hL.max
 refine FnS.enter Tryz.func147 Tryz.ntmps147 rfl rfl (fun w0=>?_)
 refine kg ?_
 refine TC.loop (V:=fun k=>[(5,.int .i64 k)]) (K:=[(0,_),(1,_),(4,_)]) (L:=fun k=>_) (I:=fun k=>0≤k∧k≤l.length∧∀j:Nat,j<k.toNat→l[j]? ≠some s) (μ:=fun k=>(l.length - k).toNat) (i:=(0:Int)) ky ⟨by omega,by omega,fun j hj=>absurd hj sq⟩ (fun w hw=>hw) (fun k hI=>?_)
 refine Aa ?_
 refine af rfl ?_ ?_<;>intro c9
 ·
  obtain⟨x,hx⟩:=aj (l:=l) hI.1 c9
  refine lj ?_;refine ov ?_;refine TL.run (aL hL hx rfl rfl) rfl (tN ?_)
  refine af rfl ?_ ?_<;>intro c17
  ·
   refine rC ?_
   exact ao (.inr rfl) (ad rfl (RVal.tmp rfl)) (congrArg (Value.int .i64) (by first | exact(cS hI.1 (by rw [hx,c17]) hI.2.2).symm | exact(dU hI.2.2 c9).symm))
  refine d6 ?_
  exact aD (k+1) ⟨by omega,by omega,jd hI.1 hI.2.2 hx c17⟩ ky (fun w hw=>hw) om
 refine fD ?_
 exact ao (.inr rfl) (ad rfl (RVal.tmp rfl)) (congrArg (Value.int .i64) (by first | exact(cS hI.1 (by rw [hx,c17]) hI.2.2).symm | exact(dU hI.2.2 c9).symm))
theorem i6 {H:Hp}{l:List Str}{v:Value}(s:Str)(hL:RdSl H 1 Str.cells v l):
  FnS Tryz.prog 97 [v,gs s] H (.bool (bI l s)):=by
 refine FnS.enter Tryz.func97 Tryz.ntmps97 rfl rfl (fun w0=>?_)
 refine rB ?_;refine ar (ab rfl rfl rfl rfl) (C2 s hL) rfl (gm ?_)
 exact ao (.inr rfl) (ad rfl (RVal.tmp rfl)) (congrArg Value.bool (by rw [← vp]))
theorem xR {H:Hp}{l:List Str}{v:Value}(hL:RdSl H 1 Str.cells v l):
  FnS Tryz.prog 96 [v] H (.bool (dt l)):=by
 have hmax:=hL.max
 obtain⟨la,lc,rfl⟩:=hL.len
 have hroom:=hL.room _ _ _ rfl
 refine FnS.enter Tryz.func96 Tryz.ntmps96 rfl rfl (fun w0=>?_)
 refine kg ?_
 refine TC.loop (V:=fun k=>[(3,.int .i64 k)]) (K:=[(0,_),(2,_)]) (L:=fun k=>_) (I:=fun k=>0≤k∧k≤l.length∧(l.take k.toNat).Nodup) (μ:=fun k=>(l.length - k).toNat) (i:=(0:Int)) ky ⟨by omega,by omega,List.nodup_nil⟩ (fun w hw=>hw) (fun k hI=>?_)
 refine Aa ?_
 refine af rfl ?_ ?_<;>intro c7
 ·
  obtain⟨x,hx⟩:=aj (l:=l) hI.1 c7
  refine Hc ?_;refine TQ.run (xZ rfl rfl om om) rfl (mV ?_)
  refine TQ.run (ae rfl hL rfl om om) rfl (TQ.run (aL hL hx rfl rfl) rfl (gJ (ab rfl rfl rfl rfl) (i6 x (hL.sliced (i:=0) (j:=k.toNat) om om)) rfl (TQ.nil ?_)))
  refine ai (TC.cond rfl (fun c17=>?_) (fun c17=>?_))
  ·
   refine kX ?_
   exact ao (.inr rfl) (ad rfl (RVal.tmp rfl)) (congrArg Value.bool (by first | exact(ph c7 hI.1 hI.2.2).symm | exact(BA hI.1 hx c17).symm))
  refine d6 ?_
  exact aD (k+1) ⟨by omega,by omega,nO hI.1 hx hI.2.2 (has_not c17)⟩ ky (fun w hw=>hw) om
 refine fD ?_
 exact ao (.inr rfl) (ad rfl (RVal.tmp rfl)) (congrArg Value.bool (by first | exact(ph c7 hI.1 hI.2.2).symm | exact(BA hI.1 hx c17).symm))
end Go.Sx
