import Derived.Test.YtjnlogbbcceaoaaGreatO6
set_option linter.all false
set_option maxRecDepth 100000
set_option maxHeartbeats 32000000
namespace Go.Sx
open Go Go.Proofs
theorem kq {H:Hp}(x:SPoint)(r:Str):
  FnS Tryz.prog 194 [.agg x.cells.toArray,gs r] H (.bool (dE x r)):=by
 refine FnS.enter Tryz.func194 Tryz.ntmps194 rfl rfl (fun w0=>?_)
 refine zm2 ?_
 refine TL.box rfl rfl (fun b2=>?_)
 refine zm1 ?_;refine lN ?_;refine mR ?_
 refine ah (s:=9) rfl ?_ ?_<;>intro g9
 ·
  have q9:=of_decide_eq_true g9
  refine dB ?_;refine eD ?_
  exact aw (.inr rfl) (ad rfl (RVal.tmp rfl)) (congrArg Value.bool (by unfold dE;simp_all))
 have q9:=of_decide_eq_false g9
 refine co ?_;refine cg ?_;refine kP ?_;refine eD ?_
 exact aw (.inr rfl) (ad rfl (RVal.tmp rfl)) (congrArg Value.bool (by unfold dE;simp_all))
theorem nK {H:Hp}{a b:List Int}{va vb:Value}(ha:RdSl H 1 I64.cells va a)(hb:RdSl H 1 I64.cells vb b):
  FnS Tryz.prog 173 [va,vb] H (.bool (decide (a=b))):=by
 have hma:=ha.max
 have hmb:=hb.max
 refine FnS.enter Tryz.func173 Tryz.ntmps173 rfl rfl (fun w0=>?_)
 refine lV ?_;refine TL.run (ai rfl rfl ha) rfl (zm0 ?_);refine TL.run (ai rfl rfl hb) rfl (zm1 ?_)
 refine aW rfl ?_ ?_<;>intro c10
 ·
  refine jt ?_
  exact aw (.inr rfl) (ad rfl (RVal.tmp rfl)) (congrArg Value.bool (by first | exact(k6 c10).symm | exact(nE hx hy c25).symm | exact(k7 hl k0 c14 hI2).symm))
 have hl:a.length=b.length:=by omega
 refine f8 ?_;refine hZ ?_
 refine TC.loop (V:=fun k=>[(5,.int .i64 k)]) (K:=[(0,_),(1,_),(4,_)]) (L:=fun k=>_) (I:=fun k=>(0≤k∧k≤a.length)∧a.take k.toNat=b.take k.toNat) (μ:=fun k=>(a.length - k).toNat) (i:=(0:Int)) ky ⟨o2q,rfl⟩ (fun w hw=>hw) (fun k hI=>?_)
 obtain⟨⟨k0,k1⟩,hI2⟩:=hI
 refine eZ ?_;refine TL.run (ai rfl rfl ha) rfl (zm1 ?_)
 refine ag rfl ?_ ?_<;>intro c14
 ·
  obtain⟨x,hx⟩:=ao (l:=a) k0 c14
  obtain⟨y,hy⟩:=ao (l:=b) k0 om
  refine lM ?_;refine mI ?_;refine TQ.run (af rfl ha rfl om om) rfl (TQ.run (aJ ha hx rfl rfl) rfl (mI ?_))
  refine TQ.run (af rfl hb rfl om om) rfl (TQ.run (aJ hb hy rfl rfl) rfl (mM ?_))
  refine aW rfl ?_ ?_<;>intro c25
  ·
   refine lL ?_
   exact aw (.inr rfl) (ad rfl (RVal.tmp rfl)) (congrArg Value.bool (by first | exact(k6 c10).symm | exact(nE hx hy c25).symm | exact(k7 hl k0 c14 hI2).symm))
  refine gb ?_
  exact aM (k+1) ⟨o2q,by rw [bB k0 hx,bB k0 hy,hI2];congr 2<;>omega⟩ ky (fun w hw=>hw) om
 refine jv ?_
 exact aw (.inr rfl) (ad rfl (RVal.tmp rfl)) (congrArg Value.bool (by first | exact(k6 c10).symm | exact(nE hx hy c25).symm | exact(k7 hl k0 c14 hI2).symm))
theorem uH {H:Hp}{l:List SArm}{v:Value}(s:Str)(hL:RdSl H 4 SArm.cells v l):
  FnS Tryz.prog 195 [v,gs s] H (.int .i64 (bz (l.map (·.label)) s)):=by
 have hmax:=hL.max
 refine FnS.enter Tryz.func195 Tryz.ntmps195 rfl rfl (fun w0=>?_)
 refine ij ?_
 refine TC.loop (V:=fun k=>[(5,.int .i64 k)]) (K:=[(0,_),(1,_),(4,_)]) (L:=fun k=>_) (I:=fun k=>0≤k∧k≤l.length∧∀j:Nat,j<k.toNat→(l.map (·.label))[j]? ≠some s) (μ:=fun k=>(l.length - k).toNat) (i:=(0:Int)) ky ⟨by omega,by omega,fun j h=>absurd h om⟩ (fun w hw=>hw) (fun k hI=>?_)
 refine m5 ?_;refine zm1 ?_
 refine ag rfl ?_ ?_<;>intro c9
 ·
  obtain⟨x,hx⟩:=ao (l:=l) hI.1 c9
  refine m9 ?_;refine lU ?_;refine zm8 ?_;refine TL.run (bL hL hx rfl rfl) rfl (sk ?_)
  refine ag rfl ?_ ?_<;>intro c18
  ·
   refine sj ?_
   exact aw (.inr rfl) (ad rfl (RVal.tmp rfl)) (congrArg (Value.int .i64) (by first | exact(dr hI.1 (by rw [ge hx,c18]) hI.2.2).symm | exact(et hI.2.2 (by rw [List.length_map];exact c9)).symm))
  refine gb ?_
  exact aM (k+1) ⟨by omega,by omega,fun j hj=>by by_cases hjk:j<k.toNat;exact hI.2.2 j hjk;rw [show j=k.toNat by omega,ge hx];intro e;exact c18 (by simpa using e)⟩ ky (fun w hw=>hw) om
 refine jv ?_
 exact aw (.inr rfl) (ad rfl (RVal.tmp rfl)) (congrArg (Value.int .i64) (by first | exact(dr hI.1 (by rw [ge hx,c18]) hI.2.2).symm | exact(et hI.2.2 (by rw [List.length_map];exact c9)).symm))
end Go.Sx
namespace Go.Sx
open Go Go.Proofs
theorem vZ {H:Hp}{p:SProto}(role:Str)(hp:ProtoOk H p)(hN:lB p)(hn:p.points.length≤1000){fv:Value}{frm:List Int}(hf:RdSl H 1 I64.cells fv frm)(hfl:frm.length≤1000):
  FnO Tryz.prog 170 [.agg p.cells.toArray,gs role,fv] H (fun v H1 ob=>H1=H∧OwnSl 1 I64.cells v (cx p role frm) ob):=by
 have hpt:=hp.pt
 refine FnO.enter Tryz.func170 Tryz.ntmps170 rfl rfl (fun w0=>?_)
 refine zm2 ?_
 refine TL.box rfl rfl (fun b3=>?_)
 refine zm1 ?_;refine eQ ?_;refine TL.run (ai rfl rfl hpt) rfl (fD rfl rfl (by first | omega | decide) (by first | omega | decide) (by first | omega | decide) rfl (fun b18=>?_))
 refine zm1 ?_;refine ij ?_
 refine aR (V:=fun(q:Int×List Bool) v ob H1=>[(8,v),(9,.int .i64 q.1)]) (K:=[(1,_),(2,_),(3,_),(6,_),(7,_)]) (L:=fun(q:Int×List Bool) v ob H1=>St [] w0 H H ((b18,q.2.map Value.bool)::(b3,p.cells)::ob)) (I:=fun(q:Int×List Bool) v ob H1=>(0≤q.1∧q.1≤frm.length)∧∃todo,OwnSl 1 I64.cells v todo ob∧Met p.points.length q.2 todo∧f3 q.2 todo (frm.drop q.1.toNat)=fO p role frm) (μ:=fun(q:Int×List Bool)=>(frm.length - q.1).toNat) (0,List.replicate p.points.length false) (.slice none 0 0) [] H ky ⟨o2q,[],OwnSl.nil,Met.zero _,rfl⟩ (fun w hw=>by rw [← reps_b];exact hw) (fun q v ob H1 hI=>?_)
 obtain⟨⟨k0,k1⟩,todo,hO,hM,hI3⟩:=hI
 have hfm:=hf.max
 refine eZ ?_;refine TL.run (ai rfl rfl hf) rfl (zm1 ?_)
 refine ag rfl ?_ ?_<;>intro c22
 ·
  obtain⟨x,hx⟩:=ao (l:=frm) k0 c22
  refine m9 ?_;refine TL.run (af rfl hf rfl om om) rfl (TL.run (aJ hf hx rfl rfl) rfl (zm4 ?_))
  refine ah (s:=30) rfl ?_ ?_<;>intro g30
  ·
   have q30:=of_decide_eq_true g30
   refine ef ?_;refine aB rfl rfl (af rfl hf rfl om om) rfl (aB rfl rfl (aJ hf hx rfl rfl) rfl (cg ?_));refine aB rfl rfl (dp rfl rfl) rfl (da ?_)
   refine ah (s:=39) rfl ?_ ?_<;>intro g39
   ·
    have q39:=of_decide_eq_true g39
    refine ef ?_;refine cg ?_;refine aB rfl rfl (af rfl hf rfl om om) rfl (aB rfl rfl (aJ hf hx rfl rfl) rfl ?_)
    obtain⟨b,hbm,hb⟩:=uT (met:=q.2) (i:=x) om (by rw [hM.len];omega)
    refine aB rfl rfl (fe rfl rfl om om) rfl (aB rfl rfl (ay rfl (.here _) hb) rfl (fK ?_))
    refine TC.cond rfl ?_ ?_<;>intro c48
    ·
     have hbf:q.2[x.toNat]? =some false:=by rw [hbm];simpa using c48
     have h0x:0≤x:=by omega
     refine fo ?_;refine TL.run (af rfl hf rfl om om) rfl (TL.run (aJ hf hx rfl rfl) rfl (ec ?_))
     refine aZ rfl rfl rfl (.here _) (by rw [Nat.blt_eq,List.length_map,hM.len];omega) rfl (TL.nil (ae (mL ?_)))
     refine TL.run (af rfl hf rfl om om) rfl (TL.run (aJ hf hx rfl rfl) rfl (ax rfl rfl rfl rfl (fun b60=>?_)))
     refine TL.append (enc:=I64.cells) rfl rfl rfl hO (Src.own [x] (.here _) rfl rfl) (by simp;have:=hM.le;omega) rfl (.s2 (.skip _ .all)) rfl (fun a61 c61 ob61 hO61=>?_)
     refine jY ?_
     exact aE (q.1+1,q.2.set x.toNat true) _ ob61 H ⟨o2q,_,hO61,hM.set h0x hbf,by rw [show(q.1+1).toNat=q.1.toNat+1 by omega,← wS hx ⟨h0x,hbf⟩];exact hI3⟩ ky (fun w hw=>(mset hw.drop)) om
    refine gb ?_
    exact aE (q.1+1,q.2) _ ob H ⟨o2q,_,hO,hM,by rw [show(q.1+1).toNat=q.1.toNat+1 by omega,← nA hx (by rintro⟨_,e⟩;rw [hbm] at e;cases e;simp at c48)];exact hI3⟩ ky (fun w hw=>hw) om
   have q39:=of_decide_eq_false g39
   refine dB ?_;refine dB ?_;refine mi ?_;refine gb ?_
   refine aE (q.1+1,q.2) _ ob H ⟨o2q,_,hO,hM,by rw [show(q.1+1).toNat=q.1.toNat+1 by omega,← nA hx (by rintro⟨e0,e⟩;have:=(List.getElem?_eq_some_iff.1 e).1;rw [hM.len] at this;omega)];exact hI3⟩ ky (fun w hw=>hw) om
  have q30:=of_decide_eq_false g30
  refine dB ?_;refine oG ?_;refine dB ?_;refine mi ?_;refine gb ?_
  refine aE (q.1+1,q.2) _ ob H ⟨o2q,_,hO,hM,by rw [show(q.1+1).toNat=q.1.toNat+1 by omega,← nA hx (by rintro⟨e0,e⟩;have:=(List.getElem?_eq_some_iff.1 e).1;rw [hM.len] at this;omega)];exact hI3⟩ ky (fun w hw=>hw) om
 refine gG ?_;refine hZ ?_
 refine aR (V:=fun(q:Int×List Bool) v ob H1=>[(8,v),(10,.int .i64 q.1)]) (K:=[(1,_),(3,_),(6,_),(7,_)]) (L:=fun(q:Int×List Bool) v ob H1=>St [] w0 H H ((b18,q.2.map Value.bool)::(b3,p.cells)::ob)) (I:=fun(q:Int×List Bool) v ob H1=>0≤q.1∧∃todo,OwnSl 1 I64.cells v todo ob∧Met p.points.length q.2 todo∧q.1≤todo.length∧eR p role (p.points.length - q.1.toNat) q.1.toNat q.2 todo=eR p role p.points.length 0 (fO p role frm).1 (fO p role frm).2) (μ:=fun(q:Int×List Bool)=>(p.points.length - q.1).toNat) (0,q.2) _ ob H ky ⟨by omega,_,hO,hM,by omega,by rw [← hI3,List.drop_eq_nil_of_le om];rfl⟩ (fun w hw=>hw) (fun q v ob H1 hI=>?_)
 obtain⟨k0,todo,hO,hM,hI3,hI4⟩:=hI
 refine eZ ?_;refine TL.run (bj rfl rfl hO) rfl (zm1 ?_)
 refine ag rfl ?_ ?_<;>intro c65
 ·
  have htl:=hM.le
  obtain⟨j,hj⟩:=ao (l:=todo) k0 c65
  have hjr:=hM.rng j (List.mem_of_getElem? hj)
  obtain⟨x,hxp⟩:=ao (l:=p.points) hjr.1 hjr.2
  have hxa:=(hp.ps x (List.mem_of_getElem? hxp)).a
  have hxm:=hxa.max
  refine rT ?_;refine cJ [(0,1),(1,2),(2,1),(3,1),(4,1),(5,2),(6,1),(7,2),(8,3),(9,0)] kr kr (mK ?_);refine ic ?_
  refine ar (bP rfl rfl hO om om) rfl (aQ (dU (j:=0) rfl hO (.skip _ (.skip _ .all)) hj rfl) rfl (ar (af rfl hpt rfl om om) rfl (aQ (bg hpt hxp rfl rfl) rfl ?_)))
  refine TF.alloc rfl (fun b11=>?_)
  refine bn (gD ?_);refine ik ?_;refine hZ ?_
  refine aR (V:=fun(u:Int×List Bool) v ob H1=>[(8,v),(12,.int .i64 u.1)]) (K:=[(1,_),(3,_),(6,_),(7,_),(10,_),(11,_),(62,_),(63,_),(64,_),(65,_),(68,_),(69,_),(70,_),(71,_),(72,_),(73,_),(74,_),(75,_)]) (L:=fun(u:Int×List Bool) v ob H1=>St [] w0 H H ((b11,x.cells)::(b18,u.2.map Value.bool)::(b3,p.cells)::ob)) (I:=fun(u:Int×List Bool) v ob H1=>(0≤u.1∧u.1≤x.arms.length)∧∃td,OwnSl 1 I64.cells v td ob∧Met p.points.length u.2 td∧todo.length≤td.length∧(dE x role=true→u.2=q.2∧td=todo)∧(¬dE x role=true→fW u.2 td (x.arms.drop u.1.toNat)=fW q.2 todo x.arms)) (μ:=fun(u:Int×List Bool)=>(x.arms.length - u.1).toNat) (0,q.2) _ ob H ky ⟨o2q,_,hO,hM,Nat.le_refl _,fun _=>⟨rfl,rfl⟩,fun _=>rfl⟩ (fun w hw=>hw) (fun u v ob H1 hI=>?_)
  obtain⟨⟨u0,u1⟩,td,hO,hM,hI2,hI3,hI5⟩:=hI
  refine pd ?_;refine TL.run (ai rfl rfl hxa) rfl (zm4 ?_)
  refine ah (s:=81) rfl ?_ ?_<;>intro g81
  ·
   have q81:=of_decide_eq_true g81
   refine aB rfl rfl (aU rfl (.here _) rfl) rfl (cg ?_);refine aL rfl rfl (ab rfl rfl rfl rfl) (kq x role) rfl (fK ?_)
   refine TC.cond rfl ?_ ?_<;>intro c86
   ·
    have hnw:¬dE x role=true:=by simpa using c86
    obtain⟨a,ha⟩:=ao (l:=x.arms) u0 om
    have hax:=hN x (List.mem_of_getElem? hxp) a (List.mem_of_getElem? ha)
    refine qr ?_;refine fw ?_;refine zm0 ?_;refine rS ?_
    obtain⟨b,hbm,hb⟩:=uT (met:=u.2) (i:=a.next) om (by rw [hM.len];omega)
    refine ec ?_;refine TL.run (ay rfl (.h1) hb) rfl (zm1 ?_)
    refine TC.cond rfl ?_ ?_<;>intro c98
    ·
     have hbf:u.2[a.next.toNat]? =some false:=by rw [hbm];simpa using c98
     refine cZ ?_;refine fw ?_;refine zm0 ?_;refine rS ?_;refine ec ?_;refine aZ rfl rfl rfl (.h1) (by rw [Nat.blt_eq,List.length_map,hM.len];omega) rfl (TL.nil (ae (jh ?_)));refine zm0 ?_
     refine rS ?_
     refine ax rfl rfl rfl rfl (fun b114=>?_)
     refine TL.append (enc:=I64.cells) rfl rfl rfl hO (Src.own [a.next] (.here _) rfl rfl) (by simp;have:=hM.le;omega) rfl (.s3 (.skip _ .all)) rfl (fun a115 c115 ob115 hO115=>?_)
     refine jY ?_
     exact aE (u.1+1,u.2.set a.next.toNat true) _ ob115 H ⟨o2q,_,hO115,hM.set hax.1 hbf,by rw [List.length_append];omega,fun h=>absurd h hnw,fun h=>by rw [show(u.1+1).toNat=u.1.toNat+1 by omega,← xI ha hbf];exact hI5 h⟩ ky (fun w hw=>(mset1 hw.drop)) om
    refine gb ?_
    exact aE (u.1+1,u.2) _ ob H ⟨o2q,_,hO,hM,hI2,fun h=>absurd h hnw,fun h=>by rw [show(u.1+1).toNat=u.1.toNat+1 by omega,← zK ha (by rw [hbm];intro e;cases e;simp at c98)];exact hI5 h⟩ ky (fun w hw=>hw) om
   have hw:dE x role=true:=by simpa using c86
   refine rR ?_
   exact aE (q.1+1,u.2) _ ob H ⟨by omega,_,hO,hM,by omega,by rw [← hI4,show(q.1+1).toNat=q.1.toNat+1 by omega,show p.points.length - q.1.toNat=(p.points.length - (q.1.toNat+1))+1 by omega,nz hj hxp (r:=(u.2,td)) (by rw [if_pos hw];obtain⟨e1,e2⟩:=hI3 hw;rw [e1,e2])]⟩ ky (fun w hw=>hw.drop) om
  have q81:=of_decide_eq_false g81
  refine dB ?_;refine mi ?_;refine rR ?_
  exact aE (q.1+1,u.2) _ ob H ⟨by omega,_,hO,hM,by omega,by rw [← hI4,show(q.1+1).toNat=q.1.toNat+1 by omega,show p.points.length - q.1.toNat=(p.points.length - (q.1.toNat+1))+1 by omega,nz hj hxp (r:=(u.2,td)) (by by_cases hw:dE x role=true;(rw [if_pos hw];obtain⟨e1,e2⟩:=hI3 hw;rw [e1,e2]);(rw [if_neg hw,← hI5 hw,List.drop_eq_nil_of_le om];rfl))]⟩ ky (fun w hw=>hw.drop) om
 refine fX ?_;refine ij ?_
 refine aR (V:=fun k v ob H1=>[(13,v),(14,.int .i64 k)]) (K:=[(6,_),(7,_)]) (L:=fun k v ob H1=>St [] w0 H H ((b18,q.2.map Value.bool)::(b3,p.cells)::ob)) (I:=fun k v ob H1=>(0≤k∧k≤p.points.length)∧OwnSl 1 I64.cells v (gY q.2 k.toNat) ob) (μ:=fun k=>(p.points.length - k).toNat) 0 (.slice none 0 0) [] H ky ⟨o2q,OwnSl.nil⟩ (fun w hw=>St.dropT (A:=[(b18,_),(b3,_)]) hw) (fun k v ob H1 hI=>?_)
 obtain⟨⟨k0,k1⟩,hO⟩:=hI
 refine eZ ?_;refine TL.run (dp rfl rfl) rfl (zm1 ?_)
 refine ag rfl ?_ ?_<;>intro c119
 ·
  obtain⟨b,hbm,hb⟩:=uT (met:=q.2) (i:=k) om (by rw [hM.len];omega)
  refine m9 ?_;refine ec ?_;refine TL.run (ay rfl (.here _) hb) rfl (TL.nil (ae (TC.cond rfl (fun c125=>?_) (fun c125=>?_))))
  ·
   refine jf ?_
   refine ax rfl rfl rfl rfl (fun b128=>?_)
   refine TL.append (enc:=I64.cells) rfl rfl rfl hO (Src.own [k] (.here _) rfl rfl) (by simp;have:=pQ q.2 k.toNat;omega) rfl (.s2 (.skip _ .all)) rfl (fun a129 c129 ob129 hO129=>?_)
   refine jY ?_
   exact aE (k+1) _ ob129 H ⟨o2q,by rw [pP k0 (by rw [hbm,c125])];exact hO129⟩ ky (fun w hw=>hw.drop) om
  refine gb ?_
  exact aE (k+1) _ ob H ⟨o2q,by rw [sN k0 (by rw [hbm];simpa using c125)];exact hO⟩ ky (fun w hw=>hw) om
 refine oJ ?_
 exact dG (.inr rfl) (ad rfl (RVal.tmp rfl)) (.skip _ (.skip _ .all)) ⟨rfl,hO.cast (by unfold cx;rw [← hI4,pS om];show gY q.2 k.toNat=gY q.2 q.2.length;rw [hM.len];congr 1;omega)⟩
end Go.Sx
namespace Go.Sx
open Go Go.Proofs
theorem wj {H:Hp}{p:SProto}(role:Str)(hp:ProtoOk H p){lv:Value}{l:List Int}(hl:RdSl H 1 I64.cells lv l)(hr:∀j∈l,0≤j∧j<p.points.length)(hll:l.length≤100000):
  FnO Tryz.prog 171 [.agg p.cells.toArray,gs role,lv] H (fun v H1 ob=>H1=H∧OwnSl 1 I64.cells v (db p role l) ob):=by
 have hpt:=hp.pt
 refine FnO.enter Tryz.func171 Tryz.ntmps171 rfl rfl (fun w0=>?_)
 refine zm2 ?_
 refine TL.box rfl rfl (fun b3=>?_)
 refine zm1 ?_;refine ij ?_
 refine aR (V:=fun k v ob H1=>[(7,v),(8,.int .i64 k)]) (K:=[(1,_),(2,_),(3,_),(6,_)]) (L:=fun k v ob H1=>St [] w0 H H ((b3,p.cells)::ob)) (I:=fun k v ob H1=>(0≤k∧k≤l.length)∧OwnSl 1 I64.cells v (db p role (l.take k.toNat)) ob) (μ:=fun k=>(l.length - k).toNat) 0 (.slice none 0 0) [] H ky ⟨o2q,OwnSl.nil⟩ (fun w hw=>hw) (fun k v ob H1 hI=>?_)
 obtain⟨⟨k0,k1⟩,hO⟩:=hI
 refine eZ ?_;refine TL.run (ai rfl rfl hl) rfl (zm1 ?_)
 refine ag rfl ?_ ?_<;>intro c12
 ·
  obtain⟨j,hx⟩:=ao (l:=l) k0 c12
  have hjr:=hr j (List.mem_of_getElem? hx)
  obtain⟨x,hxp⟩:=ao (l:=p.points) hjr.1 hjr.2
  refine lM ?_;refine rQ ?_
  refine TQ.run (af rfl hl rfl om om) rfl (TQ.run (aJ hl hx rfl rfl) rfl (TQ.run (af rfl hpt rfl om om) rfl (TQ.run (bg hpt hxp rfl rfl) rfl ?_)))
  refine TQ.run (aD rfl) rfl (kN (ab rfl rfl rfl rfl) (kq x role) rfl (TQ.nil (ae ?_)))
  refine TC.cond rfl ?_ ?_<;>intro c24
  ·
   refine mL ?_;refine TL.run (af rfl hl rfl om om) rfl (TL.run (aJ hl hx rfl rfl) rfl (ax rfl rfl rfl rfl (fun b30=>?_)))
   refine TL.append (enc:=I64.cells) rfl rfl rfl hO (Src.own [j] (.here _) rfl rfl) (by have:=lj (p:=p) (role:=role) (l.take k.toNat);have:=List.length_take_le k.toNat l;simp only [List.length_cons,List.length_nil];have:=List.length_take_le' k.toNat l;omega) rfl (.skip _ (.skip _ .all)) rfl (fun a31 c31 ob31 hO31=>?_)
   refine jY ?_
   exact aE (k+1) _ ob31 H ⟨o2q,by rw [y8 k0 hx (by unfold inP;rw [hxp];exact c24)];exact hO31⟩ ky (fun w hw=>hw.drop) om
  refine gb ?_
  exact aE (k+1) _ ob H ⟨o2q,by rw [near_no k0 hx (by unfold inP;rw [hxp];simpa using c24)];exact hO⟩ ky (fun w hw=>hw) om
 refine oJ ?_
 exact dG (.inr rfl) (ad rfl (RVal.tmp rfl)) (.skip _ .all) ⟨rfl,hO.cast (by rw [bh c12 k0])⟩
theorem lost_ok {H:Hp}{p:SProto}(role:Str)(hp:ProtoOk H p)(hN:lB p)(hn:p.points.length≤1000)(at_:Int):
  Fn Tryz.prog 172 [.agg p.cells.toArray,gs role,.int .i64 at_] H (fun v H1=>v= .bool (gx p role at_)):=by
 refine Fn.enter Tryz.func172 Tryz.ntmps172 rfl rfl (fun w0=>?_)
 refine zm2 ?_
 refine TL.box rfl rfl (fun b3=>?_)
 refine sh ?_
 refine aI [true] [(0,4),(1,1),(2,4),(3,1),(4,1),(5,3),(6,5),(7,5),(8,1),(9,1),(10,1)] kr kr (aF (S1 SN) (Hp.le.refl _) (fun _ _=>aU rfl (.here _) rfl) rfl (zm6 ?_))
 refine aF (S1 SN) (Hp.le.refl _) (fun _ _=>aU rfl (.here _) rfl) rfl (ic ?_)
 refine aA rfl rfl rfl rfl (fun b12=>?_)
 refine TF.pub sq (fun H_b12 le_b12 rd_b12=>?_)
 replace hp:=hp.le le_b12
 have hA12:RdSl H_b12 1 I64.cells (.slice (some ⟨b12,0,none⟩) 1 1) [at_]:=RdSl.blk (l:=[at_]) (enc:=I64.cells) rd_b12 (by intro x hx;rfl) rfl (by show 1≤9223372036854775807;decide)
 refine ak rfl (cv (ab rfl rfl rfl rfl) (vZ role hp hN hn hA12 sq) rfl (fun v13 H13 ob13 hle13 hp13=>?_))
 obtain⟨eH13,hO13⟩:=hp13
 subst H13
 obtain⟨a13,c13,rfl⟩:=hO13.form
 refine TL.pubO hO13 (.skip _ .all) sq (fun HP13 leP13 hR13=>?_)
 replace hp:=hp.le leP13
 refine al (S1 SN) (le_b12.trans (leP13)) (ak rfl (cv (ab rfl rfl rfl rfl) (wj role hp hR13 (kZ hN) (by have:=iQ (role:=role) hN (frm:=[at_]);omega)) rfl (fun v14 H14 ob14 hle14 hp14=>?_)))
 obtain⟨eH14,hO14⟩:=hp14
 subst H14
 obtain⟨a14,c14,rfl⟩:=hO14.form
 refine TL.pubO hO14 (.skip _ .all) sq (fun HP14 leP14 hQ14=>?_)
 refine al (S1 SN) (le_b12.trans (leP13.trans (leP14))) (ar (ai rfl rfl hQ14) rfl (ic ?_))
 exact TF.nil (ae (TC.ret (aN (.inr rfl) (ad rfl (RVal.tmp rfl)) (congrArg Value.bool (by unfold gx;exact decide_eq_decide.2 om)))))
end Go.Sx
namespace Go.Sx
open Go Go.Proofs
theorem wk {H:Hp}{p:SProto}(role:Str)(hp:ProtoOk H p)(hN:lB p)(hn:p.points.length≤1000){bw:Nat}{sv:Value}{ob:aj}{rows:List GRow}(hO:OwnSl 1 GRow.cells sv rows ob)(hrw:GRowsOk H rows)(hrl:rows.length≤40){fv:Value}{frm:List Int}(hf:RdSl H 1 I64.cells fv frm)(hfl:frm.length≤1000):
  FnX Tryz.prog 125 [.pointer (some ⟨bw,0,none⟩),fv] H ((bw,WK p role sv)::ob) (fun v H1 L1=>∃sv' ob' rows',L1=(bw,WK p role sv')::ob'∧OwnSl 1 GRow.cells sv' rows' ob'∧GRowsOk H1 rows'∧rows'.length≤40∧rows'.map (·.l)=(bA p role (rows.map (·.l)) frm).2.2∧v= .tuple #[.int .i64 (bA p role (rows.map (·.l)) frm).1,.int .i64 (bA p role (rows.map (·.l)) frm).2.1]):=by
 obtain⟨sva,svc,rfl⟩:=hO.form
 have hsl:=iQ (role:=role) hN (frm:=frm)
 have hnl:=lj (p:=p) (role:=role) (cx p role frm)
 refine FnX.enterM Tryz.func125 Tryz.ntmps125 rfl rfl (fun w0 M hM=>?_)
 refine dZ ?_;refine ig ?_;refine zm321 ?_;refine gj ?_;refine aF (S1 SN) (Hp.le.refl _) (fun _ _=>gL rfl (.here _) rfl) rfl (gj ?_);refine rP ?_;refine zm6 ?_
 refine ak rfl (i6 (ab rfl rfl rfl rfl) (vZ role hp hN hn hf hfl) rfl (fun v19 H19 ob19 hf19 hle19 hp19=>?_))
 obtain⟨eH19,hO19⟩:=hp19
 subst H19
 obtain⟨a19,c19,rfl⟩:=hO19.form
 refine TL.pubO hO19 (.skip _ (.past _ .all)) (fun p hp hm=>absurd (hM _ hm) (Nat.not_lt.2 (hf19 p hp))) (fun HP19 leP19 hA19=>?_)
 replace hp:=hp.le leP19
 replace hrw:=hrw.le leP19
 refine al (S1 SN) leP19 (zm6 ?_);refine TF.nil (ae (ig ?_));refine zm321 ?_;refine gj ?_;refine aF (S1 SN) (Hp.le.refl _) (fun _ _=>gL rfl (.here _) rfl) rfl (gj ?_);refine rP ?_;refine zm6 ?_
 refine ak rfl (i6 (ab rfl rfl rfl rfl) (wj role hp hA19 (kZ hN) (by have:=iQ (role:=role) hN (frm:=frm);omega)) rfl (fun v29 H29 ob29 hf29 hle29 hp29=>?_))
 obtain⟨eH29,hO29⟩:=hp29
 subst H29
 obtain⟨a29,c29,rfl⟩:=hO29.form
 refine TL.pubO hO29 (.skip _ (.past _ .all)) (fun p hp hm=>absurd (hM _ hm) (Nat.not_lt.2 (hf29 p hp))) (fun HP29 leP29 hB29=>?_)
 replace hp:=hp.le leP29
 replace hrw:=hrw.le leP29
 replace hA19:=hA19.le leP29
 have hB1:=hB29
 have hA1:=hA19
 have hp1:=hp
 have hrw1:=hrw
 refine al (S1 SN) leP29 (zm6 ?_);refine TF.nil (ae (lR ?_))
 refine aR (V:=fun k v obx H1=>[(8,.int .i64 k)]) (K:=[(0,_),(4,_),(5,_),(6,_),(7,_)]) (L:=fun k v obx H1=>St M w0 H H1 ((bw,WK p role (.slice sva rows.length svc))::ob)) (I:=fun k v obx H1=>(0≤k∧k≤(cx p role frm).length)∧HP29.le H1∧∀j:Nat,j<k.toNat→∀i,(cx p role frm)[j]? =some i→gx p role i=false) (μ:=fun k=>((cx p role frm).length - k).toNat) 0 (.slice none 0 0) [] HP29 ky ⟨o2q,.refl _,fun j h=>absurd h om⟩ (fun w hw=>by simpa only [List.append_nil] using hw) (fun k v obx H1 hI=>?_)
 obtain⟨⟨k0,k1⟩,hI1,hI2⟩:=hI
 have hA2:=hA1.le hI1
 have hB2:=hB1.le hI1
 have hp2:=hp1.le hI1
 replace hrw1:=hrw1.le hI1
 refine eZ ?_;refine TL.run (ai rfl rfl hA2) rfl (zm4 ?_)
 refine ah (s:=34) rfl ?_ ?_<;>intro g34
 ·
  have q34:=of_decide_eq_true g34
  refine cg ?_;refine aB rfl rfl (ai rfl rfl hB2) rfl (fK ?_)
  refine ag rfl ?_ ?_<;>intro c38
  ·
   have hn0:0<(db p role (cx p role frm)).length:=by omega
   obtain⟨j,hx⟩:=ao (l:=(cx p role frm)) k0 om
   refine rT ?_;refine aI [true] [(0,1),(1,1),(2,1),(3,4),(4,1),(5,1),(6,1),(7,4),(8,1),(9,1),(10,1),(11,4),(12,5)] kr kr (gj ?_)
   refine aF (S1 SN) (Hp.le.refl _) (fun _ _=>gL rfl (.here _) rfl) rfl (gj ?_);refine rP ?_;refine ic ?_
   refine ar (af rfl hA2 rfl om om) rfl (aF (S1 SN) (Hp.le.refl _) (fun _ _=>aJ hA2 hx rfl rfl) rfl (ak rfl (TL.call (ab rfl rfl rfl rfl) (lost_ok role hp2 hN hn j) rfl (fun v53 H53 hle53 hp53=>?_))))
   replace hrw1:=hrw1.le hle53
   subst hp53
   refine al (S1 SN) hle53 (TF.nil (ae (TC.cond rfl (fun c53=>?_) (fun c53=>?_))))
   ·
    refine sj ?_
    have hEq:=xj (sets:=rows.map (·.l)) hx c53 hn0
    exact aO (.inr rfl) (bO rfl (RVal.tmp rfl) (RVal.tmp rfl)) (fun w hw=>hw) ⟨_,_,rows,rfl,hO,hrw1,hrl,by rw [hEq],by rw [hEq]⟩
   refine gb ?_
   exact aE (k+1) (.slice none 0 0) [] H53 ⟨o2q,hI1.trans hle53,fun j2 h2 i hi=>by by_cases e:j2<k.toNat;exact hI2 j2 e i hi;rw [show j2=k.toNat by omega,hx] at hi;cases hi;simpa using c53⟩ ky (fun w hw=>hw) om
  exact zq194
 have q34:=of_decide_eq_false g34
 refine gF ?_;refine mi ?_
 exact zq194
end Go.Sx
namespace Go.Sx
open Go Go.Proofs
theorem wJ {H:Hp}{p:SProto}(role:Str)(hp:ProtoOk H p){bw:Nat}{sv:Value}{lv:Value}{l:List Int}(hl:RdSl H 1 I64.cells lv l)(hr:∀j∈l,0≤j∧j<p.points.length):
  KFn Tryz.prog bw (WK p role sv) 174 [.pointer (some ⟨bw,0,none⟩),lv] H (fun v H1 ob=>ob=[]∧H1=H∧v= .tuple #[.int .i64 (cF p role l).1,gs (cF p role l).2.1,.int .i64 (cF p role l).2.2]):=by
 have hpt:=hp.pt
 have hlm:=hl.max
 refine FnX.enter Tryz.func174 Tryz.ntmps174 rfl rfl (fun w0=>?_)
 refine sr ?_;refine dZ ?_;refine lR ?_
 refine TC.loop (V:=fun(q:Int×Int×Str)=>[(7,.int .i64 q.2.1),(8,gs q.2.2),(9,.int .i64 q.1)]) (K:=[(0,_),(1,_),(4,_),(5,_),(6,_)]) (L:=fun(q:Int×Int×Str)=>_) (I:=fun(q:Int×Int×Str)=>(0≤q.1∧q.1≤l.length)∧eh p role q.1.toNat q.2.1 q.2.2 (l.drop q.1.toNat)=cF p role l) (μ:=fun(q:Int×Int×Str)=>(l.length - q.1).toNat) (i:=((0:Int),(0:Int),([]:Str))) ky ⟨o2q,rfl⟩ (fun w hw=>hw) (fun(q:Int×Int×Str) hI=>?_)
 obtain⟨⟨k0,k1⟩,hI3⟩:=hI
 refine eZ ?_;refine TL.run (ai rfl rfl hl) rfl (zm1 ?_)
 refine ag rfl ?_ ?_<;>intro c16
 ·
  obtain⟨j,hx⟩:=ao (l:=l) k0 c16
  have hjr:=hr j (List.mem_of_getElem? hx)
  obtain⟨x,hxp⟩:=ao (l:=p.points) hjr.1 hjr.2
  refine rT ?_;refine aI [true] [(0,1),(1,1),(2,1),(3,1),(4,4),(5,1),(6,1),(7,1),(8,4),(9,1),(10,4),(11,3),(12,5)] kr kr (gj ?_);refine zm3 ?_;refine rP ?_
  refine ic ?_
  refine ar (af rfl hl rfl om om) rfl (aF (S1 SN) (Hp.le.refl _) (fun _ _=>aJ hl hx rfl rfl) rfl (ar (af rfl hpt rfl om om) rfl (aF (S1 SN) (Hp.le.refl _) (fun _ _=>bg hpt hxp rfl rfl) rfl ?_)))
  refine TF.alloc rfl (fun b10=>?_)
  refine ak rfl (gD ?_);refine al (S0 (S1 SN)) (Hp.le.refl _) (TF.nil (ae (TC.seq ?_)));refine eP kr kr (rQ ?_);refine TQ.nil (ae (TC.seq (TC.seq ?_)))
  refine eP kr kr (TQ.run (aX rfl) rfl (TQ.run (ay rfl (.here _) rfl) rfl (pb ?_)))
  refine TQ.run (ay rfl (.h1) rfl) rfl (TQ.run (cd rfl rfl rfl) rfl (TQ.nil (ae ?_)))
  refine ag rfl ?_ ?_<;>intro c38
  ·
   refine eP kr kr (rQ ?_);refine TQ.nil (ae (eZ ?_));refine zm0 ?_
   refine ah (s:=43) rfl ?_ ?_<;>intro g43
   ·
    have q43:=of_decide_eq_true g43
    refine ef ?_;refine ef ?_
    refine ah (s:=47) rfl ?_ ?_<;>intro g47
    ·
     have q47:=bi g47
     refine gF ?_;refine fK ?_;refine cD rfl (m4 ?_);refine jc ?_
     refine aO (.inr rfl) (d7 rfl (RVal.tmp rfl) (RVal.tmp rfl) (RVal.tmp rfl)) (fun w hw=>hw.drop) ⟨[],rfl,rfl,rfl,by rw [← hI3,gK (role:=role) hx hxp (by refine⟨by omega,fun h=>?_⟩;simp_all)];rfl⟩
    have q47:=a7 g47
    refine ef ?_;refine kP ?_;refine fK ?_
    refine aW rfl ?_ ?_<;>intro c52
    ·
     refine m4 ?_;refine jc ?_
     refine aO (.inr rfl) (d7 rfl (RVal.tmp rfl) (RVal.tmp rfl) (RVal.tmp rfl)) (fun w hw=>hw.drop) ⟨[],rfl,rfl,rfl,by rw [← hI3,gK (role:=role) hx hxp (by refine⟨by omega,fun h=>?_⟩;simp_all)];rfl⟩
    refine rO ?_;refine jX ?_;refine ie ?_
    exact aM (q.1+1,2,x.frm) ⟨o2q,by have key:=f2 (role:=role) (kind:=q.2.1) (peer:=q.2.2) (i:=q.1.toNat) hx hxp (by rintro⟨_,h⟩;apply h;constructor<;>simp_all);rw [if_pos c38,if_pos c38] at key;show eh p role (q.1+1).toNat 2 x.frm (l.drop (q.1+1).toNat)=cF p role l;rw [show(q.1+1).toNat=q.1.toNat+1 by omega,← key];exact hI3⟩ ky (fun w hw=>hw.drop) om
   have q43:=of_decide_eq_false g43
   refine sC ?_;refine dD rfl rfl rfl (zm9 ?_);refine mi ?_;refine rO ?_;refine jX ?_;refine ie ?_
   exact aM (q.1+1,2,x.frm) ⟨o2q,by have key:=f2 (role:=role) (kind:=q.2.1) (peer:=q.2.2) (i:=q.1.toNat) hx hxp om;rw [if_pos c38,if_pos c38] at key;show eh p role (q.1+1).toNat 2 x.frm (l.drop (q.1+1).toNat)=cF p role l;rw [show(q.1+1).toNat=q.1.toNat+1 by omega,← key];exact hI3⟩ ky (fun w hw=>hw.drop) om
  refine f8 ?_;refine fo ?_
  refine ah (s:=43) rfl ?_ ?_<;>intro g43
  ·
   have q43:=of_decide_eq_true g43
   refine ef ?_;refine ef ?_
   refine ah (s:=47) rfl ?_ ?_<;>intro g47
   ·
    have q47:=bi g47
    refine gF ?_;refine fK ?_;refine cD rfl (m4 ?_);refine jc ?_
    refine aO (.inr rfl) (d7 rfl (RVal.tmp rfl) (RVal.tmp rfl) (RVal.tmp rfl)) (fun w hw=>hw.drop) ⟨[],rfl,rfl,rfl,by rw [← hI3,gK (role:=role) hx hxp (by refine⟨by omega,fun h=>?_⟩;simp_all)];rfl⟩
   have q47:=a7 g47
   refine ef ?_;refine kP ?_;refine fK ?_
   refine aW rfl ?_ ?_<;>intro c52
   ·
    refine m4 ?_;refine jc ?_
    refine aO (.inr rfl) (d7 rfl (RVal.tmp rfl) (RVal.tmp rfl) (RVal.tmp rfl)) (fun w hw=>hw.drop) ⟨[],rfl,rfl,rfl,by rw [← hI3,gK (role:=role) hx hxp (by refine⟨by omega,fun h=>?_⟩;simp_all)];rfl⟩
   refine rO ?_;refine jX ?_;refine ie ?_
   exact aM (q.1+1,1,x.to) ⟨o2q,by have key:=f2 (role:=role) (kind:=q.2.1) (peer:=q.2.2) (i:=q.1.toNat) hx hxp (by rintro⟨_,h⟩;apply h;constructor<;>simp_all);rw [if_neg c38,if_neg c38] at key;show eh p role (q.1+1).toNat 1 x.to (l.drop (q.1+1).toNat)=cF p role l;rw [show(q.1+1).toNat=q.1.toNat+1 by omega,← key];exact hI3⟩ ky (fun w hw=>hw.drop) om
  have q43:=of_decide_eq_false g43
  refine sC ?_;refine dD rfl rfl rfl (zm9 ?_);refine mi ?_;refine rO ?_;refine jX ?_;refine ie ?_
  exact aM (q.1+1,1,x.to) ⟨o2q,by have key:=f2 (role:=role) (kind:=q.2.1) (peer:=q.2.2) (i:=q.1.toNat) hx hxp om;rw [if_neg c38,if_neg c38] at key;show eh p role (q.1+1).toNat 1 x.to (l.drop (q.1+1).toNat)=cF p role l;rw [show(q.1+1).toNat=q.1.toNat+1 by omega,← key];exact hI3⟩ ky (fun w hw=>hw.drop) om
 refine fX ?_;refine dS ?_;refine zm4 ?_;refine dv ?_
 exact aO (.inr rfl) (d7 rfl (RVal.tmp rfl) (RVal.tmp rfl) (RVal.tmp rfl)) (fun w hw=>hw) ⟨[],rfl,rfl,rfl,by rw [← hI3,List.drop_eq_nil_of_le om];rfl⟩
end Go.Sx
namespace Go.Sx
open Go Go.Proofs
theorem rput_ok {H:Hp}{l:List Str}{v:Value}(s:Str)(hL:RdSl H 1 Str.cells v l)(hlen:l.length≤1000000):
  Fn Tryz.prog 185 [v,gs s] H (fun r H1=>RdSl H1 1 Str.cells r (cA l s)):=by
 obtain⟨va,vc,rfl⟩:=hL.len
 have hrm:=hL.room _ _ _ rfl
 refine Fn.enter Tryz.func185 Tryz.ntmps185 rfl rfl (fun w0=>?_)
 refine ja ?_;refine zm5 ?_
 refine TC.block (TC.loop (V:=fun k=>[(5,.int .i64 k)]) (K:=[(0,_),(1,_),(4,_)]) (L:=fun k=>_) (I:=fun k=>0≤k∧k≤l.length∧cA l s=l.take k.toNat++cA (l.drop k.toNat) s) (μ:=fun k=>(l.length - k).toNat) (i:=(0:Int)) ky ⟨by omega,by omega,by simp⟩ (fun w hw=>hw) (fun k hI=>?_))
 refine m5 ?_;refine zm4 ?_
 refine ah (s:=11) rfl ?_ ?_<;>intro g11
 ·
  have q11:=of_decide_eq_true g11
  obtain⟨x,hx⟩:=ao (l:=l) hI.1 om
  refine ef ?_;refine aB rfl rfl (af rfl hL rfl om om) rfl (aB rfl rfl (aJ hL hx rfl rfl) rfl (cg ?_));refine kP ?_;refine zm1 ?_
  refine TC.cond rfl ?_ ?_<;>intro c18
  · refine cW ?_;refine TC.block (jN ?_);refine jS ?_;exact a8 (aM (k+1) ⟨by omega,by omega,yW hI.1 hI.2.2 hx (by simp_all)⟩ ky (fun w hw=>hw) om)
  refine fX ?_;refine m5 ?_;refine zm4 ?_
  refine ah (s:=25) rfl ?_ ?_<;>intro g25
  ·
   have q25:=of_decide_eq_true g25
   exact zq280
  exact zq252
 have q11:=of_decide_eq_false g11
 refine dB ?_;refine gE ?_;refine mi ?_;refine fX ?_;refine m5 ?_;refine zm4 ?_
 refine ah (s:=25) rfl ?_ ?_<;>intro g25
 ·
  have q25:=of_decide_eq_true g25
  obtain⟨x,hx⟩:=ao (l:=l) hI.1 om
  exact zq280
 exact zq252
theorem yV {H:Hp}{l:List Str}{v:Value}(s:Str)(hL:RdSl H 1 Str.cells v l)(hlen:l.length≤100000):
  Fn Tryz.prog 153 [v,gs s] H (fun r H1=>RdSl H1 1 Str.cells r (l.foldl cA [s])):=by
 obtain⟨la,lc,rfl⟩:=hL.len
 refine Fn.enter Tryz.func153 Tryz.ntmps153 rfl rfl (fun w0=>?_)
 refine j8 ?_
 refine ax rfl rfl rfl rfl (fun b8=>?_)
 refine nh ?_
 refine cT sq (fun H_b8 le_b8 rd_b8=>?_)
 have h8:RdSl H_b8 1 Str.cells _ [s]:=RdSl.blk (cap:=1) rd_b8 (by intro x hx;rfl) kr sq
 replace hL:=hL.le le_b8
 refine zm7 ?_
 refine aR (V:=fun k v ob H1=>[(5,v),(6,.int .i64 k)]) (K:=[(0,_),(4,_)]) (L:=fun k v ob H1=>St [] w0 H H1 ob) (I:=fun k v ob H1=>0≤k∧k≤l.length∧ob=[]∧H_b8.le H1∧RdSl H1 1 Str.cells v ((l.take k.toNat).foldl cA [s])) (μ:=fun k=>(l.length - k).toNat) 0 (.slice (some ⟨b8,0,none⟩) 1 1) [] H_b8 ky ⟨by omega,by omega,rfl,Hp.le.refl _,h8⟩ (fun w hw=>hw) (fun k v ob H1 hI=>?_)
 obtain⟨h0,h1,rfl,hle,hR⟩:=hI
 replace hL:=hL.le hle
 refine m5 ?_;refine zm1 ?_
 refine ag rfl ?_ ?_<;>intro c12
 ·
  obtain⟨x,hx⟩:=ao (l:=l) h0 c12
  have hfl:=tW s (l.take k.toNat)
  refine fu ?_;refine mL ?_;refine lU ?_;refine TL.run (aJ hL hx rfl rfl) rfl (TL.call (ab rfl rfl rfl rfl) (rput_ok x hR (by simp at hfl;omega)) rfl (fun v20 H20 hle20 hp20=>?_))
  refine jY ?_
  exact aE (k+1) _ [] H20 ⟨by omega,by omega,rfl,hle.trans hle20,by rw [bB h0 hx,List.foldl_append];exact hp20⟩ ky (fun w hw=>hw) om
 refine oJ ?_
 exact aN (.inr rfl) (ad rfl (RVal.tmp rfl)) (by rw [bh c12 h0] at hR;exact hR)
end Go.Sx
namespace Go.Sx
open Go Go.Proofs
theorem sI {H:Hp}{p:SProto}(role:Str)(hp:ProtoOk H p){bw:Nat}{sv:Value}{lv:Value}{l:List Int}(hl:RdSl H 1 I64.cells lv l)(hr:∀j∈l,0≤j∧j<p.points.length)(hll:l.length≤1000)(h6:∀x∈p.points,x.arms.length≤6):
  KFn Tryz.prog bw (WK p role sv) 175 [.pointer (some ⟨bw,0,none⟩),lv] H (fun v H1 ob=>ob=[]∧∃lv',v= .tuple #[lv',.bool (iI p l)]∧RdSl H1 1 Str.cells lv' (cX p l)):=by
 refine FnX.enter Tryz.func175 Tryz.ntmps175 rfl rfl (fun w0=>?_)
 refine dZ ?_;refine ij ?_
 refine aR (V:=fun k v ob H1=>[(6,v),(7,.int .i64 k)]) (K:=[(0,_),(1,_),(4,_),(5,_)]) (L:=fun k v ob H1=>St (keys [(bw,WK p role sv)]) w0 H H1 [(bw,WK p role sv)]) (I:=fun k v ob H1=>(0≤k∧k≤l.length)∧H.le H1∧RdSl H1 1 Str.cells v (jd p [] (l.take k.toNat))) (μ:=fun k=>(l.length - k).toNat) 0 (.slice none 0 0) [] H ky ⟨o2q,.refl _,RdSl.nil⟩ (fun w hw=>hw) (fun k v ob H1 hI=>?_)
 obtain⟨⟨k0,k1⟩,hIA,hI3⟩:=hI
 have hp1:=hp.le hIA
 have hl1:=hl.le hIA
 have hpt1:=hp1.pt
 have hlm:=hl.max
 refine eZ ?_;refine TL.run (ai rfl rfl hl1) rfl (zm1 ?_)
 refine ag rfl ?_ ?_<;>intro c14
 ·
  obtain⟨j,hx⟩:=ao (l:=l) k0 c14
  have hjr:=hr j (List.mem_of_getElem? hx)
  obtain⟨x,hxp⟩:=ao (l:=p.points) hjr.1 hjr.2
  have hxa:=(hp1.ps x (List.mem_of_getElem? hxp)).a
  have hx6:=h6 x (List.mem_of_getElem? hxp)
  have hln:=tN h6 (l.take k.toNat) []
  have hlt:=List.length_take_le k.toNat l
  have hlt2:(l.take k.toNat).length≤l.length:=by rw [List.length_take];omega
  simp only [List.length_nil] at hln
  refine lM ?_;refine pb ?_;refine rQ ?_
  refine TQ.run (af rfl hl1 rfl om om) rfl (TQ.run (aJ hl1 hx rfl rfl) rfl (TQ.run (af rfl hpt1 rfl om om) rfl (TQ.run (aX rfl) rfl ?_)))
  refine TQ.run (bL hpt1 hxp rfl rfl) rfl (mM ?_);refine hZ ?_
  refine aR (V:=fun m v ob H2=>[(6,v),(9,.int .i64 m)]) (K:=[(0,_),(1,_),(4,_),(5,_),(7,_),(8,_),(11,_),(12,_),(13,_),(14,_),(17,_),(18,_),(19,_),(20,_),(21,_),(22,_),(23,_),(24,_),(25,_),(26,_),(27,_),(28,_)]) (L:=fun m v ob H2=>St (keys [(bw,WK p role sv)]) w0 H H2 [(bw,WK p role sv)]) (I:=fun m v ob H2=>(0≤m∧m≤x.arms.length)∧H1.le H2∧RdSl H2 1 Str.cells v (fZ (jd p [] (l.take k.toNat)) (x.arms.take m.toNat))) (μ:=fun m=>(x.arms.length - m).toNat) 0 v [] H1 ky ⟨o2q,.refl _,hI3⟩ (fun w hw=>hw) (fun m v ob H2 hI=>?_)
  obtain⟨⟨m0,m1⟩,hI2,hI3⟩:=hI
  have hxa2:=hxa.le hI2
  have hxm:=hxa.max
  refine eZ ?_;refine TL.run (ai rfl rfl hxa2) rfl (zm1 ?_)
  refine ag rfl ?_ ?_<;>intro c32
  ·
   obtain⟨a,ha⟩:=ao (l:=x.arms) m0 c32
   have hla:=n7 (jd p [] (l.take k.toNat)) (x.arms.take m.toNat)
   have hlt3:(x.arms.take m.toNat).length≤x.arms.length:=by rw [List.length_take];omega
   refine fu ?_;refine mL ?_;refine TL.run (af rfl hxa2 rfl om om) rfl (zm8 ?_)
   refine TL.run (bL hxa2 ha rfl rfl) rfl (TL.call (ab rfl rfl rfl rfl) (yV a.label hI3 om) rfl (fun v41 H41 hle41 hp41=>?_))
   refine jY ?_
   exact aE (m+1) v41 [] H41 ⟨o2q,hI2.trans hle41,by rw [xo m0 ha];exact hp41⟩ ky (fun w hw=>hw) om
  refine rR ?_
  exact aE (k+1) v [] H2 ⟨o2q,hIA.trans hI2,by rw [xn k0 hx hxp];rw [show x.arms.take m.toNat=x.arms from List.take_of_length_le om] at hI3;exact hI3⟩ ky (fun w hw=>hw) om
 refine rN ?_
 rw [List.take_of_length_le om] at hI3
 have hO:RdSl H1 1 Str.cells v (cX p l):=hI3
 refine zm7 ?_
 refine TC.loop (V:=fun k=>[(10,.int .i64 k)]) (K:=[(0,_),(1,_),(4,_),(5,_),(6,_)]) (L:=fun k=>_) (I:=fun k=>(0≤k∧k≤l.length)∧l.all (ki p (cX p l).length)=(l.drop k.toNat).all (ki p (cX p l).length)) (μ:=fun k=>(l.length - k).toNat) (i:=(0:Int)) ky ⟨o2q,rfl⟩ (fun w hw=>hw) (fun k hI=>?_)
 obtain⟨⟨k0,k1⟩,hal⟩:=hI
 refine eZ ?_;refine TL.run (ai rfl rfl hl1) rfl (zm1 ?_)
 refine ag rfl ?_ ?_<;>intro c45
 ·
  obtain⟨j,hx⟩:=ao (l:=l) k0 c45
  have hjr:=hr j (List.mem_of_getElem? hx)
  obtain⟨x,hxp⟩:=ao (l:=p.points) hjr.1 hjr.2
  have hxa:=(hp1.ps x (List.mem_of_getElem? hxp)).a
  refine lM ?_;refine pb ?_;refine rQ ?_
  refine TQ.run (af rfl hl1 rfl om om) rfl (TQ.run (aJ hl1 hx rfl rfl) rfl (TQ.run (af rfl hpt1 rfl om om) rfl (TQ.run (aX rfl) rfl ?_)))
  refine TQ.run (bL hpt1 hxp rfl rfl) rfl (TQ.run (ai rfl rfl hxa) rfl (TQ.run (aD rfl) rfl (TQ.run (ai rfl rfl hO) rfl ?_)));refine mM ?_
  refine aW rfl ?_ ?_<;>intro c63
  ·
   refine m4 ?_;refine gi ?_
   exact aO (.inr rfl) (bO rfl (RVal.tmp rfl) (RVal.tmp rfl)) (fun w hw=>hw) ⟨[],rfl,rfl,_,by rw [show iI p l=false from cN (p:=ki p (cX p l).length) k0 hx (by unfold ki;rw [hxp];simpa using c63) hal],hO⟩
  refine gb ?_
  exact aM (k+1) ⟨o2q,bM (p:=ki p (cX p l).length) k0 hx (by unfold ki;rw [hxp];simpa using c63) hal⟩ ky (fun w hw=>hw) om
 refine fX ?_;refine m4 ?_
 exact aO (.inr rfl) (bO rfl (RVal.tmp rfl) (RVal.tmp rfl)) (fun w hw=>hw) ⟨[],rfl,rfl,_,by rw [show iI p l=true from cz (p:=ki p (cX p l).length) k0 c45 hal],hO⟩
end Go.Sx
namespace Go.Sx
open Go Go.Proofs
theorem eqCar (k k':Int)(s s':Str):jG Tryz.prog 4 40 [.int .i64 k,gs s] [.int .i64 k',gs s']=some (decide (k=k'∧s=s')):=by
 have h:jG Tryz.prog 4 40 [.int .i64 k,gs s] [.int .i64 k',gs s']=some ((k==k')&&(((ByteArray.mk s.toArray).toList==(ByteArray.mk s'.toArray).toList)&&true)):=by kernel_rfl
 rw [h,lq,lq]
 by_cases h1:k=k'<;>by_cases h2:s=s'<;>simp [h1,h2]
theorem ka {H:Hp}{p:SProto}(role:Str)(hp:ProtoOk H p){bw:Nat}{sv:Value}{lv:Value}{l:List Int}(hl:RdSl H 1 I64.cells lv l)(hr:∀j∈l,0≤j∧j<p.points.length)(s:Str)(hll:l.length≤1000):
  KFn Tryz.prog bw (WK p role sv) 176 [.pointer (some ⟨bw,0,none⟩),lv,gs s] H (fun v H1 ob=>H1=H∧∃tv,v= .tuple #[.agg #[.int .i64 (dg p l s).1,gs (dg p l s).2.1],tv,.bool (dg p l s).2.2.2]∧((dg p l s).2.2.2=true→OwnSl 1 I64.cells tv (dg p l s).2.2.1 ob)):=by
 have hpt:=hp.pt
 have hlm:=hl.max
 refine FnX.enter Tryz.func176 Tryz.ntmps176 rfl rfl (fun w0=>?_)
 refine zm2 ?_
 refine TL.alloc rfl (fun b6=>?_)
 refine jr ?_;refine zm2 ?_
 refine TL.alloc rfl (fun b9=>?_)
 refine TL.nil (ae (ij ?_))
 refine aR (V:=fun(q:Int×Int×Str) v ob H1=>[(10,v),(11,.int .i64 q.1)]) (K:=[(0,_),(1,_),(2,_),(6,_),(7,_),(8,_),(9,_)]) (L:=fun(q:Int×Int×Str) v ob H1=>St (keys [(bw,WK p role sv)]) w0 H H ((b9,[.int .i64 q.2.1,gs q.2.2])::(b6,[.int .i64 0,gs []])::(bw,WK p role sv)::ob)) (I:=fun(q:Int×Int×Str) v ob H1=>(0≤q.1∧q.1≤l.length)∧∃to,OwnSl 1 I64.cells v to ob∧gf p s q.2.1 q.2.2 to (l.drop q.1.toNat)=dg p l s∧to.length≤q.1.toNat) (μ:=fun(q:Int×Int×Str)=>(l.length - q.1).toNat) ((0:Int),(0:Int),([]:Str)) (.slice none 0 0) [] H ky ⟨o2q,[],OwnSl.nil,rfl,by simp⟩ (fun w hw=>hw) (fun q v ob H1 hI=>?_)
 obtain⟨⟨k0,k1⟩,to,hO,hI3,hI4⟩:=hI
 obtain⟨va,vc,rfl⟩:=hO.form
 refine eZ ?_;refine TL.run (ai rfl rfl hl) rfl (zm1 ?_)
 refine ag rfl ?_ ?_<;>intro c17
 ·
  obtain⟨j,hx⟩:=ao (l:=l) k0 c17
  have hjr:=hr j (List.mem_of_getElem? hx)
  obtain⟨x,hxp⟩:=ao (l:=p.points) hjr.1 hjr.2
  have hxa:=(hp.ps x (List.mem_of_getElem? hxp)).a
  have hfr:=gM (x.arms.map (·.label)) s
  rw [List.length_map] at hfr
  refine lM ?_;refine pb ?_;refine TQ.run (aX rfl) rfl (TQ.run (ay rfl (.h2) rfl) rfl (mI ?_))
  refine TQ.run (af rfl hl rfl om om) rfl (TQ.run (aJ hl hx rfl rfl) rfl (TQ.run (af rfl hpt rfl om om) rfl (TQ.run (aX rfl) rfl ?_)))
  refine TQ.run (bL hpt hxp rfl rfl) rfl (mM ?_);refine dS ?_;refine aq (ab rfl rfl rfl rfl) (uH s hxa) rfl (lT ?_)
  refine ag rfl ?_ ?_<;>intro c36
  ·
   refine TC.exit (bE (cL (ae ?_)));refine jN ?_;refine jS ?_
   exact aE (q.1+1,q.2) _ ob H ⟨o2q,_,hO,by rw [show(q.1+1).toNat=q.1.toNat+1 by omega,← xE hx hxp c36];exact hI3,by omega⟩ ky (fun w hw=>hw) om
  obtain⟨a,ha⟩:=ao (l:=x.arms) (i:=bz (x.arms.map (·.label)) s) om om
  refine f8 ?_;refine TC.seq (eP kr kr (TQ.run (aD rfl) rfl (TQ.run (bj rfl rfl hO) rfl ?_)));refine mI ?_
  refine ug (s:=40) rfl ?_ ?_<;>intro g40
  ·
   have q40:=of_decide_eq_true g40
   refine dP rfl rfl (aD rfl) rfl (dP rfl rfl (aD rfl) rfl (dP rfl rfl (af rfl hxa rfl om om) rfl (dP rfl rfl (aX rfl) rfl ?_)))
   refine dP rfl rfl (nL hxa ha rfl rfl) rfl (dP rfl rfl (aU rfl (.here _) rfl) rfl (dP rfl rfl (pr_neA rfl rfl kr kr (eqCar _ _ _ _)) rfl (mM ?_)))
   refine TC.cond rfl ?_ ?_<;>intro c48
   ·
    refine eS ?_;refine mS ?_;refine eD ?_;refine jc ?_
    have hE:dg p l s=(q.2.1,q.2.2,[],false):=by rw [← hI3];exact zB hx hxp c36 ha ⟨by omega,fun h=>by simp [h.1,h.2] at c48⟩
    exact aO (.inr rfl) (d7 rfl (RVal.cellA rfl (.h1) rfl) (RVal.tmp rfl) (RVal.tmp rfl)) (fun w hw=>hw.drop.drop) ⟨ob,rfl,rfl,_,by rw [hE];rfl,fun h=>by rw [hE] at h ⊢;first | exact hO | cases h⟩
   refine rM ?_;refine TL.run (af rfl hxa rfl om om) rfl (zm8 ?_);refine TL.run (nL hxa ha rfl rfl) rfl (fl ?_);refine mL ?_;refine rS ?_
   refine ax rfl rfl rfl rfl (fun b61=>?_)
   refine TL.append (enc:=I64.cells) rfl rfl rfl hO (Src.own [a.next] (.here _) rfl rfl) (by simp;omega) rfl (.s3 (.skip _ .all)) rfl (fun a62 c62 ob62 hO62=>?_)
   refine jY ?_
   exact aE (q.1+1,a.ck,a.cn) _ ob62 H ⟨o2q,_,hO62,by rw [show(q.1+1).toNat=q.1.toNat+1 by omega,← ql hx hxp c36 ha (by rintro⟨h1,h2⟩;exact h2 (by simpa using c48))];exact hI3,by simp only [List.length_append,List.length_cons,List.length_nil];omega⟩ ky (fun w hw=>hw.drop) om
  have q40:=of_decide_eq_false g40
  refine yp ?_;refine gV rfl rfl rfl rfl (gV rfl rfl rfl rfl (gV rfl rfl rfl rfl (mM ?_)));refine dR rfl (rM ?_);refine TL.run (af rfl hxa rfl om om) rfl (zm8 ?_)
  refine TL.run (nL hxa ha rfl rfl) rfl (fl ?_);refine mL ?_;refine rS ?_
  refine ax rfl rfl rfl rfl (fun b61=>?_)
  refine TL.append (enc:=I64.cells) rfl rfl rfl hO (Src.own [a.next] (.here _) rfl rfl) (by simp;omega) rfl (.s3 (.skip _ .all)) rfl (fun a62 c62 ob62 hO62=>?_)
  refine jY ?_
  exact aE (q.1+1,a.ck,a.cn) _ ob62 H ⟨o2q,_,hO62,by rw [show(q.1+1).toNat=q.1.toNat+1 by omega,← ql hx hxp c36 ha om];exact hI3,by simp only [List.length_append,List.length_cons,List.length_nil];omega⟩ ky (fun w hw=>hw.drop) om
 refine fX ?_;refine eS ?_;refine zm0 ?_;refine mS ?_;refine eD ?_
 have hE:dg p l s=(q.2.1,q.2.2,to,true):=by rw [← hI3];exact(by rw [List.drop_eq_nil_of_le om];rfl)
 exact aO (.inr rfl) (d7 rfl (RVal.cellA rfl (.h1) rfl) (RVal.tmp rfl) (RVal.tmp rfl)) (fun w hw=>hw.drop.drop) ⟨ob,rfl,rfl,_,by rw [hE];rfl,fun h=>by rw [hE] at h ⊢;first | exact hO | cases h⟩
end Go.Sx
namespace Go.Sx
open Go Go.Proofs
theorem turn_ok {H:Hp}{p:SProto}(role:Str)(hp:ProtoOk H p)(hN:lB p)(hn:p.points.length≤1000){bw:Nat}{sv:Value}{ob:aj}{rows:List GRow}(hO:OwnSl 1 GRow.cells sv rows ob)(hrw:GRowsOk H rows)(hrl:rows.length≤40)(h6:∀x∈p.points,x.arms.length≤6){fv:Value}{set:List Int}(hf:RdSl H 1 I64.cells fv set)(hr:∀j∈set,0≤j∧j<p.points.length)(hfl:set.length≤1000):
  FnX Tryz.prog 126 [.pointer (some ⟨bw,0,none⟩),fv] H ((bw,WK p role sv)::ob) (fun v H1 L1=>∃sv' ob' rows' av oa,L1=(bw,WK p role sv')::(ob'++oa)∧OwnSl 1 GRow.cells sv' rows' ob'∧GRowsOk H1 rows'∧rows'.length≤40∧rows'.map (·.l)=(bp p role (rows.map (·.l)) set).2.2∧OwnSl 4 SArm.cells av (bp p role (rows.map (·.l)) set).1.2.2 oa∧v= .tuple #[.agg #[.int .i64 (bp p role (rows.map (·.l)) set).1.1,gs (bp p role (rows.map (·.l)) set).1.2.1,av],.int .i64 (bp p role (rows.map (·.l)) set).2.1]):=by
 refine FnX.enterM Tryz.func126 Tryz.ntmps126 rfl rfl (fun w0 M hM=>?_)
 refine zm2 ?_
 refine TL.alloc rfl (fun b4=>?_)
 refine rL ?_;refine TL.run (ai rfl rfl hf) rfl (zm1 ?_)
 refine ag rfl ?_ ?_<;>intro c24
 ·
  refine rK ?_
  have hE:bp p role (rows.map (·.l)) set=((0,[],[]),0,rows.map (·.l)):=by unfold bp;rw [if_pos om]
  exact aO (.inr rfl) (bO rfl (RVal.cellA rfl (.here _) rfl) (RVal.tmp rfl)) (fun w hw=>by rw [List.append_nil];exact hw.drop) ⟨_,ob,rows,.slice none 0 0,[],rfl,hO,hrw,hrl,by rw [hE],by rw [hE];exact OwnSl.nil,by rw [hE];rfl⟩
 refine rM ?_
 refine kO (X:=[(b4,_)]) (b:=bw) rfl (ab rfl rfl rfl rfl) (wJ role hp hf hr) rfl (fun v29 H29 ob29 hle29 hf29 hp29=>?_)
 obtain⟨eb29,eH29,rfl⟩:=hp29
 subst eb29
 replace eH29:=eH29.symm
 subst eH29
 rw [List.append_nil]
 refine m3 ?_;refine zm4 ?_;refine lT ?_
 refine aW rfl ?_ ?_<;>intro c34
 ·
  refine im ?_;refine zm0 ?_;refine xZ ?_
  have hE:bp p role (rows.map (·.l)) set=((0,[],[]),(cF p role set).2.2,rows.map (·.l)):=by unfold bp;rw [if_neg om,if_pos c34]
  exact aO (.inr rfl) (bO rfl (RVal.cellA rfl (.here _) rfl) (RVal.tmp rfl)) (fun w hw=>by rw [List.append_nil];exact hw.drop) ⟨_,ob,rows,.slice none 0 0,[],rfl,hO,hrw,hrl,by rw [hE],by rw [hE];exact OwnSl.nil,by rw [hE];rfl⟩
 have h34:¬(cF p role set).2.2≠0:=by simpa using c34
 refine rM ?_
 refine kO (X:=[(b4,_)]) (b:=bw) rfl (ab rfl rfl rfl rfl) (sI role hp hf hr hfl h6) rfl (fun v40 H40 ob40 hle40 hf40 hp40=>?_)
 obtain⟨eb40,lv40,rfl,hlab⟩:=hp40
 subst eb40
 rw [List.append_nil]
 replace hp:=hp.le hle40
 replace hf:=hf.le hle40
 replace hrw:=hrw.le hle40
 obtain⟨la,lc,rfl⟩:=hlab.len
 have hlm:=hlab.max
 refine m3 ?_;refine eX ?_;refine fo ?_
 refine ah (s:=45) rfl ?_ ?_<;>intro g45
 ·
  have q45:=of_decide_eq_true g45
  refine ef ?_;refine zm1 ?_
  refine TC.cond rfl ?_ ?_<;>intro c48
  ·
   refine rK ?_
   have hE:bp p role (rows.map (·.l)) set=((0,[],[]),803,rows.map (·.l)):=by unfold bp;rw [if_neg om,if_neg h34,if_pos ⟨q45,by simpa using c48⟩]
   exact aO (.inr rfl) (bO rfl (RVal.cellA rfl (.here _) rfl) (RVal.tmp rfl)) (fun w hw=>by rw [List.append_nil];exact hw.drop) ⟨_,ob,rows,.slice none 0 0,[],rfl,hO,hrw,hrl,by rw [hE],by rw [hE];exact OwnSl.nil,by rw [hE];rfl⟩
  exact zq290
 have q45:=of_decide_eq_false g45
 refine gE ?_;refine mi ?_
 exact zq290
end Go.Sx
namespace Go.Sx
open Go
theorem wo:∀{s:Str} {k:Nat},s[k]? =some 46→(∀j,j<k→s[j]? ≠some 46)→Lib.index s [46]=(k:Int)
 | [],_,h,_=>by simp at h
 | b::l,0,h,_=>by
  simp at h;subst h
  simp [Lib.index,List.isPrefixOf]
 | b::l,k+1,h,hn=>by
  have h0:b≠46:=fun e=>hn 0 om (by simp [e])
  have ih:=wo (s:=l) (k:=k) (by simpa using h) (fun j hj=>by have:=hn (j+1) om;simpa using this)
  have h1:((46:UInt8)==b)=false:=by simpa using Ne.symm h0
  have h2:((k:Int)== -1)=false:=by rw [beq_eq_false_iff_ne];omega
  simp [Lib.index,List.isPrefixOf,h1,ih,h2]
theorem tQ:∀{s:Str},(∀j,j<s.length→s[j]? ≠some 46)→Lib.index s [46]= -1
 | [],_=>by simp [Lib.index]
 | b::l,hn=>by
  have h0:b≠46:=fun e=>hn 0 sq (by simp [e])
  have ih:=tQ (s:=l) (fun j hj=>by have:=hn (j+1) (by simp;omega);simpa using this)
  have h1:((46:UInt8)==b)=false:=by simpa using Ne.symm h0
  simp [Lib.index,List.isPrefixOf,h1,ih]
theorem cut_hit {s:Str}{k:Nat}(h:s[k]? =some 46)(hn:∀j,j<k→s[j]? ≠some 46):jH s=(s.take k,s.drop (k+1),true):=by
 unfold jH Lib.cut
 rw [wo h hn,if_pos om]
 simp
theorem zx {s:Str}(hn:∀j,j<s.length→s[j]? ≠some 46):jH s=(s,[],false):=by
 unfold jH Lib.cut
 rw [tQ hn,if_neg om]
def iM (s:Str):Bool:=aG (jH s).1&&(!(jH s).2.2||aG (jH s).2.1)
theorem jw {s:Str}{k:Int}(k0:0≤k)(h:s[k.toNat]? =some 46)(hn:∀j:Nat,j<k.toNat→s[j]? ≠some 46):iM s=(aG (s.take k.toNat)&&aG (s.drop (k+1).toNat)):=by
 unfold iM
 rw [cut_hit h hn,show(k+1).toNat=k.toNat+1 by omega];rfl
theorem ip {s:Str}(hn:∀j:Nat,j<s.length→s[j]? ≠some 46):iM s=aG s:=by
 unfold iM
 rw [zx hn];simp
theorem i2 {ck:Int}{cn:Str}(h:ck=5):cu ck cn=iM cn:=by subst h;rfl
theorem eB {ck:Int}{cn:Str}(h:¬ck=5):cu ck cn=(decide (0≤ck)&&(decide (ck<5)&&decide (cn=[]))):=by
 unfold cu
 by_cases h1:ck<0∨5<ck
 ·rw [if_pos h1]
  rcases h1 with h1 | h1
  ·rw [show decide (0≤ck)=false from decide_eq_false om];rfl
  ·rw [show decide (ck<5)=false from decide_eq_false om];simp
 ·rw [if_neg h1,if_pos h,show decide (0≤ck)=true from decide_eq_true om,show decide (ck<5)=true from decide_eq_true om];simp
def ci (roles:List Str)(n:Int)(x:SPoint):Bool:=dW x||(dK roles x&&cV x.arms n)
def gp (p:SProto):Bool:=aG p.name&&(decide ((2:Int)≤p.roles.length)&&(decide ((p.roles.length:Int)≤5)&&(cU p.roles&&(decide ((1:Int)≤p.points.length)&&decide ((p.points.length:Int)≤24)))))
def cy (p:SProto):Bool:=gp p&&(p.roles.all aG&&p.points.all (ci p.roles p.points.length))
theorem u8_of {c:UInt8}(h:(c.toNat:Int)=46):c=46:=by
 apply UInt8.toNat_inj.1
 have:(46:UInt8).toNat=46:=rfl
 omega
section
variable {l:List SArm}{n k m:Int}{a b:SArm}
theorem wW (k0:0≤k)(hx:l[k.toNat]? =some a)(h:d8 n a=false)(hal:l.all (d8 n)=(l.drop k.toNat).all (d8 n)):false=cV l n:=by
 have h1:l.all (d8 n)=false:=cN k0 hx h hal
 unfold cV;rw [h1];simp
theorem wV (k0:0≤k)(m0:0≤m)(hm:m<k)(hx:l[k.toNat]? =some a)(hb:l[m.toNat]? =some b)(h:b.label=a.label):false=cV l n:=by
 have h1:cU (l.map (·.label))=false:=by
  unfold cU
  simp only [decide_eq_false_iff_not]
  intro hn
  have h2:(l.map (·.label))[k.toNat]? =some a.label:=ge hx
  have h3:(l.map (·.label))[m.toNat]? =some b.label:=ge hb
  obtain⟨hi,hi'⟩:=List.getElem?_eq_some_iff.1 h2
  obtain⟨hj,hj'⟩:=List.getElem?_eq_some_iff.1 h3
  exact List.pairwise_iff_getElem.1 hn m.toNat k.toNat hj hi om (by rw [hi',hj',h])
 unfold cV;rw [h1];simp
theorem yU (k0:0≤k)(hx:l[k.toNat]? =some a)(hnd:((l.map (·.label)).take k.toNat).Nodup)(hm:k≤m)(h:∀j:Nat,j<m.toNat→(l.map (·.label))[j]? ≠some a.label):((l.map (·.label)).take (k+1).toNat).Nodup:=by
 refine jx k0 (ge hx) hnd (fun hm2=>?_)
 obtain⟨j,hj⟩:=List.getElem?_of_mem hm2
 have hlt:=(List.getElem?_eq_some_iff.1 hj).1
 rw [List.length_take] at hlt
 rw [List.getElem?_take,if_pos om] at hj
 exact h j om hj
theorem pV (k0:0≤k)(hk:¬k<l.length)(hal:l.all (d8 n)=(l.drop k.toNat).all (d8 n))(hnd:((l.map (·.label)).take k.toNat).Nodup){r:Bool}(hr:r=(decide ((1:Int)≤l.length)&&decide ((l.length:Int)≤6))):r=cV l n:=by
 have h1:l.all (d8 n)=true:=cz k0 hk hal
 rw [List.take_of_length_le (by rw [List.length_map];omega)] at hnd
 unfold cV cU
 rw [h1,hr,decide_eq_true hnd]
 have e1:decide ((1:Int)≤l.length)=decide (1≤l.length):=decide_eq_decide.2 om
 have e2:decide ((l.length:Int)≤6)=decide (l.length≤6):=decide_eq_decide.2 om
 rw [e1,e2];simp
end
theorem rpt_1 {r:List Str}{n:Int}{x:SPoint}(h:dW x=true):ci r n x=true:=by unfold ci;rw [h];rfl
def uF (r:List Str)(n:Int)(x:SPoint):Bool:=dK r x&&cV x.arms n
theorem rpt_2 {r:List Str}{n:Int}{x:SPoint}(h:(!uF r n x)=false):ci r n x=true:=by unfold ci;rw [show(dK r x&&cV x.arms n)=true from nb_F h,Bool.or_true]
theorem rpt_3 {r:List Str}{n:Int}{x:SPoint}(h1:dW x=false)(h:(!uF r n x)=true):ci r n x=false:=by unfold ci;rw [show(dK r x&&cV x.arms n)=false from xb h,h1];rfl
theorem kn {p:SProto}(h:(!gp p)=true):false=cy p:=by unfold cy;rw [xb h];rfl
theorem km {p:SProto}(h1:p.roles.all aG=false):false=cy p:=by unfold cy;rw [h1];simp
theorem kk {p:SProto}(h1:p.points.all (ci p.roles p.points.length)=false):false=cy p:=by unfold cy;rw [h1];simp
theorem kj {p:SProto}(h:gp p=true)(h1:p.roles.all aG=true)(h2:p.points.all (ci p.roles p.points.length)=true):true=cy p:=by unfold cy;rw [h,h1,h2];rfl
structure RPOk (p:SProto):Prop where
 n1:1≤p.points.length
 n24:p.points.length≤24
 r5:p.roles.length≤5
 nx:lB p
 a6:∀x∈p.points,x.arms.length≤6
 rn:∀r∈p.roles,aG r=true
 nm:aG p.name=true
 pt:∀x∈p.points,ci p.roles p.points.length x=true
theorem RPOk.of {p:SProto}(h:cy p=true):RPOk p:=by
 unfold cy gp at h
 simp only [Bool.and_eq_true,decide_eq_true_eq] at h
 obtain⟨⟨h1,h2,h3,h4,h5,h6⟩,h7,h8⟩:=h
 have hpt:∀x∈p.points,ci p.roles p.points.length x=true:=List.all_eq_true.1 h8
 have key:∀x∈p.points,x.arms=[]∨cV x.arms p.points.length=true:=fun x hx=>by
  have:=hpt x hx
  unfold ci dW at this
  simp only [Bool.or_eq_true,Bool.and_eq_true,decide_eq_true_eq] at this
  rcases this with ⟨_,_,h⟩ | ⟨_,h⟩
  ·exact .inl (List.length_eq_zero_iff.1 om)
  ·exact .inr h
 refine⟨by omega,by omega,by omega,fun x hx a ha=>?_,fun x hx=>?_,List.all_eq_true.1 h7,h1,hpt⟩
 ·rcases key x hx with h | h
  ·rw [h] at ha;simp at ha
  ·unfold cV at h
   simp only [Bool.and_eq_true] at h
   have:=List.all_eq_true.1 h.2.1 a ha
   unfold d8 at this
   simp only [Bool.and_eq_true,Bool.not_eq_true',decide_eq_false_iff_not] at this
   omega
 ·rcases key x hx with h | h
  ·rw [h];simp
  ·unfold cV at h
   simp only [Bool.and_eq_true,decide_eq_true_eq] at h
   omega
theorem kK {p:SProto}{s:Str}{B:Nat}(hB:∀x∈p.points,∀a∈x.arms,a.cn.length≤B):∀(l:List Int) (ck:Int) (cn:Str) (to:List Int),cn.length≤B→(gf p s ck cn to l).2.1.length≤B
 | [],_,_,_,h=>h
 | j::r,ck,cn,to,h=>by
  unfold gf
  split
  ·exact kK hB r _ _ _ h
  ·rename_i x hx
   split
   ·exact kK hB r _ _ _ h
   ·split
    ·exact kK hB r _ _ _ h
    ·rename_i a ha
     split
     ·exact h
     ·exact kK hB r _ _ _ (hB x (List.mem_of_getElem? hx) a (List.mem_of_getElem? ha))
theorem sM {p:SProto}{role:Str}{set:List Int}{B:Nat}(hB:∀x∈p.points,∀a∈x.arms,a.cn.length≤B):∀(l:List Str) (sets:List (List Int)) (acc:List SArm),(∀a∈acc,a.cn.length≤B)→∀a∈(turnA p role set l sets acc).1,a.cn.length≤B
 | [],_,_,h=>h
 | lb::r,sets,acc,h=>by
  unfold turnA
  split
  ·simp
  ·exact sM hB r _ _ (eN h (kK hB set 0 [] [] sq))
theorem yF {p:SProto}{role:Str}{sets:List (List Int)}{set:List Int}{B:Nat}(hB:∀x∈p.points,∀a∈x.arms,a.cn.length≤B):∀a∈(bp p role sets set).1.2.2,a.cn.length≤B:=by
 unfold bp
 split; · simp
 split; · simp
 split; · simp
 split; · simp
 split; · simp
 split; · simp
 exact sM hB _ _ _ sq
def iL (n:Nat)(sets:List (List Int)):Prop:=∀s∈sets,(∀j∈s,0≤j∧j<(n:Int))∧s.length≤n
theorem nZ {p:SProto}{role:Str}(hN:lB p){sets:List (List Int)}{frm:List Int}(h:iL p.points.length sets):iL p.points.length (bA p role sets frm).2.2:=by
 unfold bA
 split
 ·exact h
 ·split
  ·exact h
  ·split
   ·exact h
   ·refine eN h ⟨fun j hj=>kZ hN j (List.mem_filter.1 hj).1,Nat.le_trans (lj _) (iQ hN)⟩
theorem nt {p:SProto}{role:Str}(hN:lB p){set:List Int}:∀(l:List Str) (sets:List (List Int)) (acc:List SArm),iL p.points.length sets→iL p.points.length (turnA p role set l sets acc).2.2
 | [],_,_,h=>h
 | lb::r,sets,acc,h=>by
  unfold turnA
  split
  ·exact nZ hN h
  ·exact nt hN r _ _ (nZ hN h)
theorem yD {p:SProto}{role:Str}(hN:lB p){set:List Int}{sets:List (List Int)}(h:iL p.points.length sets):iL p.points.length (bp p role sets set).2.2:=by
 unfold bp
 split; · exact h
 split; · exact h
 split; · exact h
 split; · exact h
 split; · exact h
 split; · exact nt hN _ _ _ h
 exact nt hN _ _ _ h
abbrev TT:=Int×Str×List SArm
def tt (t:STurn):TT:=(t.kind,t.peer,t.arms)
def iw (p:SProto)(role:Str):Nat→Nat→List (List Int)→List TT→Int×List TT
 | 0,_,_,acc=>(0,acc)
 | f+1,i,sets,acc=>match sets[i]? with
  | none=>(0,acc)
  | some s=>if(bp p role sets s).2.1≠0 then((bp p role sets s).2.1,[]) else iw p role f (i+1) (bp p role sets s).2.2 (acc++[(bp p role sets s).1])
def cM (p:SProto)(role:Str):Int×List TT:=
 if(cy p&&bX p.roles role)=false then(800,[])
 else if(bA p role [] [0]).2.1≠0 then((bA p role [] [0]).2.1,[])
 else iw p role 41 0 (bA p role [] [0]).2.2 []
section
variable {p:SProto}{role:Str}{f i:Nat}{sets:List (List Int)}{acc:List TT}{s:List Int}
theorem sW (hs:sets[i]? =some s)(h:(bp p role sets s).2.1≠0):iw p role (f+1) i sets acc=((bp p role sets s).2.1,[]):=by
 rw [iw,hs];simp only [if_pos h]
theorem k9 (hs:sets[i]? =some s)(h:¬(bp p role sets s).2.1≠0):iw p role (f+1) i sets acc=iw p role f (i+1) (bp p role sets s).2.2 (acc++[(bp p role sets s).1]):=by
 rw [iw,hs];simp only [if_neg h]
theorem nH (h:sets.length≤i):iw p role f i sets acc=(0,acc):=by
 cases f with
 | zero=>rfl
 | succ f=>rw [iw,List.getElem?_eq_none h]
end
structure TQ2 where
 k:Int
 h:Hp
 sv:Value
 ob:aj
 rows:List GRow
 v:Value
 oa:aj
 ts:List STurn
theorem n5 {p:SProto}{role:Str}{sets:List (List Int)}{frm:List Int}:sets.length≤(bA p role sets frm).2.2.length:=by
 unfold bA
 split; · simp
 split; · simp
 split<;>simp
theorem nv {p:SProto}{role:Str}{set:List Int}:∀(l:List Str) (sets:List (List Int)) (acc:List SArm),sets.length≤(turnA p role set l sets acc).2.2.length
 | [],_,_=>Nat.le_refl _
 | lb::r,sets,acc=>by
  unfold turnA
  split
  ·exact n5
  ·exact Nat.le_trans n5 (nv r _ _)
theorem sL {p:SProto}{role:Str}{set:List Int}{sets:List (List Int)}:sets.length≤(bp p role sets set).2.2.length:=by
 unfold bp
 split; · simp
 split; · simp
 split; · simp
 split; · simp
 split; · simp
 split; · exact nv _ _ _
 exact nv _ _ _
theorem perm_as (X:aj){a:Nat×List Value}{A B C:aj}:(X++((a::(A++B))++C)).Perm (X++(a::(A++(B++C)))):=by
 rw [List.cons_append,List.append_assoc]
def gq (p:SProto):Nat→List Str→Int×Int
 | _,[]=>(0,0)
 | i,r::rs=>if(cM p r).1≠0 then((cM p r).1,(i:Int)) else gq p (i+1) rs
def gT (p:SProto):Int×Int:=if cy p=false then(800,0) else gq p 0 p.roles
theorem wY {p:SProto}{l:List Str}{k i:Nat}{r:Str}(hx:l[k]? =some r)(h:(cM p r).1≠0):gq p i (l.drop k)=((cM p r).1,(i:Int)):=by
 rw [List.drop_eq_getElem?_toList_append,hx]
 simp only [Option.toList_some,List.singleton_append,gq,if_pos h]
theorem uG {p:SProto}{l:List Str}{k i:Nat}{r:Str}(hx:l[k]? =some r)(h:¬(cM p r).1≠0):gq p i (l.drop k)=gq p (i+1) (l.drop (k+1)):=by
 rw [List.drop_eq_getElem?_toList_append,hx]
 simp only [Option.toList_some,List.singleton_append,gq,if_neg h]
structure LsOk (H:Hp)(p:SProto)(k:Int)(ls:List SLocal):Prop where
 len:(ls.length:Int)=k
 at_:∀(i:Nat) (l:SLocal),ls[i]? =some l→∃r,p.roles[i]? =some r∧l.name=(p.name++[46])++r∧LocalOk H l∧l.turns.map tt=(cM p r).2
theorem LsOk.le {H H':Hp}{p:SProto}{k:Int}{ls:List SLocal}(h:LsOk H p k ls)(hl:H.le H'):LsOk H' p k ls:=⟨h.len,fun i l hi=>by
 obtain⟨r,h1,h2,h3,h4⟩:=h.at_ i l hi
 exact⟨r,h1,h2,h3.le hl,h4⟩⟩
theorem LsOk.snoc {H:Hp}{p:SProto}{k:Int}{ls:List SLocal}{l:SLocal}{r:Str}(h:LsOk H p k ls)(hr:p.roles[k.toNat]? =some r)(h1:l.name=(p.name++[46])++r)(h2:LocalOk H l)(h3:l.turns.map tt=(cM p r).2):LsOk H p (k+1) (ls++[l]):=by
 have hl:=h.len
 refine⟨by simp;omega,fun i x hi=>?_⟩
 by_cases hlt:i<ls.length
 ·rw [List.getElem?_append_left hlt] at hi;exact h.at_ i x hi
 ·rw [List.getElem?_append_right om] at hi
  have h4:i - ls.length=0:=by
   have:=(List.getElem?_eq_some_iff.1 hi).1
   simp at this;omega
  rw [h4] at hi
  simp at hi;subst hi
  exact⟨r,by rwa [show i=k.toNat by omega],h1,h2,h3⟩
end Go.Sx
namespace Go.Sx
open Go Go.Proofs
theorem fE {H:Hp}(s:Str):
  FnS Tryz.prog 51 [gs s] H (.bool (aG s)):=by
 refine FnS.enter Tryz.func51 Tryz.ntmps51 rfl rfl (fun w0=>?_)
 refine lV ?_;refine TL.run (dz rfl rfl) rfl (zm4 ?_)
 refine ah (s:=7) rfl ?_ ?_<;>intro g7
 · exact zq42
 have q7:=of_decide_eq_false g7
 refine cg ?_;refine aB rfl rfl (dz rfl rfl) rfl (da ?_)
 refine ah (s:=12) rfl ?_ ?_<;>intro g12
 ·
  have q12:=of_decide_eq_true g12
  exact zq44
 have q12:=of_decide_eq_false g12
 refine cg ?_
 have hlen:(0:Int)<s.length:=by have:=of_decide_eq_false g7;omega
 obtain⟨c0,hc0⟩:=ao (l:=s) (i:=0) om hlen
 refine aB rfl rfl (fc rfl rfl om hc0) rfl (aL rfl rfl (ab rfl rfl rfl rfl) (l4 c0) rfl (da ?_))
 refine ah (s:=18) rfl ?_ ?_<;>intro g18
 · exact zq50
 refine cg ?_;refine aL rfl rfl (ab rfl rfl rfl rfl) (qE s) rfl (zm1 ?_)
 refine TC.cond rfl ?_ ?_<;>intro c21
 · exact zq56
 have hn:=ll g7 g12 hc0 g18 c21
 have hl12:(s.length:Int)≤12:=by have:=of_decide_eq_false g12;omega
 refine f8 ?_;refine hZ ?_
 refine TC.loop (V:=fun k=>[(3,.int .i64 k)]) (K:=[(0,_),(2,_)]) (L:=fun k=>_) (I:=fun k=>1≤k∧k≤s.length∧(s.drop 1).all ew=(s.drop k.toNat).all ew) (μ:=fun k=>(s.length - k).toNat) (i:=(1:Int)) ky ⟨by omega,by omega,rfl⟩ (fun w hw=>hw) (fun k hI=>?_)
 refine eZ ?_;refine TL.run (dz rfl rfl) rfl (zm1 ?_)
 refine ag rfl ?_ ?_<;>intro c25
 ·
  refine cQ ?_
  obtain⟨c,hc⟩:=ao (l:=s) (i:=k) om c25
  refine zm4 ?_;refine TL.run (fc rfl rfl om hc) rfl (aq (ab rfl rfl rfl rfl) (l4 c) rfl (zm4 ?_))
  refine ah (s:=33) rfl ?_ ?_<;>intro g33
  · refine ef ?_;exact aB rfl rfl (fc rfl rfl om hc) rfl (aL rfl rfl (ab rfl rfl rfl rfl) (uD c) rfl (zq36))
  refine oH ?_;refine mi ?_
  exact zq35
 refine jv ?_
 exact zq20
theorem nJ {H:Hp}(s:Str)(hs:s.length≤4294960000):
  FnS Tryz.prog 183 [gs s] H (.bool (iM s)):=by
 refine FnS.enter Tryz.func183 Tryz.ntmps183 rfl rfl (fun w0=>?_)
 refine ij ?_
 refine TC.loop (V:=fun k=>[(3,.int .i64 k)]) (K:=[(0,_),(2,_)]) (L:=fun k=>_) (I:=fun k=>(0≤k∧k≤s.length)∧∀j:Nat,j<k.toNat→s[j]? ≠some 46) (μ:=fun k=>(s.length - k).toNat) (i:=(0:Int)) ky ⟨o2q,fun j h=>absurd h om⟩ (fun w hw=>hw) (fun k hI=>?_)
 obtain⟨⟨k0,k1⟩,hn⟩:=hI
 refine eZ ?_;refine TL.run (dz rfl rfl) rfl (zm1 ?_)
 refine ag rfl ?_ ?_<;>intro c7
 ·
  obtain⟨c,hc⟩:=ao (l:=s) k0 c7
  refine m9 ?_;refine TL.run (fc rfl rfl om hc) rfl (zm1 ?_)
  refine ag rfl ?_ ?_<;>intro c13
  ·
   have hcd:s[k.toNat]? =some 46:=by rw [hc];congr 1;exact u8_of c13
   refine dS ?_;refine TL.run (pr_strH rfl rfl om om) rfl (aq (ab rfl rfl rfl rfl) (fE (s.take k.toNat)) rfl (zm0 ?_))
   refine ah (s:=18) rfl ?_ ?_<;>intro g18
   ·
    refine ef ?_;refine vO ?_;refine aB rfl rfl (pr_strL rfl rfl om om) rfl (aL rfl rfl (ab rfl rfl rfl rfl) (fE (s.drop (k+1).toNat)) rfl (eD ?_));refine gi ?_
    exact aw (.inr rfl) (ad rfl (RVal.tmp rfl)) (congrArg Value.bool (by first | (rw [jw k0 hcd hn];simp_all;done) | exact(ip (fun j hj=>hn j om)).symm))
   refine oH ?_;refine eD ?_;refine gi ?_
   exact aw (.inr rfl) (ad rfl (RVal.tmp rfl)) (congrArg Value.bool (by first | (rw [jw k0 hcd hn];simp_all;done) | exact(ip (fun j hj=>hn j om)).symm))
  refine gb ?_
  exact aM (k+1) ⟨o2q,fun j hj=>by by_cases e:j<k.toNat;exact hn j e;rw [show j=k.toNat by omega,hc];intro e2;exact c13 (by cases e2;rfl)⟩ ky (fun w hw=>hw) om
 refine o9 ?_;refine aq (ab rfl rfl rfl rfl) (fE s) rfl (dv ?_)
 exact aw (.inr rfl) (ad rfl (RVal.tmp rfl)) (congrArg Value.bool (by first | (rw [jw k0 hcd hn];simp_all;done) | exact(ip (fun j hj=>hn j om)).symm))
theorem lf {H:Hp}(ck:Int)(cn:Str)(hn:cn.length≤4294960000):
  FnS Tryz.prog 148 [.agg #[.int .i64 ck,gs cn]] H (.bool (cu ck cn)):=by
 refine FnS.enter Tryz.func148 Tryz.ntmps148 rfl rfl (fun w0=>?_)
 refine zm2 ?_
 refine TL.box rfl rfl (fun b1=>?_)
 refine eX ?_;refine mH ?_
 refine ag rfl ?_ ?_<;>intro c5
 ·
  refine eQ ?_;refine aq (ab rfl rfl rfl rfl) (nJ cn hn) rfl (oT ?_)
  exact aw (.inr rfl) (ad rfl (RVal.tmp rfl)) (congrArg Value.bool (by first | exact(i2 c5).symm | (rw [eB c5];simp_all;done) | (rw [eB c5];simp_all;omega)))
 refine cW ?_;refine eQ ?_;refine zm4 ?_
 refine ah (s:=12) rfl ?_ ?_<;>intro g12
 ·
  have q12:=of_decide_eq_true g12
  refine nk ?_
  refine ah (s:=17) rfl ?_ ?_<;>intro g17
  ·
   have q17:=of_decide_eq_true g17
   refine oV ?_;refine eD ?_
   exact aw (.inr rfl) (ad rfl (RVal.tmp rfl)) (congrArg Value.bool (by first | exact(i2 c5).symm | (rw [eB c5];simp_all;done) | (rw [eB c5];simp_all;omega)))
  have q17:=of_decide_eq_false g17
  refine sB ?_
  exact aw (.inr rfl) (ad rfl (RVal.tmp rfl)) (congrArg Value.bool (by first | exact(i2 c5).symm | (rw [eB c5];simp_all;done) | (rw [eB c5];simp_all;omega)))
 have q12:=of_decide_eq_false g12
 refine gI ?_;refine sB ?_
 exact aw (.inr rfl) (ad rfl (RVal.tmp rfl)) (congrArg Value.bool (by first | exact(i2 c5).symm | (rw [eB c5];simp_all;done) | (rw [eB c5];simp_all;omega)))
theorem oN {H:Hp}{l:List SArm}{v:Value}(n:Int)(hA:RdSl H 4 SArm.cells v l)(hz:∀a∈l,a.cn.length≤4294960000):
  FnS Tryz.prog 98 [v,.int .i64 n] H (.bool (cV l n)):=by
 have hmax:=hA.max
 refine FnS.enter Tryz.func98 Tryz.ntmps98 rfl rfl (fun w0=>?_)
 refine ij ?_
 refine TC.loop (V:=fun k=>[(5,.int .i64 k)]) (K:=[(0,_),(1,_),(4,_)]) (L:=fun k=>_) (I:=fun k=>(0≤k∧k≤l.length)∧l.all (d8 n)=(l.drop k.toNat).all (d8 n)∧((l.map (·.label)).take k.toNat).Nodup) (μ:=fun k=>(l.length - k).toNat) (i:=(0:Int)) ky ⟨o2q,rfl,List.nodup_nil⟩ (fun w hw=>hw) (fun k hI=>?_)
 obtain⟨⟨k0,k1⟩,hal,hnd⟩:=hI
 refine eZ ?_;refine TL.run (ai rfl rfl hA) rfl (zm1 ?_)
 refine ag rfl ?_ ?_<;>intro c10
 ·
  obtain⟨a,hx⟩:=ao (l:=l) k0 c10
  refine fu ?_;refine TC.seq (bJ (!d8 n a) 45 [(0,_),(1,_),(4,_),(5,_),(7,_),(8,_),(9,_),(10,_)] ky ?_ ?_)
  ·
   refine jf ?_;refine TL.run (af rfl hA rfl om om) rfl (zm8 ?_);refine TL.run (bL hA hx rfl rfl) rfl (aq (ab rfl rfl rfl rfl) (fE a.label) rfl (zm4 ?_))
   refine ah (s:=20) rfl ?_ ?_<;>intro g20
   ·
    refine dB ?_;refine oG ?_;refine mU ?_;refine jO ?_
    exact aS rfl (by unfold d8;first | (simp_all;done) | (simp_all;omega)) ky
   refine ef ?_;refine aB rfl rfl (af rfl hA rfl om om) rfl (ia ?_)
   refine aB rfl rfl (nL hA hx rfl rfl) rfl (aL rfl rfl (ab rfl rfl rfl rfl) (lf a.ck a.cn (hz a (List.mem_of_getElem? hx))) rfl (da ?_))
   refine ah (s:=29) rfl ?_ ?_<;>intro g29
   ·
    refine mZ ?_;refine jO ?_
    exact aS rfl (by unfold d8;first | (simp_all;done) | (simp_all;omega)) ky
   refine ef ?_;refine aB rfl rfl (af rfl hA rfl om om) rfl (ia ?_);refine aB rfl rfl (bL hA hx rfl rfl) rfl (da ?_)
   refine ah (s:=37) rfl ?_ ?_<;>intro g37
   ·
    have q37:=of_decide_eq_true g37
    refine dB ?_;refine jO ?_
    exact aS rfl (by unfold d8;first | (simp_all;done) | (simp_all;omega)) ky
   have q37:=of_decide_eq_false g37
   refine ef ?_;refine aB rfl rfl (af rfl hA rfl om om) rfl (ia ?_);refine aB rfl rfl (bL hA hx rfl rfl) rfl (ef ?_);refine dk ?_
   exact aS rfl (by unfold d8;first | (simp_all;done) | (simp_all;omega)) ky
  refine TC.cond rfl ?_ ?_<;>intro c45
  ·
   refine gh ?_;refine jc ?_
   exact aw (.inr rfl) (ad rfl (RVal.tmp rfl)) (congrArg Value.bool (wW k0 hx (by simpa using c45) hal))
  have ha:d8 n a=true:=by simpa using c45
  refine cW ?_;refine hZ ?_
  refine TC.loop (V:=fun m=>[(6,.int .i64 m)]) (K:=[(0,_),(1,_),(4,_),(5,_),(7,_),(8,_),(9,_),(10,_),(45,_)]) (L:=fun m=>_) (I:=fun m=>0≤m∧m≤k∧∀j:Nat,j<m.toNat→(l.map (·.label))[j]? ≠some a.label) (μ:=fun m=>(k - m).toNat) (i:=(0:Int)) ky ⟨by omega,by omega,fun j h=>absurd h om⟩ (fun w hw=>hw) (fun m hI=>?_)
  obtain⟨m0,m1,hI2⟩:=hI
  refine eZ ?_;refine zm1 ?_
  refine ag rfl ?_ ?_<;>intro c48
  ·
   obtain⟨b,hb⟩:=ao (l:=l) m0 om
   refine lM ?_;refine mI ?_;refine TQ.run (af rfl hA rfl om om) rfl (TQ.run (aX rfl) rfl (TQ.run (bL hA hb rfl rfl) rfl (mI ?_)))
   refine TQ.run (af rfl hA rfl om om) rfl (TQ.run (aX rfl) rfl (TQ.run (bL hA hx rfl rfl) rfl (TQ.run (cd rfl rfl rfl) rfl ?_)))
   refine TQ.nil (ae (ag rfl (fun c61=>?_) (fun c61=>?_)))
   ·
    refine ml ?_;refine aC (aY (gi ?_))
    exact aw (.inr rfl) (ad rfl (RVal.tmp rfl)) (congrArg Value.bool (wV k0 m0 c48 hx hb c61))
   refine gb ?_
   exact aM (m+1) ⟨by omega,by omega,fun j hj=>by by_cases e:j<m.toNat;exact hI2 j e;rw [show j=m.toNat by omega,ge hb];intro e2;exact c61 (by simpa using e2)⟩ ky (fun w hw=>hw) om
  refine rR ?_
  exact aM (k+1) ⟨o2q,bM (p:=d8 n) k0 hx ha hal,yU k0 hx hnd om hI2⟩ ky (fun w hw=>hw) om
 refine o9 ?_;refine TL.run (ai rfl rfl hA) rfl (zm4 ?_)
 refine ah (s:=65) rfl ?_ ?_<;>intro g65
 ·
  have q65:=of_decide_eq_true g65
  refine cg ?_;refine aB rfl rfl (ai rfl rfl hA) rfl (cg ?_);refine eD ?_
  exact aw (.inr rfl) (ad rfl (RVal.tmp rfl)) (congrArg Value.bool (pV k0 c10 hal hnd (by first | (simp_all;done) | (simp_all;omega))))
 have q65:=of_decide_eq_false g65
 refine sB ?_
 exact aw (.inr rfl) (ad rfl (RVal.tmp rfl)) (congrArg Value.bool (pV k0 c10 hal hnd (by first | (simp_all;done) | (simp_all;omega))))
end Go.Sx
namespace Go.Sx
open Go Go.Proofs
theorem uE {H:Hp}{l:List Str}{v:Value}(s:Str)(hL:RdSl H 1 Str.cells v l):
  FnS Tryz.prog 147 [v,gs s] H (.int .i64 (bz l s)):=by
 have hmax:=hL.max
 refine FnS.enter Tryz.func147 Tryz.ntmps147 rfl rfl (fun w0=>?_)
 refine ij ?_
 refine TC.loop (V:=fun k=>[(5,.int .i64 k)]) (K:=[(0,_),(1,_),(4,_)]) (L:=fun k=>_) (I:=fun k=>0≤k∧k≤l.length∧∀j:Nat,j<k.toNat→l[j]? ≠some s) (μ:=fun k=>(l.length - k).toNat) (i:=(0:Int)) ky ⟨by omega,by omega,fun j hj=>absurd hj sq⟩ (fun w hw=>hw) (fun k hI=>?_)
 refine m5 ?_;refine zm1 ?_
 refine ag rfl ?_ ?_<;>intro c9
 ·
  obtain⟨x,hx⟩:=ao (l:=l) hI.1 c9
  refine m9 ?_;refine lU ?_;refine TL.run (aJ hL hx rfl rfl) rfl (sk ?_)
  refine ag rfl ?_ ?_<;>intro c17
  ·
   refine sj ?_
   exact aw (.inr rfl) (ad rfl (RVal.tmp rfl)) (congrArg (Value.int .i64) (by first | exact(dr hI.1 (by rw [hx,c17]) hI.2.2).symm | exact(et hI.2.2 c9).symm))
  refine gb ?_
  exact aM (k+1) ⟨by omega,by omega,jD hI.1 hI.2.2 hx c17⟩ ky (fun w hw=>hw) om
 refine jv ?_
 exact aw (.inr rfl) (ad rfl (RVal.tmp rfl)) (congrArg (Value.int .i64) (by first | exact(dr hI.1 (by rw [hx,c17]) hI.2.2).symm | exact(et hI.2.2 c9).symm))
theorem kp {H:Hp}{l:List Str}{v:Value}(s:Str)(hL:RdSl H 1 Str.cells v l):
  FnS Tryz.prog 97 [v,gs s] H (.bool (bX l s)):=by
 refine FnS.enter Tryz.func97 Tryz.ntmps97 rfl rfl (fun w0=>?_)
 refine pB ?_;refine aq (ab rfl rfl rfl rfl) (uE s hL) rfl (eD ?_)
 exact aw (.inr rfl) (ad rfl (RVal.tmp rfl)) (congrArg Value.bool (by rw [← n9]))
theorem wX {H:Hp}{l:List Str}{v:Value}(hL:RdSl H 1 Str.cells v l):
  FnS Tryz.prog 96 [v] H (.bool (cU l)):=by
 have hmax:=hL.max
 obtain⟨la,lc,rfl⟩:=hL.len
 have hroom:=hL.room _ _ _ rfl
 refine FnS.enter Tryz.func96 Tryz.ntmps96 rfl rfl (fun w0=>?_)
 refine ij ?_
 refine TC.loop (V:=fun k=>[(3,.int .i64 k)]) (K:=[(0,_),(2,_)]) (L:=fun k=>_) (I:=fun k=>0≤k∧k≤l.length∧(l.take k.toNat).Nodup) (μ:=fun k=>(l.length - k).toNat) (i:=(0:Int)) ky ⟨by omega,by omega,List.nodup_nil⟩ (fun w hw=>hw) (fun k hI=>?_)
 refine m5 ?_;refine zm1 ?_
 refine ag rfl ?_ ?_<;>intro c7
 ·
  obtain⟨x,hx⟩:=ao (l:=l) hI.1 c7
  refine lM ?_;refine mI ?_;refine TQ.run (p4 rfl rfl om om) rfl (mI ?_)
  refine TQ.run (af rfl hL rfl om om) rfl (TQ.run (aJ hL hx rfl rfl) rfl (kN (ab rfl rfl rfl rfl) (kp x (hL.sliced (i:=0) (j:=k.toNat) om om)) rfl (TQ.nil ?_)))
  refine ae (TC.cond rfl (fun c17=>?_) (fun c17=>?_))
  ·
   refine lL ?_
   exact aw (.inr rfl) (ad rfl (RVal.tmp rfl)) (congrArg Value.bool (by first | exact(kx c7 hI.1 hI.2.2).symm | exact(tz hI.1 hx c17).symm))
  refine gb ?_
  exact aM (k+1) ⟨by omega,by omega,jx hI.1 hx hI.2.2 (has_not c17)⟩ ky (fun w hw=>hw) om
 refine jv ?_
 exact aw (.inr rfl) (ad rfl (RVal.tmp rfl)) (congrArg Value.bool (by first | exact(kx c7 hI.1 hI.2.2).symm | exact(tz hI.1 hx c17).symm))
end Go.Sx
