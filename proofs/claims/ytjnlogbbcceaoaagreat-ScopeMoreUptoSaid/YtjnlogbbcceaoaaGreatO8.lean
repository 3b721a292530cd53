import Derived.Test.YtjnlogbbcceaoaaGreatO7
set_option linter.all false
set_option maxRecDepth 100000
set_option maxHeartbeats 32000000
namespace Go.Sx
open Go Go.Proofs
theorem f5 {H:Hp}(p:SProto)(hP:ProtoOk H p):
  FnS Tryz.prog 49 [.agg p.cells.toArray] H (.bool (cy p)):=by
 have hr:=hP.r
 have hpt:=hP.pt
 have hrm:=hr.max
 have hpm:=hpt.max
 refine FnS.enter Tryz.func49 Tryz.ntmps49 rfl rfl (fun w0=>?_)
 refine zm2 ?_
 refine TL.box rfl rfl (fun b1=>?_)
 refine eX ?_
 refine bJ (!gp p) 39 [(1,_),(2,_)] ⟨rfl,rfl,trivial⟩ ?_ ?_
 ·
  refine jg ?_;refine aq (ab rfl rfl rfl rfl) (fE p.name) rfl (zm4 ?_)
  refine ah (s:=10) rfl ?_ ?_<;>intro g10
  ·
   refine rJ ?_;refine mP ?_;refine dk ?_
   exact aS rfl (by unfold gp;by_cases h24:(24:Int)<p.points.length<;>by_cases h24b:(p.points.length:Int)≤24<;>first | (exfalso;omega) | (simp_all;done) | (simp_all;omega)) ⟨rfl,rfl,trivial⟩
  refine co ?_;refine aB rfl rfl (ai rfl rfl hr) rfl (da ?_)
  refine ah (s:=16) rfl ?_ ?_<;>intro g16
  ·
   have q16:=of_decide_eq_true g16
   refine rJ ?_;refine dk ?_
   exact aS rfl (by unfold gp;by_cases h24:(24:Int)<p.points.length<;>by_cases h24b:(p.points.length:Int)≤24<;>first | (exfalso;omega) | (simp_all;done) | (simp_all;omega)) ⟨rfl,rfl,trivial⟩
  have q16:=of_decide_eq_false g16
  refine co ?_;refine aB rfl rfl (ai rfl rfl hr) rfl (da ?_)
  refine ah (s:=22) rfl ?_ ?_<;>intro g22
  ·
   have q22:=of_decide_eq_true g22
   refine ri ?_;refine dk ?_
   exact aS rfl (by unfold gp;by_cases h24:(24:Int)<p.points.length<;>by_cases h24b:(p.points.length:Int)≤24<;>first | (exfalso;omega) | (simp_all;done) | (simp_all;omega)) ⟨rfl,rfl,trivial⟩
  have q22:=of_decide_eq_false g22
  refine co ?_;refine aL rfl rfl (ab rfl rfl rfl rfl) (wX hr) rfl (da ?_)
  refine ah (s:=28) rfl ?_ ?_<;>intro g28
  ·
   refine lD ?_;refine dk ?_
   exact aS rfl (by unfold gp;by_cases h24:(24:Int)<p.points.length<;>by_cases h24b:(p.points.length:Int)≤24<;>first | (exfalso;omega) | (simp_all;done) | (simp_all;omega)) ⟨rfl,rfl,trivial⟩
  refine co ?_;refine aB rfl rfl (ai rfl rfl hpt) rfl (da ?_)
  refine ah (s:=34) rfl ?_ ?_<;>intro g34
  ·
   have q34:=of_decide_eq_true g34
   refine kR ?_
   exact aS rfl (by unfold gp;by_cases h24:(24:Int)<p.points.length<;>by_cases h24b:(p.points.length:Int)≤24<;>first | (exfalso;omega) | (simp_all;done) | (simp_all;omega)) ⟨rfl,rfl,trivial⟩
  have q34:=of_decide_eq_false g34
  refine co ?_;refine aB rfl rfl (ai rfl rfl hpt) rfl (ga ?_)
  exact aS rfl (by unfold gp;by_cases h24:(24:Int)<p.points.length<;>by_cases h24b:(p.points.length:Int)≤24<;>first | (exfalso;omega) | (simp_all;done) | (simp_all;omega)) ⟨rfl,rfl,trivial⟩
 refine TC.cond rfl ?_ ?_<;>intro c39
 ·
  refine jt ?_
  exact aw (.inr rfl) (ad rfl (RVal.tmp rfl)) (congrArg Value.bool (by first | exact kn c39 | exact km hr1 | exact kk hp1 | exact kj hh hr1 hp1))
 have hh:gp p=true:=by simpa using c39
 refine f8 ?_;refine hZ ?_
 refine TC.loop (V:=fun k=>[(3,.int .i64 k)]) (K:=[(1,_),(2,_)]) (L:=fun k=>_) (I:=fun k=>(0≤k∧k≤p.roles.length)∧p.roles.all aG=(p.roles.drop k.toNat).all aG) (μ:=fun k=>(p.roles.length - k).toNat) (i:=(0:Int)) ky ⟨o2q,rfl⟩ (fun w hw=>hw) (fun k hI=>?_)
 obtain⟨⟨k0,k1⟩,hal⟩:=hI
 refine pd ?_;refine TL.run (ai rfl rfl hr) rfl (zm1 ?_)
 refine ag rfl ?_ ?_<;>intro c44
 ·
  obtain⟨y,hy⟩:=ao (l:=p.roles) k0 c44
  refine fu ?_;refine lN ?_;refine TL.run (af rfl hr rfl om om) rfl (TL.run (aJ hr hy rfl rfl) rfl (aq (ab rfl rfl rfl rfl) (fE y) rfl (zm1 ?_)))
  refine TC.cond rfl ?_ ?_<;>intro c53
  ·
   have hr1:=cN (p:=aG) k0 hy (by simpa using c53) hal
   refine lL ?_
   exact aw (.inr rfl) (ad rfl (RVal.tmp rfl)) (congrArg Value.bool (by first | exact kn c39 | exact km hr1 | exact kk hp1 | exact kj hh hr1 hp1))
  refine gb ?_
  exact aM (k+1) ⟨o2q,bM (p:=aG) k0 hy (by simpa using c53) hal⟩ ky (fun w hw=>hw) om
 have hr1:=cz (p:=aG) k0 c44 hal
 refine gG ?_;refine hZ ?_
 refine TC.loop (V:=fun k=>[(4,.int .i64 k)]) (K:=[(1,_),(2,_)]) (L:=fun k=>_) (I:=fun k=>(0≤k∧k≤p.points.length)∧p.points.all (ci p.roles p.points.length)=(p.points.drop k.toNat).all (ci p.roles p.points.length)) (μ:=fun k=>(p.points.length - k).toNat) (i:=(0:Int)) ky ⟨o2q,rfl⟩ (fun w hw=>hw) (fun k hI=>?_)
 obtain⟨⟨k0,k1⟩,hal⟩:=hI
 refine pd ?_;refine TL.run (ai rfl rfl hpt) rfl (zm1 ?_)
 refine ag rfl ?_ ?_<;>intro c58
 ·
  obtain⟨x,hx⟩:=ao (l:=p.points) k0 c58
  have hxa:=(hP.ps x (List.mem_of_getElem? hx)).a
  have hxz:=(hP.ps x (List.mem_of_getElem? hx)).z
  have hxm:=hxa.max
  refine fu ?_;refine lN ?_;refine TL.run (af rfl hpt rfl om om) rfl (TL.run (bg hpt hx rfl rfl) rfl (TL.alloc rfl (fun b5=>?_)))
  refine kQ ?_
  refine bJ (dW x) 79 [(1,_),(2,_),(4,_),(5,_),(54,_),(55,_),(56,_),(57,_),(58,_),(61,_),(62,_),(63,_),(64,_),(65,_)] ky ?_ ?_
  ·
   refine rI ?_
   refine ah (s:=69) rfl ?_ ?_<;>intro g69
   ·
    have q69:=of_decide_eq_true g69
    refine nj ?_
    refine ah (s:=74) rfl ?_ ?_<;>intro g74
    ·
     have q74:=of_decide_eq_true g74
     refine co ?_;refine aB rfl rfl (ai rfl rfl hxa) rfl (ga ?_)
     exact aS rfl (by unfold dW;simp_all) ky
    have q74:=of_decide_eq_false g74
    refine kR ?_
    exact aS rfl (by unfold dW;simp_all) ky
   have q69:=of_decide_eq_false g69
   refine rH ?_
   exact aS rfl (by unfold dW;simp_all) ky
  refine TC.cond rfl ?_ ?_<;>intro c79
  ·
   refine TC.exit (bE (cL (ae ?_)));refine jN ?_;refine jS ?_
   exact aM (k+1) ⟨o2q,bM (p:=(ci p.roles p.points.length)) k0 hx (by first | exact rpt_1 c79 | exact rpt_2 c109) hal⟩ ky (fun w hw=>hw.drop) om
  refine cW ?_
  refine bJ (!uF p.roles p.points.length x) 109 [(1,_),(2,_),(4,_),(5,_),(54,_),(55,_),(56,_),(57,_),(58,_),(61,_),(62,_),(63,_),(64,_),(65,_),(79,_)] ky ?_ ?_
  ·
   refine jg ?_;refine fw ?_;refine mR ?_
   refine ah (s:=85) rfl ?_ ?_<;>intro g85
   ·
    have q85:=of_decide_eq_true g85
    refine mZ ?_;refine mU ?_;refine jO ?_
    exact aS rfl (by unfold uF dK;simp_all) ky
   have q85:=of_decide_eq_false g85
   refine f9 ?_;refine co ?_;refine aL rfl rfl (ab rfl rfl rfl rfl) (kp x.frm hr) rfl (da ?_)
   refine ah (s:=93) rfl ?_ ?_<;>intro g93
   ·
    refine mZ ?_;refine jO ?_
    exact aS rfl (by unfold uF dK;simp_all) ky
   refine f9 ?_;refine co ?_;refine aL rfl rfl (ab rfl rfl rfl rfl) (kp x.to hr) rfl (da ?_)
   refine ah (s:=101) rfl ?_ ?_<;>intro g101
   ·
    refine dB ?_;refine jO ?_
    exact aS rfl (by unfold uF dK;simp_all) ky
   refine co ?_;refine f9 ?_;refine aB rfl rfl (ai rfl rfl hpt) rfl (aL rfl rfl (ab rfl rfl rfl rfl) (oN p.points.length hxa hxz) rfl (ga ?_))
   exact aS rfl (by unfold uF dK;simp_all) ky
  refine TC.cond rfl ?_ ?_<;>intro c109
  ·
   have hp1:=cN (p:=(ci p.roles p.points.length)) k0 hx (rpt_3 c79 c109) hal
   refine lL ?_
   exact aw (.inr rfl) (ad rfl (RVal.tmp rfl)) (congrArg Value.bool (by first | exact kn c39 | exact km hr1 | exact kk hp1 | exact kj hh hr1 hp1))
  refine gb ?_
  exact aM (k+1) ⟨o2q,bM (p:=(ci p.roles p.points.length)) k0 hx (by first | exact rpt_1 c79 | exact rpt_2 c109) hal⟩ ky (fun w hw=>hw.drop) om
 have hp1:=cz (p:=(ci p.roles p.points.length)) k0 c58 hal
 refine jv ?_
 exact aw (.inr rfl) (ad rfl (RVal.tmp rfl)) (congrArg Value.bool (by first | exact kn c39 | exact km hr1 | exact kk hp1 | exact kj hh hr1 hp1))
end Go.Sx
namespace Go.Sx
open Go Go.Proofs
theorem we {H:Hp}(p:SProto)(role:Str)(hp:ProtoOk H p)(hnm:p.name.length≤1000)(hrl:role.length≤1000){B:Nat}(hB:∀x∈p.points,∀a∈x.arms,a.cn.length≤B)(hB2:B≤4294960000):
  Fn Tryz.prog 67 [.agg p.cells.toArray,gs role] H (fun v H1=>∃nm ts tp,v= .tuple #[.agg (SLocal.cells ⟨nm,ts,tp⟩).toArray,.int .i64 (cM p role).1]∧((cM p role).1=0→nm=(p.name++[46])++role∧LocalOk H1 ⟨nm,ts,tp⟩∧ts.map tt=(cM p role).2)):=by
 refine Fn.enter Tryz.func67 Tryz.ntmps67 rfl rfl (fun w0=>?_)
 refine zm2 ?_
 refine TL.box rfl rfl (fun b2=>?_)
 refine TL.alloc rfl (fun b4=>?_)
 refine nh ?_;refine kS ?_;refine aq (ab rfl rfl rfl rfl) (f5 p hp) rfl (zm4 ?_)
 refine ah (s:=16) rfl ?_ ?_<;>intro g16
 ·
  refine oH ?_;refine ji ?_;refine rK ?_
  have hE:(cM p role).1=800:=by unfold cM;rw [if_pos (by first | exact c22 | simp_all)]
  exact aN (.inr rfl) (bO rfl (RVal.cellA rfl (.here _) rfl) (RVal.tmp rfl)) ⟨[],[],(none,0),by rw [hE];rfl,fun h=>absurd (hE.symm.trans h) dq⟩
 refine f9 ?_;refine cg ?_;refine aL rfl rfl (ab rfl rfl rfl rfl) (kp role hp.r) rfl (fK ?_)
 refine TC.cond rfl ?_ ?_<;>intro c22
 ·
  refine rK ?_
  have hE:(cM p role).1=800:=by unfold cM;rw [if_pos (by first | exact c22 | simp_all)]
  exact aN (.inr rfl) (bO rfl (RVal.cellA rfl (.here _) rfl) (RVal.tmp rfl)) ⟨[],[],(none,0),by rw [hE];rfl,fun h=>absurd (hE.symm.trans h) dq⟩
 have hrh:(cy p&&bX p.roles role)=true:=by simp_all
 have hRP:=RPOk.of (p:=p) (by simp_all)
 refine qt ?_;refine kS ?_;refine zm0 ?_;refine cE ?_
 refine TL.box rfl rfl (fun b27=>?_)
 refine dk ?_;refine lO ?_;refine lO ?_
 obtain⟨bw,hbw⟩:∃bw,bw=b27:=⟨_,rfl⟩
 subst hbw
 refine ae (cZ ?_)
 refine ax rfl rfl rfl rfl (fun b30=>?_)
 refine cT sq (fun H_b30 le_b30 rd_b30=>?_)
 have hA30:RdSl H_b30 1 I64.cells (.slice (some ⟨b30,0,none⟩) 1 1) [0]:=RdSl.blk (l:=[0]) (enc:=I64.cells) rd_b30 (by intro x hx;rfl) rfl (by show 1≤9223372036854775807;decide)
 replace hp:=hp.le le_b30
 refine lz (X:=[(b4,_),(b2,_)]) (A:=(bw,_)::[]) (Y:=[]) rfl (ab rfl rfl rfl rfl) (wk role hp hRP.nx (by have:=hRP.n24;omega) (OwnSl.nil (enc:=GRow.cells)) (rows:=[]) (by intro r hr;simp at hr) sq hA30 sq) rfl (fun v31 H31 A31 hle31 hp31=>?_)
 obtain⟨sv31,ob31,rows31,rfl,hO31,hrw31,hrl31,hm31,rfl⟩:=hp31
 replace hp:=hp.le hle31
 rw [List.append_nil]
 have hm31':rows31.map (·.l)=(bA p role [] [0]).2.2:=hm31
 refine m3 ?_;refine lT ?_
 refine aW rfl ?_ ?_<;>intro c35
 ·
  have c35b:(bA p role [] [0]).2.1≠0:=c35
  refine im ?_;refine zm0 ?_;refine xZ ?_
  have hE:(cM p role).1=(bA p role [] [0]).2.1:=by unfold cM;rw [if_neg (by rw [hrh];decide),if_pos c35b]
  exact aN (.inr rfl) (bO rfl (RVal.cellA rfl (.here _) rfl) (RVal.tmp rfl)) ⟨[],[],(none,0),by rw [hE];rfl,fun h=>absurd (hE.symm.trans h) (c35b)⟩
 have h35:¬(bA p role [] [0]).2.1≠0:=by simpa using c35
 refine cW ?_;refine fJ ?_;refine TL.run (dA rfl rfl (by simp only [List.length_append,List.length_cons,List.length_nil];omega)) rfl (zm0 ?_)
 refine TL.run (dA rfl rfl (by simp only [List.length_append,List.length_cons,List.length_nil];omega)) rfl (cE ?_)
 refine TL.alloc rfl (fun b9=>?_)
 refine kQ ?_;refine hZ ?_
 have hlk:=nZ (p:=p) (role:=role) hRP.nx (sets:=[]) (frm:=[0]) (by intro s hs;simp at hs)
 refine TC.loop (ι:=TQ2) (V:=fun q=>[(10,.int .i64 q.k)]) (K:=[(4,_),(5,_),(6,_),(9,_)]) (L:=fun q=>St [] w0 H q.h ((b9,[gs ((p.name++[46])++role),q.v])::(b4,[gs [],.slice none 0 0])::(b2,p.cells)::(bw,WK p role q.sv)::(q.ob++q.oa))) (I:=fun q=>(0≤q.k∧q.k≤q.rows.length)∧H31.le q.h∧OwnSl 1 GRow.cells q.sv q.rows q.ob∧GRowsOk q.h q.rows∧q.rows.length≤40∧OwnSl 3 STurn.cells q.v q.ts q.oa∧iw p role (41 - q.k.toNat) q.k.toNat (q.rows.map (·.l)) (q.ts.map tt)=iw p role 41 0 (rows31.map (·.l)) []∧iL p.points.length (q.rows.map (·.l))∧(∀t∈q.ts,TurnOk q.h t)∧(q.ts.length:Int)=q.k) (μ:=fun q=>(41 - q.k).toNat) (i:=⟨0,H31,_,ob31,rows31,.slice none 0 0,[],[]⟩) ky ⟨⟨by show(0:Int)≤0;omega,by show(0:Int)≤_;omega⟩,.refl _,hO31,hrw31,hrl31,OwnSl.nil,rfl,by rw [hm31'];exact hlk,by simp,rfl⟩ (fun w hw=>by rw [List.append_nil];exact hw) (fun q hI=>?_)
 obtain⟨⟨k0,k1⟩,hq2,hq3,hq4,hq5,hq6,hq7,hSO,hq9,hq10⟩:=hI
 rw [hm31'] at hq7
 have hp2:=hp.le hq2
 obtain⟨va,vc,hv⟩:=hq6.form
 refine eZ ?_;refine mm ?_;refine oI ?_;refine TL.run (bj rfl rfl hq3) rfl (zm1 ?_)
 refine ag rfl ?_ ?_<;>intro c50
 ·
  obtain⟨r,hrx⟩:=ao (l:=q.rows) k0 c50
  have hs:(q.rows.map (·.l))[q.k.toNat]? =some r.l:=by rw [List.getElem?_map,hrx];rfl
  have hsr:=hSO _ (List.mem_of_getElem? hs)
  have hsl:r.l.length≤1000:=by have:=hRP.n24;have:=hsr.2;omega
  refine m9 ?_;refine mm ?_;refine oI ?_;refine zm0 ?_
  refine TL.run (bP rfl rfl hq3 om om) rfl (TL.run (dU (j:=0) rfl hq3 (.s4 (.app _)) hrx rfl) rfl (lz (X:=[(b9,_),(b4,_),(b2,_)]) (A:=(bw,_)::q.ob) rfl (ab rfl rfl rfl rfl) (turn_ok role hp2 hRP.nx (by have:=hRP.n24;omega) hq3 hq4 hq5 hRP.a6 (hq4 r (List.mem_of_getElem? hrx)) hsr.1 hsl) rfl (fun v62 H62 A62 hle62 hp62=>?_)))
  obtain⟨sv62,ob62,rows62,av62,oa62,rfl,hO62,hrw62,hrl62,hm62,hA62,rfl⟩:=hp62
  obtain⟨aa62,ac62,rfl⟩:=hA62.form
  refine zm4 ?_;refine zm0 ?_
  refine TL.alloc rfl (fun b11=>?_)
  refine gD ?_;refine lT ?_
  refine aW rfl ?_ ?_<;>intro c66
  ·
   refine im ?_;refine zm0 ?_;refine cf rfl rfl rfl rfl rfl (.h2) rfl rfl (dv ?_);refine jc ?_
   have hE:(cM p role).1=(bp p role (q.rows.map (·.l)) r.l).2.1:=by unfold cM;rw [if_neg (by rw [hrh];decide),if_neg h35,← hq7,show 41 - q.k.toNat=(40 - q.k.toNat)+1 by omega,sW hs c66]
   exact aN (.inr rfl) (bO rfl (RVal.cellA rfl (.h2) rfl) (RVal.tmp rfl)) ⟨[],[],(none,0),by rw [hE];rfl,fun h=>absurd (hE.symm.trans h) (c66)⟩
  refine oC (perm_as [(b11,_),(b9,_),(b4,_),(b2,_)]) (TC.pubO hA62 (.s5 ((.past _ (.app _)))) sq (fun HP62 leP62 hT62=>?_))
  rw [List.nil_append]
  replace hrw62:=hrw62.le leP62
  have hTk:TurnOk HP62 ⟨(bp p role (q.rows.map (·.l)) r.l).1.1,(bp p role (q.rows.map (·.l)) r.l).1.2.1,(bp p role (q.rows.map (·.l)) r.l).1.2.2,(aa62,ac62)⟩:=⟨hT62,fun a ha=>Nat.le_trans (yF hB a ha) hB2⟩
  have hge:q.rows.length≤rows62.length:=by have h1:=congrArg List.length hm62;rw [List.length_map] at h1;rw [h1];have h2:=sL (p:=p) (role:=role) (set:=r.l) (sets:=q.rows.map (·.l));rwa [List.length_map] at h2
  refine cW ?_;refine mY ?_;refine eE ?_
  refine ax rfl rfl rfl rfl (fun b72=>?_)
  refine TL.append (enc:=STurn.cells) rfl rfl rfl hq6 (Src.own [⟨(bp p role (q.rows.map (·.l)) r.l).1.1,(bp p role (q.rows.map (·.l)) r.l).1.2.1,(bp p role (q.rows.map (·.l)) r.l).1.2.2,(aa62,ac62)⟩] (.here _) rfl rfl) (by simp only [List.length_cons,List.length_nil];omega) rfl (.s6 (.past _ .all)) rfl (fun a73 c73 ob73 hO73=>?_)
  refine rG ?_;refine TL.nil (ie ?_)
  exact aM (⟨q.k+1,HP62,sv62,ob62,rows62,_,ob73,q.ts++[⟨(bp p role (q.rows.map (·.l)) r.l).1.1,(bp p role (q.rows.map (·.l)) r.l).1.2.1,(bp p role (q.rows.map (·.l)) r.l).1.2.2,(aa62,ac62)⟩]⟩:TQ2) ⟨⟨by show 0≤q.k+1;omega,by show q.k+1≤(rows62.length:Int);omega⟩,hq2.trans (hle62.trans leP62),hO62,hrw62,hrl62,hO73,by show iw p role (41 - (q.k+1).toNat) (q.k+1).toNat (rows62.map (·.l)) _=_;rw [hm31',← hq7,show 41 - q.k.toNat=(41 - (q.k+1).toNat)+1 by omega,k9 hs (by simpa using c66),hm62,show(q.k+1).toNat=q.k.toNat+1 by omega,List.map_append];rfl,by show iL _ (rows62.map (·.l));rw [hm62];exact yD hRP.nx hSO,eN (fun t ht=>(hq9 t ht).le (hle62.trans leP62)) hTk,by show _=q.k+1;simp only [List.length_append,List.length_cons,List.length_nil];omega⟩ ky (fun w hw=>hw.drop.drop) (by show(41 - (q.k+1)).toNat<(41 - q.k).toNat;omega)
 refine mX ?_
 rw [hv] at hq6 ⊢
 refine eE ?_;refine mS ?_;refine dv ?_
 have hE:cM p role=(0,q.ts.map tt):=by unfold cM;rw [if_neg (by rw [hrh];decide),if_neg h35,← hq7,nH (by rw [List.length_map];omega)]
 refine TX.pubO hq6 (.s4 (.past _ .all)) sq (fun H2 hle2 hR=>?_)
 exact aN (.inr rfl) (bO rfl (RVal.cellA rfl (.h1) rfl) (RVal.tmp rfl)) ⟨_,q.ts,(va,vc),by rw [hE];rfl,fun _=>⟨rfl,⟨hR,fun t ht=>(hq9 t ht).le hle2⟩,by rw [hE]⟩⟩
end Go.Sx
namespace Go.Sx
open Go Go.Proofs
theorem pY {H:Hp}(p:SProto)(hp:ProtoOk H p)(hnm:p.name.length≤1000)(hrl:∀r∈p.roles,r.length≤1000):
  Fn Tryz.prog 30 [.agg p.cells.toArray] H (fun v H1=>∃lv,v= .tuple #[lv,.int .i64 (gT p).2,.int .i64 (gT p).1]∧((gT p).1=0→∃ls,RdSl H1 2 SLocal.cells lv ls∧LsOk H1 p p.roles.length ls)∧((gT p).1≠0→lv= .slice none 0 0)):=by
 have hro:=hp.r
 have hrm:=hro.max
 refine Fn.enter Tryz.func30 Tryz.ntmps30 rfl rfl (fun w0=>?_)
 refine zm2 ?_
 refine TL.box rfl rfl (fun b1=>?_)
 refine zm4 ?_;refine eX ?_;refine eS ?_;refine aq (ab rfl rfl rfl rfl) (f5 p hp) rfl (zm1 ?_)
 refine TC.cond rfl ?_ ?_<;>intro c11
 ·
  refine dS ?_;refine oT ?_
  have hE:gT p=(800,0):=by unfold gT;rw [if_pos (by simpa using c11)]
  exact aN (.inr rfl) (d7 rfl (RVal.tmp rfl) (RVal.tmp rfl) (RVal.tmp rfl)) ⟨_,by rw [hE],fun h=>absurd h (by rw [hE];decide),fun _=>rfl⟩
 have hRB:cy p=true:=by simpa using c11
 have hr5:=(RPOk.of hRB).r5
 refine cW ?_;refine ij ?_
 refine aR (V:=fun k v ob H1=>[(5,v),(6,.int .i64 k)]) (K:=[(1,_),(2,_),(3,_),(4,_)]) (L:=fun k v ob H1=>St [] w0 H H1 ((b1,p.cells)::ob)) (I:=fun k v ob H1=>(0≤k∧k≤p.roles.length)∧H.le H1∧gq p k.toNat (p.roles.drop k.toNat)=gq p 0 p.roles∧∃ls,OwnSl 2 SLocal.cells v ls ob∧LsOk H1 p k ls) (μ:=fun k=>(p.roles.length - k).toNat) 0 (.slice none 0 0) [] H ky ⟨o2q,.refl _,rfl,[],OwnSl.nil,⟨rfl,by simp⟩⟩ (fun w hw=>hw) (fun k v ob H1 hI=>?_)
 obtain⟨⟨k0,k1⟩,hI2,hI3,ls,hO,hLs⟩:=hI
 have hp1:=hp.le hI2
 have hro1:=hp1.r
 obtain⟨va,vc,rfl⟩:=hO.form
 refine pd ?_;refine TL.run (ai rfl rfl hro1) rfl (zm1 ?_)
 refine ag rfl ?_ ?_<;>intro c16
 ·
  obtain⟨rr,hrx⟩:=ao (l:=p.roles) k0 c16
  refine rT ?_
  refine TD.part 6 10 rfl rfl rfl ?_ ?_
  ·
   refine cJ [(0,2),(1,1),(2,2),(3,1),(4,1),(5,2),(6,3),(7,1),(8,1),(9,1),(10,3),(11,0),(12,1)] kr kr (aQ (aU rfl (.here _) rfl) rfl (vp ?_))
   refine ar (af rfl hro1 rfl om om) rfl (aQ (aJ hro1 hrx rfl rfl) rfl (TF.call (ab rfl rfl rfl rfl) (we p rr hp1 hnm (hrl rr (List.mem_of_getElem? hrx)) (fun x hx a ha=>(hp.ps x hx).z a ha) (Nat.le_refl _)) rfl (fun v26 H26 hle26 hp26=>?_)))
   obtain⟨nm,ts,tp,rfl,hRo⟩:=hp26
   refine lS ?_
   refine TF.alloc rfl (fun b7=>?_)
   exact zq447
  refine cJ [(0,2),(1,1),(2,2),(3,1),(4,1),(5,2),(10,3),(6,3),(7,1),(8,1),(9,1),(11,0),(12,1)] kr kr (aQ (aU rfl (.here _) rfl) rfl (vp ?_))
  refine ar (af rfl hro1 rfl om om) rfl (aQ (aJ hro1 hrx rfl rfl) rfl (TF.alloc rfl (fun b7=>?_)))
  refine TF.call (ab rfl rfl rfl rfl) (we p rr hp1 hnm (hrl rr (List.mem_of_getElem? hrx)) (fun x hx a ha=>(hp.ps x hx).z a ha) (Nat.le_refl _)) rfl (fun v26 H26 hle26 hp26=>?_)
  obtain⟨nm,ts,tp,rfl,hRo⟩:=hp26
  refine lS ?_
  exact zq447
 refine fX ?_;refine dS ?_;refine eD ?_
 have hE:gT p=(0,0):=by unfold gT;rw [if_neg (by rw [hRB];decide),← hI3,List.drop_eq_nil_of_le om];rfl
 refine TX.pubO hO (.skip _ .all) sq (fun H2 hle2 hR=>?_)
 have hk:k=p.roles.length:=by omega
 exact aN (.inr rfl) (d7 rfl (RVal.tmp rfl) (RVal.tmp rfl) (RVal.tmp rfl)) ⟨_,by rw [hE],fun _=>⟨ls,hR,hk▸hLs.le hle2⟩,fun h=>absurd (by rw [hE]) h⟩
end Go.Sx
namespace Go.Sx
open Go
structure GP (H:Hp)(nm:Str)(p:SProto):Prop where
 ok:ProtoOk H p
 nm:p.name=nm
 rs:∃n,2≤n∧n≤5∧p.roles=rolesL.take n
theorem GP.le {H H':Hp}{nm:Str}{p:SProto}(h:GP H nm p)(hl:H.le H'):GP H' nm p:=⟨h.ok.le hl,h.nm,h.rs⟩
theorem GP.pr {H:Hp}{nm:Str}{p:SProto}(h:GP H nm p)(hn:nm=[112]∨nm=[113]):GPr p:=by
 obtain⟨n,h2,h5,hr⟩:=h.rs
 have hl:p.roles.length=n:=by rw [hr,List.length_take];show min n 5=n;omega
 exact⟨by rw [h.nm];exact hn,by omega,by omega,fun r hm=>by rw [hr] at hm;exact nG hm⟩
def PsOk (H:Hp)(ps:List SProto):Prop:=∃p,GP H [112] p∧(ps=[p]∨∃q,GP H [113] q∧ps=[p,q])
theorem PsOk.le {H H':Hp}{ps:List SProto}(h:PsOk H ps)(hl:H.le H'):PsOk H' ps:=by
 obtain⟨p,hp,h⟩:=h
 refine⟨p,hp.le hl,?_⟩
 rcases h with h | ⟨q,hq,h⟩
 ·exact .inl h
 ·exact .inr ⟨q,hq.le hl,h⟩
theorem PsOk.pk {H:Hp}{ps:List SProto}(h:PsOk H ps):∀p∈ps,ProtoOk H p:=by
 obtain⟨p,hp,rfl | ⟨q,hq,rfl⟩⟩:=h<;>intro x hx<;>simp only [List.mem_cons,List.not_mem_nil,or_false] at hx
 ·subst hx;exact hp.ok
 ·rcases hx with rfl | rfl
  ·exact hp.ok
  ·exact hq.ok
theorem PsOk.pg {H:Hp}{ps:List SProto}(h:PsOk H ps):∀p∈ps,GPr p:=by
 obtain⟨p,hp,rfl | ⟨q,hq,rfl⟩⟩:=h<;>intro x hx<;>simp only [List.mem_cons,List.not_mem_nil,or_false] at hx
 ·subst hx;exact hp.pr (.inl rfl)
 ·rcases hx with rfl | rfl
  ·exact hp.pr (.inl rfl)
  ·exact hq.pr (.inr rfl)
theorem PsOk.pn {H:Hp}{ps:List SProto}(h:PsOk H ps):0<ps.length∧ps.length≤2:=by
 obtain⟨p,hp,rfl | ⟨q,hq,rfl⟩⟩:=h<;>simp
theorem tyNm_of {n:Nat}{l:List Str}(h:l=rolesL.take n):∀s∈l.map (fun r=>([112]++[46])++r),TyNm s:=by
 intro s hs
 simp only [List.mem_map] at hs
 obtain⟨r,hr,rfl⟩:=hs
 exact⟨r,List.mem_of_mem_take (h▸hr),rfl⟩
end Go.Sx
namespace Go.Sx
open Go
theorem lW:∀{l:List (List Int)} {x:List Int} {k:Nat},eF l x=some k→k<l.length
 | [],x,k,h=>by simp [eF] at h
 | y::r,x,k,h=>by
  unfold eF at h
  split at h
  ·simp at h;subst h;simp
  ·rw [Option.map_eq_some_iff] at h
   obtain⟨j,hj,rfl⟩:=h
   have:=lW hj
   simp;omega
theorem tK {p:SProto}{role:Str}{sets:List (List Int)}{frm:List Int}(h40:sets.length≤40)(h:(bA p role sets frm).2.1=0):
  0≤(bA p role sets frm).1∧(bA p role sets frm).1<(bA p role sets frm).2.2.length∧(bA p role sets frm).2.2.length≤40:=by
 unfold bA at h ⊢
 split at h
 ·simp at h
 ·rename_i hc
  rw [if_neg hc]
  split at h
  ·rename_i i hi
   have:=lW hi
   dsimp only
   omega
  ·rename_i hi
   split at h
   ·simp at h
   ·rename_i hn
    rw [if_neg hn]
    simp only [List.length_append,List.length_cons,List.length_nil]
    omega
def ArmIn (n B:Nat)(a:SArm):Prop:=(0≤a.next∧a.next<(n:Int))∧a.label.length≤B
theorem ArmIn.up {n m B:Nat}{a:SArm}(h:ArmIn n B a)(hm:n≤m):ArmIn m B a:=⟨⟨h.1.1,by have:=h.1.2;omega⟩,h.2⟩
theorem pN {p:SProto}{role:Str}{set:List Int}{B:Nat}:∀(l:List Str) (sets:List (List Int)) (acc:List SArm),sets.length≤40→(∀a∈acc,ArmIn sets.length B a)→(∀lb∈l,lb.length≤B)→(turnA p role set l sets acc).2.1=0→
  (turnA p role set l sets acc).1.length=acc.length+l.length∧(turnA p role set l sets acc).2.2.length≤40∧∀a∈(turnA p role set l sets acc).1,ArmIn (turnA p role set l sets acc).2.2.length B a
 | [],sets,acc,h40,ha,_,_=>⟨rfl,h40,ha⟩
 | lb::r,sets,acc,h40,ha,hl,h0=>by
  unfold turnA at h0 ⊢
  have hat:= @tK p role sets (dg p set lb).2.2.1 h40
  have hge:= @n5 p role sets (dg p set lb).2.2.1
  generalize bA p role sets (dg p set lb).2.2.1=q at h0 hat hge ⊢
  obtain⟨ix,e,s'⟩:=q
  dsimp only at h0 hat hge ⊢
  by_cases hb:e≠0
  ·rw [if_pos hb] at h0
   exact absurd h0 hb
  ·rw [if_neg hb] at h0 ⊢
   obtain⟨h1,h2,h3⟩:=hat (Decidable.of_not_not hb)
   have hacc:∀a∈acc++[(⟨lb,(dg p set lb).1,(dg p set lb).2.1,ix⟩:SArm)],ArmIn s'.length B a:=eN (fun a hm=>(ha a hm).up hge) ⟨⟨h1,h2⟩,hl lb sq⟩
   obtain⟨h4,h5,h6⟩:=pN r s' _ h3 hacc (fun x hx=>hl x (by simp [hx])) h0
   refine⟨?_,h5,h6⟩
   rw [h4];simp only [List.length_append,List.length_cons,List.length_nil];omega
theorem tf:∀{l:List Str} {s x:Str},x∈cA l s→x=s∨x∈l
 | [],s,x,h=>by simp [cA] at h;exact .inl h
 | y::r,s,x,h=>by
  unfold cA at h
  split at h
  ·rcases List.mem_cons.1 h with rfl | h
   ·exact .inr sq
   ·rcases tf h with h | h
    ·exact .inl h
    ·exact .inr (by simp [h])
  ·split at h
   ·exact .inr h
   ·rcases List.mem_cons.1 h with rfl | h
    ·exact .inl rfl
    ·exact .inr h
theorem l7:∀{o i:List Str} {x:Str},x∈o.foldl cA i→x∈o∨x∈i
 | [],i,x,h=>.inr h
 | y::r,i,x,h=>by
  rcases l7 (o:=r) (i:=cA i y) h with h | h
  ·exact .inl (by simp [h])
  ·rcases tf h with h | h
   ·exact .inl (by simp [h])
   ·exact .inr h
theorem n6:∀{l:List SArm} {o:List Str} {x:Str},x∈fZ o l→x∈o∨∃a∈l,x=a.label
 | [],o,x,h=>.inl h
 | a::r,o,x,h=>by
  have h:x∈fZ (o.foldl cA [a.label]) r:=h
  rcases n6 h with h | ⟨b,hb,e⟩
  ·rcases l7 h with h | h
   ·exact .inl h
   ·exact .inr ⟨a,by simp,by simpa using h⟩
  ·exact .inr ⟨b,by simp [hb],e⟩
theorem tM {p:SProto}:∀{l:List Int} {o:List Str} {x:Str},x∈jd p o l→x∈o∨∃q∈p.points,∃a∈q.arms,x=a.label
 | [],o,x,h=>.inl h
 | j::r,o,x,h=>by
  have h:x∈jd p (match p.points[j.toNat]? with | some x=>fZ o x.arms | none=>o) r:=h
  rcases tM h with h | h
  ·split at h
   ·rename_i q hq
    rcases n6 h with h | ⟨a,ha,e⟩
    ·exact .inl h
    ·exact .inr ⟨q,List.mem_of_getElem? hq,a,ha,e⟩
   ·exact .inl h
  ·exact .inr h
theorem putS_ne (l:List Str)(s:Str):cA l s≠[]:=by
 cases l with
 | nil=>simp [cA]
 | cons x r=>
  unfold cA
  split
  ·simp
  ·split<;>simp
theorem oe:∀{o i:List Str},i≠[]→o.foldl cA i≠[]
 | [],_,h=>h
 | y::r,i,_=>oe (o:=r) (i:=cA i y) (putS_ne _ _)
theorem qX:∀{l:List SArm} {o:List Str},o≠[]∨l≠[]→fZ o l≠[]
 | [],o,h=>by
  rcases h with h | h
  ·exact h
  ·exact absurd rfl h
 | a::r,o,_=>qX (l:=r) (o:=o.foldl cA [a.label]) (.inl (oe sq))
theorem wl {p:SProto}:∀{l:List Int} {o:List Str},(o≠[]∨∃j∈l,∃q,p.points[j.toNat]? =some q∧q.arms≠[])→jd p o l≠[]
 | [],o,h=>by
  rcases h with h | ⟨j,hj,_⟩
  ·exact h
  ·simp at hj
 | j::r,o,h=>by
  refine wl (l:=r) (o:=match p.points[j.toNat]? with | some x=>fZ o x.arms | none=>o) ?_
  rcases h with h | ⟨k,hk,q,hq,ha⟩
  ·refine .inl ?_
   split
   ·exact qX (.inl h)
   ·exact h
  ·rcases List.mem_cons.1 hk with rfl | hk
   ·refine .inl ?_
    rw [hq]
    exact qX (.inr ha)
   ·exact .inr ⟨k,hk,q,hq,ha⟩
theorem lX {p:SProto}{role:Str}{B:Nat}(hB:∀x∈p.points,x.frm.length≤B∧x.to.length≤B):∀(l:List Int) (i:Nat) (kind:Int) (peer:Str),peer.length≤B→(eh p role i kind peer l).2.1.length≤B
 | [],_,_,_,h=>h
 | j::r,i,kind,peer,h=>by
  unfold eh
  split
  ·exact h
  ·rename_i x hx
   have hb:=hB x (List.mem_of_getElem? hx)
   have hp:(if x.to=role then x.frm else x.to).length≤B:=by
    split
    ·exact hb.1
    ·exact hb.2
   generalize (if x.to=role then x.frm else x.to)=pe at hp ⊢
   generalize (if x.to=role then(2:Int) else 1)=ke
   by_cases hc:0<i∧¬(ke=kind∧pe=peer)
   ·rw [if_pos hc];simp
   ·rw [if_neg hc];exact lX hB r _ _ _ hp
theorem qO {s:Str}(h:aG s=true):s.length≤12∧s≠[]:=by
 unfold aG at h
 split at h
 ·cases h
 ·split at h
  ·cases h
  ·rename_i h1 h2
   refine⟨by omega,fun e=>?_⟩
   subst e;simp at h1
theorem RPOk.lens {p:SProto}(h:RPOk p){x:SPoint}(hx:x∈p.points):(x.frm.length≤1000∧x.to.length≤1000)∧(∀a∈x.arms,a.label.length≤1000)∧(x.frm≠[]∨x.to≠[]→x.arms≠[]):=by
 have hp:=h.pt x hx
 unfold ci dW dK bX cV at hp
 simp only [Bool.or_eq_true,Bool.and_eq_true,decide_eq_true_eq] at hp
 rcases hp with ⟨h1,h2,h3⟩ | ⟨⟨h1,h2,_⟩,⟨h3,_⟩,h5,_⟩
 ·refine⟨by rw [h1,h2];simp,fun a ha=>?_,fun hh=>?_⟩
  ·rw [List.length_eq_zero_iff.1 (show x.arms.length=0 by omega)] at ha;simp at ha
  ·rcases hh with hh | hh
   ·exact absurd h1 hh
   ·exact absurd h2 hh
 ·have e1:=(qO (h.rn _ h1)).1
  have e2:=(qO (h.rn _ h2)).1
  refine⟨by omega,fun a ha=>?_,fun _ e=>?_⟩
  ·have:=List.all_eq_true.1 h5 a ha
   unfold d8 at this
   simp only [Bool.and_eq_true] at this
   have:=(qO this.1).1
   omega
  ·rw [e] at h3;simp at h3
def TTok (n:Nat)(t:TT):Prop:=t.2.1.length≤1000∧t.2.2.length≤6∧(t.1≠0→t.1≠2→1≤t.2.2.length)∧∀a∈t.2.2,ArmIn n 1000 a
theorem TTok.up {n m:Nat}{t:TT}(h:TTok n t)(hm:n≤m):TTok m t:=⟨h.1,h.2.1,h.2.2.1,fun a ha=>(h.2.2.2 a ha).up hm⟩
theorem tt0 {n:Nat}:TTok n (0,[],[]):=⟨by simp,by simp,by simp,by simp⟩
theorem wM {p:SProto}{role:Str}(hP:RPOk p)(hr:role≠[]){sets:List (List Int)}{set:List Int}(h40:sets.length≤40)(hin:∀j∈set,inP p role j=true)(h0:(bp p role sets set).2.1=0):
  (bp p role sets set).2.2.length≤40∧TTok (bp p role sets set).2.2.length (bp p role sets set).1:=by
 unfold bp at h0 ⊢
 by_cases c1:set.length=0
 ·rw [if_pos c1];exact⟨h40,tt0⟩
 rw [if_neg c1] at h0 ⊢
 by_cases c2:(cF p role set).2.2≠0
 ·rw [if_pos c2];exact⟨h40,tt0⟩
 rw [if_neg c2] at h0 ⊢
 by_cases c3:(cF p role set).1=1∧iI p set=false
 ·rw [if_pos c3];exact⟨h40,tt0⟩
 rw [if_neg c3] at h0 ⊢
 by_cases c4:6<(cX p set).length
 ·rw [if_pos c4];exact⟨h40,tt0⟩
 rw [if_neg c4] at h0 ⊢
 by_cases c5:(cX p set).all (jJ p set)=false
 ·rw [if_pos c5];exact⟨h40,tt0⟩
 rw [if_neg c5] at h0 ⊢
 by_cases c6:(turnA p role set (cX p set) sets []).2.1≠0
 ·rw [if_pos c6] at h0;exact absurd h0 c6
 rw [if_neg c6]
 obtain⟨h1,h2,h3⟩:=pN (B:=1000) (cX p set) sets [] h40 sq (fun lb hlb=>by
  rcases tM hlb with h | ⟨q,hq,a,ha,rfl⟩
  ·simp at h
  ·exact(hP.lens hq).2.1 a ha) (Decidable.of_not_not c6)
 refine⟨h2,?_,?_,fun _ _=>?_,h3⟩
 ·exact lX (fun x hx=>(hP.lens hx).1) set 0 0 [] sq
 ·dsimp only;rw [h1];simp only [List.length_nil];omega
 ·dsimp only;rw [h1]
  have:cX p set≠[]:=by
   refine wl (.inr ?_)
   obtain⟨j,r,e⟩:∃j r,set=j::r:=by
    cases set with
    | nil=>exact absurd rfl c1
    | cons j r=>exact⟨j,r,rfl⟩
   have hj:=hin j (by rw [e];simp)
   unfold inP at hj
   split at hj
   ·rename_i x hx
    refine⟨j,by rw [e];simp,x,hx,(hP.lens (List.mem_of_getElem? hx)).2.2 ?_⟩
    unfold dE at hj
    simp only [Bool.or_eq_true,decide_eq_true_eq] at hj
    rcases hj with h | h
    ·exact .inl (by rw [h];exact hr)
    ·exact .inr (by rw [h];exact hr)
   ·cases hj
  have:=List.length_pos_iff.2 this
  simp only [List.length_nil];omega
def InP (p:SProto)(role:Str)(sets:List (List Int)):Prop:=∀s∈sets,∀j∈s,inP p role j=true
theorem n4 {p:SProto}{role:Str}{sets:List (List Int)}{frm:List Int}(h:InP p role sets):InP p role (bA p role sets frm).2.2:=by
 unfold bA
 split
 ·exact h
 ·split
  ·exact h
  ·split
   ·exact h
   ·exact eN h (fun j hj=>(List.mem_filter.1 hj).2)
theorem nu {p:SProto}{role:Str}{set:List Int}:∀(l:List Str) (sets:List (List Int)) (acc:List SArm),InP p role sets→InP p role (turnA p role set l sets acc).2.2
 | [],_,_,h=>h
 | lb::r,sets,acc,h=>by
  unfold turnA
  split
  ·exact n4 h
  ·exact nu r _ _ (n4 h)
theorem yE {p:SProto}{role:Str}{set:List Int}{sets:List (List Int)}(h:InP p role sets):InP p role (bp p role sets set).2.2:=by
 unfold bp
 split; · exact h
 split; · exact h
 split; · exact h
 split; · exact h
 split; · exact h
 split; · exact nu _ _ _ h
 exact nu _ _ _ h
theorem sX {p:SProto}{role:Str}(hP:RPOk p)(hr:role≠[]):∀(f i:Nat) (sets:List (List Int)) (acc:List TT),sets.length≤40→i≤sets.length→41≤i+f→acc.length=i→(∀t∈acc,TTok sets.length t)→InP p role sets→(iw p role f i sets acc).1=0→
  sets.length≤(iw p role f i sets acc).2.length∧∀t∈(iw p role f i sets acc).2,TTok (iw p role f i sets acc).2.length t
 | 0,i,sets,acc,h40,hi,hf,_,_,_,_=>by omega
 | f+1,i,sets,acc,h40,hi,hf,hac,hT,hI,h0=>by
  cases hs:sets[i]? with
  | none=>
   have hle:=List.getElem?_eq_none_iff.1 hs
   rw [nH hle]
   have:acc.length=sets.length:=by omega
   dsimp only
   rw [this]
   exact⟨Nat.le_refl _,hT⟩
  | some s=>
   have hlt:=(List.getElem?_eq_some_iff.1 hs).1
   by_cases hb:(bp p role sets s).2.1≠0
   ·rw [sW hs hb] at h0;exact absurd h0 hb
   ·rw [k9 hs hb] at h0 ⊢
    obtain⟨h1,h2⟩:=wM hP hr h40 (hI s (List.mem_of_getElem? hs)) (Decidable.of_not_not hb)
    have hge:= @sL p role s sets
    have hin:= @yE p role s sets hI
    generalize (bp p role sets s).2.2=s' at *
    generalize (bp p role sets s).1=t' at *
    obtain⟨h3,h4⟩:=sX hP hr f (i+1) s' (acc++[t']) h1 om om (by simp [hac]) (eN (fun t ht=>(hT t ht).up hge) h2) hin h0
    exact⟨by omega,h4⟩
theorem wU {p:SProto}{role:Str}(h0:(cM p role).1=0):0<(cM p role).2.length∧∀t∈(cM p role).2,TTok (cM p role).2.length t:=by
 unfold cM at h0 ⊢
 by_cases c1:(cy p&&bX p.roles role)=false
 ·rw [if_pos c1] at h0;cases h0
 rw [if_neg c1] at h0 ⊢
 by_cases c2:(bA p role [] [0]).2.1≠0
 ·rw [if_pos c2] at h0;exact absurd h0 c2
 rw [if_neg c2] at h0 ⊢
 have c1:cy p=true∧bX p.roles role=true:=by simpa using c1
 have hP:=RPOk.of c1.1
 have hr:=(qO (hP.rn role (of_decide_eq_true c1.2))).2
 obtain⟨h1,h2,h3⟩:= @tK p role [] [0] sq (Decidable.of_not_not c2)
 obtain⟨h4,h5⟩:=sX hP hr 41 0 _ [] h3 om om rfl sq (n4 (by intro s hs;simp at hs)) h0
 exact⟨by omega,h5⟩
theorem pX {p:SProto}:∀(l:List Str) (i:Nat),(gq p i l).1=0→∀r∈l,(cM p r).1=0
 | [],_,_,r,hr=>by simp at hr
 | x::l,i,h,r,hr=>by
  unfold gq at h
  split at h
  ·rename_i hb;exact absurd h hb
  ·rename_i hb
   rcases List.mem_cons.1 hr with rfl | hr
   ·exact Decidable.of_not_not hb
   ·exact pX l _ h r hr
theorem zM {p:SProto}(h:(gT p).1=0):∀r∈p.roles,(cM p r).1=0:=by
 unfold gT at h
 split at h
 ·cases h
 ·exact pX _ _ h
theorem LsOk.tg {H:Hp}{p:SProto}{ls:List SLocal}(h:LsOk H p p.roles.length ls)(hz:(gT p).1=0){k:Int}(h0:0≤k){T:SLocal}(hk:ls[k.toNat]? =some T):∀F:Fx,F.tys=ls→F.role=k→TG F T:=by
 intro F hF hR
 obtain⟨r,hr,hnm,hok,htt⟩:=h.at_ _ _ hk
 obtain⟨h1,h2⟩:=wU (zM hz r (List.mem_of_getElem? hr))
 rw [← htt,List.length_map] at h1
 rw [← htt,List.length_map] at h2
 refine⟨by rw [hR];exact h0,by rw [hR,hF];have:=(List.getElem?_eq_some_iff.1 hk).1;omega,by rw [hR,hF];exact hk,h1,fun t ht=>?_⟩
 obtain⟨a1,a2,a3,a4⟩:=h2 (tt t) (List.mem_map.2 ⟨t,ht,rfl⟩)
 exact⟨a1,a2,a3,fun a ha=>(a4 a ha).2,fun a ha=>(a4 a ha).1⟩
def Sig.un (S S':Sig):Sig:=⟨fun b=>match S.f b with | .some x=>.some x | .none=>S'.f b,max S.N S'.N⟩
theorem Sig.le_un {S S':Sig}:S.le (S.un S'):=⟨fun b x h=>by show(match S.f b with | .some x=>.some x | .none=>S'.f b)=some x;rw [h],Nat.le_max_left _ _⟩
theorem Bag.un_le {H:Hp}{S S':Sig}{B B':aj}(h:Bag H S B)(h':Bag H S' B')(hd:((B++B').map (·.1)).Nodup):S'.le (S.un S'):=by
 refine⟨fun b x hx=>?_,Nat.le_max_right _ _⟩
 show(match S.f b with | .some x=>.some x | .none=>S'.f b)=some x
 cases e:S.f b with
 | none=>exact hx
 | some y=>
  obtain⟨c1,m1⟩:=h.mem b y.1 y.2 e
  obtain⟨c2,m2⟩:=h'.mem b x.1 x.2 hx
  rw [List.map_append,List.nodup_append] at hd
  exact absurd rfl (hd.2.2 b (List.mem_map.2 ⟨_,m1,rfl⟩) b (List.mem_map.2 ⟨_,m2,rfl⟩))
theorem Bag.un {H:Hp}{S S':Sig}{B B':aj}(h:Bag H S B)(h':Bag H S' B')(hd:((B++B').map (·.1)).Nodup):Bag H (S.un S') (B++B'):=by
 have hle:=h.un_le h' hd
 refine⟨fun q hq=>?_,fun b t m hs=>?_⟩
 ·rcases List.mem_append.1 hq with hq | hq
  ·obtain⟨t,m,h1,h2,h3⟩:=h.ty q hq
   refine⟨t,m,Sig.le_un.1 _ _ h1,h2,fun o u hu=>?_⟩
   obtain⟨ct,h4,h5⟩:=h3 o u hu
   exact⟨ct,h4,h5.le (.refl H) Sig.le_un⟩
  ·obtain⟨t,m,h1,h2,h3⟩:=h'.ty q hq
   refine⟨t,m,hle.1 _ _ h1,h2,fun o u hu=>?_⟩
   obtain⟨ct,h4,h5⟩:=h3 o u hu
   exact⟨ct,h4,h5.le (.refl H) hle⟩
 ·have hs:(match S.f b with | .some x=>.some x | .none=>S'.f b)=some (t,m):=hs
  cases e:S.f b with
  | none=>
   rw [e] at hs
   obtain⟨cs,hc⟩:=h'.mem b t m hs
   exact⟨cs,List.mem_append_right _ hc⟩
  | some y=>
   rw [e] at hs
   cases hs
   obtain⟨cs,hc⟩:=h.mem b t m e
   exact⟨cs,List.mem_append_left _ hc⟩
structure PSt where
 k:Int
 h:Hp
 a:Int
 S:Sig
 v:Value
 qs:List GProc
 ob:aj
 B:aj
structure PInv (H:Hp)(dl:Value)(m:Int)(q:PSt):Prop where
 le:H.le q.h
 d:DiceOk q.h dl q.a
 o:OwnSl 4 GProc.cells q.v q.qs q.ob
 b:Bag q.h q.S q.B
 g:∀x∈q.qs,GPOk q.h q.S x
 N:q.S.N≤10000000
 n:(q.qs.length:Int)≤m
theorem PInv.add {H h':Hp}{dl:Value}{m m' k a':Int}{q:PSt}{S':Sig}{v':Value}{x:GProc}{ob' B':aj}(h:PInv H dl m q)(hl:q.h.le h')(hd:DiceOk h' dl a')(hO:OwnSl 4 GProc.cells v' (q.qs++[x]) ob')(hB:Bag h' S' B')(hx:GPOk h' S' x)(hnd:((q.B++B').map (·.1)).Nodup)(hN:S'.N≤10000000)(hm:m+1≤m'):
  PInv H dl m' ⟨k,h',a',q.S.un S',v',q.qs++[x],ob',q.B++B'⟩:=
 ⟨h.le.trans hl,hd,hO,(h.b.leH hl).un hB hnd,eN (fun y hy=>(h.g y hy).le hl Sig.le_un) (hx.le (.refl _) ((h.b.leH hl).un_le hB hnd)),Nat.max_le.2 ⟨h.N,hN⟩,by
  have:=h.n
  simp only [List.length_append,List.length_cons,List.length_nil];omega⟩
structure LsG (H:Hp)(p:SProto)(lv:Value)(ls:List SLocal):Prop where
 r:RdSl H 2 SLocal.cells lv ls
 n:ls.length≤p.roles.length
 l:∀l∈ls,LocalOk H l∧l.name.length≤1000
 g:∀(k:Int) (T:SLocal),0≤k→ls[k.toNat]? =some T→∀F:Fx,F.tys=ls→F.role=k→TG F T
theorem LsG.le {H H':Hp}{p:SProto}{lv:Value}{ls:List SLocal}(h:LsG H p lv ls)(hl:H.le H'):LsG H' p lv ls:=⟨h.r.le hl,h.n,fun l hm=>⟨(h.l l hm).1.le hl,(h.l l hm).2⟩,h.g⟩
theorem uh {P:Program}{n:Nat}{ops:Array Oper}{Q:Exit→Act→World→Prop}{E:Env}{M:List Nat}{w0:World}{H0 H:Hp}{L:aj}{l:List Oper}(h:(L.map (·.1)).Nodup→TL P n ops Q l E (St M w0 H0 H L)):TL P n ops Q l E (St M w0 H0 H L):=
 fun a w he hw=>h hw.nd a w he hw
theorem zj {x y z:Nat×List Value}{A B:aj}(h:((x::y::z::(A++B)).map (·.1)).Nodup):(B.map (·.1)).Nodup:=
 h.sublist ((((((List.sublist_append_right A B).cons z).cons y).cons x)).map _)
end Go.Sx
namespace Go.Sx
open Go
theorem zi {types:List Str}{places:Int}{l:List SArm}(h:ArmsG types places l):∃g:Nat,g<4∧l.map (·.label)=(List.range l.length).map (fun i=>(labelsL[(g+i) % 4]?).getD []):=by
 obtain⟨f,hf⟩:=h.lb
 refine⟨f % 4,Nat.mod_lt _ dq,List.ext_getElem? (fun i=>?_)⟩
 rw [List.getElem?_map,List.getElem?_map]
 by_cases hi:i<l.length
 ·have hx:=List.getElem?_eq_getElem hi
  have:=hf i _ hx
  rw [hx,List.getElem?_range hi,Option.map_some,Option.map_some,show(f % 4+i) % 4=(f+i) % 4 by omega,this];rfl
 ·rw [List.getElem?_eq_none om,List.getElem?_eq_none (by simp;omega)];rfl
theorem tO:∀(l:List SArm) (o:List Str),fZ o l=(l.map (·.label)).foldl (fun o b=>o.foldl cA [b]) o
 | [],_=>rfl
 | a::r,o=>by
  rw [List.map_cons,List.foldl_cons,← tO r];rfl
theorem lo {types:List Str}{places:Int}{l:List SArm}(h:ArmsG types places l):(l.map (·.label)).Nodup∧(fZ [] l).length=l.length:=by
 obtain⟨g,hg,e⟩:=zi h
 have h1:=h.n1
 have h3:=h.n3
 rw [tO,e]
 rcases(by omega:l.length=1∨l.length=2∨l.length=3) with hl | hl | hl<;>rw [hl]<;>
 rcases(by omega:g=0∨g=1∨g=2∨g=3) with rfl | rfl | rfl | rfl<;>exact⟨by decide,by decide⟩
structure TwoP (p:SProto)(l:List SPoint)(role:Str):Prop where
 e:p.points=l++[em]
 n:l.length≤6
 r0:role≠[]
 w:∀x∈l,dE x role=true
 nd:∀x∈l,(x.arms.map (·.label)).Nodup
 la:∀x∈l,(fZ [] x.arms).length=x.arms.length
 a3:∀x∈l,x.arms.length≤3
 nx:∀x∈l,∀a∈x.arms,0≤a.next∧a.next<p.points.length
section
variable {p:SProto}{l:List SPoint}{role:Str}(h:TwoP p l role)
include h
theorem TwoP.len:p.points.length=l.length+1:=by rw [h.e];simp
theorem TwoP.at1 {j:Int}(h0:0≤j)(h1:j<l.length):∃x,p.points[j.toNat]? =some x∧x∈l:=by
 have hx:=List.getElem?_eq_getElem (l:=l) (i:=j.toNat) om
 exact⟨_,by rw [h.e,List.getElem?_append_left om];exact hx,List.getElem_mem _⟩
theorem TwoP.at2 {j:Int}(h0:0≤j)(h1:¬j<l.length)(h2:j<p.points.length):p.points[j.toNat]? =some em:=by
 have:=h.len
 rw [h.e,List.getElem?_append_right om,show j.toNat - l.length=0 by omega];rfl
theorem TwoP.within {j:Int}(h0:0≤j)(h2:j<p.points.length):inP p role j=decide (j<l.length):=by
 unfold inP
 by_cases h1:j<l.length
 ·obtain⟨x,hx,hm⟩:=h.at1 h0 h1
  rw [hx,decide_eq_true h1];exact h.w x hm
 ·rw [h.at2 h0 h1 h2,decide_eq_false h1]
  have:=h.r0
  show(decide (([]:Str)=role)||decide (([]:Str)=role))=false
  rw [decide_eq_false (fun e=>this e.symm)];rfl
theorem TwoP.span {j:Int}(h0:0≤j)(h2:j<p.points.length):cx p role [j]=[j]:=by
 have hM:fO p role [j]=((List.replicate p.points.length false).set j.toNat true,[j]):=by
  unfold fO f3
  rw [if_pos ⟨h0,by rw [List.getElem?_replicate,if_pos om]⟩];rfl
 have hS:∀met,e9 p role j met [j]=(met,[j]):=fun met=>by
  unfold e9
  by_cases h1:j<l.length
  ·obtain⟨x,hx,hm⟩:=h.at1 h0 h1
   rw [hx];dsimp only
   rw [if_pos (h.w x hm)]
  ·rw [h.at2 h0 h1 h2];dsimp only
   split
   ·rfl
   ·rfl
 have hW:∀met f,eR p role (f+1) 0 met [j]=(met,[j]):=fun met f=>by
  unfold eR
  rw [show([j]:List Int)[0]? =some j from rfl]
  dsimp only
  rw [hS,pS sq]
 unfold cx
 rw [hM]
 dsimp only
 have hl:=h.len
 rw [show p.points.length=l.length+1 by omega,hW]
 have key:∀k:Nat,k≤l.length+1→gY ((List.replicate (l.length+1) false).set j.toNat true) k=if j<k then [j] else []:=by
  intro k
  induction k with
  | zero=>intro _;rw [if_neg om];rfl
  | succ k ih=>
   intro hk
   have ih:=ih om
   have hg:((List.replicate (l.length+1) false).set j.toNat true)[k]? =some (decide (j.toNat=k)):=by
    rw [List.getElem?_set]
    by_cases e:j.toNat=k
    ·rw [if_pos e,if_pos (by simp;omega),decide_eq_true e]
    ·rw [if_neg e,List.getElem?_replicate,if_pos om,decide_eq_false e]
   by_cases e:j.toNat=k
   ·rw [decide_eq_true e] at hg
    have:=pP (k:=(k:Int)) om (by simpa using hg)
    rw [show((k:Int)+1).toNat=k+1 by omega,show((k:Int)).toNat=k by omega] at this
    rw [this,ih,if_neg om,if_pos om]
    simp;omega
   ·rw [decide_eq_false e] at hg
    have:=sN (k:=(k:Int)) om (by simpa using hg)
    rw [show((k:Int)+1).toNat=k+1 by omega,show((k:Int)).toNat=k by omega] at this
    rw [this,ih]
    by_cases h1:j<(k:Int)
    ·rw [if_pos h1,if_pos om]
    ·rw [if_neg h1,if_neg om]
 have:=key (l.length+1) (Nat.le_refl _)
 rw [if_pos om] at this
 unfold vX
 rw [List.length_set,List.length_replicate]
 exact this
theorem TwoP.near {j:Int}(h0:0≤j)(h2:j<p.points.length):db p role [j]=if j<l.length then [j] else []:=by
 unfold db
 rw [List.filter_cons,h.within h0 h2]
 by_cases h1:j<l.length
 ·rw [decide_eq_true h1,if_pos h1];rfl
 ·rw [decide_eq_false h1,if_neg h1];rfl
theorem TwoP.lost {j:Int}(h0:0≤j)(h2:j<p.points.length)(h1:j<l.length):gx p role j=false:=by
 unfold gx
 rw [h.span h0 h2,h.near h0 h2,if_pos h1];rfl
end
structure SetI (n:Nat)(sets:List (List Int)):Prop where
 nd:sets.Nodup
 i:∀s∈sets,s=[]∨∃j:Int,s=[j]∧0≤j∧j<n
theorem SetI.len {n:Nat}{sets:List (List Int)}(h:SetI n sets):sets.length≤n+1:=by
 let f:List Int→Int:=fun s=>match s with
  | []=>0
  | j::_=>j+1
 have h1:=nP (n+1) (sets.map f) (by
  unfold List.Nodup
  rw [List.pairwise_map]
  refine gO (fun a ha b hb hne e=>hne ?_) h.nd
  rcases h.i a ha with rfl | ⟨j,rfl,j0,j1⟩<;>rcases h.i b hb with rfl | ⟨k,rfl,k0,k1⟩
  ·rfl
  ·have e:(0:Int)=k+1:=e
   omega
  ·have e:j+1=(0:Int):=e
   omega
  ·have e:j+1=k+1:=e
   rw [show j=k by omega]) (fun x hx=>by
  obtain⟨s,hs,rfl⟩:=List.mem_map.1 hx
  rcases h.i s hs with rfl | ⟨j,rfl,j0,j1⟩
  ·show 0≤(0:Int)∧(0:Int)<_;omega
  ·show 0≤j+1∧j+1<_;omega)
 rwa [List.length_map] at h1
theorem pI:∀{l:List (List Int)} {x:List Int},eF l x=none→x∉l
 | [],_,_=>by simp
 | y::r,x,h=>by
  unfold eF at h
  split at h
  ·cases h
  ·rename_i hne
   have h1:eF r x=none:=by
    cases e:eF r x with
    | none=>rfl
    | some i=>rw [e] at h;cases h
   intro hm
   rcases List.mem_cons.1 hm with e | hm
   ·exact hne e.symm
   ·exact pI h1 hm
section
variable {p:SProto}{l:List SPoint}{role:Str}(h:TwoP p l role)
include h
theorem TwoP.look {sets:List (List Int)}(hI:SetI l.length sets){j:Int}(h0:0≤j)(h2:j<p.points.length):(bA p role sets [j]).2.1=0∧SetI l.length (bA p role sets [j]).2.2:=by
 unfold bA
 rw [h.span h0 h2,h.near h0 h2]
 have hno:¬(0<(if j<l.length then [j] else([]:List Int)).length∧([j]:List Int).any (gx p role)=true):=by
  rintro⟨a,b⟩
  by_cases h1:j<l.length
  ·rw [List.any_cons,h.lost h0 h2 h1] at b;cases b
  ·rw [if_neg h1] at a;exact absurd a dq
 rw [if_neg hno]
 split
 ·exact⟨rfl,hI⟩
 ·rename_i hw
  have hl:=hI.len
  have hn:=h.n
  rw [if_neg om]
  refine⟨rfl,?_,fun s hs=>?_⟩
  ·show(sets++[_]).Nodup
   rw [List.nodup_append]
   refine⟨hI.nd,by simp,fun a ha b hb e=>?_⟩
   rw [List.mem_singleton.1 hb] at e
   exact pI hw (e▸ha)
  ·rcases List.mem_append.1 hs with hs | hs
   ·exact hI.i s hs
   ·rw [List.mem_singleton.1 hs]
    split
    ·rename_i h1;exact .inr ⟨j,rfl,h0,h1⟩
    ·exact .inl rfl
theorem TwoP.car {j:Int}(h0:0≤j)(h1:j<l.length){lb:Str}(hlb:lb∈cX p [j]):∃to:Int,(0≤to∧to<p.points.length)∧(dg p [j] lb).2.2.1=[to]∧jJ p [j] lb=true:=by
 obtain⟨x,hx,hm⟩:=h.at1 h0 h1
 have e:cX p [j]=fZ [] x.arms:=by
  unfold cX jd
  rw [List.foldl_cons,List.foldl_nil,hx]
 rw [e] at hlb
 rcases n6 hlb with hlb | ⟨a0,ha0,e0⟩
 ·cases hlb
 have hin:lb∈x.arms.map (·.label):=List.mem_map.2 ⟨a0,ha0,e0.symm⟩
 have hp:=nN.2 hin
 have hr:=gM (x.arms.map (·.label)) lb
 rw [List.length_map] at hr
 have ha:=List.getElem?_eq_getElem (l:=x.arms) (i:=(bz (x.arms.map (·.label)) lb).toNat) om
 have hnx:=h.nx x hm _ (List.mem_of_getElem? ha)
 refine⟨_,hnx,?_,?_⟩
 ·unfold dg gf
  rw [hx];dsimp only
  rw [if_neg om,ha];dsimp only
  rw [if_neg sq];rfl
 ·unfold jJ dg gf
  rw [hx];dsimp only
  rw [if_neg om,ha];dsimp only
  rw [if_neg sq];rfl
theorem TwoP.turnA {j:Int}(h0:0≤j)(h1:j<l.length):∀(L:List Str) (sets:List (List Int)) (acc:List SArm),(∀lb∈L,lb∈cX p [j])→SetI l.length sets→(Sx.turnA p role [j] L sets acc).2.1=0∧SetI l.length (Sx.turnA p role [j] L sets acc).2.2
 | [],sets,acc,_,hI=>⟨rfl,hI⟩
 | lb::r,sets,acc,hL,hI=>by
  obtain⟨to,ht,e1,_⟩:=h.car h0 h1 (hL lb sq)
  obtain⟨k1,k2⟩:=h.look hI ht.1 ht.2
  unfold Sx.turnA
  rw [e1,if_neg (by rw [k1];decide)]
  exact TwoP.turnA h0 h1 r _ _ (fun x hx=>hL x (by simp [hx])) k2
theorem TwoP.turn {sets:List (List Int)}(hI:SetI l.length sets){s:List Int}(hs:s=[]∨∃j:Int,s=[j]∧0≤j∧j<l.length):(bp p role sets s).2.1=0∧SetI l.length (bp p role sets s).2.2:=by
 rcases hs with rfl | ⟨j,rfl,h0,h1⟩
 ·exact⟨rfl,hI⟩
 ·obtain⟨x,hx,hm⟩:=h.at1 h0 h1
  have e:cX p [j]=fZ [] x.arms:=by
   unfold cX jd
   rw [List.foldl_cons,List.foldl_nil,hx]
  have hla:=h.la x hm
  have ha3:=h.a3 x hm
  have e2:(cF p role [j]).2.2=0:=by
   unfold cF eh
   rw [hx];dsimp only
   rw [if_neg om];rfl
  have e3:iI p [j]=true:=by
   unfold iI ki
   rw [List.all_cons,hx,e,hla]
   simp
  obtain⟨k1,k2⟩:=h.turnA h0 h1 (cX p [j]) sets [] (fun _ h=>h) hI
  unfold bp
  rw [if_neg sq,if_neg (by rw [e2];decide),if_neg (by rw [e3];simp),if_neg (by rw [e,hla];omega),if_neg,if_neg (by rw [k1];decide)]
  ·exact⟨rfl,k2⟩
  ·rw [Bool.not_eq_false,List.all_eq_true]
   intro lb hlb
   obtain⟨_,_,_,hb⟩:=h.car h0 h1 hlb
   exact hb
theorem TwoP.rol:∀(f i:Nat) (sets:List (List Int)) (acc:List TT),SetI l.length sets→(iw p role f i sets acc).1=0
 | 0,_,_,_,_=>rfl
 | f+1,i,sets,acc,hI=>by
  cases hs:sets[i]? with
  | none=>rw [nH (List.getElem?_eq_none_iff.1 hs)]
  | some s=>
   obtain⟨k1,k2⟩:=h.turn hI (hI.i s (List.mem_of_getElem? hs))
   rw [k9 hs (by rw [k1];decide)]
   exact TwoP.rol f (i+1) _ _ k2
theorem TwoP.ok (hp:cy p=true)(hr:role∈p.roles):(cM p role).1=0:=by
 unfold cM
 have hl:=h.len
 have hh:bX p.roles role=true:=decide_eq_true hr
 obtain⟨k1,k2⟩:=h.look (sets:=[]) ⟨List.nodup_nil,by simp⟩ (j:=0) om om
 rw [hp,hh,if_neg dq,if_neg (by rw [k1];decide)]
 exact h.rol 41 0 _ [] k2
end
theorem te {p:SProto}:∀(L:List Str) (i:Nat),(∀r∈L,(cM p r).1=0)→(gq p i L).1=0
 | [],_,_=>rfl
 | r::L,i,h=>by
  unfold gq
  rw [if_neg (by rw [h r sq];decide)]
  exact te L _ (fun x hx=>h x (by simp [hx]))
theorem xD {types:List Str}(ht:∀s∈types,TyNm s){k:Int}{nm:Str}(h:CarOk types k nm):cu k nm=true:=by
 unfold cu
 rcases h with ⟨h0,h4,rfl⟩ | ⟨rfl,hm⟩
 ·rw [if_neg om,if_pos om];rfl
 ·obtain⟨r,hr,rfl⟩:=ht _ hm
  simp only [rolesL,List.mem_cons,List.not_mem_nil,or_false] at hr
  rcases hr with rfl | rfl | rfl | rfl | rfl<;>decide
theorem xm {s:Str}{i:Nat}(h:labelsL[i]? =some s):aG s=true:=by
 have:=List.mem_of_getElem? h
 simp only [labelsL,List.mem_cons,List.not_mem_nil,or_false] at this
 rcases this with rfl | rfl | rfl | rfl<;>decide
theorem zH {types:List Str}{n:Int}{l:List SArm}(ht:∀s∈types,TyNm s)(h:ArmsG types n l):cV l n=true:=by
 have h1:=h.n1
 have h3:=h.n3
 unfold cV cU
 rw [decide_eq_true h1,decide_eq_true (show l.length≤6 by omega),decide_eq_true (lo h).1,Bool.and_true,Bool.and_true,Bool.true_and,List.all_eq_true]
 intro a ha
 obtain⟨i,hi⟩:=List.getElem?_of_mem ha
 obtain⟨f,hf⟩:=h.lb
 have hn:=h.nx a ha
 unfold d8
 rw [xm (hf i a hi),xD ht (h.car a ha),decide_eq_false (show ¬a.next<0 by omega),decide_eq_false (show ¬n≤a.next by omega)];rfl
theorem two_all {types:List Str}{p:SProto}(ht:∀s∈types,TyNm s)(hA:AnyP types p)(hn:aG p.name=true)(hr:p.roles=rolesL.take 2):(gT p).1=0:=by
 obtain⟨l,e,hP,h1,h6⟩:=hA.pts
 have hlen:p.points.length=l.length+1:=by rw [e];simp
 have hpr:cy p=true:=by
  unfold cy gp
  rw [hn,hr,decide_eq_true (show(1:Int)≤p.points.length by omega),decide_eq_true (show(p.points.length:Int)≤24 by omega)]
  have e2:p.points.all (ci (rolesL.take 2) p.points.length)=true:=by
   rw [List.all_eq_true]
   intro x hx
   rw [e] at hx
   rcases List.mem_append.1 hx with hx | hx
   ·have hf:=hP.ft x hx
    have hne:=hP.ne x hx
    have ha:=zH ht (hP.am x hx)
    rw [hr] at hf
    unfold ci dK
    rw [show(p.points.length:Int)=(l.length:Int)+1 by omega,ha]
    rw [show bX (rolesL.take 2) x.frm=true from decide_eq_true hf.1,show bX (rolesL.take 2) x.to=true from decide_eq_true hf.2,decide_eq_false hne]
    simp
   ·rw [List.mem_singleton.1 hx];rfl
  rw [e2];decide
 unfold gT
 rw [if_neg (by rw [hpr];decide)]
 refine te _ _ (fun r hrm=>?_)
 refine TwoP.ok (l:=l) ⟨e,h6,?_,fun x hx=>?_,fun x hx=>(lo (hP.am x hx)).1,fun x hx=>(lo (hP.am x hx)).2,fun x hx=>(hP.am x hx).n3,fun x hx a ha=>?_⟩ hpr hrm
 ·rw [hr] at hrm
  intro e2;subst e2
  exact absurd hrm dq
 ·have hf:=hP.ft x hx
  have hne:=hP.ne x hx
  rw [hr] at hf hrm
  have hc:∀s:Str,s∈rolesL.take 2↔s=[97]∨s=[98]:=fun s=>by simp [rolesL]
  rw [hc] at hrm
  rw [hc,hc] at hf
  unfold dE
  rcases hrm with rfl | rfl<;>rcases hf.1 with h2 | h2<;>rcases hf.2 with h3 | h3<;>first | (exfalso;exact hne (h2.trans h3.symm)) | (rw [h2,h3];decide)
 ·have:=(hP.am x hx).nx a ha
  rw [hlen];omega
end Go.Sx
namespace Go.Sx
open Go
structure GenC (N:Nat)(c:SCast):Prop where
 r:AnyNm c.role
 p:PNm c.proc
 a:c.args.length≤N
structure GenW (w:SWay):Prop where
 l:AnyNm w.label
 n:VarNm w.name
structure GenS (N:Nat)(s:SStep):Prop where
 name:VarNm s.name
 peer:AnyNm s.peer
 label:AnyNm s.label
 proc:PNm s.proc
 an:s.args.length≤N
 cn:s.casts.length≤N
 wn:s.ways.length≤N
 c:∀c∈s.casts,GenC N c
 w:∀w∈s.ways,GenW w
structure GenQ (N:Nat)(q:SProc):Prop where
 nm:PNm q.name
 pv:∀x∈q.params,VarNm x.name∧x.cn.length≤1000
 pl:q.params.length≤2
 s0:0<q.steps.length
 tl:q.terms.length≤10000000
 sl:q.steps.length≤10000000
 t:∀t∈q.terms,VarNm t.name∧AnyNm t.text
 s:∀s∈q.steps,GenS N s
theorem AllT.one {H:Hp}{S:Sig}{c:CT}{cs:List CT}{vs:List Value}(h:AllT H S (c::cs) vs):∃v r,vs=v::r∧CTy H S c v∧AllT H S cs r:=by
 cases vs with
 | nil=>exact h.elim
 | cons v r=>exact⟨v,r,rfl,h.1,h.2⟩
theorem AllT.none {H:Hp}{S:Sig}{vs:List Value}(h:AllT H S [] vs):vs=[]:=by
 cases vs with
 | nil=>rfl
 | cons v r=>exact h.elim
theorem tV {H:Hp}{S:Sig}{cs:List Value}(h:AllT H S (dX 4) cs):∃x:Int,cs=I64.cells x∧True:=by
 obtain⟨v,r,rfl,h1,h2⟩:=h.one
 rw [h2.none]
 obtain⟨i,rfl⟩:=h1
 exact⟨i,rfl,trivial⟩
theorem xq {H:Hp}{S:Sig}{cs:List Value}(h:AllT H S (dX 0) cs):∃t:Term,cs=t.cells∧VarNm t.name∧AnyNm t.text:=by
 obtain⟨v1,_,rfl,⟨k,rfl⟩,g1⟩:=h.one
 obtain⟨v2,_,rfl,⟨n,rfl,hn⟩,g2⟩:=g1.one
 obtain⟨v3,_,rfl,⟨i,rfl⟩,g3⟩:=g2.one
 obtain⟨v4,_,rfl,⟨x,rfl,hx⟩,g4⟩:=g3.one
 obtain⟨v5,_,rfl,⟨l,rfl⟩,g5⟩:=g4.one
 obtain⟨v6,_,rfl,⟨r,rfl⟩,g6⟩:=g5.one
 rw [g6.none]
 exact⟨⟨k,n,i,x,l,r⟩,rfl,hn,hx⟩
theorem zo {H:Hp}{S:Sig}{cs:List Value}(h:AllT H S (dX 1) cs):∃w:SWay,cs=w.cells∧GenW w:=by
 obtain⟨v1,_,rfl,⟨k,rfl,hk⟩,g1⟩:=h.one
 obtain⟨v2,_,rfl,⟨n,rfl,hn⟩,g2⟩:=g1.one
 obtain⟨v3,_,rfl,⟨i,rfl⟩,g3⟩:=g2.one
 rw [g3.none]
 exact⟨⟨k,n,i⟩,rfl,hk,hn⟩
theorem xu {H:Hp}{S:Sig}(hB:BagH H S){cs:List Value}(h:AllT H S (dX 2) cs):∃c:SCast,cs=c.cells∧GenC S.N c∧RdSl H 1 I64.cells (.slice c.ap.1 c.args.length c.ap.2) c.args:=by
 obtain⟨v1,_,rfl,⟨k,rfl,hk⟩,g1⟩:=h.one
 obtain⟨v2,_,rfl,⟨n,rfl,hn⟩,g2⟩:=g1.one
 obtain⟨v3,_,rfl,⟨a,m,c,rfl,hs,hm⟩,g3⟩:=g2.one
 rw [g3.none]
 obtain⟨xs,hl,hr,_⟩:=hs.list (enc:=I64.cells) (p:=fun _=>True) rfl hB (fun cs h=>tV h)
 subst hl
 exact⟨⟨k,n,xs,(a,c)⟩,rfl,⟨hk,hn,hm⟩,hr⟩
theorem xr {H:Hp}{S:Sig}(hB:BagH H S){cs:List Value}(h:AllT H S (dX 3) cs):∃s:SStep,cs=s.cells∧GenS S.N s∧StepOk H s:=by
 obtain⟨v1,_,rfl,⟨k,rfl⟩,g1⟩:=h.one
 obtain⟨v2,_,rfl,⟨nm,rfl,hnm⟩,g2⟩:=g1.one
 obtain⟨v3,_,rfl,⟨pe,rfl,hpe⟩,g3⟩:=g2.one
 obtain⟨v4,_,rfl,⟨la,rfl,hla⟩,g4⟩:=g3.one
 obtain⟨v5,_,rfl,⟨pr,rfl,hpr⟩,g5⟩:=g4.one
 obtain⟨v6,_,rfl,⟨tm,rfl⟩,g6⟩:=g5.one
 obtain⟨v7,_,rfl,⟨aa,an,ac,rfl,has,han⟩,g7⟩:=g6.one
 obtain⟨v8,_,rfl,⟨ca,cn,cc,rfl,hcs,hcn⟩,g8⟩:=g7.one
 obtain⟨v9,_,rfl,⟨wa,wn,wc,rfl,hws,hwn⟩,g9⟩:=g8.one
 obtain⟨v10,_,rfl,⟨nx,rfl⟩,g10⟩:=g9.one
 rw [g10.none]
 obtain⟨A,hl1,hr1,_⟩:=has.list (enc:=I64.cells) (p:=fun _=>True) rfl hB (fun cs h=>tV h)
 obtain⟨C,hl2,hr2,hC⟩:=hcs.list (enc:=SCast.cells) (p:=fun c=>GenC S.N c∧RdSl H 1 I64.cells (.slice c.ap.1 c.args.length c.ap.2) c.args) rfl hB (fun cs h=>xu hB h)
 obtain⟨W,hl3,hr3,hW⟩:=hws.list (enc:=SWay.cells) (p:=GenW) rfl hB (fun cs h=>zo h)
 subst hl1 hl2 hl3
 exact⟨⟨k,nm,pe,la,pr,tm,A,(aa,ac),C,(ca,cc),W,(wa,wc),nx⟩,rfl,⟨hnm,hpe,hla,hpr,han,hcn,hwn,fun c hc=>(hC c hc).1,hW⟩,⟨hr1,hr2,fun c hc=>(hC c hc).2,hr3⟩⟩
theorem AnyNm.cn {s:Str}(h:s.length≤1000):s.length≤4294960000:=by omega
theorem xt {H:Hp}{S:Sig}(hB:BagH H S){q:GProc}(h:GPOk H S q):∃p:SProc,q.cells=p.cells∧p.name=q.name∧p.params=q.params∧GenQ S.N p∧ProcOk H p:=by
 obtain⟨T,hl1,hr1,hT⟩:=h.t.list (enc:=Term.cells) (p:=fun t=>VarNm t.name∧AnyNm t.text) rfl hB (fun cs h=>xq h)
 obtain⟨L,hl2,hr2,hL⟩:=h.s.list (enc:=SStep.cells) (p:=fun s=>GenS S.N s∧StepOk H s) rfl hB (fun cs h=>xr hB h)
 obtain⟨nm,params,pp,ta,tn,tc,sa,sn,sc⟩:=q
 have h1:=h.nm;have h2:=h.pa;have h3:=h.pv;have h4:=h.pl;have h5:=h.s0;have h6:=h.tl;have h7:=h.sl
 dsimp only at *
 subst hl1 hl2
 refine⟨⟨nm,params,pp,T,(ta,tc),L,(sa,sc)⟩,rfl,rfl,rfl,⟨h1,h3,h4,h5,h6,h7,hT,fun s hs=>(hL s hs).1⟩,⟨h2,fun x hx=>AnyNm.cn (h3 x hx).2,by show params.length≤_;omega,hr1,fun t ht=>?_,hr2,fun s hs=>(hL s hs).2⟩⟩
 have:=(hT t ht).1.len
 omega
theorem od {H:Hp}{S:Sig}(hB:BagH H S):∀(qs:List GProc),(∀x∈qs,GPOk H S x)→∃ps:List SProc,qs.map GProc.cells=ps.map SProc.cells∧ps.map (·.name)=qs.map (·.name)∧∀p∈ps,GenQ S.N p∧ProcOk H p
 | [],_=>⟨[],rfl,rfl,by simp⟩
 | q::r,h=>by
  obtain⟨p,h1,h2,_,h3,h4⟩:=xt hB (h q sq)
  obtain⟨ps,h5,h6,h7⟩:=od hB r (fun x hx=>h x (by simp [hx]))
  refine⟨p::ps,by simp [h1,h5],by simp [h2,h6],fun x hx=>?_⟩
  rcases List.mem_cons.1 hx with rfl | hx
  ·exact⟨h3,h4⟩
  ·exact h7 x hx
theorem recell2 {α β:Type}{H:Hp}{k:Nat}{enc:α→List Value}{enc':β→List Value}{v:Value}{l:List α}{l':List β}(h:RdSl H k enc v l)(e:l.map enc=l'.map enc'):RdSl H k enc' v l':=by
 have hl:l'.length=l.length:=by have:=congrArg List.length e;simpa using this.symm
 refine⟨by rw [hl];exact h.len,by rw [hl];exact h.max,fun hne=>?_,fun i x hx j u hu=>?_,fun a n c hv=>by rw [hl];exact h.room a n c hv⟩
 ·rw [hl];exact h.addr (fun e0=>hne (List.length_eq_zero_iff.1 (by rw [hl,e0];rfl)))
 ·have h1:(l.map enc)[i]? =some (enc' x):=by rw [e,List.getElem?_map,hx];rfl
  rw [List.getElem?_map] at h1
  cases hy:l[i]? with
  | none=>rw [hy] at h1;simp at h1
  | some y=>
   rw [hy] at h1
   simp only [Option.map_some,Option.some.injEq] at h1
   exact h.get i y hy j u (by rw [h1];exact hu)
structure GenP (P:SProg):Prop where
 l:P.locals=[]
 n1:1≤P.procs.length
 n11:P.procs.length≤11
 q:∀q∈P.procs,GenQ 10000000 q
theorem GenS.up {N M:Nat}{s:SStep}(h:GenS N s)(hm:N≤M):GenS M s:=
 ⟨h.name,h.peer,h.label,h.proc,Nat.le_trans h.an hm,Nat.le_trans h.cn hm,Nat.le_trans h.wn hm,fun c hc=>⟨(h.c c hc).r,(h.c c hc).p,Nat.le_trans (h.c c hc).a hm⟩,h.w⟩
theorem GenQ.up {N M:Nat}{q:SProc}(h:GenQ N q)(hm:N≤M):GenQ M q:=⟨h.nm,h.pv,h.pl,h.s0,h.tl,h.sl,h.t,fun s hs=>(h.s s hs).up hm⟩
theorem tU {H:Hp}{S:Sig}{qs:List GProc}{pv psv:Value}{ps:List SProto}(hB:BagH H S)(hq:RdSl H 4 GProc.cells pv qs)(hg:∀x∈qs,GPOk H S x)(hps:RdSl H 3 SProto.cells psv ps)(hpo:∀p∈ps,ProtoOk H p)(hN:S.N≤10000000)(h1:1≤qs.length)(h11:qs.length≤11):
  ∃P:SProg,.agg #[psv,.slice none 0 0,pv]=Value.agg P.cells.toArray∧ProgOk H P∧GenP P∧P.protos=ps∧P.procs.map (·.name)=qs.map (·.name):=by
 obtain⟨procs,h2,h3,h4⟩:=od hB qs hg
 have hr:=recell2 (enc':=SProc.cells) hq h2
 have hl:procs.length=qs.length:=by have:=congrArg List.length h2;simpa using this.symm
 obtain⟨pa,pc,rfl⟩:=hr.len
 obtain⟨sa,sc,rfl⟩:=hps.len
 exact⟨⟨ps,(sa,sc),[],(none,0),procs,(pa,pc)⟩,rfl,⟨hps,hpo,RdSl.nil,by simp,hr,fun q hq=>(h4 q hq).2⟩,⟨rfl,by dsimp only;omega,by dsimp only;omega,fun q hq=>(h4 q hq).1.up hN⟩,rfl,h3⟩
section
variable {P:Program}{n:Nat}{ops:Array Oper}{Q:Exit→Act→World→Prop}{E:Env}{M:List Nat}{w0:World}{H0 H:Hp}{L:aj}{C:World→Prop}
theorem TL.pubB {S:Sig}{B:aj}{F:aj→aj}{l:List Oper}(hB:Bag H S B)(hU:Tl B L F)(hM:∀p∈B,p.1∉M)(h:∀H',H.le H'→BagH H' S→TL P n ops Q l E (St M w0 H0 H' (F []))):TL P n ops Q l E (St M w0 H0 H L):=by
 intro a w he hw
 obtain⟨H',h1,h2,h3⟩:=St.pubB hB hU hM hw
 exact h H' h1 h2 a w he h3
end
end Go.Sx
namespace Go.Sx
open Go
def PsAll (ps:List SProto):Prop:=∀p∈ps,(gT p).1=0
def sPa:Str:=[112,97]
def HeadPa (c:Int)(qs:List GProc):Prop:=0<c→(qs.map (·.name))[0]? =some sPa
theorem HeadPa.zero {qs:List GProc}:HeadPa 0 qs:=fun h=>absurd h dq
theorem HeadPa.snoc {c c':Int}{qs:List GProc}{x:GProc}(h:HeadPa c qs)(hc:0≤c)(h0:c=0→qs=[]∧x.name=sPa):HeadPa c' (qs++[x]):=fun _=>by
 by_cases e:c=0
 ·obtain⟨rfl,hx⟩:=h0 e
  show some x.name=_
  rw [hx]
 ·have:=h om
  rw [List.map_append,List.getElem?_append_left (List.getElem?_eq_some_iff.1 this).1]
  exact this
theorem HeadPa.up {c c':Int}{qs:List GProc}(h:HeadPa c qs)(hc:0<c):HeadPa c' qs:=fun _=>h hc
theorem zq {H:Hp}{ps:List SProto}(hP:PsOk H ps){p:SProto}(hp:ps[(0:Int).toNat]? =some p){rr:Str}(hr:p.roles[(0:Int).toNat]? =some rr):p.name++rr=sPa:=by
 obtain⟨p0,h0,hps⟩:=hP
 have e:ps[(0:Int).toNat]? =some p0:=by rcases hps with rfl | ⟨q,_,rfl⟩<;>rfl
 rw [e] at hp
 obtain rfl:=Option.some.inj hp
 obtain⟨n,h2,h5,hro⟩:=h0.rs
 rw [hro] at hr
 have hr2:(rolesL.take n)[0]? =some ([97]:Str):=by
  rw [List.getElem?_take,if_pos om];rfl
 rw [show((0:Int)).toNat=0 from rfl,hr2] at hr
 rw [← Option.some.inj hr,h0.nm];rfl
theorem LsG.all {H:Hp}{p:SProto}{lv:Value}(hG:GPr p)(hz:(gT p).1=0)(h1:(gT p).1=0→∃ls,RdSl H 2 SLocal.cells lv ls∧LsOk H p p.roles.length ls):∃ls,LsG H p lv ls∧ls.length=p.roles.length:=by
 obtain⟨ls,hr,hk⟩:=h1 hz
 have hl:ls.length=p.roles.length:=by have:=hk.len;omega
 refine⟨ls,⟨hr,by omega,fun l hl=>?_,fun k T k0 hT=>hk.tg hz k0 hT⟩,hl⟩
 obtain⟨i,hi⟩:=List.getElem?_of_mem hl
 obtain⟨r,hr,hn,hok,_⟩:=hk.at_ i l hi
 refine⟨hok,?_⟩
 have e1:=hG.rs r (List.mem_of_getElem? hr)
 have e2:=hG.n1
 rw [hn];simp only [List.length_append,List.length_cons,List.length_nil];omega
theorem PsOk.roles2 {H:Hp}{ps:List SProto}(hP:PsOk H ps){p:SProto}(hp:p∈ps):2≤p.roles.length:=by
 have key:∀{nm:Str} {p:SProto},GP H nm p→2≤p.roles.length:=fun {nm p} h=>by
  obtain⟨n,h2,h5,hr⟩:=h.rs
  rw [hr,List.length_take]
  show 2≤min n 5
  omega
 obtain⟨p0,h0,hps⟩:=hP
 rcases hps with rfl | ⟨q,hq,rfl⟩
 ·rw [List.mem_singleton.1 hp];exact key h0
 ·simp only [List.mem_cons,List.not_mem_nil,or_false] at hp
  rcases hp with rfl | rfl
  ·exact key h0
  ·exact key hq
end Go.Sx
namespace Go.Sx
open Go Go.Proofs
theorem nW {H:Hp}{bd:Nat}{dl:Value}{at_:Int}(hd:DiceOk H dl at_){tv:Value}{types:List Str}(hty:RdSl H 1 Str.cells tv types)(htn:∀s∈types,TyNm s)(htl:types.length≤100)(name:Str)(hnl:name.length≤1000)(hnm:aG name=true):
  DFn Tryz.prog bd dl at_ 64 [gs name,tv] H (fun v H1 ob=>ob=[]∧(H.le H1∧∃p:SProto,v= .agg p.cells.toArray∧ProtoOk H1 p∧p.name=name∧∃n,2≤n∧n≤5∧p.roles=rolesL.take n∧(gT p).1=0)):=by
 refine FnX.enter Tryz.func64 Tryz.ntmps64 rfl rfl (fun w0=>?_)
 refine zm2 ?_
 refine TL.alloc rfl (fun b6=>?_)
 refine TL.nil (ae (fo ?_))
 refine az (X:=[(b6,_)]) (bd:=bd) rfl (ab rfl rfl rfl rfl) (qU hd hty htn htl name) rfl (fun v14 H14 at14 hle14 hd14 hp14=>?_)
 obtain⟨hle14_,p,rfl,hP,hNm,n,hn2,hn5,hRo⟩:=hp14
 replace hty:=hty.le hle14
 have hrl:∀r∈p.roles,r.length≤1000:=by
  intro r hr;rw [hRo] at hr;have:=nG hr;omega
 refine TL.alloc rfl (fun b7=>?_)
 refine fl ?_;refine eS ?_
 refine TL.call (ab rfl rfl rfl rfl) (pY p hP (by rw [hNm];exact hnl) hrl) rfl (fun v17 H17 hle17 hp17=>?_)
 obtain⟨lv17,rfl,hok17,hno17⟩:=hp17
 replace hty:=hty.le hle17
 replace hd14:=hd14.le hle17
 refine m3 ?_;refine zm4 ?_;refine lT ?_
 refine ag rfl ?_ ?_<;>intro c22
 ·
  refine eS ?_;refine mj ?_
  exact aC (aO (.inr rfl) (ad rfl (RVal.cellA rfl (.h1) rfl)) (fun w hw=>hw.drop.drop) ⟨_,[],rfl,hd14,rfl,hle14_.trans hle17,p,rfl,hP.le hle17,hNm,n,hn2,hn5,hRo,by simpa using c22⟩)
 refine cW ?_;refine fo ?_
 refine az (X:=[(b7,_),(b6,_)]) (bd:=bd) rfl (ab rfl rfl rfl rfl) (qV hd14 hty htn htl name 2 om om) rfl (fun v27 H27 at27 hle27 hd27 hp27=>?_)
 obtain⟨hle27_,p2,rfl,hP2,hNm2,hRo2,hA2⟩:=hp27
 refine mj ?_
 exact aO (.inr rfl) (ad rfl (RVal.cellA rfl (.h1) rfl)) (fun w hw=>hw.drop.drop) ⟨_,[],rfl,hd27,rfl,(hle14_.trans hle17).trans hle27_,p2,rfl,hP2,hNm2,_,by decide,by decide,hRo2,two_all htn hA2 (by rw [hNm2];exact hnm) hRo2⟩
theorem nY {H:Hp}{bd:Nat}{dl:Value}{at_:Int}(hd:DiceOk H dl at_):
  DFn Tryz.prog bd dl at_ 29 [] H (fun v H1 ob=>ob=[]∧(H.le H1∧∃ps,RdSl H1 3 SProto.cells v ps∧PsOk H1 ps∧PsAll ps)):=by
 refine FnX.enter Tryz.func29 Tryz.ntmps29 rfl rfl (fun w0=>?_)
 refine j8 ?_
 refine az (X:=[]) (bd:=bd) rfl (ab rfl rfl rfl rfl) (nW hd RdSl.nil sq sq [112] dq dq) rfl (fun v6 H6 at6 hle6 hd6 hp6=>?_)
 obtain⟨hle6_,p,rfl,hP_,hNmp,np,hn2p,hn5p,hRop,hzp⟩:=hp6
 have hP:GP _ [112] p:=⟨hP_,hNmp,np,hn2p,hn5p,hRop⟩
 refine TL.alloc rfl (fun b3=>?_)
 refine r7 ?_
 have hrlp:p.roles.length≤5:=by rw [hRop,List.length_take];show min np 5≤5;omega
 refine ae (eS ?_)
 refine ax rfl rfl rfl rfl (fun b8=>?_)
 refine rL ?_
 refine az (X:=[(b8,_),(b3,_)]) (bd:=bd) rfl (ab rfl rfl rfl rfl) (aV 2 om hd6) rfl (fun v10 H10 at10 hle10 hd10 hp10=>?_)
 obtain⟨eH10,r10,rfl,hr10⟩:=hp10
 replace eH10:=eH10.symm;subst eH10
 have hra10:=hr10.1
 have hrb10:=hr10.2.1 om
 refine zm1 ?_
 refine ag rfl ?_ ?_<;>intro c11
 ·
  refine jf ?_;refine kS ?_
  refine TL.call (ab rfl rfl rfl rfl) (oP p hP.ok (by rw [hP.nm];decide) (by have:=hrlp;omega) (fun r hr=>by have:=nG (hRop▸hr);omega)) rfl (fun v15 H15 hle15 hp15=>?_)
  replace hd10:=hd10.le hle15
  rw [hP.nm] at hp15
  refine az (X:=[(b8,_),(b3,_)]) (bd:=bd) rfl (ab rfl rfl rfl rfl) (nW hd10 hp15 (tyNm_of hRop) (by have:=hrlp;simp only [List.length_map];omega) [113] dq dq) rfl (fun v16 H16 at16 hle16 hd16 hp16=>?_)
  obtain⟨hle16_,q,rfl,hQ_,hNmq,nq,hn2q,hn5q,hRoq,hzq⟩:=hp16
  have hQ:GP _ [113] q:=⟨hQ_,hNmq,nq,hn2q,hn5q,hRoq⟩
  refine ax rfl rfl rfl rfl (fun b17=>?_)
  refine TL.append (enc:=SProto.cells) rfl rfl rfl (OwnSl.blk (enc:=SProto.cells) [⟨_,_,_,_,_⟩] rfl rfl dq) (Src.own [q] (.here _) rfl rfl) sq rfl (.take (.h1) rfl) rfl (fun a18 c18 ob18 hO18=>?_)
  refine zm1 ?_;refine mQ ?_
  refine dh (X:=[(b17,_),(b3,_),(bd,_)]) hO18 rfl (by simp [keys]) (fun H2 hle2 hR=>?_)
  exact aO (.inr rfl) (ad rfl (RVal.tmp rfl)) (fun w hw=>hw.drop.drop) ⟨_,[],rfl,hd16.le hle2,rfl,⟨(((hle6_.trans hle15).trans hle16_)).trans hle2,_,hR,⟨p,hP.le (hle15.trans (hle16_.trans hle2)),.inr ⟨q,hQ.le hle2,rfl⟩⟩,(show PsAll [p,q] from by intro x hx;rcases List.mem_cons.1 hx with rfl | hx;exact hzp;rw [List.mem_singleton.1 hx];exact hzq)⟩⟩
 refine cW ?_;refine mQ ?_
 refine bY (by simp [keys]) (fun H_b8 le_b8 rd_b8=>?_)
 replace hd10:=hd10.le le_b8
 have hR:RdSl H_b8 3 SProto.cells _ ([p]):=RdSl.blk (cap:=1) rd_b8 (by intro x hx;rfl) kr (by show 1≤9223372036854775807;decide)
 exact aO (.inr rfl) (ad rfl (RVal.tmp rfl)) (fun w hw=>hw.drop) ⟨_,[],rfl,hd10,rfl,⟨hle6_.trans le_b8,_,hR,⟨p,hP.le le_b8,.inl rfl⟩,(by intro x hx;rw [List.mem_singleton.1 hx];exact hzp)⟩⟩
end Go.Sx
namespace Go.Sx
open Go Go.Proofs
theorem d5 {F:Fx}{V:WV}(s:TStep)(hs:s.Ok V.S):
  WFn Tryz.prog F V 75 [.agg s.cells.toArray] 1 (fun v V1=>v= .int .i64 (V.sn:Int)∧V1.sn=V.sn+1):=by
 refine WFn.enter Tryz.func75 Tryz.ntmps75 rfl rfl (fun m w0 hW hm=>?_)
 refine zm2 ?_
 refine TL.box rfl rfl (fun b3=>?_)
 refine ju ?_;refine eE ?_
 refine au (F:=F) (V:=V) (m:=m) [(b3,_)] rfl rfl (ab rfl rfl rfl rfl) (eG s hs) hW om rfl (fun v8 V8 hle8 hW8 hS8 hs8 ht8 hp8=>?_)
 obtain⟨rfl,hn8⟩:=hp8
 obtain⟨b,j,q,ha,hb,hj⟩:=hW8.s.at om
 refine sh ?_;refine aI [true,true,true] [(0,1),(1,1),(2,1),(3,1),(4,4),(5,1),(6,1),(7,1),(8,1),(9,1),(10,4),(11,1),(12,1),(13,1),(14,5)] kr kr (gj ?_)
 refine pE ?_;refine j6 ?_;refine pE ?_;refine ar (dp rfl rfl) rfl (ar (cP (tb:=3) rfl rfl ha om om) rfl (zm3 ?_))
 refine ak rfl (iK (t:=3) (f:=9) (ct:=.int) rfl rfl hW8.bag (.s2 (.skip _ .all)) hb rfl hj om rfl (⟨_,rfl⟩) rfl rfl (fun Bst1 hBst1=>?_))
 refine al (S1 (S1 (S1 SN))) (Hp.le.refl _) (TF.nil (ae (mQ ?_)))
 exact ba (V':={V8 with B:=Bst1}) (X:=[(b3,_)]) (.inr rfl) (ad rfl (RVal.tmp rfl)) rfl rfl ((hW8.bagB hBst1).more om) hS8 (by(try dsimp only);omega) (by(try dsimp only);omega) ⟨rfl,hn8⟩
theorem kU {F:Fx}{V:WV}(o:Bool):
  WFn Tryz.prog F V 127 [.bool o] 2 (fun v V1=>v= .int .i64 (V.sn:Int)∧V.sn<V1.sn):=by
 refine WFn.enter Tryz.func127 Tryz.ntmps127 rfl rfl (fun m w0 hW hm=>?_)
 refine j8 ?_;refine mm ?_;refine fw ?_;refine TL.run (dp rfl rfl) rfl (lT ?_)
 refine TC.cond rfl ?_ ?_<;>intro c14
 ·
  refine zm2 ?_;refine aq (ab rfl rfl rfl rfl) (cC 9) rfl (TL.alloc rfl (fun b6=>?_))
  refine fl ?_;refine fm ?_;refine mg ?_;refine TL.nil (ae (rF ?_))
  refine au (F:=F) (V:=V) (m:=m) [(b6,_)] rfl rfl (ab rfl rfl rfl rfl) (d5 ⟨9,[99],[],[],[], -1,none,0,0,none,0,0,none,0,0, -1⟩ ⟨.inr (.inl rfl),.nil,.nil,.nil,.nil,.nil,.nil,Nat.zero_le _,Nat.zero_le _,Nat.zero_le _⟩) hW om rfl (fun v19 V19 hle19 hW19 hS19 hs19 ht19 hp19=>?_)
  obtain⟨rfl,hn19⟩:=hp19
  refine fY ?_
  refine aq (ab rfl rfl rfl rfl) (cC 0) rfl (au (F:=F) (V:=V19) (m:=m+1) [(b6,_)] rfl rfl (ab rfl rfl rfl rfl) (eG ⟨0,[],[],[],[], -1,none,0,0,none,0,0,none,0,0, -1⟩ ⟨.nil,.nil,.nil,.nil,.nil,.nil,.nil,Nat.zero_le _,Nat.zero_le _,Nat.zero_le _⟩) hW19 om rfl (fun v22 V22 hle22 hW22 hS22 hs22 ht22 hp22=>?_))
  obtain⟨rfl,hn22⟩:=hp22
  refine rE ?_
  exact ba (V':=V22) (X:=[(b6,_)]) (.inr rfl) (ad rfl (RVal.tmp rfl)) rfl rfl (hW22.more om) (hS19.trans (hS22)) (by(try dsimp only);omega) (by(try dsimp only);omega) ⟨rfl,by omega⟩
 refine j7 ?_
 refine aq (ab rfl rfl rfl rfl) (cC 0) rfl (au (F:=F) (V:=V) (m:=m) [] rfl rfl (ab rfl rfl rfl rfl) (eG ⟨0,[],[],[],[], -1,none,0,0,none,0,0,none,0,0, -1⟩ ⟨.nil,.nil,.nil,.nil,.nil,.nil,.nil,Nat.zero_le _,Nat.zero_le _,Nat.zero_le _⟩) hW om rfl (fun v22 V22 hle22 hW22 hS22 hs22 ht22 hp22=>?_))
 obtain⟨rfl,hn22⟩:=hp22
 refine rE ?_
 exact ba (V':=V22) (X:=[]) (.inr rfl) (ad rfl (RVal.tmp rfl)) rfl rfl (hW22.more om) hS22 (by(try dsimp only);omega) (by(try dsimp only);omega) ⟨rfl,by omega⟩
theorem nr {F:Fx}{V:WV}(s:Str):
  WFn Tryz.prog F V 179 [gs s] 0 (fun v V1=>∃p r,v= .tuple #[.agg p.cells.toArray,gs r]∧p∈F.ps∧r∈p.roles):=by
 refine WFn.enter Tryz.func179 Tryz.ntmps179 rfl rfl (fun m w0 hW hm=>?_)
 have hfx:=hW.fx
 have hps:=hfx.ps
 have hmx:=hps.max
 have hpn:=hfx.pn
 obtain⟨p0,hp0⟩:=ao (l:=F.ps) (i:=0) om om
 have hG0:=(hfx.pg p0 (List.mem_of_getElem? hp0)).r2
 have hro0:=(hfx.pk p0 (List.mem_of_getElem? hp0)).r
 obtain⟨r0,hr0⟩:=ao (l:=p0.roles) (i:=0) om om
 refine zm2 ?_
 refine TL.alloc rfl (fun b4=>?_)
 refine eX ?_;refine hZ ?_
 refine TC.loop (V:=fun k=>[(6,.int .i64 k)]) (K:=[(0,_),(1,_),(4,_),(5,_)]) (L:=fun k=>_) (I:=fun k=>0≤k∧k≤F.ps.length) (μ:=fun k=>(F.ps.length - k).toNat) (i:=(0:Int)) ky o2q (fun w hw=>hw) (fun k hI=>?_)
 obtain⟨k0,k1⟩:=hI
 refine eZ ?_;refine rD ?_;refine TL.run (ai rfl rfl hps) rfl (zm1 ?_)
 refine ag rfl ?_ ?_<;>intro c14
 ·
  obtain⟨p,hp⟩:=ao (l:=F.ps) k0 c14
  have hro:=(hfx.pk p (List.mem_of_getElem? hp)).r
  have hrm:=hro.max
  refine fu ?_;refine hZ ?_
  refine TC.loop (V:=fun q=>[(7,.int .i64 q)]) (K:=[(0,_),(1,_),(4,_),(5,_),(6,_),(8,_),(9,_),(10,_),(11,_),(12,_),(13,_),(14,_)]) (L:=fun q=>_) (I:=fun q=>0≤q∧q≤p.roles.length) (μ:=fun q=>(p.roles.length - q).toNat) (i:=(0:Int)) ky o2q (fun w hw=>hw) (fun q hI=>?_)
  obtain⟨q0,q1⟩:=hI
  refine eZ ?_;refine rD ?_;refine zm0 ?_;refine TL.run (af rfl hps rfl om om) rfl (zm8 ?_);refine TL.run (bL hps hp rfl rfl) rfl (TL.run (ai rfl rfl hro) rfl (zm1 ?_))
  refine ag rfl ?_ ?_<;>intro c27
  ·
   obtain⟨rr,hr⟩:=ao (l:=p.roles) q0 c27
   have hG:=hfx.pg p (List.mem_of_getElem? hp)
   have hnm:p.name.length=1:=by rcases hG.nm with h | h<;>rw [h]<;>rfl
   have hr1:=hG.rs rr (List.mem_of_getElem? hr)
   refine lM ?_;refine pb ?_;refine TQ.run (ay rfl (.h1) rfl) rfl (TQ.run (aD rfl) rfl (TQ.run (af rfl hps rfl om om) rfl (TQ.run (aX rfl) rfl ?_)))
   refine TQ.run (bL hps hp rfl rfl) rfl (TQ.run (dA rfl rfl (by simp only [List.length_append,List.length_cons,List.length_nil];omega)) rfl (pb ?_))
   refine TQ.run (ay rfl (.h1) rfl) rfl (TQ.run (aD rfl) rfl (TQ.run (af rfl hps rfl om om) rfl (TQ.run (aX rfl) rfl ?_)))
   refine TQ.run (bL hps hp rfl rfl) rfl (TQ.run (aD rfl) rfl (TQ.run (af rfl hro rfl om om) rfl (TQ.run (aJ hro hr rfl rfl) rfl ?_)))
   refine TQ.run (dA rfl rfl (by simp only [List.length_append,List.length_cons,List.length_nil];omega)) rfl (TQ.run (aD rfl) rfl (TQ.run (cd rfl rfl rfl) rfl (TQ.nil ?_)))
   refine ae (ag rfl (fun c52=>?_) (fun c52=>?_))
   ·
    refine ig ?_;refine zm351 ?_;refine gj ?_;refine vG ?_;refine zm6 ?_
    refine ar (af rfl hps rfl om om) rfl (aF (S0 (S1 (S1 SN))) (Hp.le.refl _) (fun _ _=>bg hps hp rfl rfl) rfl (gj ?_));refine vG ?_;refine zm6 ?_
    refine ar (af rfl hps rfl om om) rfl (zm3 ?_);refine aF (S0 (S1 (S1 SN))) (Hp.le.refl _) (fun _ _=>bL hps hp rfl rfl) rfl (zm6 ?_);refine rU ?_
    refine aF (S0 (S1 (S1 SN))) (Hp.le.refl _) (fun _ _=>aJ hro hr rfl rfl) rfl (rC ?_);refine na ?_;refine rA ?_
    exact ba (V':=V) (X:=[(b4,_)]) (.inr rfl) (bO rfl (RVal.cellA rfl (.here _) rfl) (RVal.tmp rfl)) rfl rfl (hW.more om) (.refl _) (by(try dsimp only);omega) (by(try dsimp only);omega) ⟨p,rr,rfl,List.mem_of_getElem? hp,List.mem_of_getElem? hr⟩
   refine gb ?_
   exact aM (q+1) o2q ky (fun w hw=>hw) om
  refine rR ?_
  exact aM (k+1) o2q ky (fun w hw=>hw) om
 refine fX ?_;refine ig ?_
 refine aI [false,true,true] [(0,1),(1,1),(2,1),(3,4),(4,1),(5,4),(6,1),(7,1),(8,1),(9,4),(10,1),(11,1),(12,4),(13,1),(14,4),(15,5),(16,1)] kr kr (gj ?_)
 refine vG ?_;refine ar (af rfl hps rfl om om) rfl (aF (S0 (S1 (S1 SN))) (Hp.le.refl _) (fun _ _=>bg hps hp0 rfl rfl) rfl (gj ?_));refine vG ?_
 refine ar (af rfl hps rfl om om) rfl (zm3 ?_)
 refine aF (S0 (S1 (S1 SN))) (Hp.le.refl _) (fun _ _=>bL hps hp0 rfl rfl) rfl (ar (af rfl hro0 rfl om om) rfl (aF (S0 (S1 (S1 SN))) (Hp.le.refl _) (fun _ _=>aJ hro0 hr0 rfl rfl) rfl (rC ?_)))
 refine na ?_
 exact ba (V':=V) (X:=[(b4,_)]) (.inr rfl) (bO rfl (RVal.cellA rfl (.here _) rfl) (RVal.tmp rfl)) rfl rfl (hW.more om) (.refl _) (by(try dsimp only);omega) (by(try dsimp only);omega) ⟨p0,r0,rfl,List.mem_of_getElem? hp0,List.mem_of_getElem? hr0⟩
end Go.Sx
