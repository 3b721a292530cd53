import Derived.Test.YtjnlogbbcceaoaaGreatE14
set_option linter.all false
set_option maxRecDepth 100000
set_option maxHeartbeats 32000000
namespace Go.Sx
open Go Go.Proofs
theorem gz {H:Hp}(p:SProto)(hP:ProtoOk H p):
  FnS Tryz.prog 49 [.agg p.cells.toArray] H (.bool (dw p)):=by
 have hr:=hP.r
 have hpt:=hP.pt
 have hrm:=hr.max
 have hpm:=hpt.max
 refine FnS.enter Tryz.func49 Tryz.ntmps49 rfl rfl (fun w0=>?_)
 refine zm2 ?_
 refine TL.box rfl rfl (fun b1=>?_)
 refine iM ?_
 refine a7 (!jX p) 39 [(1,_),(2,_)] ⟨rfl,rfl,trivial⟩ ?_ ?_
 ·
  refine mX ?_;refine ar (ab rfl rfl rfl rfl) (cR p.name) rfl (zm3 ?_)
  refine ag (s:=10) rfl ?_ ?_<;>intro g10
  ·
   refine xe ?_;refine k7 ?_;refine cu ?_
   exact aB rfl (by unfold jX;by_cases h24:(24:Int)<p.points.length<;>by_cases h24b:(p.points.length:Int)≤24<;>first | (exfalso;omega) | (simp_all;done) | (simp_all;omega)) ⟨rfl,rfl,trivial⟩
  refine zm8 ?_;refine aw rfl rfl (ah rfl rfl hr) rfl (cM ?_)
  refine ag (s:=16) rfl ?_ ?_<;>intro g16
  ·
   have q16:=of_decide_eq_true g16
   refine xe ?_;refine cu ?_
   exact aB rfl (by unfold jX;by_cases h24:(24:Int)<p.points.length<;>by_cases h24b:(p.points.length:Int)≤24<;>first | (exfalso;omega) | (simp_all;done) | (simp_all;omega)) ⟨rfl,rfl,trivial⟩
  have q16:=of_decide_eq_false g16
  refine zm8 ?_;refine aw rfl rfl (ah rfl rfl hr) rfl (cM ?_)
  refine ag (s:=22) rfl ?_ ?_<;>intro g22
  ·
   have q22:=of_decide_eq_true g22
   refine wt ?_;refine cu ?_
   exact aB rfl (by unfold jX;by_cases h24:(24:Int)<p.points.length<;>by_cases h24b:(p.points.length:Int)≤24<;>first | (exfalso;omega) | (simp_all;done) | (simp_all;omega)) ⟨rfl,rfl,trivial⟩
  have q22:=of_decide_eq_false g22
  refine zm8 ?_;refine aH rfl rfl (ab rfl rfl rfl rfl) (xR hr) rfl (cM ?_)
  refine ag (s:=28) rfl ?_ ?_<;>intro g28
  ·
   refine tJ ?_
   exact aB rfl (by unfold jX;by_cases h24:(24:Int)<p.points.length<;>by_cases h24b:(p.points.length:Int)≤24<;>first | (exfalso;omega) | (simp_all;done) | (simp_all;omega)) ⟨rfl,rfl,trivial⟩
  refine zm8 ?_;refine aw rfl rfl (ah rfl rfl hpt) rfl (cM ?_)
  refine ag (s:=34) rfl ?_ ?_<;>intro g34
  ·
   have q34:=of_decide_eq_true g34
   refine kR ?_
   exact aB rfl (by unfold jX;by_cases h24:(24:Int)<p.points.length<;>by_cases h24b:(p.points.length:Int)≤24<;>first | (exfalso;omega) | (simp_all;done) | (simp_all;omega)) ⟨rfl,rfl,trivial⟩
  have q34:=of_decide_eq_false g34
  refine zm8 ?_;refine aw rfl rfl (ah rfl rfl hpt) rfl (ef ?_)
  exact aB rfl (by unfold jX;by_cases h24:(24:Int)<p.points.length<;>by_cases h24b:(p.points.length:Int)≤24<;>first | (exfalso;omega) | (simp_all;done) | (simp_all;omega)) ⟨rfl,rfl,trivial⟩
 refine TC.cond rfl ?_ ?_<;>intro c39
 ·
  refine gq ?_
  exact ao (.inr rfl) (ad rfl (RVal.tmp rfl)) (congrArg Value.bool (by first | exact o5 c39 | exact o4 hr1 | exact o3 hp1 | exact oZ hh hr1 hp1))
 have hh:jX p=true:=by simpa using c39
 refine jn ?_
 refine TC.loop (V:=fun k=>[(3,.int .i64 k)]) (K:=[(1,_),(2,_)]) (L:=fun k=>_) (I:=fun k=>(0≤k∧k≤p.roles.length)∧p.roles.all aN=(p.roles.drop k.toNat).all aN) (μ:=fun k=>(p.roles.length - k).toNat) (i:=(0:Int)) ky ⟨o2q,rfl⟩ (fun w hw=>hw) (fun k hI=>?_)
 obtain⟨⟨k0,k1⟩,hal⟩:=hI
 refine jO ?_;refine TL.run (ah rfl rfl hr) rfl (zm1 ?_)
 refine af rfl ?_ ?_<;>intro c44
 ·
  obtain⟨y,hy⟩:=aj (l:=p.roles) k0 c44
  refine oA ?_;refine TL.run (ae rfl hr rfl om om) rfl (TL.run (aL hr hy rfl rfl) rfl (ar (ab rfl rfl rfl rfl) (cR y) rfl (zm1 ?_)))
  refine TC.cond rfl ?_ ?_<;>intro c53
  ·
   have hr1:=ce (p:=aN) k0 hy (by simpa using c53) hal
   refine kX ?_
   exact ao (.inr rfl) (ad rfl (RVal.tmp rfl)) (congrArg Value.bool (by first | exact o5 c39 | exact o4 hr1 | exact o3 hp1 | exact oZ hh hr1 hp1))
  refine d6 ?_
  exact aD (k+1) ⟨o2q,bC (p:=aN) k0 hy (by simpa using c53) hal⟩ ky (fun w hw=>hw) om
 have hr1:=bU (p:=aN) k0 c44 hal
 refine tf ?_
 refine TC.loop (V:=fun k=>[(4,.int .i64 k)]) (K:=[(1,_),(2,_)]) (L:=fun k=>_) (I:=fun k=>(0≤k∧k≤p.points.length)∧p.points.all (cO p.roles p.points.length)=(p.points.drop k.toNat).all (cO p.roles p.points.length)) (μ:=fun k=>(p.points.length - k).toNat) (i:=(0:Int)) ky ⟨o2q,rfl⟩ (fun w hw=>hw) (fun k hI=>?_)
 obtain⟨⟨k0,k1⟩,hal⟩:=hI
 refine jO ?_;refine TL.run (ah rfl rfl hpt) rfl (zm1 ?_)
 refine af rfl ?_ ?_<;>intro c58
 ·
  obtain⟨x,hx⟩:=aj (l:=p.points) k0 c58
  have hxa:=(hP.ps x (List.mem_of_getElem? hx)).a
  have hxz:=(hP.ps x (List.mem_of_getElem? hx)).z
  have hxm:=hxa.max
  refine oA ?_;refine TL.run (ae rfl hpt rfl om om) rfl (TL.run (aY hpt hx rfl rfl) rfl (TL.alloc rfl (fun b5=>?_)))
  refine m4 ?_
  refine a7 (ez x) 79 [(1,_),(2,_),(4,_),(5,_),(54,_),(55,_),(56,_),(57,_),(58,_),(61,_),(62,_),(63,_),(64,_),(65,_)] ky ?_ ?_
  ·
   refine ru ?_
   refine ag (s:=69) rfl ?_ ?_<;>intro g69
   ·
    have q69:=of_decide_eq_true g69
    refine kN ?_
    refine ag (s:=74) rfl ?_ ?_<;>intro g74
    ·
     have q74:=of_decide_eq_true g74
     refine zm8 ?_;refine aw rfl rfl (ah rfl rfl hxa) rfl (ef ?_)
     exact aB rfl (by unfold ez;simp_all) ky
    have q74:=of_decide_eq_false g74
    refine kR ?_
    exact aB rfl (by unfold ez;simp_all) ky
   have q69:=of_decide_eq_false g69
   refine AB ?_
   exact aB rfl (by unfold ez;simp_all) ky
  refine TC.cond rfl ?_ ?_<;>intro c79
  ·
   refine TC.exit (cI (dZ (ai ?_)));refine z2 ?_
   exact aD (k+1) ⟨o2q,bC (p:=(cO p.roles p.points.length)) k0 hx (by first | exact rpt_1 c79 | exact rpt_2 c109) hal⟩ ky (fun w hw=>hw.drop) om
  refine dn ?_
  refine a7 (!C4 p.roles p.points.length x) 109 [(1,_),(2,_),(4,_),(5,_),(54,_),(55,_),(56,_),(57,_),(58,_),(61,_),(62,_),(63,_),(64,_),(65,_),(79,_)] ky ?_ ?_
  ·
   refine mX ?_;refine fj ?_;refine ot ?_
   refine ag (s:=85) rfl ?_ ?_<;>intro g85
   ·
    have q85:=of_decide_eq_true g85
    refine AF ?_;refine iC ?_
    exact aB rfl (by unfold C4 eT;simp_all) ky
   have q85:=of_decide_eq_false g85
   refine ri ?_;refine aH rfl rfl (ab rfl rfl rfl rfl) (i6 x.frm hr) rfl (cM ?_)
   refine ag (s:=93) rfl ?_ ?_<;>intro g93
   ·
    refine wu ?_;refine iC ?_
    exact aB rfl (by unfold C4 eT;simp_all) ky
   refine ri ?_;refine aH rfl rfl (ab rfl rfl rfl rfl) (i6 x.to hr) rfl (cM ?_)
   refine ag (s:=101) rfl ?_ ?_<;>intro g101
   ·
    refine sZ ?_
    exact aB rfl (by unfold C4 eT;simp_all) ky
   refine zm8 ?_;refine fl ?_;refine aw rfl rfl (ah rfl rfl hpt) rfl (aH rfl rfl (ab rfl rfl rfl rfl) (nA p.points.length hxa hxz) rfl (ef ?_))
   exact aB rfl (by unfold C4 eT;simp_all) ky
  refine TC.cond rfl ?_ ?_<;>intro c109
  ·
   have hp1:=ce (p:=(cO p.roles p.points.length)) k0 hx (rpt_3 c79 c109) hal
   refine kX ?_
   exact ao (.inr rfl) (ad rfl (RVal.tmp rfl)) (congrArg Value.bool (by first | exact o5 c39 | exact o4 hr1 | exact o3 hp1 | exact oZ hh hr1 hp1))
  refine d6 ?_
  exact aD (k+1) ⟨o2q,bC (p:=(cO p.roles p.points.length)) k0 hx (by first | exact rpt_1 c79 | exact rpt_2 c109) hal⟩ ky (fun w hw=>hw.drop) om
 have hp1:=bU (p:=(cO p.roles p.points.length)) k0 c58 hal
 refine fD ?_
 exact ao (.inr rfl) (ad rfl (RVal.tmp rfl)) (congrArg Value.bool (by first | exact o5 c39 | exact o4 hr1 | exact o3 hp1 | exact oZ hh hr1 hp1))
theorem EC {H:Hp}(p:SProto)(role:Str)(hp:ProtoOk H p)(hnm:p.name.length≤1000)(hrl:role.length≤1000){B:Nat}(hB:∀x∈p.points,∀a∈x.arms,a.cn.length≤B)(hB2:B≤4294960000):
  Fn Tryz.prog 67 [.agg p.cells.toArray,gs role] H (fun v H1=>∃nm ts tp,v= .tuple #[.agg (SLocal.cells ⟨nm,ts,tp⟩).toArray,.int .i64 (ek p role).1]∧((ek p role).1=0→nm=(p.name++[46])++role∧LocalOk H1 ⟨nm,ts,tp⟩∧ts.map tt=(ek p role).2)):=by
 refine Fn.enter Tryz.func67 Tryz.ntmps67 rfl rfl (fun w0=>?_)
 refine zm2 ?_
 refine TL.box rfl rfl (fun b2=>?_)
 refine TL.alloc rfl (fun b4=>?_)
 refine iM ?_;refine nh ?_;refine ar (ab rfl rfl rfl rfl) (gz p hp) rfl (zm3 ?_)
 refine ag (s:=16) rfl ?_ ?_<;>intro g16
 ·
  refine lh ?_;refine iG ?_;refine z1 ?_
  have hE:(ek p role).1=800:=by unfold ek;rw [if_pos (by first | exact c22 | simp_all)]
  exact aR (.inr rfl) (co rfl (RVal.cellA rfl (.here _) rfl) (RVal.tmp rfl)) ⟨[],[],(none,0),by rw [hE];rfl,fun h=>absurd (hE.symm.trans h) dq⟩
 refine fl ?_;refine cv ?_;refine aH rfl rfl (ab rfl rfl rfl rfl) (i6 role hp.r) rfl (fP ?_)
 refine TC.cond rfl ?_ ?_<;>intro c22
 ·
  refine z1 ?_
  have hE:(ek p role).1=800:=by unfold ek;rw [if_pos (by first | exact c22 | simp_all)]
  exact aR (.inr rfl) (co rfl (RVal.cellA rfl (.here _) rfl) (RVal.tmp rfl)) ⟨[],[],(none,0),by rw [hE];rfl,fun h=>absurd (hE.symm.trans h) dq⟩
 have hrh:(dw p&&bI p.roles role)=true:=by simp_all
 have hRP:=RPOk.of (p:=p) (by simp_all)
 refine dn ?_;refine zZ ?_;refine dN ?_
 refine TL.box rfl rfl (fun b27=>?_)
 refine cu ?_;refine qV ?_;refine qV ?_
 obtain⟨bw,hbw⟩:∃bw,bw=b27:=⟨_,rfl⟩
 subst hbw
 refine ai (el ?_)
 refine aA rfl rfl rfl rfl (fun b30=>?_)
 refine dT sq (fun H_b30 le_b30 rd_b30=>?_)
 have hA30:RdSl H_b30 1 I64.cells (.slice (some ⟨b30,0,none⟩) 1 1) [0]:=RdSl.blk (l:=[0]) (enc:=I64.cells) rd_b30 (by intro x hx;rfl) rfl (by show 1≤9223372036854775807;decide)
 replace hp:=hp.le le_b30
 refine qH (X:=[(b4,_),(b2,_)]) (A:=(bw,_)::[]) (Y:=[]) rfl (ab rfl rfl rfl rfl) (ER role hp hRP.nx (by have:=hRP.n24;omega) (OwnSl.nil (enc:=GRow.cells)) (rows:=[]) (by intro r hr;simp at hr) sq hA30 sq) rfl (fun v31 H31 A31 hle31 hp31=>?_)
 obtain⟨sv31,ob31,rows31,rfl,hO31,hrw31,hrl31,hm31,rfl⟩:=hp31
 replace hp:=hp.le hle31
 rw [List.append_nil]
 have hm31':rows31.map (·.l)=(bZ p role [] [0]).2.2:=hm31
 refine lq ?_;refine kM ?_
 refine aV rfl ?_ ?_<;>intro c35
 ·
  have c35b:(bZ p role [] [0]).2.1≠0:=c35
  refine k9 ?_;refine zm0 ?_;refine Hd ?_
  have hE:(ek p role).1=(bZ p role [] [0]).2.1:=by unfold ek;rw [if_neg (by rw [hrh];decide),if_pos c35b]
  exact aR (.inr rfl) (co rfl (RVal.cellA rfl (.here _) rfl) (RVal.tmp rfl)) ⟨[],[],(none,0),by rw [hE];rfl,fun h=>absurd (hE.symm.trans h) (c35b)⟩
 have h35:¬(bZ p role [] [0]).2.1≠0:=by simpa using c35
 refine dn ?_;refine jm ?_;refine TL.run (eR rfl rfl (by simp only [List.length_append,List.length_cons,List.length_nil];omega)) rfl (zm0 ?_)
 refine TL.run (eR rfl rfl (by simp only [List.length_append,List.length_cons,List.length_nil];omega)) rfl (dN ?_)
 refine TL.alloc rfl (fun b9=>?_)
 refine m4 ?_;refine iq ?_
 have hlk:=uV (p:=p) (role:=role) hRP.nx (sets:=[]) (frm:=[0]) (by intro s hs;simp at hs)
 refine TC.loop (ι:=TQ2) (V:=fun q=>[(10,.int .i64 q.k)]) (K:=[(4,_),(5,_),(6,_),(9,_)]) (L:=fun q=>St [] w0 H q.h ((b9,[gs ((p.name++[46])++role),q.v])::(b4,[gs [],.slice none 0 0])::(b2,p.cells)::(bw,WK p role q.sv)::(q.ob++q.oa))) (I:=fun q=>(0≤q.k∧q.k≤q.rows.length)∧H31.le q.h∧OwnSl 1 GRow.cells q.sv q.rows q.ob∧GRowsOk q.h q.rows∧q.rows.length≤40∧OwnSl 3 STurn.cells q.v q.ts q.oa∧m7 p role (41 - q.k.toNat) q.k.toNat (q.rows.map (·.l)) (q.ts.map tt)=m7 p role 41 0 (rows31.map (·.l)) []∧mn p.points.length (q.rows.map (·.l))∧(∀t∈q.ts,TurnOk q.h t)∧(q.ts.length:Int)=q.k) (μ:=fun q=>(41 - q.k).toNat) (i:=⟨0,H31,_,ob31,rows31,.slice none 0 0,[],[]⟩) ky ⟨⟨by show(0:Int)≤0;omega,by show(0:Int)≤_;omega⟩,.refl _,hO31,hrw31,hrl31,OwnSl.nil,rfl,by rw [hm31'];exact hlk,by simp,rfl⟩ (fun w hw=>by rw [List.append_nil];exact hw) (fun q hI=>?_)
 obtain⟨⟨k0,k1⟩,hq2,hq3,hq4,hq5,hq6,hq7,hSO,hq9,hq10⟩:=hI
 rw [hm31'] at hq7
 have hp2:=hp.le hq2
 obtain⟨va,vc,hv⟩:=hq6.form
 refine fk ?_;refine gr ?_;refine nr ?_;refine TL.run (bK rfl rfl hq3) rfl (zm1 ?_)
 refine af rfl ?_ ?_<;>intro c50
 ·
  obtain⟨r,hrx⟩:=aj (l:=q.rows) k0 c50
  have hs:(q.rows.map (·.l))[q.k.toNat]? =some r.l:=by rw [List.getElem?_map,hrx];rfl
  have hsr:=hSO _ (List.mem_of_getElem? hs)
  have hsl:r.l.length≤1000:=by have:=hRP.n24;have:=hsr.2;omega
  refine lj ?_;refine gr ?_;refine nr ?_;refine zm0 ?_
  refine TL.run (bY rfl rfl hq3 om om) rfl (TL.run (eK (j:=0) rfl hq3 (.s4 (.app _)) hrx rfl) rfl (qH (X:=[(b9,_),(b4,_),(b2,_)]) (A:=(bw,_)::q.ob) rfl (ab rfl rfl rfl rfl) (turn_ok role hp2 hRP.nx (by have:=hRP.n24;omega) hq3 hq4 hq5 hRP.a6 (hq4 r (List.mem_of_getElem? hrx)) hsr.1 hsl) rfl (fun v62 H62 A62 hle62 hp62=>?_)))
  obtain⟨sv62,ob62,rows62,av62,oa62,rfl,hO62,hrw62,hrl62,hm62,hA62,rfl⟩:=hp62
  obtain⟨aa62,ac62,rfl⟩:=hA62.form
  refine rf ?_
  refine TL.alloc rfl (fun b11=>?_)
  refine ga ?_;refine kM ?_
  refine aV rfl ?_ ?_<;>intro c66
  ·
   refine k9 ?_;refine zm0 ?_;refine cT rfl rfl rfl rfl rfl (.h2) rfl rfl (em ?_);refine od ?_
   have hE:(ek p role).1=(bQ p role (q.rows.map (·.l)) r.l).2.1:=by unfold ek;rw [if_neg (by rw [hrh];decide),if_neg h35,← hq7,show 41 - q.k.toNat=(40 - q.k.toNat)+1 by omega,Be hs c66]
   exact aR (.inr rfl) (co rfl (RVal.cellA rfl (.h2) rfl) (RVal.tmp rfl)) ⟨[],[],(none,0),by rw [hE];rfl,fun h=>absurd (hE.symm.trans h) (c66)⟩
  refine vG (perm_as [(b11,_),(b9,_),(b4,_),(b2,_)]) (TC.pubO hA62 (.s5 ((.past _ (.app _)))) sq (fun HP62 leP62 hT62=>?_))
  rw [List.nil_append]
  replace hrw62:=hrw62.le leP62
  have hTk:TurnOk HP62 ⟨(bQ p role (q.rows.map (·.l)) r.l).1.1,(bQ p role (q.rows.map (·.l)) r.l).1.2.1,(bQ p role (q.rows.map (·.l)) r.l).1.2.2,(aa62,ac62)⟩:=⟨hT62,fun a ha=>Nat.le_trans (HQ hB a ha) hB2⟩
  have hge:q.rows.length≤rows62.length:=by have h1:=congrArg List.length hm62;rw [List.length_map] at h1;rw [h1];have h2:=AZ (p:=p) (role:=role) (set:=r.l) (sets:=q.rows.map (·.l));rwa [List.length_map] at h2
  refine dn ?_;refine wV ?_
  refine aA rfl rfl rfl rfl (fun b72=>?_)
  refine TL.append (enc:=STurn.cells) rfl rfl rfl hq6 (Src.own [⟨(bQ p role (q.rows.map (·.l)) r.l).1.1,(bQ p role (q.rows.map (·.l)) r.l).1.2.1,(bQ p role (q.rows.map (·.l)) r.l).1.2.2,(aa62,ac62)⟩] (.here _) rfl rfl) (by simp only [List.length_cons,List.length_nil];omega) rfl (.s6 (.past _ .all)) rfl (fun a73 c73 ob73 hO73=>?_)
  refine rc ?_;refine nj ?_
  exact aD (⟨q.k+1,HP62,sv62,ob62,rows62,_,ob73,q.ts++[⟨(bQ p role (q.rows.map (·.l)) r.l).1.1,(bQ p role (q.rows.map (·.l)) r.l).1.2.1,(bQ p role (q.rows.map (·.l)) r.l).1.2.2,(aa62,ac62)⟩]⟩:TQ2) ⟨⟨by show 0≤q.k+1;omega,by show q.k+1≤(rows62.length:Int);omega⟩,hq2.trans (hle62.trans leP62),hO62,hrw62,hrl62,hO73,by show m7 p role (41 - (q.k+1).toNat) (q.k+1).toNat (rows62.map (·.l)) _=_;rw [hm31',← hq7,show 41 - q.k.toNat=(41 - (q.k+1).toNat)+1 by omega,xO hs (by simpa using c66),hm62,show(q.k+1).toNat=q.k.toNat+1 by omega,List.map_append];rfl,by show mn _ (rows62.map (·.l));rw [hm62];exact HO hRP.nx hSO,gI (fun t ht=>(hq9 t ht).le (hle62.trans leP62)) hTk,by show _=q.k+1;simp only [List.length_append,List.length_cons,List.length_nil];omega⟩ ky (fun w hw=>hw.drop.drop) (by show(41 - (q.k+1)).toNat<(41 - q.k).toNat;omega)
 refine oK ?_
 rw [hv] at hq6 ⊢
 refine gL ?_;refine wo ?_;refine em ?_
 have hE:ek p role=(0,q.ts.map tt):=by unfold ek;rw [if_neg (by rw [hrh];decide),if_neg h35,← hq7,Bd (by rw [List.length_map];omega)]
 refine TX.pubO hq6 (.s4 (.past _ .all)) sq (fun H2 hle2 hR=>?_)
 exact aR (.inr rfl) (co rfl (RVal.cellA rfl (.h1) rfl) (RVal.tmp rfl)) ⟨_,q.ts,(va,vc),by rw [hE];rfl,fun _=>⟨rfl,⟨hR,fun t ht=>(hq9 t ht).le hle2⟩,by rw [hE]⟩⟩
theorem xW {H:Hp}(p:SProto)(hp:ProtoOk H p)(hnm:p.name.length≤1000)(hrl:∀r∈p.roles,r.length≤1000):
  Fn Tryz.prog 30 [.agg p.cells.toArray] H (fun v H1=>∃lv,v= .tuple #[lv,.int .i64 (m9 p).2,.int .i64 (m9 p).1]∧((m9 p).1=0→∃ls,RdSl H1 2 SLocal.cells lv ls∧LsOk H1 p p.roles.length ls)∧((m9 p).1≠0→lv= .slice none 0 0)):=by
 have hro:=hp.r
 have hrm:=hro.max
 refine Fn.enter Tryz.func30 Tryz.ntmps30 rfl rfl (fun w0=>?_)
 refine zm2 ?_
 refine TL.box rfl rfl (fun b1=>?_)
 refine zm3 ?_;refine iM ?_;refine il ?_;refine ar (ab rfl rfl rfl rfl) (gz p hp) rfl (zm1 ?_)
 refine TC.cond rfl ?_ ?_<;>intro c11
 ·
  refine dH ?_;refine sU ?_
  have hE:m9 p=(800,0):=by unfold m9;rw [if_pos (by simpa using c11)]
  exact aR (.inr rfl) (fT rfl (RVal.tmp rfl) (RVal.tmp rfl) (RVal.tmp rfl)) ⟨_,by rw [hE],fun h=>absurd h (by rw [hE];decide),fun _=>rfl⟩
 have hRB:dw p=true:=by simpa using c11
 have hr5:=(RPOk.of hRB).r5
 refine dn ?_;refine kg ?_
 refine aK (V:=fun k v ob H1=>[(5,v),(6,.int .i64 k)]) (K:=[(1,_),(2,_),(3,_),(4,_)]) (L:=fun k v ob H1=>St [] w0 H H1 ((b1,p.cells)::ob)) (I:=fun k v ob H1=>(0≤k∧k≤p.roles.length)∧H.le H1∧lO p k.toNat (p.roles.drop k.toNat)=lO p 0 p.roles∧∃ls,OwnSl 2 SLocal.cells v ls ob∧LsOk H1 p k ls) (μ:=fun k=>(p.roles.length - k).toNat) 0 (.slice none 0 0) [] H ky ⟨o2q,.refl _,rfl,[],OwnSl.nil,⟨rfl,by simp⟩⟩ (fun w hw=>hw) (fun k v ob H1 hI=>?_)
 obtain⟨⟨k0,k1⟩,hI2,hI3,ls,hO,hLs⟩:=hI
 have hp1:=hp.le hI2
 have hro1:=hp1.r
 obtain⟨va,vc,rfl⟩:=hO.form
 refine jO ?_;refine TL.run (ah rfl rfl hro1) rfl (zm1 ?_)
 refine af rfl ?_ ?_<;>intro c16
 ·
  obtain⟨rr,hrx⟩:=aj (l:=p.roles) k0 c16
  refine te ?_
  refine TD.part 6 10 rfl rfl rfl ?_ ?_
  ·
   refine cy [(0,2),(1,1),(2,2),(3,1),(4,1),(5,2),(6,3),(7,1),(8,1),(9,1),(10,3),(11,0),(12,1)] kr kr (kG ?_);refine zK ?_
   refine az (ae rfl hro1 rfl om om) rfl (bg (aL hro1 hrx rfl rfl) rfl (TF.call (ab rfl rfl rfl rfl) (EC p rr hp1 hnm (hrl rr (List.mem_of_getElem? hrx)) (fun x hx a ha=>(hp.ps x hx).z a ha) (Nat.le_refl _)) rfl (fun v26 H26 hle26 hp26=>?_)))
   obtain⟨nm,ts,tp,rfl,hRo⟩:=hp26
   refine rb ?_
   refine TF.alloc rfl (fun b7=>?_)
   exact zq672
  refine cy [(0,2),(1,1),(2,2),(3,1),(4,1),(5,2),(10,3),(6,3),(7,1),(8,1),(9,1),(11,0),(12,1)] kr kr (kG ?_);refine zK ?_
  refine az (ae rfl hro1 rfl om om) rfl (bg (aL hro1 hrx rfl rfl) rfl (TF.alloc rfl (fun b7=>?_)))
  refine TF.call (ab rfl rfl rfl rfl) (EC p rr hp1 hnm (hrl rr (List.mem_of_getElem? hrx)) (fun x hx a ha=>(hp.ps x hx).z a ha) (Nat.le_refl _)) rfl (fun v26 H26 hle26 hp26=>?_)
  obtain⟨nm,ts,tp,rfl,hRo⟩:=hp26
  refine rb ?_
  exact zq672
 refine fN ?_;refine dH ?_;refine gm ?_
 have hE:m9 p=(0,0):=by unfold m9;rw [if_neg (by rw [hRB];decide),← hI3,List.drop_eq_nil_of_le om];rfl
 refine TX.pubO hO (.skip _ .all) sq (fun H2 hle2 hR=>?_)
 have hk:k=p.roles.length:=by omega
 exact aR (.inr rfl) (fT rfl (RVal.tmp rfl) (RVal.tmp rfl) (RVal.tmp rfl)) ⟨_,by rw [hE],fun _=>⟨ls,hR,hk▸hLs.le hle2⟩,fun h=>absurd (by rw [hE]) h⟩
theorem yh {H:Hp}{bd:Nat}{dl:Value}{at_:Int}(hd:DiceOk H dl at_){tv:Value}{types:List Str}(hty:RdSl H 1 Str.cells tv types)(htn:∀s∈types,TyNm s)(htl:types.length≤100)(name:Str)(hnl:name.length≤1000):
  DFn Tryz.prog bd dl at_ 64 [gs name,tv] H (fun v H1 ob=>ob=[]∧(H.le H1∧∃p:SProto,v= .agg p.cells.toArray∧ProtoOk H1 p∧p.name=name∧∃n,2≤n∧n≤5∧p.roles=rolesL.take n)):=by
 refine FnX.enter Tryz.func64 Tryz.ntmps64 rfl rfl (fun w0=>?_)
 refine zm2 ?_
 refine TL.alloc rfl (fun b6=>?_)
 refine TL.nil (ai (fO ?_))
 refine aI (X:=[(b6,_)]) (bd:=bd) rfl (ab rfl rfl rfl rfl) (zm hd hty htn htl name) rfl (fun v14 H14 at14 hle14 hd14 hp14=>?_)
 obtain⟨hle14_,p,rfl,hP,hNm,n,hn2,hn5,hRo⟩:=hp14
 replace hty:=hty.le hle14
 have hrl:∀r∈p.roles,r.length≤1000:=by
  intro r hr;rw [hRo] at hr;have:=o6 hr;omega
 refine TL.alloc rfl (fun b7=>?_)
 refine ik ?_;refine il ?_
 refine TL.call (ab rfl rfl rfl rfl) (xW p hP (by rw [hNm];exact hnl) hrl) rfl (fun v17 H17 hle17 hp17=>?_)
 obtain⟨lv17,rfl,hok17,hno17⟩:=hp17
 replace hty:=hty.le hle17
 replace hd14:=hd14.le hle17
 refine lq ?_;refine zm3 ?_;refine kM ?_
 refine af rfl ?_ ?_<;>intro c22
 · refine lg ?_;exact aF (aZ (.inr rfl) (ad rfl (RVal.cellA rfl (.h1) rfl)) (fun w hw=>hw.drop.drop) ⟨_,[],rfl,hd14,rfl,hle14_.trans hle17,p,rfl,hP.le hle17,hNm,n,hn2,hn5,hRo⟩)
 refine AI ?_
 refine aI (X:=[(b7,_),(b6,_)]) (bd:=bd) rfl (ab rfl rfl rfl rfl) (zn hd14 hty htn htl name 2 om om) rfl (fun v27 H27 at27 hle27 hd27 hp27=>?_)
 obtain⟨hle27_,p2,rfl,hP2,hNm2,hRo2,hA2⟩:=hp27
 refine lf ?_
 exact aZ (.inr rfl) (ad rfl (RVal.cellA rfl (.h1) rfl)) (fun w hw=>hw.drop.drop) ⟨_,[],rfl,hd27,rfl,(hle14_.trans hle17).trans hle27_,p2,rfl,hP2,hNm2,_,by decide,by decide,hRo2⟩
structure GP (H:Hp)(nm:Str)(p:SProto):Prop where
 ok:ProtoOk H p
 nm:p.name=nm
 rs:∃n,2≤n∧n≤5∧p.roles=rolesL.take n
theorem GP.le {H H':Hp}{nm:Str}{p:SProto}(h:GP H nm p)(hl:H.le H'):GP H' nm p:=⟨h.ok.le hl,h.nm,h.rs⟩
theorem GP.pr {H:Hp}{nm:Str}{p:SProto}(h:GP H nm p)(hn:nm=[112]∨nm=[113]):GPr p:=by
 obtain⟨n,h2,h5,hr⟩:=h.rs
 have hl:p.roles.length=n:=by rw [hr,List.length_take];show min n 5=n;omega
 exact⟨by rw [h.nm];exact hn,by omega,by omega,fun r hm=>by rw [hr] at hm;exact o6 hm⟩
def PsOk (H:Hp)(ps:List SProto):Prop:=∃p,GP H [112] p∧(ps=[p]∨∃q,GP H [113] q∧ps=[p,q])
theorem PsOk.le {H H':Hp}{ps:List SProto}(h:PsOk H ps)(hl:H.le H'):PsOk H' ps:=by
 obtain⟨p,hp,h⟩:=h
 refine⟨p,hp.le hl,?_⟩
 rcases h with h | ⟨q,hq,h⟩
 ·exact .inl h
 ·exact .inr ⟨q,hq.le hl,h⟩
theorem PsOk.pk {H:Hp}{ps:List SProto}(h:PsOk H ps):∀p∈ps,ProtoOk H p:=by
 obtain⟨p,hp,rfl | ⟨q,hq,rfl⟩⟩:=h<;>intro x hx<;>simp only [List.mem_cons,List.not_mem_nil,or_false] at hx
 ·subst hx;exact hp.ok
 ·rcases hx with rfl | rfl
  ·exact hp.ok
  ·exact hq.ok
theorem PsOk.pg {H:Hp}{ps:List SProto}(h:PsOk H ps):∀p∈ps,GPr p:=by
 obtain⟨p,hp,rfl | ⟨q,hq,rfl⟩⟩:=h<;>intro x hx<;>simp only [List.mem_cons,List.not_mem_nil,or_false] at hx
 ·subst hx;exact hp.pr (.inl rfl)
 ·rcases hx with rfl | rfl
  ·exact hp.pr (.inl rfl)
  ·exact hq.pr (.inr rfl)
theorem PsOk.pn {H:Hp}{ps:List SProto}(h:PsOk H ps):0<ps.length∧ps.length≤2:=by
 obtain⟨p,hp,rfl | ⟨q,hq,rfl⟩⟩:=h<;>simp
theorem tyNm_of {n:Nat}{l:List Str}(h:l=rolesL.take n):∀s∈l.map (fun r=>([112]++[46])++r),TyNm s:=by
 intro s hs
 simp only [List.mem_map] at hs
 obtain⟨r,hr,rfl⟩:=hs
 exact⟨r,List.mem_of_mem_take (h▸hr),rfl⟩
theorem vV {H:Hp}{bd:Nat}{dl:Value}{at_:Int}(hd:DiceOk H dl at_):
  DFn Tryz.prog bd dl at_ 29 [] H (fun v H1 ob=>ob=[]∧(H.le H1∧∃ps,RdSl H1 3 SProto.cells v ps∧PsOk H1 ps)):=by
 refine FnX.enter Tryz.func29 Tryz.ntmps29 rfl rfl (fun w0=>?_)
 refine oF ?_
 refine aI (X:=[]) (bd:=bd) rfl (ab rfl rfl rfl rfl) (yh hd RdSl.nil sq sq [112] dq) rfl (fun v6 H6 at6 hle6 hd6 hp6=>?_)
 obtain⟨hle6_,p,rfl,hP_,hNmp,np,hn2p,hn5p,hRop⟩:=hp6
 have hP:GP _ [112] p:=⟨hP_,hNmp,np,hn2p,hn5p,hRop⟩
 refine TL.alloc rfl (fun b3=>?_)
 refine Ag ?_
 have hrlp:p.roles.length≤5:=by rw [hRop,List.length_take];show min np 5≤5;omega
 refine ai (il ?_)
 refine aA rfl rfl rfl rfl (fun b8=>?_)
 refine tH ?_
 refine aI (X:=[(b8,_),(b3,_)]) (bd:=bd) rfl (ab rfl rfl rfl rfl) (bq 2 om hd6) rfl (fun v10 H10 at10 hle10 hd10 hp10=>?_)
 obtain⟨eH10,r10,rfl,hr10⟩:=hp10
 replace eH10:=eH10.symm;subst eH10
 have hra10:=hr10.1
 have hrb10:=hr10.2.1 om
 refine zm1 ?_
 refine af rfl ?_ ?_<;>intro c11
 ·
  refine mW ?_;refine ng ?_
  refine TL.call (ab rfl rfl rfl rfl) (vU p hP.ok (by rw [hP.nm];decide) (by have:=hrlp;omega) (fun r hr=>by have:=o6 (hRop▸hr);omega)) rfl (fun v15 H15 hle15 hp15=>?_)
  replace hd10:=hd10.le hle15
  rw [hP.nm] at hp15
  refine aI (X:=[(b8,_),(b3,_)]) (bd:=bd) rfl (ab rfl rfl rfl rfl) (yh hd10 hp15 (tyNm_of hRop) (by have:=hrlp;simp only [List.length_map];omega) [113] dq) rfl (fun v16 H16 at16 hle16 hd16 hp16=>?_)
  obtain⟨hle16_,q,rfl,hQ_,hNmq,nq,hn2q,hn5q,hRoq⟩:=hp16
  have hQ:GP _ [113] q:=⟨hQ_,hNmq,nq,hn2q,hn5q,hRoq⟩
  refine aA rfl rfl rfl rfl (fun b17=>?_)
  refine TL.append (enc:=SProto.cells) rfl rfl rfl (OwnSl.blk (enc:=SProto.cells) [⟨_,_,_,_,_⟩] rfl rfl dq) (Src.own [q] (.here _) rfl rfl) sq rfl (.take (.h1) rfl) rfl (fun a18 c18 ob18 hO18=>?_)
  refine zm1 ?_;refine oi ?_
  refine eB (X:=[(b17,_),(b3,_),(bd,_)]) hO18 rfl (by simp [keys]) (fun H2 hle2 hR=>?_)
  exact aZ (.inr rfl) (ad rfl (RVal.tmp rfl)) (fun w hw=>hw.drop.drop) ⟨_,[],rfl,hd16.le hle2,rfl,⟨(((hle6_.trans hle15).trans hle16_)).trans hle2,_,hR,p,hP.le (hle15.trans (hle16_.trans hle2)),.inr ⟨q,hQ.le hle2,rfl⟩⟩⟩
 refine dn ?_;refine oi ?_
 refine cP (by simp [keys]) (fun H_b8 le_b8 rd_b8=>?_)
 replace hd10:=hd10.le le_b8
 have hR:RdSl H_b8 3 SProto.cells _ ([p]):=RdSl.blk (cap:=1) rd_b8 (by intro x hx;rfl) kr (by show 1≤9223372036854775807;decide)
 exact aZ (.inr rfl) (ad rfl (RVal.tmp rfl)) (fun w hw=>hw.drop) ⟨_,[],rfl,hd10,rfl,⟨hle6_.trans le_b8,_,hR,p,hP.le le_b8,.inl rfl⟩⟩
theorem fR {F:Fx}{V:WV}(s:TStep)(hs:s.Ok V.S):
  WFn Tryz.prog F V 75 [.agg s.cells.toArray] 1 (fun v V1=>v= .int .i64 (V.sn:Int)∧V1.sn=V.sn+1):=by
 refine WFn.enter Tryz.func75 Tryz.ntmps75 rfl rfl (fun m w0 hW hm=>?_)
 refine zm2 ?_
 refine TL.box rfl rfl (fun b3=>?_)
 refine kW ?_;refine gL ?_
 refine aC (F:=F) (V:=V) (m:=m) [(b3,_)] rfl rfl (ab rfl rfl rfl rfl) (gt s hs) hW om rfl (fun v8 V8 hle8 hW8 hS8 hs8 ht8 hp8=>?_)
 obtain⟨rfl,hn8⟩:=hp8
 obtain⟨b,j,q,ha,hb,hj⟩:=hW8.s.at om
 refine wS ?_;refine aU [true,true,true] [(0,1),(1,1),(2,1),(3,1),(4,4),(5,1),(6,1),(7,1),(8,1),(9,1),(10,4),(11,1),(12,1),(13,1),(14,5)] kr kr (jM ?_)
 refine xm ?_;refine oE ?_;refine xm ?_;refine az (ij rfl rfl) rfl (az (di (tb:=3) rfl rfl ha om om) rfl (zm4 ?_))
 refine au rfl (dS (t:=3) (f:=9) (ct:=.int) rfl rfl hW8.bag (.s2 (.skip _ .all)) hb rfl hj om rfl (⟨_,rfl⟩) rfl rfl (fun Bst1 hBst1=>?_))
 refine ax (S1 (S1 (S1 SN))) (Hp.le.refl _) (TF.nil (ai (oi ?_)))
 exact bF (V':={V8 with B:=Bst1}) (X:=[(b3,_)]) (.inr rfl) (ad rfl (RVal.tmp rfl)) rfl rfl ((hW8.bagB hBst1).more om) hS8 (by(try dsimp only);omega) (by(try dsimp only);omega) ⟨rfl,hn8⟩
theorem pU {F:Fx}{V:WV}(o:Bool):
  WFn Tryz.prog F V 127 [.bool o] 2 (fun v V1=>v= .int .i64 (V.sn:Int)∧V.sn<V1.sn):=by
 refine WFn.enter Tryz.func127 Tryz.ntmps127 rfl rfl (fun m w0 hW hm=>?_)
 refine oF ?_;refine gr ?_;refine fj ?_;refine lz ?_;refine kM ?_
 refine TC.cond rfl ?_ ?_<;>intro c14
 ·
  refine zm2 ?_;refine ar (ab rfl rfl rfl rfl) (du 9) rfl (TL.alloc rfl (fun b6=>?_))
  refine wX ?_;refine pS ?_;refine zY ?_
  refine aC (F:=F) (V:=V) (m:=m) [(b6,_)] rfl rfl (ab rfl rfl rfl rfl) (fR ⟨9,[99],[],[],[], -1,none,0,0,none,0,0,none,0,0, -1⟩ ⟨.inr (.inl rfl),.nil,.nil,.nil,.nil,.nil,.nil,Nat.zero_le _,Nat.zero_le _,Nat.zero_le _⟩) hW om rfl (fun v19 V19 hle19 hW19 hS19 hs19 ht19 hp19=>?_)
  obtain⟨rfl,hn19⟩:=hp19
  refine jo ?_
  refine ar (ab rfl rfl rfl rfl) (du 0) rfl (aC (F:=F) (V:=V19) (m:=m+1) [(b6,_)] rfl rfl (ab rfl rfl rfl rfl) (gt ⟨0,[],[],[],[], -1,none,0,0,none,0,0,none,0,0, -1⟩ ⟨.nil,.nil,.nil,.nil,.nil,.nil,.nil,Nat.zero_le _,Nat.zero_le _,Nat.zero_le _⟩) hW19 om rfl (fun v22 V22 hle22 hW22 hS22 hs22 ht22 hp22=>?_))
  obtain⟨rfl,hn22⟩:=hp22
  refine zX ?_
  exact bF (V':=V22) (X:=[(b6,_)]) (.inr rfl) (ad rfl (RVal.tmp rfl)) rfl rfl (hW22.more om) (hS19.trans (hS22)) (by(try dsimp only);omega) (by(try dsimp only);omega) ⟨rfl,by omega⟩
 refine lm ?_
 refine ar (ab rfl rfl rfl rfl) (du 0) rfl (aC (F:=F) (V:=V) (m:=m) [] rfl rfl (ab rfl rfl rfl rfl) (gt ⟨0,[],[],[],[], -1,none,0,0,none,0,0,none,0,0, -1⟩ ⟨.nil,.nil,.nil,.nil,.nil,.nil,.nil,Nat.zero_le _,Nat.zero_le _,Nat.zero_le _⟩) hW om rfl (fun v22 V22 hle22 hW22 hS22 hs22 ht22 hp22=>?_))
 obtain⟨rfl,hn22⟩:=hp22
 refine zX ?_
 exact bF (V':=V22) (X:=[]) (.inr rfl) (ad rfl (RVal.tmp rfl)) rfl rfl (hW22.more om) hS22 (by(try dsimp only);omega) (by(try dsimp only);omega) ⟨rfl,by omega⟩
theorem tS {F:Fx}{V:WV}(s:Str):
  WFn Tryz.prog F V 179 [gs s] 0 (fun v V1=>∃p r,v= .tuple #[.agg p.cells.toArray,gs r]∧p∈F.ps∧r∈p.roles):=by
 refine WFn.enter Tryz.func179 Tryz.ntmps179 rfl rfl (fun m w0 hW hm=>?_)
 have hfx:=hW.fx
 have hps:=hfx.ps
 have hmx:=hps.max
 have hpn:=hfx.pn
 obtain⟨p0,hp0⟩:=aj (l:=F.ps) (i:=0) om om
 have hG0:=(hfx.pg p0 (List.mem_of_getElem? hp0)).r2
 have hro0:=(hfx.pk p0 (List.mem_of_getElem? hp0)).r
 obtain⟨r0,hr0⟩:=aj (l:=p0.roles) (i:=0) om om
 refine zm2 ?_
 refine TL.alloc rfl (fun b4=>?_)
 refine kh ?_
 refine TC.loop (V:=fun k=>[(6,.int .i64 k)]) (K:=[(0,_),(1,_),(4,_),(5,_)]) (L:=fun k=>_) (I:=fun k=>0≤k∧k≤F.ps.length) (μ:=fun k=>(F.ps.length - k).toNat) (i:=(0:Int)) ky o2q (fun w hw=>hw) (fun k hI=>?_)
 obtain⟨k0,k1⟩:=hI
 refine fk ?_;refine TL.run (bR rfl) rfl (iN ?_);refine TL.run (ah rfl rfl hps) rfl (zm1 ?_)
 refine af rfl ?_ ?_<;>intro c14
 ·
  obtain⟨p,hp⟩:=aj (l:=F.ps) k0 c14
  have hro:=(hfx.pk p (List.mem_of_getElem? hp)).r
  have hrm:=hro.max
  refine fi ?_;refine iq ?_
  refine TC.loop (V:=fun q=>[(7,.int .i64 q)]) (K:=[(0,_),(1,_),(4,_),(5,_),(6,_),(8,_),(9,_),(10,_),(11,_),(12,_),(13,_),(14,_)]) (L:=fun q=>_) (I:=fun q=>0≤q∧q≤p.roles.length) (μ:=fun q=>(p.roles.length - q).toNat) (i:=(0:Int)) ky o2q (fun w hw=>hw) (fun q hI=>?_)
  obtain⟨q0,q1⟩:=hI
  refine fk ?_;refine TL.run (bR rfl) rfl (kH ?_);refine TL.run (ae rfl hps rfl om om) rfl (zm5 ?_);refine TL.run (aT hps hp rfl rfl) rfl (TL.run (ah rfl rfl hro) rfl (zm1 ?_))
  refine af rfl ?_ ?_<;>intro c27
  ·
   obtain⟨rr,hr⟩:=aj (l:=p.roles) q0 c27
   have hG:=hfx.pg p (List.mem_of_getElem? hp)
   have hnm:p.name.length=1:=by rcases hG.nm with h | h<;>rw [h]<;>rfl
   have hr1:=hG.rs rr (List.mem_of_getElem? hr)
   refine nc ?_;refine wT ?_;refine zJ ?_;refine TQ.run (ae rfl hps rfl om om) rfl (gl ?_)
   refine TQ.run (aT hps hp rfl rfl) rfl (TQ.run (eR rfl rfl (by simp only [List.length_append,List.length_cons,List.length_nil];omega)) rfl (wT ?_));refine zJ ?_
   refine TQ.run (ae rfl hps rfl om om) rfl (gl ?_)
   refine TQ.run (aT hps hp rfl rfl) rfl (TQ.run (aG rfl) rfl (TQ.run (ae rfl hro rfl om om) rfl (TQ.run (aL hro hr rfl rfl) rfl ?_)))
   refine TQ.run (eR rfl rfl (by simp only [List.length_append,List.length_cons,List.length_nil];omega)) rfl (TQ.run (aG rfl) rfl (wF ?_))
   refine af rfl ?_ ?_<;>intro c52
   ·
    refine rA ?_;refine zm459 ?_;refine jM ?_;refine D1 ?_;refine zm6 ?_
    refine az (ae rfl hps rfl om om) rfl (aO (S0 (S1 (S1 SN))) (Hp.le.refl _) (fun _ _=>aY hps hp rfl rfl) rfl (jM ?_));refine D1 ?_;refine zm6 ?_
    refine az (ae rfl hps rfl om om) rfl (zm4 ?_);refine aO (S0 (S1 (S1 SN))) (Hp.le.refl _) (fun _ _=>aT hps hp rfl rfl) rfl (zm6 ?_);refine Ab ?_
    refine aO (S0 (S1 (S1 SN))) (Hp.le.refl _) (fun _ _=>aL hro hr rfl rfl) rfl (zW ?_);refine wR ?_;refine wW ?_
    exact bF (V':=V) (X:=[(b4,_)]) (.inr rfl) (co rfl (RVal.cellA rfl (.here _) rfl) (RVal.tmp rfl)) rfl rfl (hW.more om) (.refl _) (by(try dsimp only);omega) (by(try dsimp only);omega) ⟨p,rr,rfl,List.mem_of_getElem? hp,List.mem_of_getElem? hr⟩
   refine d6 ?_
   exact aD (q+1) o2q ky (fun w hw=>hw) om
  refine kJ ?_
  exact aD (k+1) o2q ky (fun w hw=>hw) om
 refine iB ?_;refine dO ?_
 refine aU [false,true,true] [(0,1),(1,1),(2,1),(3,4),(4,1),(5,4),(6,1),(7,1),(8,1),(9,4),(10,1),(11,1),(12,4),(13,1),(14,4),(15,5),(16,1)] kr kr (jM ?_)
 refine D1 ?_;refine az (ae rfl hps rfl om om) rfl (aO (S0 (S1 (S1 SN))) (Hp.le.refl _) (fun _ _=>aY hps hp0 rfl rfl) rfl (jM ?_));refine D1 ?_
 refine az (ae rfl hps rfl om om) rfl (zm4 ?_)
 refine aO (S0 (S1 (S1 SN))) (Hp.le.refl _) (fun _ _=>aT hps hp0 rfl rfl) rfl (az (ae rfl hro0 rfl om om) rfl (aO (S0 (S1 (S1 SN))) (Hp.le.refl _) (fun _ _=>aL hro0 hr0 rfl rfl) rfl (zW ?_)))
 refine wR ?_
 exact bF (V':=V) (X:=[(b4,_)]) (.inr rfl) (co rfl (RVal.cellA rfl (.here _) rfl) (RVal.tmp rfl)) rfl rfl (hW.more om) (.refl _) (by(try dsimp only);omega) (by(try dsimp only);omega) ⟨p0,r0,rfl,List.mem_of_getElem? hp0,List.mem_of_getElem? hr0⟩
theorem lQ {H:Hp}(p:SProto)(r:Str)(h1:p.name.length≤1000)(h2:r.length≤1000):
  FnS Tryz.prog 68 [.agg p.cells.toArray,gs r] H (gs (p.name++r)):=by
 refine FnS.enter Tryz.func68 Tryz.ntmps68 rfl rfl (fun w0=>?_)
 refine zm2 ?_
 refine TL.box rfl rfl (fun b2=>?_)
 refine tG ?_;refine TL.run (eR rfl rfl om) rfl (em ?_)
 exact ao (.inr rfl) (ad rfl (RVal.tmp rfl)) rfl
theorem xq {F:Fx}{V:WV}(p:SProto)(role:Str)(hp:ProtoOk V.H p)(hG:GPr p)(hr:AnyNm role):
  WFn Tryz.prog F V 70 [.agg p.cells.toArray,gs role] 12 (fun v V1=>∃s,v=gs s∧VarNm s):=by
 refine WFn.enter Tryz.func70 Tryz.ntmps70 rfl rfl (fun m w0 hW hm=>?_)
 have hro:=hp.r
 have hmx:=hro.max
 have hr5:=hG.r5
 have hn1:=hG.n1
 refine zm2 ?_
 refine TL.box rfl rfl (fun b4=>?_)
 refine rG ?_;refine ar (ab rfl rfl rfl rfl) (du 8) rfl (TL.alloc rfl (fun b7=>?_))
 refine qX ?_;refine aU [false,true,false,false] [(0,1),(2,1),(3,4),(4,1),(1,5),(5,1),(6,5),(7,1),(8,5),(9,1),(10,0)] kr kr (kK ?_)
 refine aO (S0 (S1 SN)) (Hp.le.refl _) (fun _ _=>aE rfl (.here _) rfl) rfl (zm6 ?_)
 refine au rfl (aC (F:=F) (V:=V) (m:=m) [(b7,_),(b4,_)] rfl rfl (ab rfl rfl rfl rfl) (xr) hW om rfl (fun v11 V11 hle11 hW11 hS11 hs11 ht11 hp11=>?_))
 replace hro:=hro.le hle11
 obtain⟨s11,rfl,hv11⟩:=hp11
 refine ax (S0 (S1 SN)) hle11 (zV ?_);refine ax (S0 (S1 SN)) hle11 (zV ?_);refine ax (S0 (S1 SN)) hle11 (gV ?_);refine io ?_;refine kY ?_;refine ra ?_
 refine vI (V:=fun(k:Int) (V1:WV) (r:Rw)=>[(8,.int .i64 k)]) (K:=[(0,_),(2,_),(4,_),(6,_),(7,_)]) (L:=fun k V1 r=>St (keys (F.L V)) w0 V.H V1.H ((b7,TStep.cells ⟨8,s11,role,p.name,[], -1,none,0,0,r.a,r.n,r.c,none,0,0, -1⟩)::(b4,p.cells)::Fx.L F V1)) (I:=fun k V1 r=>WI F V1 (m+1+2 * k.toNat)∧(0≤k∧k≤p.roles.length)∧V.H.le V1.H∧V.S.le V1.S∧V.sn≤V1.sn∧V.tn≤V1.tn∧SlT V1.S 2 r.a r.n r.c∧r.n≤k.toNat) (μ:=fun k=>(p.roles.length - k).toNat) 0 V11 ⟨none,0,0⟩ ky (⟨by simpa using hW11,o2q,hle11,hS11,hs11,ht11,.nil,by simp⟩) (fun w hw=>hw) (fun k V1 r hI=>?_)
 obtain⟨hI1,⟨k0,k1⟩,hI3,hI4,hI5,hI6,hI7,hI8⟩:=hI
 replace hro:=hp.r.le hI3
 refine kU ?_;refine TL.run (ah rfl rfl hro) rfl (zm1 ?_)
 refine af rfl ?_ ?_<;>intro c22
 ·
  obtain⟨rr,hrx⟩:=aj (l:=p.roles) k0 c22
  have hrr:=hG.rl (List.mem_of_getElem? hrx)
  refine wE ?_;refine TL.run (ae rfl hro rfl om om) rfl (TL.run (aL hro hrx rfl rfl) rfl (tN ?_))
  refine aV rfl ?_ ?_<;>intro c31
  ·
   refine dO ?_;refine zm460 ?_;refine qZ ?_;refine wD ?_;refine zm6 ?_;refine Ab ?_
   refine aO (S1 (S1 SN)) (Hp.le.refl _) (fun _ _=>aL hro hrx rfl rfl) rfl (aO (S1 (S1 SN)) (Hp.le.refl _) (fun _ _=>bA rfl (.h1) rfl) rfl (wD ?_));refine zm6 ?_;refine Ab ?_
   refine aO (S1 (S1 SN)) (Hp.le.refl _) (fun _ _=>aL hro hrx rfl rfl) rfl (oE ?_);refine tE ?_
   refine pP (ab rfl rfl rfl rfl) (lQ p rr om om) rfl (au rfl (aI (X:=[(b7,_),(b4,_),(F.bw,_)]) (bd:=F.bd) rfl (ab rfl rfl rfl rfl) (bq 4 om hI1.d) rfl (fun v51 H51 at51 hle51 hd51 hp51=>?_)))
   obtain⟨rfl,r51,rfl,hr51⟩:=hp51
   refine ax (S1 (S1 SN)) (Hp.le.refl _) (au rfl (aC (F:=F) (V:={V1 with at_:=at51}) (m:=m+1+2 * k.toNat) [(b7,_),(b4,_)] rfl rfl (ab rfl rfl rfl rfl) (fE _) (hI1.dice (.refl _) hd51) om rfl (fun v52 V52 hle52 hW52 hS52 hs52 ht52 hp52=>?_)))
   dsimp only at hle52 hS52 hs52 ht52 hp52
   obtain⟨i52,rfl⟩:=hp52
   refine ax (S1 (S1 SN)) hle52 (aJ rfl rfl rfl rfl (fun b53=>?_))
   refine eo ?_
   refine aJ rfl rfl rfl rfl (fun b55=>?_)
   refine au rfl (kb (enc:=I64.cells) (t:=4) (X:=[(b55,_)]) (Y:=[(b7,_),(b4,_),(F.bw,_),(F.bd,_)]) [_] rfl hW52.bag rfl rfl rfl (by intro y hy;exact⟨⟨_,rfl⟩,trivial⟩) (fun Sb53 Bb53 hSb53 hNb53 hbb53 hBb53=>?_))
   refine jI (enc:=TCast.cells) (t:=2) rfl rfl rfl (hW52.bagA hSb53 hNb53 hBb53).bag (hI7.le (hS52.trans (hSb53))) (Src.own [⟨rr,p.name++rr,some ⟨b53,0,none⟩,1,1⟩] (.here _) rfl rfl) rfl (by intro y hy;rw [List.mem_singleton.1 hy];exact TCast.all (s:=⟨rr,p.name++rr,some ⟨b53,0,none⟩,1,1⟩) (Nat.le_trans hrr dq) (hG.proc hrr) (SlT.blk hbb53 (by show 1≤9223372036854775807;decide)) (by have:=hW52.n10;dsimp only at *;omega)) zt2 (by simp only [List.length_cons,List.length_nil];omega) rfl (.s4 (.skip _ .all)) rfl (fun S56 a56 c56 B56 hS56 hN56 hT56 hB56=>?_)
   change _=_+1 at hN56
   refine ax (S0 (S1 (S1 SN))) hle52 (wQ ?_)
   exact iU (k+1) ({{V52 with S:=Sb53,B:=Bb53} with S:=S56,B:=B56}) ⟨a56,r.n+1,c56⟩ (⟨((hW52.bagA hSb53 hNb53 hBb53).bagT hS56 hN56 hB56).more om,o2q,hI3.trans hle52,(hI4.trans (hS52.trans (hSb53.trans (hS56)))),by dsimp only;omega,by dsimp only;omega,hT56,by dsimp only;omega⟩) ky (fun w hw=>hw.drop) om
  refine d6 ?_
  exact iU (k+1) V1 r (⟨hI1.more om,o2q,hI3,hI4,hI5,hI6,hI7,by omega⟩) ky (fun w hw=>hw) om
 refine tL ?_;refine gL ?_
 refine aC (F:=F) (V:=V1) (m:=m+1+2 * k.toNat) [(b7,_),(b4,_)] rfl rfl (ab rfl rfl rfl rfl) (fR ⟨8,s11,role,p.name,[], -1,none,0,0,r.a,r.n,r.c,none,0,0, -1⟩ ⟨hv11,hr,by simp only [AnyNm];omega,.nil,.nil,hI7,.nil,Nat.zero_le _,by have:=hI1.n10;dsimp only;omega,Nat.zero_le _⟩) hI1 om rfl (fun v60 V60 hle60 hW60 hS60 hs60 ht60 hp60=>?_)
 obtain⟨rfl,hn60⟩:=hp60
 refine TL.nil (ai (fC ?_));refine em ?_
 exact bF (V':=V60) (X:=[(b7,_),(b4,_)]) (.inr rfl) (ad rfl (RVal.tmp rfl)) rfl rfl (hW60.more om) (hI4.trans (hS60)) (by(try dsimp only);omega) (by(try dsimp only);omega) ⟨_,rfl,hv11⟩
theorem HF {F:Fx}{V:WV}(s:Str)(hs:VarNm s)(ck:Int)(cn:Str):
  WFn Tryz.prog F V 178 [gs s,.agg #[.int .i64 ck,gs cn]] 12 (fun v V1=>v= .tuple #[]):=by
 refine WFn.enter Tryz.func178 Tryz.ntmps178 rfl rfl (fun m w0 hW hm=>?_)
 refine zm2 ?_
 refine TL.box rfl rfl (fun b5=>?_)
 refine TL.nil (ai (TC.seq (oe ?_)))
 refine aV rfl ?_ ?_<;>intro c13
 ·
  refine ip ?_;refine TL.run (bR rfl) rfl (iN ?_)
  refine aI (X:=[(b5,_),(F.bw,_)]) (bd:=F.bd) rfl (ab rfl rfl rfl rfl) (bq 3 om hW.d) rfl (fun v18 H18 at18 hle18 hd18 hp18=>?_)
  obtain⟨rfl,r18,rfl,hr18⟩:=hp18
  refine zm1 ?_
  refine af rfl ?_ ?_<;>intro c19
  ·
   refine zm2 ?_;refine ar (ab rfl rfl rfl rfl) (du 2) rfl (TL.alloc rfl (fun b6=>?_))
   refine ik ?_;refine dH ?_
   refine aC (F:=F) (V:={V with at_:=at18}) (m:=m) [(b6,_),(b5,_)] rfl rfl (ab rfl rfl rfl rfl) (cQ s hs) (hW.dice (.refl _) hd18) om rfl (fun v23 V23 hle23 hW23 hS23 hs23 ht23 hp23=>?_)
   dsimp only at hle23 hS23 hs23 ht23 hp23
   obtain⟨i23,rfl⟩:=hp23
   refine pS ?_;refine zY ?_
   refine aC (F:=F) (V:=V23) (m:=m+1) [(b6,_),(b5,_)] rfl rfl (ab rfl rfl rfl rfl) (fR ⟨2,[],[],[],[],i23,none,0,0,none,0,0,none,0,0, -1⟩ ⟨.nil,.nil,.nil,.nil,.nil,.nil,.nil,Nat.zero_le _,Nat.zero_le _,Nat.zero_le _⟩) hW23 om rfl (fun v27 V27 hle27 hW27 hS27 hs27 ht27 hp27=>?_)
   obtain⟨rfl,hn27⟩:=hp27
   refine TL.nil (ai (TC.ret (aF ?_)))
   exact bF (V':=V27) (X:=[(b6,_),(b5,_)]) (.inr rfl) (cq rfl) rfl rfl (hW27.more om) (hS23.trans (hS27)) (by(try dsimp only);omega) (by(try dsimp only);omega) rfl
  refine dn ?_
  exact TC.ret (aF (bF (V':={V with at_:=at18}) (X:=[(b5,_)]) (.inr rfl) (cq rfl) rfl rfl ((hW.dice (.refl _) hd18).more om) (.refl _) (by(try dsimp only);omega) (by(try dsimp only);omega) rfl))
 refine gp ?_;refine el ?_;refine TL.run (bR rfl) rfl (iN ?_)
 refine aI (X:=[(b5,_),(F.bw,_)]) (bd:=F.bd) rfl (ab rfl rfl rfl rfl) (bq 3 om hW.d) rfl (fun v32 H32 at32 hle32 hd32 hp32=>?_)
 obtain⟨rfl,r32,rfl,hr32⟩:=hp32
 refine zm1 ?_
 refine af rfl ?_ ?_<;>intro c33
 ·
  refine zm2 ?_;refine ar (ab rfl rfl rfl rfl) (du 9) rfl (TL.alloc rfl (fun b7=>?_))
  refine sY ?_;refine rk ?_;refine gL ?_
  refine aC (F:=F) (V:={V with at_:=at32}) (m:=m) [(b7,_),(b5,_)] rfl rfl (ab rfl rfl rfl rfl) (fR ⟨9,s,[],[],[], -1,none,0,0,none,0,0,none,0,0, -1⟩ ⟨hs,.nil,.nil,.nil,.nil,.nil,.nil,Nat.zero_le _,Nat.zero_le _,Nat.zero_le _⟩) (hW.dice (.refl _) hd32) om rfl (fun v39 V39 hle39 hW39 hS39 hs39 ht39 hp39=>?_)
  dsimp only at hle39 hS39 hs39 ht39 hp39
  obtain⟨rfl,hn39⟩:=hp39
  refine TL.nil (ai (TC.ret (aF ?_)))
  exact bF (V':=V39) (X:=[(b7,_),(b5,_)]) (.inr rfl) (cq rfl) rfl rfl (hW39.more om) hS39 (by(try dsimp only);omega) (by(try dsimp only);omega) rfl
 refine lm ?_;refine fj ?_
 refine aC (F:=F) (V:={V with at_:=at32}) (m:=m) [(b5,_)] rfl rfl (ab rfl rfl rfl rfl) (tS cn) (hW.dice (.refl _) hd32) om rfl (fun v44 V44 hle44 hW44 hS44 hs44 ht44 hp44=>?_)
 dsimp only at hle44 hS44 hs44 ht44 hp44
 obtain⟨p,rr,rfl,hp44,hr44⟩:=hp44
 have hG:=hW44.fx.pg p hp44
 have hrr:=hG.rl hr44
 have hn1:=hG.n1
 refine rf ?_
 refine TL.alloc rfl (fun b8=>?_)
 refine ga ?_;refine rG ?_;refine ar (ab rfl rfl rfl rfl) (du 7) rfl (TL.alloc rfl (fun b10=>?_))
 refine ik ?_;refine zZ ?_;refine Hn ?_;refine AR ?_;refine dO ?_
 refine TD.part 7 2 rfl rfl rfl ?_ ?_
 ·
  refine Hm ?_;refine wq ?_;refine wC ?_
  refine au rfl (aC (F:=F) (V:=V44) (m:=m+0) [(b10,_),(b8,_),(b5,_)] rfl rfl (ab rfl rfl rfl rfl) (cQ s hs) hW44 om rfl (fun v54 V54 hle54 hW54 hS54 hs54 ht54 hp54=>?_))
  obtain⟨i54,rfl⟩:=hp54
  exact ax (S1 (S1 (S1 SN))) hle54 (zq686)
 refine Hl ?_;refine Aj ?_
 refine aC (F:=F) (V:=V44) (m:=m+0) [(b10,_),(b8,_),(b5,_)] rfl rfl (ab rfl rfl rfl rfl) (cQ s hs) hW44 om rfl (fun v54 V54 hle54 hW54 hS54 hs54 ht54 hp54=>?_)
 obtain⟨i54,rfl⟩:=hp54
 refine ax (S1 (S1 (S1 SN))) hle54 (wC ?_)
 exact zq686
theorem Fg {F:Fx}{V:WV}:
  WFn Tryz.prog F V 128 [] 20 (fun v V1=>v= .tuple #[]∧V.sn<V1.sn):=by
 refine WFn.enter Tryz.func128 Tryz.ntmps128 rfl rfl (fun m w0 hW hm=>?_)
 refine zm2 ?_;refine ar (ab rfl rfl rfl rfl) (du 3) rfl (TL.alloc rfl (fun b2=>?_))
 refine ik ?_;refine dH ?_
 refine aC (F:=F) (V:=V) (m:=m) [(b2,_)] rfl rfl (ab rfl rfl rfl rfl) (fE 0) hW om rfl (fun v9 V9 hle9 hW9 hS9 hs9 ht9 hp9=>?_)
 obtain⟨i9,rfl⟩:=hp9
 refine zm0 ?_
 refine aC (F:=F) (V:=V9) (m:=m+1) [(b2,_)] rfl rfl (ab rfl rfl rfl rfl) (cQ [110] (.inr (.inr (.inl rfl)))) hW9 om rfl (fun v11 V11 hle11 hW11 hS11 hs11 ht11 hp11=>?_)
 obtain⟨i11,rfl⟩:=hp11
 refine aC (F:=F) (V:=V11) (m:=m+1+1) [(b2,_)] rfl rfl (ab rfl rfl rfl rfl) (fS 12 i9 i11) hW11 om rfl (fun v12 V12 hle12 hW12 hS12 hs12 ht12 hp12=>?_)
 obtain⟨i12,rfl⟩:=hp12
 refine rk ?_;refine gL ?_
 refine aC (F:=F) (V:=V12) (m:=m+1+1+1) [(b2,_)] rfl rfl (ab rfl rfl rfl rfl) (gt ⟨3,[],[],[],[],i12,none,0,0,none,0,0,none,0,0, -1⟩ ⟨.nil,.nil,.nil,.nil,.nil,.nil,.nil,Nat.zero_le _,Nat.zero_le _,Nat.zero_le _⟩) hW12 om rfl (fun v16 V16 hle16 hW16 hS16 hs16 ht16 hp16=>?_)
 obtain⟨rfl,hn16⟩:=hp16
 refine wS ?_;refine zm461 ?_
 obtain⟨bw3,jw3,qw3,haw3,hbw3,hjw3⟩:=hW16.s.at om
 obtain⟨uw3,huw3,hcw3⟩:=hW16.bag.get (k:=10) (i:=(V12.sn:Int).toNat) (f:=8) hbw3 rfl hjw3 om rfl
 obtain⟨waw3,wnw3,wcw3,rfl,hww3,hwnw3⟩:=huw3
 have hnbw3:=hW16.nb
 refine jM ?_;refine xm ?_;refine oE ?_;refine xm ?_;refine zm6 ?_;refine az (di (tb:=3) rfl rfl haw3 om om) rfl (zm4 ?_)
 refine bg (lS rfl hcw3 (.s2 (.skip _ .all))) rfl (jM ?_);refine xm ?_;refine az (ij rfl rfl) rfl (eo ?_)
 refine aJ rfl rfl rfl rfl (fun b39=>?_)
 refine au rfl (jI (enc:=SWay.cells) (t:=1) rfl rfl rfl hW16.bag hww3 (Src.own [⟨[],[],_⟩] (.here _) rfl rfl) rfl (by intro y hy;rw [List.mem_singleton.1 hy];exact SWay.all (s:=⟨[],[],_⟩) .nil .nil) zt1 (by simp only [List.length_cons,List.length_nil];omega) rfl (.s3 (.skip _ .all)) rfl (fun S40 a40 c40 B40 hS40 hN40 hT40 hB40=>?_))
 change _=_+1 at hN40
 refine xl ?_;refine az (di (tb:=3) rfl rfl haw3 om om) rfl (zm4 ?_)
 refine au rfl (dS (t:=3) (f:=8) (ct:=.sl 1) rfl rfl (hW16.bagT hS40 hN40 hB40).bag (.s3 (.skip _ .all)) (hS40.1 _ _ hbw3) rfl hjw3 om rfl (⟨_,_,_,rfl,hT40,by simp only [List.length_cons,List.length_nil];omega⟩) rfl rfl (fun Bst1 hBst1=>?_))
 refine xl ?_;refine TF.nil (ai (zm2 ?_));refine ar (ab rfl rfl rfl rfl) (du 6) rfl (TL.alloc rfl (fun b4=>?_))
 refine sY ?_;refine gr ?_;refine nr ?_;refine rk ?_
 refine aC (F:=F) (V:={{V16 with S:=S40,B:=B40} with B:=Bst1}) (m:=m+1+1+1+1+1) [(b4,_),(b39,_),(b2,_)] rfl rfl (ab rfl rfl rfl rfl) (cQ [99] (.inr (.inl rfl))) ((hW16.bagT hS40 hN40 hB40).bagB hBst1) om rfl (fun v50 V50 hle50 hW50 hS50 hs50 ht50 hp50=>?_)
 dsimp only at hle50 hS50 hs50 ht50 hp50
 obtain⟨i50,rfl⟩:=hp50
 refine zm0 ?_
 refine aC (F:=F) (V:=V50) (m:=m+1+1+1+1+1+1) [(b4,_),(b39,_),(b2,_)] rfl rfl (ab rfl rfl rfl rfl) (HG) hW50 om rfl (fun v52 V52 hle52 hW52 hS52 hs52 ht52 hp52=>?_)
 obtain⟨i52,rfl⟩:=hp52
 refine aA rfl rfl rfl rfl (fun b53=>?_)
 refine qY ?_
 refine kb (enc:=I64.cells) (t:=4) (X:=[]) (Y:=[(b4,_),(b39,_),(b2,_),(F.bw,_),(F.bd,_)]) [_,_] rfl hW52.bag rfl rfl rfl (by intro y hy;exact⟨⟨_,rfl⟩,trivial⟩) (fun Sb53 Bb53 hSb53 hNb53 hbb53 hBb53=>?_)
 refine zm0 ?_;refine gL ?_
 refine aC (F:=F) (V:={V52 with S:=Sb53,B:=Bb53}) (m:=m+1+1+1+1+1+1+3) [(b4,_),(b39,_),(b2,_)] rfl rfl (ab rfl rfl rfl rfl) (gt ⟨6,[],[],[],F.self, -1,some ⟨b53,0,none⟩,2,2,none,0,0,none,0,0, -1⟩ ⟨.nil,.nil,.nil,hW.fx.sf,(SlT.blk hbb53 le2),.nil,.nil,(by have:=hW52.n10;dsimp only at *;omega),Nat.zero_le _,Nat.zero_le _⟩) (hW52.bagA hSb53 hNb53 hBb53) om rfl (fun v57 V57 hle57 hW57 hS57 hs57 ht57 hp57=>?_)
 dsimp only at hle57 hS57 hs57 ht57 hp57
 obtain⟨rfl,hn57⟩:=hp57
 refine jo ?_
 refine aC (F:=F) (V:=V57) (m:=m+1+1+1+1+1+1+3+1) [(b4,_),(b39,_),(b2,_)] rfl rfl (ab rfl rfl rfl rfl) (pU false) hW57 om rfl (fun v59 V59 hle59 hW59 hS59 hs59 ht59 hp59=>?_)
 obtain⟨rfl,hn59⟩:=hp59
 refine zm1 ?_;refine dO ?_;refine zm439 ?_
 obtain⟨bw9,jw9,qw9,haw9,hbw9,hjw9⟩:=hW59.s.at om
 obtain⟨uw9,huw9,hcw9⟩:=hW59.bag.get (k:=10) (i:=(V12.sn:Int).toNat) (f:=8) hbw9 rfl hjw9 om rfl
 obtain⟨waw9,wnw9,wcw9,rfl,hww9,hwnw9⟩:=huw9
 have hnbw9:=hW59.nb
 refine jM ?_;refine k6 ?_;refine oE ?_;refine k6 ?_;refine zm6 ?_;refine az (di (tb:=3) rfl rfl haw9 om om) rfl (zm4 ?_)
 refine bg (lS rfl hcw9 (.s4 (.skip _ .all))) rfl (Af ?_)
 refine aJ rfl rfl rfl rfl (fun b77=>?_)
 refine au rfl (jI (enc:=SWay.cells) (t:=1) rfl rfl rfl hW59.bag hww9 (Src.own [⟨[],[],_⟩] (.here _) rfl rfl) rfl (by intro y hy;rw [List.mem_singleton.1 hy];exact SWay.all (s:=⟨[],[],_⟩) .nil .nil) zt1 (by simp only [List.length_cons,List.length_nil];omega) rfl (.s5 (.skip _ .all)) rfl (fun S78 a78 c78 B78 hS78 hN78 hT78 hB78=>?_))
 change _=_+1 at hN78
 refine qP ?_;refine az (di (tb:=3) rfl rfl haw9 om om) rfl (zm4 ?_)
 refine au rfl (dS (t:=3) (f:=8) (ct:=.sl 1) rfl rfl (hW59.bagT hS78 hN78 hB78).bag (.s5 (.skip _ .all)) (hS78.1 _ _ hbw9) rfl hjw9 om rfl (⟨_,_,_,rfl,hT78,by simp only [List.length_cons,List.length_nil];omega⟩) rfl rfl (fun Bst2 hBst2=>?_))
 refine qP ?_
 exact TF.nil (bF (V':={{V59 with S:=S78,B:=B78} with B:=Bst2}) (X:=[(b77,_),(b4,_),(b39,_),(b2,_)]) (.inl rfl) (cq rfl) rfl rfl (((hW59.bagT hS78 hN78 hB78).bagB hBst2).more om) (hS9.trans (hS11.trans (hS12.trans (hS16.trans (hS40.trans (hS50.trans (hS52.trans (hSb53.trans (hS57.trans (hS59.trans (hS78))))))))))) (by(try dsimp only);omega) (by(try dsimp only);omega) ⟨rfl,by(try dsimp only);omega⟩)
theorem tT {F:Fx}{V:WV}{T:SLocal}(hG:TG F T)(turn arm deep:Int){K:Nat}(h0:0≤turn)(h1:turn<T.turns.length)(harm:∀t,T.turns[turn.toNat]? =some t→0≤arm∧arm<t.arms.length)(ih:∀(V:WV) (turn:Int),0≤turn→turn<T.turns.length→WFn Tryz.prog F V 69 [.int .i64 turn,.int .i64 (deep+1)] K (fun v V1=>v= .tuple #[]∧V.sn<V1.sn))(hK:K≤9000000)(hdp:0≤deep∧deep≤100):
  WFn Tryz.prog F V 131 [.int .i64 turn,.int .i64 arm,.int .i64 deep] (K+20) (fun v V1=>v= .int .i64 (V.sn:Int)∧V.sn<V1.sn):=by
 refine WFn.enter Tryz.func131 Tryz.ntmps131 rfl rfl (fun m w0 hW hm=>?_)
 have hGg:=hG.g
 have hr1:=hG.r1
 have hr0:=hG.r0
 have hty:=hW.fx.ty
 have htk:=hW.fx.tk T (List.mem_of_getElem? hGg)
 have hts:=htk.t
 have htm:=hts.max
 obtain⟨t,htx⟩:=aj (l:=T.turns) h0 h1
 have hTt:=hG.ts t (List.mem_of_getElem? htx)
 have hta:=(htk.ts t (List.mem_of_getElem? htx)).a
 have ha6:=hTt.a6
 have ham:=hta.max
 have hKB:=hK
 obtain⟨q0,q1⟩:=harm t htx
 obtain⟨x,hax⟩:=aj (l:=t.arms) q0 q1
 have hxm:=List.mem_of_getElem? hax
 have hxn:=hTt.nx x hxm
 refine oF ?_;refine gr ?_;refine fj ?_;refine lz ?_;refine wS ?_;refine Hj ?_;refine wB ?_;refine wB ?_;refine az (ae rfl hty rfl om om) rfl (zm4 ?_)
 refine aO (S1 (S1 SN)) (Hp.le.refl _) (fun _ _=>aT hty hGg rfl rfl) rfl (zm6 ?_)
 refine az (ae rfl hts rfl om om) rfl (aO (S1 (S1 SN)) (Hp.le.refl _) (fun _ _=>aY hts htx rfl rfl) rfl (TF.alloc rfl (fun b10=>?_)))
 refine zW ?_;refine TF.nil (ai (zI ?_));refine TL.run (ae rfl hta rfl om om) rfl (TL.run (aY hta hax rfl rfl) rfl (TL.alloc rfl (fun b11=>?_)))
 refine wX ?_;refine ar (ab rfl rfl rfl rfl) (du 4) rfl (TL.alloc rfl (fun b12=>?_))
 refine qX ?_;refine aU [false,true,true,true,true] [(0,1),(1,4),(2,1),(3,4),(4,1),(5,5),(6,1),(7,5),(8,1),(9,0)] kr kr (zm4 ?_)
 refine aO (S0 (S1 (S1 (S1 (S1 SN))))) (Hp.le.refl _) (fun _ _=>aE rfl (.h1) rfl) rfl (zm4 ?_)
 refine aO (S0 (S1 (S1 (S1 (S1 SN))))) (Hp.le.refl _) (fun _ _=>aE rfl (.here _) rfl) rfl (zV ?_);refine wA ?_;refine zV ?_;refine wA ?_;refine gV ?_;refine io ?_;refine kY ?_
 refine TC.seq (mY ?_);refine iN ?_;refine xk ?_
 refine af rfl ?_ ?_<;>intro c57
 ·
  refine TC.skip (bn (ai (el ?_)));refine gL ?_
  refine aC (F:=F) (V:=V) (m:=m) [(b12,_),(b11,_),(b10,_)] rfl rfl (ab rfl rfl rfl rfl) (fR ⟨4,[99],t.peer,x.label,[],(-1),none,0,0,none,0,0,none,0,0, -1⟩ ⟨(.inr (.inl rfl)),hTt.peer,(hTt.lb x hxm),.nil,.nil,.nil,.nil,Nat.zero_le _,Nat.zero_le _,Nat.zero_le _⟩) hW om rfl (fun v78 V78 hle78 hW78 hS78 hs78 ht78 hp78=>?_)
  obtain⟨rfl,hn78⟩:=hp78
  refine jo ?_;refine kH ?_;refine kQ ?_
  refine aC (F:=F) (V:=V78) (m:=m+1) [(b12,_),(b11,_),(b10,_)] rfl rfl (ab rfl rfl rfl rfl) (ih _ x.next hxn.1 hxn.2) hW78 om rfl (fun v84 V84 hle84 hW84 hS84 hs84 ht84 hp84=>?_)
  obtain⟨rfl,hn84⟩:=hp84
  refine zX ?_
  exact bF (V':=V84) (X:=[(b12,_),(b11,_),(b10,_)]) (.inr rfl) (ad rfl (RVal.tmp rfl)) rfl rfl (hW84.more om) (hS78.trans (hS84)) (by(try dsimp only);omega) (by(try dsimp only);omega) ⟨rfl,by(try dsimp only);omega⟩
 refine eE ?_
 refine af rfl ?_ ?_<;>intro c59
 ·
  refine el ?_;refine zm5 ?_;refine iN ?_
  refine aC (F:=F) (V:=V) (m:=m) [(b12,_),(b11,_),(b10,_)] rfl rfl (ab rfl rfl rfl rfl) (tS x.cn) hW om rfl (fun v66 V66 hle66 hW66 hS66 hs66 ht66 hp66=>?_)
  obtain⟨p,rr,rfl,hp66,hr66⟩:=hp66
  have hGp:=hW66.fx.pg p hp66
  have hrr:=hGp.rl hr66
  refine rf ?_
  refine TL.alloc rfl (fun b13=>?_)
  refine ga ?_;refine zm1 ?_;refine mW ?_;refine gL ?_;refine zm0 ?_
  refine aC (F:=F) (V:=V66) (m:=m+0) [(b13,_),(b12,_),(b11,_),(b10,_)] rfl rfl (ab rfl rfl rfl rfl) (xq p rr (hW66.fx.pk p hp66) hGp (Nat.le_trans hrr dq)) hW66 om rfl (fun v73 V73 hle73 hW73 hS73 hs73 ht73 hp73=>?_)
  obtain⟨s73,rfl,hv73⟩:=hp73
  refine aC (F:=F) (V:=V73) (m:=m+0+12) [(b13,_),(b12,_),(b11,_),(b10,_)] rfl rfl (ab rfl rfl rfl rfl) (cQ s73 hv73) hW73 om rfl (fun v74 V74 hle74 hW74 hS74 hs74 ht74 hp74=>?_)
  obtain⟨i74,rfl⟩:=hp74
  refine zN ?_;refine TL.nil (bn (ai (el ?_)));refine ng ?_
  refine aC (F:=F) (V:=V74) (m:=m+0+12+1) [(b13,_),(b12,_),(b11,_),(b10,_)] rfl rfl (ab rfl rfl rfl rfl) (fR ⟨4,[99],t.peer,x.label,[],i74,none,0,0,none,0,0,none,0,0, -1⟩ ⟨(.inr (.inl rfl)),hTt.peer,(hTt.lb x hxm),.nil,.nil,.nil,.nil,Nat.zero_le _,Nat.zero_le _,Nat.zero_le _⟩) hW74 om rfl (fun v78 V78 hle78 hW78 hS78 hs78 ht78 hp78=>?_)
  obtain⟨rfl,hn78⟩:=hp78
  refine jo ?_;refine sX ?_;refine kQ ?_
  refine aC (F:=F) (V:=V78) (m:=m+0+12+1+1) [(b13,_),(b12,_),(b11,_),(b10,_)] rfl rfl (ab rfl rfl rfl rfl) (ih _ x.next hxn.1 hxn.2) hW78 om rfl (fun v84 V84 hle84 hW84 hS84 hs84 ht84 hp84=>?_)
  obtain⟨rfl,hn84⟩:=hp84
  refine zX ?_
  exact bF (V':=V84) (X:=[(b13,_),(b12,_),(b11,_),(b10,_)]) (.inr rfl) (ad rfl (RVal.tmp rfl)) rfl rfl (hW84.more om) (hS66.trans (hS73.trans (hS74.trans (hS78.trans (hS84))))) (by(try dsimp only);omega) (by(try dsimp only);omega) ⟨rfl,by(try dsimp only);omega⟩
 refine jz ?_;refine zm5 ?_;refine iN ?_
 refine aC (F:=F) (V:=V) (m:=m) [(b12,_),(b11,_),(b10,_)] rfl rfl (ab rfl rfl rfl rfl) (HI x.ck) hW om rfl (fun v55 V55 hle55 hW55 hS55 hs55 ht55 hp55=>?_)
 obtain⟨i55,rfl⟩:=hp55
 refine zm5 ?_;refine io ?_;refine TL.nil (bn (ai (el ?_)));refine gL ?_
 refine aC (F:=F) (V:=V55) (m:=m+3) [(b12,_),(b11,_),(b10,_)] rfl rfl (ab rfl rfl rfl rfl) (fR ⟨4,[99],t.peer,x.label,[],i55,none,0,0,none,0,0,none,0,0, -1⟩ ⟨(.inr (.inl rfl)),hTt.peer,(hTt.lb x hxm),.nil,.nil,.nil,.nil,Nat.zero_le _,Nat.zero_le _,Nat.zero_le _⟩) hW55 om rfl (fun v78 V78 hle78 hW78 hS78 hs78 ht78 hp78=>?_)
 obtain⟨rfl,hn78⟩:=hp78
 refine jo ?_;refine kH ?_;refine kQ ?_
 refine aC (F:=F) (V:=V78) (m:=m+3+1) [(b12,_),(b11,_),(b10,_)] rfl rfl (ab rfl rfl rfl rfl) (ih _ x.next hxn.1 hxn.2) hW78 om rfl (fun v84 V84 hle84 hW84 hS84 hs84 ht84 hp84=>?_)
 obtain⟨rfl,hn84⟩:=hp84
 refine zX ?_
 exact bF (V':=V84) (X:=[(b12,_),(b11,_),(b10,_)]) (.inr rfl) (ad rfl (RVal.tmp rfl)) rfl rfl (hW84.more om) (hS55.trans (hS78.trans (hS84))) (by(try dsimp only);omega) (by(try dsimp only);omega) ⟨rfl,by(try dsimp only);omega⟩
theorem Ff {F:Fx}{V:WV}{T:SLocal}(hG:TG F T)(turn deep:Int){K:Nat}(h0:0≤turn)(h1:turn<T.turns.length)(ih:∀(V:WV) (turn:Int),0≤turn→turn<T.turns.length→WFn Tryz.prog F V 69 [.int .i64 turn,.int .i64 (deep+1)] K (fun v V1=>v= .tuple #[]∧V.sn<V1.sn))(hK:K≤9000000)(hdp:0≤deep∧deep≤100):
  WFn Tryz.prog F V 129 [.int .i64 turn,.int .i64 deep] (6 * (K+40)+20) (fun v V1=>v= .tuple #[]∧V.sn<V1.sn):=by
 refine WFn.enter Tryz.func129 Tryz.ntmps129 rfl rfl (fun m w0 hW hm=>?_)
 have hGg:=hG.g
 have hr1:=hG.r1
 have hr0:=hG.r0
 have hty:=hW.fx.ty
 have htk:=hW.fx.tk T (List.mem_of_getElem? hGg)
 have hts:=htk.t
 have htm:=hts.max
 obtain⟨t,htx⟩:=aj (l:=T.turns) h0 h1
 have hTt:=hG.ts t (List.mem_of_getElem? htx)
 have hta:=(htk.ts t (List.mem_of_getElem? htx)).a
 have ha6:=hTt.a6
 have ham:=hta.max
 have hKB:=hK
 have hta0:=hta
 refine rA ?_;refine Hj ?_;refine wB ?_;refine wB ?_;refine az (ae rfl hty rfl om om) rfl (zm4 ?_)
 refine aO (S1 (S1 SN)) (Hp.le.refl _) (fun _ _=>aT hty hGg rfl rfl) rfl (zm6 ?_)
 refine az (ae rfl hts rfl om om) rfl (aO (S1 (S1 SN)) (Hp.le.refl _) (fun _ _=>aY hts htx rfl rfl) rfl (TF.alloc rfl (fun b6=>?_)))
 refine zW ?_;refine TF.nil (ai (zm2 ?_));refine ar (ab rfl rfl rfl rfl) (du 5) rfl (TL.alloc rfl (fun b7=>?_))
 refine qX ?_;refine aU [false,true,true,true] [(0,1),(1,4),(2,1),(3,5),(4,1),(5,0)] kr kr (zm4 ?_)
 refine aO (S0 (S1 (S1 (S1 SN)))) (Hp.le.refl _) (fun _ _=>aE rfl (.here _) rfl) rfl (zV ?_);refine xl ?_;refine gV ?_;refine io ?_;refine kY ?_;refine el ?_;refine gL ?_
 refine aC (F:=F) (V:=V) (m:=m) [(b7,_),(b6,_)] rfl rfl (ab rfl rfl rfl rfl) (gt ⟨5,[99],t.peer,[],[], -1,none,0,0,none,0,0,none,0,0, -1⟩ ⟨(.inr (.inl rfl)),hTt.peer,.nil,.nil,.nil,.nil,.nil,Nat.zero_le _,Nat.zero_le _,Nat.zero_le _⟩) hW om rfl (fun v34 V34 hle34 hW34 hS34 hs34 ht34 hp34=>?_)
 replace hta:=hta.le hle34
 obtain⟨rfl,hn34⟩:=hp34
 refine kh ?_
 refine vI (V:=fun(k:Int) (V1:WV) (r:Rw)=>[(9,.int .i64 k)]) (K:=[(0,_),(2,_),(6,_),(8,_)]) (L:=fun k V1 r=>St (keys (F.L V)) w0 V.H V1.H ((b7,TStep.cells ⟨5,[99],t.peer,[],[], -1,none,0,0,none,0,0,none,0,0, -1⟩)::(b6,t.cells)::Fx.L F V1)) (I:=fun k V1 r=>WI F V1 (m+1+k.toNat * (K+40))∧(0≤k∧k≤t.arms.length)∧V.H.le V1.H∧V.S.le V1.S∧V.sn<V1.sn∧V.tn≤V1.tn) (μ:=fun k=>(t.arms.length - k).toNat) 0 V34 ⟨none,0,0⟩ ky (⟨by simpa using hW34,o2q,hle34,hS34,by omega,ht34⟩) (fun w hw=>hw) (fun k V1 r hI=>?_)
 obtain⟨hI1,⟨k0,k1⟩,hI3,hI4,hI5,hI6⟩:=hI
 replace hta:=hta0.le hI3
 refine kU ?_;refine TL.run (ah rfl rfl hta) rfl (zm1 ?_)
 refine af rfl ?_ ?_<;>intro c39
 ·
  obtain⟨x,hax⟩:=aj (l:=t.arms) k0 c39
  have hxm:=List.mem_of_getElem? hax
  have hxn:=hTt.nx x hxm
  have hml:=cmul_le (c:=K+40) (n:=6) k0 om
  have hmu:=cmul (c:=K+40) k0
  refine te ?_;refine aU [true,true,true,true] [(0,1),(1,4),(2,1),(3,1),(4,1),(5,4),(6,1),(7,1),(8,1),(9,1),(10,4),(11,1),(12,1),(13,3),(14,5)] kr kr (zL ?_)
  refine zm6 ?_;refine az (ae rfl hta rfl om om) rfl (zm4 ?_);refine aO (S1 (S1 (S1 (S1 SN)))) (Hp.le.refl _) (fun _ _=>aT hta hax rfl rfl) rfl (jM ?_);refine zm4 ?_;refine Hi ?_
  refine az (ij rfl rfl) rfl (eo ?_)
  refine TF.alloc rfl (fun b10=>?_)
  refine au rfl (ga ?_);refine wA ?_;refine TF.nil (ai (TC.seq (zm2 ?_)));refine sX ?_;refine TL.run (ae rfl hta rfl om om) rfl (zm5 ?_);refine zm5 ?_
  refine TL.run (pr_el2 hta hax rfl rfl) rfl (zm1 ?_)
  refine aV rfl ?_ ?_<;>intro c62
  ·
   refine el ?_
   refine aC (F:=F) (V:=V1) (m:=m+1+k.toNat * (K+40)) [(b10,_),(b7,_),(b6,_)] rfl rfl (ab rfl rfl rfl rfl) (xr) hI1 om rfl (fun v64 V64 hle64 hW64 hS64 hs64 ht64 hp64=>?_)
   replace hta:=hta.le hle64
   obtain⟨s64,rfl,hv64⟩:=hp64
   refine pS ?_;refine dO ?_;refine aU [true,true,true,false,false] [(0,1),(1,1),(2,4),(3,1),(4,4),(5,1),(6,1),(7,1),(8,4),(9,5)] kr kr (kK ?_);refine zU ?_
   refine zm4 ?_;refine qO ?_;refine zm6 ?_;refine az (ae rfl hta rfl om om) rfl (zm4 ?_)
   refine aO (S1 (S1 (S1 SN))) (Hp.le.refl _) (fun _ _=>qn hta hax rfl rfl) rfl (au rfl (aC (F:=F) (V:=V64) (m:=m+1+k.toNat * (K+40)+1) [(b10,_),(b7,_),(b6,_)] rfl rfl (ab rfl rfl rfl rfl) (HF s64 hv64 x.ck x.cn) hW64 om rfl (fun v75 V75 hle75 hW75 hS75 hs75 ht75 hp75=>?_)))
   replace hta:=hta.le hle75
   obtain rfl:=hp75
   refine ax (S1 (S1 (S1 SN))) hle75 (TF.nil (ai (el ?_)));refine sX ?_;refine TL.run (ae rfl hta rfl om om) rfl (zm5 ?_);refine TL.run (aT hta hax rfl rfl) rfl (zm0 ?_);refine kQ ?_
   refine aC (F:=F) (V:=V75) (m:=m+1+k.toNat * (K+40)+1+12) [(b10,_),(b7,_),(b6,_)] rfl rfl (ab rfl rfl rfl rfl) (ih _ x.next hxn.1 hxn.2) hW75 om rfl (fun v85 V85 hle85 hW85 hS85 hs85 ht85 hp85=>?_)
   obtain⟨rfl,hn85⟩:=hp85
   refine TL.nil (ai (dO ?_));refine zm440 ?_
   obtain⟨bw12,jw12,qw12,haw12,hbw12,hjw12⟩:=hW85.s.at om
   obtain⟨uw12,huw12,hcw12⟩:=hW85.bag.get (k:=10) (i:=(V.sn:Int).toNat) (f:=8) hbw12 rfl hjw12 om rfl
   obtain⟨waw12,wnw12,wcw12,rfl,hww12,hwnw12⟩:=huw12
   have hnbw12:=hW85.nb
   refine jM ?_;refine k6 ?_;refine oE ?_;refine k6 ?_;refine zm6 ?_;refine D0 ?_;refine zm4 ?_
   refine bg (lS rfl hcw12 (.s4 (.skip _ .all))) rfl (aO (S1 (S1 (S1 (S1 (S1 SN))))) (Hp.le.refl _) (fun _ _=>bA rfl (.here _) rfl) rfl (aJ rfl rfl rfl rfl (fun b102=>?_)))
   refine au rfl (jI (enc:=SWay.cells) (t:=1) rfl rfl rfl hW85.bag hww12 (Src.own [⟨x.label,s64,_⟩] (.here _) rfl rfl) rfl (by intro y hy;rw [List.mem_singleton.1 hy];exact SWay.all (s:=⟨x.label,s64,_⟩) (hTt.lb x hxm) hv64) zt1 (by simp only [List.length_cons,List.length_nil];omega) rfl (.s5 (.skip _ .all)) rfl (fun S103 a103 c103 B103 hS103 hN103 hT103 hB103=>?_))
   change _=_+1 at hN103
   refine qP ?_;refine D0 ?_;refine zm4 ?_
   refine au rfl (dS (t:=3) (f:=8) (ct:=.sl 1) rfl rfl (hW85.bagT hS103 hN103 hB103).bag (.s5 (.skip _ .all)) (hS103.1 _ _ hbw12) rfl hjw12 om rfl (⟨_,_,_,rfl,hT103,by simp only [List.length_cons,List.length_nil];omega⟩) rfl rfl (fun Bst1 hBst1=>?_))
   refine qP ?_;refine wH ?_
   exact iU (k+1) ({{V85 with S:=S103,B:=B103} with B:=Bst1}) r (⟨((hW85.bagT hS103 hN103 hB103).bagB hBst1).more om,o2q,(((hI3.trans hle64).trans hle75).trans hle85),(hI4.trans (hS64.trans (hS75.trans (hS85.trans (hS103))))),by(try dsimp only);omega,by(try dsimp only);omega⟩) ky (fun w hw=>hw.drop.drop) om
  refine lm ?_;refine sX ?_;refine TL.run (ae rfl hta rfl om om) rfl (zm5 ?_);refine TL.run (aT hta hax rfl rfl) rfl (zm0 ?_);refine kQ ?_
  refine aC (F:=F) (V:=V1) (m:=m+1+k.toNat * (K+40)) [(b10,_),(b7,_),(b6,_)] rfl rfl (ab rfl rfl rfl rfl) (ih _ x.next hxn.1 hxn.2) hI1 om rfl (fun v85 V85 hle85 hW85 hS85 hs85 ht85 hp85=>?_)
  obtain⟨rfl,hn85⟩:=hp85
  refine TL.nil (ai (dO ?_));refine zm440 ?_
  obtain⟨bw12,jw12,qw12,haw12,hbw12,hjw12⟩:=hW85.s.at om
  obtain⟨uw12,huw12,hcw12⟩:=hW85.bag.get (k:=10) (i:=(V.sn:Int).toNat) (f:=8) hbw12 rfl hjw12 om rfl
  obtain⟨waw12,wnw12,wcw12,rfl,hww12,hwnw12⟩:=huw12
  have hnbw12:=hW85.nb
  refine jM ?_;refine k6 ?_;refine oE ?_;refine k6 ?_;refine zm6 ?_;refine D0 ?_;refine zm4 ?_
  refine bg (lS rfl hcw12 (.s4 (.skip _ .all))) rfl (aO (S1 (S1 (S1 (S1 (S1 SN))))) (Hp.le.refl _) (fun _ _=>bA rfl (.here _) rfl) rfl (aJ rfl rfl rfl rfl (fun b102=>?_)))
  refine au rfl (jI (enc:=SWay.cells) (t:=1) rfl rfl rfl hW85.bag hww12 (Src.own [⟨x.label,[],_⟩] (.here _) rfl rfl) rfl (by intro y hy;rw [List.mem_singleton.1 hy];exact SWay.all (s:=⟨x.label,[],_⟩) (hTt.lb x hxm) .nil) zt1 (by simp only [List.length_cons,List.length_nil];omega) rfl (.s5 (.skip _ .all)) rfl (fun S103 a103 c103 B103 hS103 hN103 hT103 hB103=>?_))
  change _=_+1 at hN103
  refine qP ?_;refine D0 ?_;refine zm4 ?_
  refine au rfl (dS (t:=3) (f:=8) (ct:=.sl 1) rfl rfl (hW85.bagT hS103 hN103 hB103).bag (.s5 (.skip _ .all)) (hS103.1 _ _ hbw12) rfl hjw12 om rfl (⟨_,_,_,rfl,hT103,by simp only [List.length_cons,List.length_nil];omega⟩) rfl rfl (fun Bst1 hBst1=>?_))
  refine qP ?_;refine wH ?_
  exact iU (k+1) ({{V85 with S:=S103,B:=B103} with B:=Bst1}) r (⟨((hW85.bagT hS103 hN103 hB103).bagB hBst1).more om,o2q,(hI3.trans hle85),(hI4.trans (hS85.trans (hS103))),by(try dsimp only);omega,by(try dsimp only);omega⟩) ky (fun w hw=>hw.drop.drop) om
 have hml:k.toNat * (K+40)≤6 * (K+40):=Nat.mul_le_mul_right _ om
 refine tL ?_;refine TL.run (bR rfl) rfl (mZ ?_)
 refine aI (X:=[(b7,_),(b6,_),(F.bw,_)]) (bd:=F.bd) rfl (ab rfl rfl rfl rfl) (bq 3 om hI1.d) rfl (fun v110 H110 at110 hle110 hd110 hp110=>?_)
 obtain⟨rfl,r110,rfl,hr110⟩:=hp110
 refine zm1 ?_
 refine af rfl ?_ ?_<;>intro c111
 ·
  refine el ?_;refine gr ?_;refine mZ ?_;refine lz ?_;refine dN ?_
  refine TL.alloc rfl (fun b11=>?_)
  refine wX ?_;refine ar (ab rfl rfl rfl rfl) (du 2) rfl (TL.alloc rfl (fun b12=>?_))
  refine sY ?_;refine dN ?_
  refine aC (F:=F) (V:={V1 with at_:=at110}) (m:=m+1+k.toNat * (K+40)) [(b12,_),(b11,_),(b7,_),(b6,_)] rfl rfl (ab rfl rfl rfl rfl) (iY ⟨3,[],0,[108,111,115,116], -1, -1⟩ .nil (by simp [AnyNm])) (hI1.dice (.refl _) hd110) om rfl (fun v122 V122 hle122 hW122 hS122 hs122 ht122 hp122=>?_)
  dsimp only at hle122 hS122 hs122 ht122 hp122
  obtain⟨i122,rfl⟩:=hp122
  refine rk ?_;refine gL ?_
  refine aC (F:=F) (V:=V122) (m:=m+1+k.toNat * (K+40)+1) [(b12,_),(b11,_),(b7,_),(b6,_)] rfl rfl (ab rfl rfl rfl rfl) (fR ⟨2,[],[],[],[],i122,none,0,0,none,0,0,none,0,0, -1⟩ ⟨.nil,.nil,.nil,.nil,.nil,.nil,.nil,Nat.zero_le _,Nat.zero_le _,Nat.zero_le _⟩) hW122 om rfl (fun v126 V126 hle126 hW126 hS126 hs126 ht126 hp126=>?_)
  obtain⟨rfl,hn126⟩:=hp126
  refine jo ?_
  refine ar (ab rfl rfl rfl rfl) (du 0) rfl (aC (F:=F) (V:=V126) (m:=m+1+k.toNat * (K+40)+1+1) [(b12,_),(b11,_),(b7,_),(b6,_)] rfl rfl (ab rfl rfl rfl rfl) (gt ⟨0,[],[],[],[], -1,none,0,0,none,0,0,none,0,0, -1⟩ ⟨.nil,.nil,.nil,.nil,.nil,.nil,.nil,Nat.zero_le _,Nat.zero_le _,Nat.zero_le _⟩) hW126 om rfl (fun v129 V129 hle129 hW129 hS129 hs129 ht129 hp129=>?_))
  obtain⟨rfl,hn129⟩:=hp129
  refine TL.nil (ai (dO ?_));refine zm462 ?_
  obtain⟨bw19,jw19,qw19,haw19,hbw19,hjw19⟩:=hW129.s.at om
  obtain⟨uw19,huw19,hcw19⟩:=hW129.bag.get (k:=10) (i:=(V.sn:Int).toNat) (f:=8) hbw19 rfl hjw19 om rfl
  obtain⟨waw19,wnw19,wcw19,rfl,hww19,hwnw19⟩:=huw19
  have hnbw19:=hW129.nb
  refine jM ?_;refine zm4 ?_;refine zm441 ?_;refine oE ?_;refine zm4 ?_;refine zm441 ?_;refine zm6 ?_;refine az (di (tb:=3) rfl rfl haw19 om om) rfl (zm4 ?_)
  refine bg (lS rfl hcw19 (.s5 (.skip _ .all))) rfl (aO (S1 (S1 (S1 (S1 (S1 (S1 SN)))))) (Hp.le.refl _) (fun _ _=>bA rfl (.h1) rfl) rfl (aJ rfl rfl rfl rfl (fun b146=>?_)))
  refine au rfl (jI (enc:=SWay.cells) (t:=1) rfl rfl rfl hW129.bag hww19 (Src.own [⟨[],[],_⟩] (.here _) rfl rfl) rfl (by intro y hy;rw [List.mem_singleton.1 hy];exact SWay.all (s:=⟨[],[],_⟩) .nil .nil) zt1 (by simp only [List.length_cons,List.length_nil];omega) rfl (.s6 (.skip _ .all)) rfl (fun S147 a147 c147 B147 hS147 hN147 hT147 hB147=>?_))
  change _=_+1 at hN147
  refine ax (S0 (S1 (S1 (S1 (S1 (S1 (S1 SN))))))) (Hp.le.refl _) (az (di (tb:=3) rfl rfl haw19 om om) rfl (zm4 ?_))
  refine au rfl (dS (t:=3) (f:=8) (ct:=.sl 1) rfl rfl (hW129.bagT hS147 hN147 hB147).bag (.s6 (.skip _ .all)) (hS147.1 _ _ hbw19) rfl hjw19 om rfl (⟨_,_,_,rfl,hT147,by simp only [List.length_cons,List.length_nil];omega⟩) rfl rfl (fun Bst1 hBst1=>?_))
  exact ax (S0 (S1 (S1 (S1 (S1 (S1 (S1 SN))))))) (Hp.le.refl _) (TF.nil (bF (V':={{V129 with S:=S147,B:=B147} with B:=Bst1}) (X:=[(b146,_),(b12,_),(b11,_),(b7,_),(b6,_)]) (.inl rfl) (cq rfl) rfl rfl (((hW129.bagT hS147 hN147 hB147).bagB hBst1).more om) (hI4.trans (hS122.trans (hS126.trans (hS129.trans (hS147))))) (by(try dsimp only);omega) (by(try dsimp only);omega) ⟨rfl,by(try dsimp only);omega⟩))
 exact TC.skip (bF (V':={V1 with at_:=at110}) (X:=[(b7,_),(b6,_)]) (.inl rfl) (cq rfl) rfl rfl ((hI1.dice (.refl _) hd110).more om) hI4 (by(try dsimp only);omega) (by(try dsimp only);omega) ⟨rfl,by(try dsimp only);omega⟩)
theorem rJ {F:Fx}{V:WV}{T:SLocal}(hG:TG F T)(turn deep:Int){K:Nat}(h0:0≤turn)(h1:turn<T.turns.length)(ih:0≤deep→deep≤4→∀(V:WV) (turn:Int),0≤turn→turn<T.turns.length→WFn Tryz.prog F V 69 [.int .i64 turn,.int .i64 (deep+1)] K (fun v V1=>v= .tuple #[]∧V.sn<V1.sn))(hK:K≤9000000)(hdp:0≤deep∧deep≤100):
  WFn Tryz.prog F V 69 [.int .i64 turn,.int .i64 deep] (6 * (K+40)+60) (fun v V1=>v= .tuple #[]∧V.sn<V1.sn):=by
 refine WFn.enter Tryz.func69 Tryz.ntmps69 rfl rfl (fun m w0 hW hm=>?_)
 have hGg:=hG.g
 have hr1:=hG.r1
 have hr0:=hG.r0
 have hty:=hW.fx.ty
 have htk:=hW.fx.tk T (List.mem_of_getElem? hGg)
 have hts:=htk.t
 have htm:=hts.max
 obtain⟨t,htx⟩:=aj (l:=T.turns) h0 h1
 have hTt:=hG.ts t (List.mem_of_getElem? htx)
 have hta:=(htk.ts t (List.mem_of_getElem? htx)).a
 have ha6:=hTt.a6
 have ham:=hta.max
 have hKB:=hK
 refine rA ?_;refine Hj ?_;refine wB ?_;refine wB ?_;refine az (ae rfl hty rfl om om) rfl (zm4 ?_)
 refine aO (S1 (S1 SN)) (Hp.le.refl _) (fun _ _=>aT hty hGg rfl rfl) rfl (zm6 ?_)
 refine az (ae rfl hts rfl om om) rfl (aO (S1 (S1 SN)) (Hp.le.refl _) (fun _ _=>aY hts htx rfl rfl) rfl (TF.alloc rfl (fun b6=>?_)))
 refine zW ?_;refine TF.nil (ai (TC.block (fC ?_)));refine kS ?_
 refine af rfl ?_ ?_<;>intro c38
 ·
  refine jz ?_
  refine aC (F:=F) (V:=V) (m:=m) [(b6,_)] rfl rfl (ab rfl rfl rfl rfl) (pU true) hW om rfl (fun v43 V43 hle43 hW43 hS43 hs43 ht43 hp43=>?_)
  obtain⟨rfl,hn43⟩:=hp43
  exact TL.nil (bn (bF (V':=V43) (X:=[(b6,_)]) (.inl rfl) (cq rfl) rfl rfl (hW43.more om) hS43 (by(try dsimp only);omega) (by(try dsimp only);omega) ⟨rfl,by(try dsimp only);omega⟩))
 refine fO ?_
 refine ag (s:=47) rfl ?_ ?_<;>intro g47
 ·
  have q47:=of_decide_eq_true g47
  refine rD ?_
  refine ag (s:=51) rfl ?_ ?_<;>intro g51
  ·
   have q51:=of_decide_eq_true g51
   refine cv ?_;refine aw rfl rfl (bR rfl) rfl (fl ?_);refine cv ?_;refine kS ?_
   refine af rfl ?_ ?_<;>intro c44
   ·
    refine jz ?_
    refine aC (F:=F) (V:=V) (m:=m) [(b6,_)] rfl rfl (ab rfl rfl rfl rfl) (Fg) hW om rfl (fun v59 V59 hle59 hW59 hS59 hs59 ht59 hp59=>?_)
    obtain⟨rfl,hn59⟩:=hp59
    exact TL.nil (bn (bF (V':=V59) (X:=[(b6,_)]) (.inl rfl) (cq rfl) rfl rfl (hW59.more om) hS59 (by(try dsimp only);omega) (by(try dsimp only);omega) ⟨rfl,by(try dsimp only);omega⟩))
   exact zq702
  have q51:=of_decide_eq_false g51
  exact zq692
 have q47:=of_decide_eq_false g47
 refine jL ?_;refine zm3 ?_
 exact zq692
theorem xt {F:Fx}{T:SLocal}(hG:TG F T):∀(N:Nat),N≤5→∀(V:WV) (turn deep:Int),0≤turn→turn<T.turns.length→0≤deep→deep≤100→5 - deep≤N→
  WFn Tryz.prog F V 69 [.int .i64 turn,.int .i64 deep] (KB N) (fun v V1=>v= .tuple #[]∧V.sn<V1.sn)
 | 0,_,V,turn,deep,h0,h1,h2,h3,h4=>rJ hG turn deep (K:=0) h0 h1 (fun _ h=>by omega) om ⟨h2,h3⟩
 | N+1,hN,V,turn,deep,h0,h1,h2,h3,h4=>rJ hG turn deep (K:=KB N) h0 h1 (fun _ h V' t' g0 g1=>xt hG N om V' t' (deep+1) g0 g1 om om om) (CE om) ⟨h2,h3⟩
end Go.Sx
