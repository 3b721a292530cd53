import Derived.Test.YtjnlogbbcceaoaaGreatR11
set_option linter.all false
set_option maxRecDepth 100000
set_option maxHeartbeats 32000000
namespace Go.Sx
open Go Go.Proofs
theorem wL {H:Hp}{bd:Nat}{dl:Value}{at_:Int}(hd:DiceOk H dl at_){tv:Value}{types:List Str}(hty:RdSl H 1 Str.cells tv types)(htn:∀s∈types,TyNm s)(htl:types.length≤100)(name:Str)(many:Int)(h2:2≤many)(h5:many≤5):
  DFn Tryz.prog bd dl at_ 124 [gs name,.int .i64 many,tv] H (fun v H1 ob=>ob=[]∧(H.le H1∧∃p:SProto,v= .agg p.cells.toArray∧ProtoOk H1 p∧p.name=name∧p.roles=rolesL.take many.toNat∧AnyP types p)):=by
 have hrl:(rolesL.take many.toNat).length=many.toNat:=zW om om
 refine FnX.enter Tryz.func124 Tryz.ntmps124 rfl rfl (fun w0=>?_)
 refine zm2 ?_
 refine TL.alloc rfl (fun b8=>?_)
 refine iu ?_
 refine aE (X:=[(b8,_)]) (bd:=bd) rfl (ab rfl rfl rfl rfl) (bq 6 om hd) rfl (fun v15 H15 at15 hle15 hd15 hp15=>?_)
 obtain⟨eH15,r15,rfl,hr15⟩:=hp15
 replace eH15:=eH15.symm;subst eH15
 have hra15:=hr15.1
 have hrb15:=hr15.2.1 om
 refine jX ?_;refine k6 ?_
 refine TL.call (ab rfl rfl rfl rfl) (jI) rfl (fun v18 H18 hle18 hp18=>?_)
 replace hty:=hty.le hle18
 replace hd15:=hd15.le hle18
 have hro18:=hp18
 obtain⟨ra18,rc18,rfl⟩:=hro18.len
 have hcp:5≤rc18:=hro18.room _ _ _ rfl
 have hsl:=hro18.sliced (i:=0) (j:=many.toNat) om (by show many.toNat≤5;omega)
 have hle0:=hle18
 refine zm0 ?_;refine xF ?_
 refine TL.append (enc:=Str.cells) rfl rfl rfl (OwnSl.nil (enc:=Str.cells)) (Src.sl hsl) (by simp only [List.length_drop,List.length_nil];omega) rfl (.new _ rfl) rfl (fun a21 c21 ob21 hO21=>?_)
 refine dw ?_
 refine TL.alloc rfl (fun b10=>?_)
 refine xE ?_
 refine dX (X:=[(b10,_),(b8,_),(bd,_)]) hO21 rfl (by simp [keys]) (fun HR leR hR=>?_)
 replace hty:=hty.le leR
 replace hd15:=hd15.le leR
 replace hle0:=hle0.trans leR
 have hrs:RdSl HR 1 Str.cells (.slice a21 (rolesL.take many.toNat).length c21) (rolesL.take many.toNat):=hR
 have hty1:=hty
 refine af (j5 ?_)
 refine aW (V:=fun(p:Int×Int) v ob H1=>[(11,.int .i64 p.1)]) (K:=[(0,_),(2,_),(3,_),(8,_),(9,_),(10,_)]) (L:=fun(p:Int×Int) v ob H1=>St (keys [(bd,[dl,.int .i64 at_])]) w0 H H1 ((b10,[gs name,.slice a21 (rolesL.take many.toNat).length c21,v])::(b8,[gs [],.slice none 0 0,.slice none 0 0])::(bd,[dl,.int .i64 p.2])::ob)) (I:=fun(p:Int×Int) v ob H1=>(0≤p.1∧p.1≤1+r15)∧DiceOk H1 dl p.2∧HR.le H1∧∃l:List SPoint,OwnSl 3 SPoint.cells v l ob∧(l.length:Int)=p.1∧AnyPts types (rolesL.take many.toNat) (1+r15+1) l∧∀x∈l,PointOk H1 x) (μ:=fun(p:Int×Int)=>(1+r15 - p.1).toNat) (0,at15) (.slice none 0 0) [] HR ky ⟨o2q,hd15,.refl _,[],OwnSl.nil,rfl,.nil,by simp⟩ (fun w hw=>hw) (fun p v ob H1 hI=>?_)
 obtain⟨⟨k0,k1⟩,hI2,hI3,l,hO,hI5,hI6,hI7⟩:=hI
 replace hty:=hty1.le hI3
 obtain⟨va,vc,rfl⟩:=hO.form
 have hrs1:=hrs.le hI3
 refine f3 ?_;refine zm1 ?_
 refine ag rfl ?_ ?_<;>intro c25
 ·
  refine o7 ?_
  refine aE (X:=[(b10,_),(b8,_)]) (bd:=bd) rfl (ab rfl rfl rfl rfl) (bq many om hI2) rfl (fun v30 H30 at30 hle30 hd30 hp30=>?_)
  obtain⟨eH30,r30,rfl,hr30⟩:=hp30
  replace eH30:=eH30.symm;subst eH30
  have hra30:=hr30.1
  have hrb30:=hr30.2.1 om
  refine k6 ?_;refine jX ?_;refine zm3 ?_;refine q6 ?_
  refine aE (X:=[(b10,_),(b8,_)]) (bd:=bd) rfl (ab rfl rfl rfl rfl) (bq (many - 1) om hd30) rfl (fun v36 H36 at36 hle36 hd36 hp36=>?_)
  obtain⟨eH36,r36,rfl,hr36⟩:=hp36
  replace eH36:=eH36.symm;subst eH36
  have hra36:=hr36.1
  have hrb36:=hr36.2.1 om
  refine jX ?_;refine zm0 ?_;refine TL.run (km rfl rfl om) rfl (dN ?_)
  have hne:=any_ne hra30 hrb30 hra36 hrb36
  obtain⟨q1,hr1⟩:=ao (l:=(rolesL.take many.toNat)) (i:=r30) om om
  obtain⟨q2,hr2⟩:=ao (l:=(rolesL.take many.toNat)) hne.1.1 om
  refine af (eH ?_);refine zm395 ?_;refine oZ ?_;refine oZ ?_;refine zm5 ?_
  refine aq (ae rfl hrs1 rfl om om) rfl (aN (S1 (S1 SN)) (Hp.le.refl _) (fun _ _=>aQ hrs1 hr1 rfl rfl) rfl (oZ ?_));refine zm5 ?_
  refine aq (ae rfl hrs1 rfl om om) rfl (aN (S1 (S1 SN)) (Hp.le.refl _) (fun _ _=>aQ hrs1 hr2 rfl rfl) rfl (ut ?_));refine qq ?_
  refine aw rfl (aE (X:=[(b10,_),(b8,_)]) (bd:=bd) rfl (ab rfl rfl rfl rfl) (ES hd36 hty htn htl (1+r15+1) om om) rfl (fun v56 H56 at56 hle56 hd56 hp56=>?_))
  obtain⟨hle56_,l56,hl56,hA56⟩:=hp56
  obtain⟨a56,c56,rfl⟩:=hl56.len
  refine az (S1 (S1 SN)) hle56 (dZ ?_)
  refine aF rfl rfl rfl rfl (fun b58=>?_)
  refine aw rfl (TL.append (enc:=SPoint.cells) rfl rfl rfl hO (Src.own [⟨q1,q2,l56,(a56,c56)⟩] (.here _) rfl rfl) (by have:=hI5;simp only [List.length_cons,List.length_nil];omega) rfl (.s3 (.skip _ .all)) rfl (fun a59 c59 ob59 hO59=>?_))
  refine az (S0 (S1 (S1 SN))) hle56 (fu ?_);refine jY ?_;refine qI ?_
  exact aH (p.1+1,at56) _ ob59 H56 ⟨o2q,hd56,hI3.trans hle56,_,hO59,by simp only [List.length_append,List.length_cons,List.length_nil];omega,hI6.snoc ⟨List.mem_of_getElem? hr1,List.mem_of_getElem? hr2⟩ (Ef hr1 hr2 (Ne.symm hne.2)) hA56,fj (fun x hx=>(hI7 x hx).le hle56) ⟨hl56,hA56.len htn⟩⟩ ky (fun w hw=>hw.drop) om
 refine ir ?_;refine fL ?_;refine dw ?_
 refine aD rfl rfl rfl rfl (fun b64=>?_)
 refine TL.append (enc:=SPoint.cells) rfl rfl rfl hO (Src.own [eB] (.here _) rfl rfl) (by have:=hI5;simp only [List.length_cons,List.length_nil];omega) rfl (.s3 (.skip _ .all)) rfl (fun a65 c65 ob65 hO65=>?_)
 refine xX ?_;refine gF ?_;refine TL.run (a7 rfl (.h1) rfl) rfl (xx ?_)
 refine dX (X:=[(b64,_),(b10,_),(b8,_),(bd,_)]) hO65 rfl (by simp [keys]) (fun H2 hle2 hP=>?_)
 exact aZ (.inr rfl) (ad rfl (RVal.cellA rfl (.h2) rfl)) (fun w hw=>hw.drop.drop.drop) ⟨_,[],rfl,(hI2.le hle2),rfl,hle0.trans (hI3.trans hle2),⟨name,(rolesL.take many.toNat),(a21,c21),l++[eB],(a65,c65)⟩,rfl,⟨hrs.le (hI3.trans hle2),hP,fj (fun x hx=>(hI7 x hx).le hle2) jM⟩,rfl,rfl,⟨l,rfl,by rw [show((l.length:Int)+1)=1+r15+1 by omega];exact hI6,by omega,by omega⟩⟩
end Go.Sx
namespace Go.Sx
open Go Go.Proofs
theorem we {H:Hp}{bd:Nat}{dl:Value}{at_:Int}(hd:DiceOk H dl at_){tv:Value}{types:List Str}(hty:RdSl H 1 Str.cells tv types)(htn:∀s∈types,TyNm s)(htl:types.length≤100)(name:Str):
  DFn Tryz.prog bd dl at_ 123 [gs name,tv] H (fun v H1 ob=>ob=[]∧(H.le H1∧∃p:SProto,v= .agg p.cells.toArray∧ProtoOk H1 p∧p.name=name∧∃n,2≤n∧n≤5∧p.roles=rolesL.take n∧kH p)):=by
 refine FnX.enter Tryz.func123 Tryz.ntmps123 rfl rfl (fun w0=>?_)
 refine zm2 ?_
 refine TL.alloc rfl (fun b6=>?_)
 refine TL.nil (af (jR ?_))
 refine aE (X:=[(b6,_)]) (bd:=bd) rfl (ab rfl rfl rfl rfl) (bq 4 om hd) rfl (fun v8 H8 at8 hle8 hd8 hp8=>?_)
 obtain⟨eH8,r8,rfl,hr8⟩:=hp8
 replace eH8:=eH8.symm;subst eH8
 have hra8:=hr8.1
 have hrb8:=hr8.2.1 om
 refine yi ?_
 refine ag rfl ?_ ?_<;>intro c9
 ·
  refine gw ?_
  refine aE (X:=[(b6,_)]) (bd:=bd) rfl (ab rfl rfl rfl rfl) (wL hd8 hty htn htl name 2 om om) rfl (fun v14 H14 at14 hle14 hd14 hp14=>?_)
  obtain⟨hle14_,p,rfl,hP,hNm,hRo,hA⟩:=hp14
  refine jq ?_;exact bv (aI (aZ (.inr rfl) (ad rfl (RVal.cellA rfl (.here _) rfl)) (fun w hw=>hw.drop) ⟨_,[],rfl,hd14,rfl,hle14_,p,rfl,hP,hNm,_,by decide,by decide,hRo,hA.lab⟩))
 refine f4 ?_
 refine ag rfl ?_ ?_<;>intro c15
 ·
  refine gw ?_
  refine aE (X:=[(b6,_)]) (bd:=bd) rfl (ab rfl rfl rfl rfl) (bq 3 om hd8) rfl (fun v20 H20 at20 hle20 hd20 hp20=>?_)
  obtain⟨eH20,r20,rfl,hr20⟩:=hp20
  replace eH20:=eH20.symm;subst eH20
  have hra20:=hr20.1
  have hrb20:=hr20.2.1 om
  refine jX ?_;refine zm0 ?_
  refine aE (X:=[(b6,_)]) (bd:=bd) rfl (ab rfl rfl rfl rfl) (rf hd20 hty htn htl name (2+r20) om om) rfl (fun v23 H23 at23 hle23 hd23 hp23=>?_)
  obtain⟨hle23_,p,rfl,hP,hNm,n,hn2,hn5,hRo,hLb⟩:=hp23
  refine jq ?_;exact bv (aI (aZ (.inr rfl) (ad rfl (RVal.cellA rfl (.here _) rfl)) (fun w hw=>hw.drop) ⟨_,[],rfl,hd23,rfl,hle23_,p,rfl,hP,hNm,n,hn2,hn5,hRo,hLb⟩))
 refine f4 ?_
 refine ag rfl ?_ ?_<;>intro c24
 ·
  refine gw ?_
  refine aE (X:=[(b6,_)]) (bd:=bd) rfl (ab rfl rfl rfl rfl) (wL hd8 hty htn htl name 3 om om) rfl (fun v29 H29 at29 hle29 hd29 hp29=>?_)
  obtain⟨hle29_,p,rfl,hP,hNm,hRo,hA⟩:=hp29
  refine jq ?_;exact bv (aI (aZ (.inr rfl) (ad rfl (RVal.cellA rfl (.here _) rfl)) (fun w hw=>hw.drop) ⟨_,[],rfl,hd29,rfl,hle29_,p,rfl,hP,hNm,_,by decide,by decide,hRo,hA.lab⟩))
 refine TC.skip (bu (af (gw ?_)))
 refine aE (X:=[(b6,_)]) (bd:=bd) rfl (ab rfl rfl rfl rfl) (rf hd8 hty htn htl name 3 om om) rfl (fun v33 H33 at33 hle33 hd33 hp33=>?_)
 obtain⟨hle33_,p,rfl,hP,hNm,n,hn2,hn5,hRo,hLb⟩:=hp33
 refine jq ?_
 exact aZ (.inr rfl) (ad rfl (RVal.cellA rfl (.here _) rfl)) (fun w hw=>hw.drop) ⟨_,[],rfl,hd33,rfl,hle33_,p,rfl,hP,hNm,n,hn2,hn5,hRo,hLb⟩
end Go.Sx
namespace Go.Sx
open Go Go.Proofs
theorem tF {H:Hp}(p:SProto)(hp:ProtoOk H p)(h1:p.name.length≤1000)(h2:p.roles.length≤100)(h3:∀r∈p.roles,r.length≤1000):
  Fn Tryz.prog 66 [.agg p.cells.toArray] H (fun v H1=>RdSl H1 1 Str.cells v (p.roles.map (fun r=>(p.name++[46])++r))):=by
 have hro:=hp.r
 have hmx:=hro.max
 refine Fn.enter Tryz.func66 Tryz.ntmps66 rfl rfl (fun w0=>?_)
 refine zm2 ?_
 refine TL.box rfl rfl (fun b1=>?_)
 refine zm1 ?_;refine jt ?_
 refine aW (V:=fun k v ob H1=>[(3,v),(4,.int .i64 k)]) (K:=[(1,_),(2,_)]) (L:=fun k v ob H1=>St [] w0 H H ((b1,p.cells)::ob)) (I:=fun k v ob H1=>(0≤k∧k≤p.roles.length)∧OwnSl 1 Str.cells v ((p.roles.take k.toNat).map (fun r=>(p.name++[46])++r)) ob) (μ:=fun k=>(p.roles.length - k).toNat) 0 (.slice none 0 0) [] H ky ⟨o2q,OwnSl.nil⟩ (fun w hw=>hw) (fun k v ob H1 hI=>?_)
 obtain⟨⟨k0,k1⟩,hO⟩:=hI
 refine qQ ?_;refine TL.run (ah rfl rfl hro) rfl (zm1 ?_)
 refine ag rfl ?_ ?_<;>intro c9
 ·
  obtain⟨x,hx⟩:=ao (l:=p.roles) k0 c9
  have hxl:=h3 x (List.mem_of_getElem? hx)
  refine w5 ?_;refine TD.leaf [(0,1),(1,1),(2,2),(3,1),(4,1),(5,2),(6,1),(7,1),(8,2),(9,1),(10,3),(11,0),(12,1)] kr kr (zm5 ?_);refine qB ?_
  refine aq (eu rfl rfl (by simp only [List.length_append,List.length_cons,List.length_nil];omega)) rfl (lX ?_);refine xw ?_
  refine aK (aQ hro hx rfl rfl) rfl (aq (eu rfl rfl (by simp only [List.length_append,List.length_cons,List.length_nil];omega)) rfl (aF rfl rfl rfl rfl (fun b22=>?_)))
  refine bf (TL.append (enc:=Str.cells) rfl rfl rfl hO (Src.own [(p.name++[46])++x] (.here _) rfl rfl) (by simp;omega) rfl (.skip _ (.skip _ .all)) rfl (fun a23 c23 ob23 hO23=>?_))
  refine bj (zm5 ?_);refine TF.nil (iY ?_)
  exact aH (k+1) _ ob23 H ⟨o2q,by rw [bQ k0 hx];exact hO23⟩ ky (fun w hw=>hw.drop) om
 refine tw ?_
 refine TX.pubO hO (.skip _ .all) sq (fun H2 hle2 hR=>?_)
 rw [bC c9 k0] at hR
 exact aR (.inr rfl) (ad rfl (RVal.tmp rfl)) hR
end Go.Sx
namespace Go.Sx
open Go Go.Proofs
theorem mN {H:Hp}(x:SPoint)(r:Str):
  FnS Tryz.prog 194 [.agg x.cells.toArray,gs r] H (.bool (d7 x r)):=by
 refine FnS.enter Tryz.func194 Tryz.ntmps194 rfl rfl (fun w0=>?_)
 refine zm2 ?_
 refine TL.box rfl rfl (fun b2=>?_)
 refine zm1 ?_;refine o9 ?_;refine ma ?_
 refine ai (s:=9) rfl ?_ ?_<;>intro g9
 ·
  have q9:=of_decide_eq_true g9
  refine eg ?_;refine fq ?_
  exact ax (.inr rfl) (ad rfl (RVal.tmp rfl)) (congrArg Value.bool (by unfold d7;simp_all))
 have q9:=of_decide_eq_false g9
 refine zm9 ?_;refine cK ?_;refine nz ?_;refine fq ?_
 exact ax (.inr rfl) (ad rfl (RVal.tmp rfl)) (congrArg Value.bool (by unfold d7;simp_all))
theorem rR {H:Hp}{a b:List Int}{va vb:Value}(ha:RdSl H 1 I64.cells va a)(hb:RdSl H 1 I64.cells vb b):
  FnS Tryz.prog 173 [va,vb] H (.bool (decide (a=b))):=by
 have hma:=ha.max
 have hmb:=hb.max
 refine FnS.enter Tryz.func173 Tryz.ntmps173 rfl rfl (fun w0=>?_)
 refine oY ?_
 refine aX rfl ?_ ?_<;>intro c10
 ·
  refine lF ?_
  exact ax (.inr rfl) (ad rfl (RVal.tmp rfl)) (congrArg Value.bool (by first | exact(nU c10).symm | exact(rK hx hy c25).symm | exact(nV hl k0 c14 hI2).symm))
 have hl:a.length=b.length:=by omega
 refine nC ?_
 refine TC.loop (V:=fun k=>[(5,.int .i64 k)]) (K:=[(0,_),(1,_),(4,_)]) (L:=fun k=>_) (I:=fun k=>(0≤k∧k≤a.length)∧a.take k.toNat=b.take k.toNat) (μ:=fun k=>(a.length - k).toNat) (i:=(0:Int)) ky ⟨o2q,rfl⟩ (fun w hw=>hw) (fun k hI=>?_)
 obtain⟨⟨k0,k1⟩,hI2⟩:=hI
 refine oX ?_
 refine ag rfl ?_ ?_<;>intro c14
 ·
  obtain⟨x,hx⟩:=ao (l:=a) k0 c14
  obtain⟨y,hy⟩:=ao (l:=b) k0 om
  refine oW ?_;refine TQ.run (aQ ha hx rfl rfl) rfl (oV ?_);refine TQ.run (aQ hb hy rfl rfl) rfl (lE ?_)
  refine aX rfl ?_ ?_<;>intro c25
  ·
   refine o8 ?_
   exact ax (.inr rfl) (ad rfl (RVal.tmp rfl)) (congrArg Value.bool (by first | exact(nU c10).symm | exact(rK hx hy c25).symm | exact(nV hl k0 c14 hI2).symm))
  refine gG ?_
  exact aS (k+1) ⟨o2q,by rw [bT k0 hx,bT k0 hy,hI2];congr 2<;>omega⟩ ky (fun w hw=>hw) om
 refine gv ?_
 exact ax (.inr rfl) (ad rfl (RVal.tmp rfl)) (congrArg Value.bool (by first | exact(nU c10).symm | exact(rK hx hy c25).symm | exact(nV hl k0 c14 hI2).symm))
theorem Aa {H:Hp}{l:List SArm}{v:Value}(s:Str)(hL:RdSl H 4 SArm.cells v l):
  FnS Tryz.prog 195 [v,gs s] H (.int .i64 (cl (l.map (·.label)) s)):=by
 have hmax:=hL.max
 refine FnS.enter Tryz.func195 Tryz.ntmps195 rfl rfl (fun w0=>?_)
 refine jt ?_
 refine TC.loop (V:=fun k=>[(5,.int .i64 k)]) (K:=[(0,_),(1,_),(4,_)]) (L:=fun k=>_) (I:=fun k=>0≤k∧k≤l.length∧∀j:Nat,j<k.toNat→(l.map (·.label))[j]? ≠some s) (μ:=fun k=>(l.length - k).toNat) (i:=(0:Int)) ky ⟨by omega,by omega,fun j h=>absurd h om⟩ (fun w hw=>hw) (fun k hI=>?_)
 refine qR ?_;refine zm1 ?_
 refine ag rfl ?_ ?_<;>intro c9
 ·
  obtain⟨x,hx⟩:=ao (l:=l) hI.1 c9
  refine o7 ?_;refine pc ?_;refine zm6 ?_;refine TL.run (br hL hx rfl rfl) rfl (ya ?_)
  refine ag rfl ?_ ?_<;>intro c18
  ·
   refine xZ ?_
   exact ax (.inr rfl) (ad rfl (RVal.tmp rfl)) (congrArg (Value.int .i64) (by first | exact(dI hI.1 (by rw [iR hx,c18]) hI.2.2).symm | exact(fC hI.2.2 (by rw [List.length_map];exact c9)).symm))
  refine gG ?_
  exact aS (k+1) ⟨by omega,by omega,fun j hj=>by by_cases hjk:j<k.toNat;exact hI.2.2 j hjk;rw [show j=k.toNat by omega,iR hx];intro e;exact c18 (by simpa using e)⟩ ky (fun w hw=>hw) om
 refine gv ?_
 exact ax (.inr rfl) (ad rfl (RVal.tmp rfl)) (congrArg (Value.int .i64) (by first | exact(dI hI.1 (by rw [iR hx,c18]) hI.2.2).symm | exact(fC hI.2.2 (by rw [List.length_map];exact c9)).symm))
end Go.Sx
namespace Go.Sx
open Go Go.Proofs
theorem Bk {H:Hp}{p:SProto}(role:Str)(hp:ProtoOk H p)(hN:oH p)(hn:p.points.length≤1000){fv:Value}{frm:List Int}(hf:RdSl H 1 I64.cells fv frm)(hfl:frm.length≤1000):
  FnO Tryz.prog 170 [.agg p.cells.toArray,gs role,fv] H (fun v H1 ob=>H1=H∧OwnSl 1 I64.cells v (cQ p role frm) ob):=by
 have hpt:=hp.pt
 refine FnO.enter Tryz.func170 Tryz.ntmps170 rfl rfl (fun w0=>?_)
 refine zm2 ?_
 refine TL.box rfl rfl (fun b3=>?_)
 refine zm1 ?_;refine fL ?_;refine TL.run (ah rfl rfl hpt) rfl (gQ rfl rfl (by first | omega | decide) (by first | omega | decide) (by first | omega | decide) rfl (fun b18=>?_))
 refine zm1 ?_;refine jt ?_
 refine aW (V:=fun(q:Int×List Bool) v ob H1=>[(8,v),(9,.int .i64 q.1)]) (K:=[(1,_),(2,_),(3,_),(6,_),(7,_)]) (L:=fun(q:Int×List Bool) v ob H1=>St [] w0 H H ((b18,q.2.map Value.bool)::(b3,p.cells)::ob)) (I:=fun(q:Int×List Bool) v ob H1=>(0≤q.1∧q.1≤frm.length)∧∃todo,OwnSl 1 I64.cells v todo ob∧Met p.points.length q.2 todo∧iE q.2 todo (frm.drop q.1.toNat)=hZ p role frm) (μ:=fun(q:Int×List Bool)=>(frm.length - q.1).toNat) (0,List.replicate p.points.length false) (.slice none 0 0) [] H ky ⟨o2q,[],OwnSl.nil,Met.zero _,rfl⟩ (fun w hw=>by rw [← reps_b];exact hw) (fun q v ob H1 hI=>?_)
 obtain⟨⟨k0,k1⟩,todo,hO,hM,hI3⟩:=hI
 have hfm:=hf.max
 refine f3 ?_;refine TL.run (ah rfl rfl hf) rfl (zm1 ?_)
 refine ag rfl ?_ ?_<;>intro c22
 ·
  obtain⟨x,hx⟩:=ao (l:=frm) k0 c22
  refine o7 ?_;refine TL.run (ae rfl hf rfl om om) rfl (TL.run (aQ hf hx rfl rfl) rfl (zm3 ?_))
  refine ai (s:=30) rfl ?_ ?_<;>intro g30
  ·
   have q30:=of_decide_eq_true g30
   refine fc ?_;refine aC rfl rfl (ae rfl hf rfl om om) rfl (aC rfl rfl (aQ hf hx rfl rfl) rfl (cK ?_));refine aC rfl rfl (ec rfl rfl) rfl (db ?_)
   refine ai (s:=39) rfl ?_ ?_<;>intro g39
   ·
    have q39:=of_decide_eq_true g39
    refine fc ?_;refine cK ?_;refine aC rfl rfl (ae rfl hf rfl om om) rfl (aC rfl rfl (aQ hf hx rfl rfl) rfl ?_)
    obtain⟨b,hbm,hb⟩:=Am (met:=q.2) (i:=x) om (by rw [hM.len];omega)
    refine aC rfl rfl (ie rfl rfl om om) rfl (aC rfl rfl (aB rfl (.here _) hb) rfl (gi ?_))
    refine TC.cond rfl ?_ ?_<;>intro c48
    ·
     have hbf:q.2[x.toNat]? =some false:=by rw [hbm];simpa using c48
     have h0x:0≤x:=by omega
     refine gw ?_;refine TL.run (ae rfl hf rfl om om) rfl (TL.run (aQ hf hx rfl rfl) rfl (fp ?_))
     refine bB rfl rfl rfl (.here _) (by rw [Nat.blt_eq,List.length_map,hM.len];omega) rfl (TL.nil (af (pO ?_)))
     refine TL.run (ae rfl hf rfl om om) rfl (TL.run (aQ hf hx rfl rfl) rfl (aD rfl rfl rfl rfl (fun b60=>?_)))
     refine TL.append (enc:=I64.cells) rfl rfl rfl hO (Src.own [x] (.here _) rfl rfl) (by simp;have:=hM.le;omega) rfl (.s2 (.skip _ .all)) rfl (fun a61 c61 ob61 hO61=>?_)
     refine lr ?_
     exact aH (q.1+1,q.2.set x.toNat true) _ ob61 H ⟨o2q,_,hO61,hM.set h0x hbf,by rw [show(q.1+1).toNat=q.1.toNat+1 by omega,← B7 hx ⟨h0x,hbf⟩];exact hI3⟩ ky (fun w hw=>(mset hw.drop)) om
    refine gG ?_
    exact aH (q.1+1,q.2) _ ob H ⟨o2q,_,hO,hM,by rw [show(q.1+1).toNat=q.1.toNat+1 by omega,← rF hx (by rintro⟨_,e⟩;rw [hbm] at e;cases e;simp at c48)];exact hI3⟩ ky (fun w hw=>hw) om
   have q39:=of_decide_eq_false g39
   refine eg ?_;refine eg ?_;refine pP ?_;refine gG ?_
   refine aH (q.1+1,q.2) _ ob H ⟨o2q,_,hO,hM,by rw [show(q.1+1).toNat=q.1.toNat+1 by omega,← rF hx (by rintro⟨e0,e⟩;have:=(List.getElem?_eq_some_iff.1 e).1;rw [hM.len] at this;omega)];exact hI3⟩ ky (fun w hw=>hw) om
  have q30:=of_decide_eq_false g30
  refine eg ?_;refine lo ?_;refine eg ?_;refine pP ?_;refine gG ?_
  refine aH (q.1+1,q.2) _ ob H ⟨o2q,_,hO,hM,by rw [show(q.1+1).toNat=q.1.toNat+1 by omega,← rF hx (by rintro⟨e0,e⟩;have:=(List.getElem?_eq_some_iff.1 e).1;rw [hM.len] at this;omega)];exact hI3⟩ ky (fun w hw=>hw) om
 refine xL ?_
 refine aW (V:=fun(q:Int×List Bool) v ob H1=>[(8,v),(10,.int .i64 q.1)]) (K:=[(1,_),(3,_),(6,_),(7,_)]) (L:=fun(q:Int×List Bool) v ob H1=>St [] w0 H H ((b18,q.2.map Value.bool)::(b3,p.cells)::ob)) (I:=fun(q:Int×List Bool) v ob H1=>0≤q.1∧∃todo,OwnSl 1 I64.cells v todo ob∧Met p.points.length q.2 todo∧q.1≤todo.length∧fW p role (p.points.length - q.1.toNat) q.1.toNat q.2 todo=fW p role p.points.length 0 (hZ p role frm).1 (hZ p role frm).2) (μ:=fun(q:Int×List Bool)=>(p.points.length - q.1).toNat) (0,q.2) _ ob H ky ⟨by omega,_,hO,hM,by omega,by rw [← hI3,List.drop_eq_nil_of_le om];rfl⟩ (fun w hw=>hw) (fun q v ob H1 hI=>?_)
 obtain⟨k0,todo,hO,hM,hI3,hI4⟩:=hI
 refine f3 ?_;refine TL.run (bE rfl rfl hO) rfl (zm1 ?_)
 refine ag rfl ?_ ?_<;>intro c65
 ·
  have htl:=hM.le
  obtain⟨j,hj⟩:=ao (l:=todo) k0 c65
  have hjr:=hM.rng j (List.mem_of_getElem? hj)
  obtain⟨x,hxp⟩:=ao (l:=p.points) hjr.1 hjr.2
  have hxa:=(hp.ps x (List.mem_of_getElem? hxp)).a
  have hxm:=hxa.max
  refine xv ?_;refine TD.leaf [(0,1),(1,2),(2,1),(3,1),(4,1),(5,2),(6,1),(7,2),(8,3),(9,0)] kr kr (qn ?_);refine gg ?_
  refine aq (aY rfl rfl hO om om) rfl (aK (bG (j:=0) rfl hO (.skip _ (.skip _ .all)) hj rfl) rfl (aq (ae rfl hpt rfl om om) rfl (aK (bg hpt hxp rfl rfl) rfl ?_)))
  refine TF.alloc rfl (fun b11=>?_)
  refine bf (gY ?_);refine k7 ?_;refine lg ?_
  refine aW (V:=fun(u:Int×List Bool) v ob H1=>[(8,v),(12,.int .i64 u.1)]) (K:=[(1,_),(3,_),(6,_),(7,_),(10,_),(11,_),(62,_),(63,_),(64,_),(65,_),(68,_),(69,_),(70,_),(71,_),(72,_),(73,_),(74,_),(75,_)]) (L:=fun(u:Int×List Bool) v ob H1=>St [] w0 H H ((b11,x.cells)::(b18,u.2.map Value.bool)::(b3,p.cells)::ob)) (I:=fun(u:Int×List Bool) v ob H1=>(0≤u.1∧u.1≤x.arms.length)∧∃td,OwnSl 1 I64.cells v td ob∧Met p.points.length u.2 td∧todo.length≤td.length∧(d7 x role=true→u.2=q.2∧td=todo)∧(¬d7 x role=true→io u.2 td (x.arms.drop u.1.toNat)=io q.2 todo x.arms)) (μ:=fun(u:Int×List Bool)=>(x.arms.length - u.1).toNat) (0,q.2) _ ob H ky ⟨o2q,_,hO,hM,Nat.le_refl _,fun _=>⟨rfl,rfl⟩,fun _=>rfl⟩ (fun w hw=>hw) (fun u v ob H1 hI=>?_)
  obtain⟨⟨u0,u1⟩,td,hO,hM,hI2,hI3,hI5⟩:=hI
  refine qQ ?_;refine TL.run (ah rfl rfl hxa) rfl (zm3 ?_)
  refine ai (s:=81) rfl ?_ ?_<;>intro g81
  ·
   have q81:=of_decide_eq_true g81
   refine aC rfl rfl (a7 rfl (.here _) rfl) rfl (cK ?_);refine aO rfl rfl (ab rfl rfl rfl rfl) (mN x role) rfl (gi ?_)
   refine TC.cond rfl ?_ ?_<;>intro c86
   ·
    have hnw:¬d7 x role=true:=by simpa using c86
    obtain⟨a,ha⟩:=ao (l:=x.arms) u0 om
    have hax:=hN x (List.mem_of_getElem? hxp) a (List.mem_of_getElem? ha)
    refine mt ?_;refine fV ?_;refine zm0 ?_;refine xu ?_
    obtain⟨b,hbm,hb⟩:=Am (met:=u.2) (i:=a.next) om (by rw [hM.len];omega)
    refine fp ?_;refine TL.run (aB rfl (.h1) hb) rfl (zm1 ?_)
    refine TC.cond rfl ?_ ?_<;>intro c98
    ·
     have hbf:u.2[a.next.toNat]? =some false:=by rw [hbm];simpa using c98
     refine dM ?_;refine fV ?_;refine zm0 ?_;refine xu ?_;refine fp ?_;refine bB rfl rfl rfl (.h1) (by rw [Nat.blt_eq,List.length_map,hM.len];omega) rfl (TL.nil (af (pN ?_)));refine zm0 ?_
     refine xu ?_
     refine aD rfl rfl rfl rfl (fun b114=>?_)
     refine TL.append (enc:=I64.cells) rfl rfl rfl hO (Src.own [a.next] (.here _) rfl rfl) (by simp;have:=hM.le;omega) rfl (.s3 (.skip _ .all)) rfl (fun a115 c115 ob115 hO115=>?_)
     refine lr ?_
     exact aH (u.1+1,u.2.set a.next.toNat true) _ ob115 H ⟨o2q,_,hO115,hM.set hax.1 hbf,by rw [List.length_append];omega,fun h=>absurd h hnw,fun h=>by rw [show(u.1+1).toNat=u.1.toNat+1 by omega,← CV ha hbf];exact hI5 h⟩ ky (fun w hw=>(mset1 hw.drop)) om
    refine gG ?_
    exact aH (u.1+1,u.2) _ ob H ⟨o2q,_,hO,hM,hI2,fun h=>absurd h hnw,fun h=>by rw [show(u.1+1).toNat=u.1.toNat+1 by omega,← Fp ha (by rw [hbm];intro e;cases e;simp at c98)];exact hI5 h⟩ ky (fun w hw=>hw) om
   have hw:d7 x role=true:=by simpa using c86
   refine xM ?_
   exact aH (q.1+1,u.2) _ ob H ⟨by omega,_,hO,hM,by omega,by rw [← hI4,show(q.1+1).toNat=q.1.toNat+1 by omega,show p.points.length - q.1.toNat=(p.points.length - (q.1.toNat+1))+1 by omega,rE hj hxp (r:=(u.2,td)) (by rw [if_pos hw];obtain⟨e1,e2⟩:=hI3 hw;rw [e1,e2])]⟩ ky (fun w hw=>hw.drop) om
  have q81:=of_decide_eq_false g81
  refine eg ?_;refine pP ?_;refine xM ?_
  exact aH (q.1+1,u.2) _ ob H ⟨by omega,_,hO,hM,by omega,by rw [← hI4,show(q.1+1).toNat=q.1.toNat+1 by omega,show p.points.length - q.1.toNat=(p.points.length - (q.1.toNat+1))+1 by omega,rE hj hxp (r:=(u.2,td)) (by by_cases hw:d7 x role=true;(rw [if_pos hw];obtain⟨e1,e2⟩:=hI3 hw;rw [e1,e2]);(rw [if_neg hw,← hI5 hw,List.drop_eq_nil_of_le om];rfl))]⟩ ky (fun w hw=>hw.drop) om
 refine ir ?_;refine jt ?_
 refine aW (V:=fun k v ob H1=>[(13,v),(14,.int .i64 k)]) (K:=[(6,_),(7,_)]) (L:=fun k v ob H1=>St [] w0 H H ((b18,q.2.map Value.bool)::(b3,p.cells)::ob)) (I:=fun k v ob H1=>(0≤k∧k≤p.points.length)∧OwnSl 1 I64.cells v (jS q.2 k.toNat) ob) (μ:=fun k=>(p.points.length - k).toNat) 0 (.slice none 0 0) [] H ky ⟨o2q,OwnSl.nil⟩ (fun w hw=>St.dropT (A:=[(b18,_),(b3,_)]) hw) (fun k v ob H1 hI=>?_)
 obtain⟨⟨k0,k1⟩,hO⟩:=hI
 refine f3 ?_;refine TL.run (ec rfl rfl) rfl (zm1 ?_)
 refine ag rfl ?_ ?_<;>intro c119
 ·
  obtain⟨b,hbm,hb⟩:=Am (met:=q.2) (i:=k) om (by rw [hM.len];omega)
  refine o7 ?_;refine fp ?_;refine TL.run (aB rfl (.here _) hb) rfl (TL.nil (af (TC.cond rfl (fun c125=>?_) (fun c125=>?_))))
  ·
   refine jZ ?_
   refine aD rfl rfl rfl rfl (fun b128=>?_)
   refine TL.append (enc:=I64.cells) rfl rfl rfl hO (Src.own [k] (.here _) rfl rfl) (by simp;have:=uT q.2 k.toNat;omega) rfl (.s2 (.skip _ .all)) rfl (fun a129 c129 ob129 hO129=>?_)
   refine lr ?_
   exact aH (k+1) _ ob129 H ⟨o2q,by rw [uS k0 (by rw [hbm,c125])];exact hO129⟩ ky (fun w hw=>hw.drop) om
  refine gG ?_
  exact aH (k+1) _ ob H ⟨o2q,by rw [yy k0 (by rw [hbm];simpa using c125)];exact hO⟩ ky (fun w hw=>hw) om
 refine tw ?_
 exact ef (.inr rfl) (ad rfl (RVal.tmp rfl)) (.skip _ (.skip _ .all)) ⟨rfl,hO.cast (by unfold cQ;rw [← hI4,uZ om];show jS q.2 k.toNat=jS q.2 q.2.length;rw [hM.len];congr 1;omega)⟩
end Go.Sx
namespace Go.Sx
open Go Go.Proofs
theorem Bw {H:Hp}{p:SProto}(role:Str)(hp:ProtoOk H p){lv:Value}{l:List Int}(hl:RdSl H 1 I64.cells lv l)(hr:∀j∈l,0≤j∧j<p.points.length)(hll:l.length≤100000):
  FnO Tryz.prog 171 [.agg p.cells.toArray,gs role,lv] H (fun v H1 ob=>H1=H∧OwnSl 1 I64.cells v (dS p role l) ob):=by
 have hpt:=hp.pt
 refine FnO.enter Tryz.func171 Tryz.ntmps171 rfl rfl (fun w0=>?_)
 refine zm2 ?_
 refine TL.box rfl rfl (fun b3=>?_)
 refine zm1 ?_;refine jt ?_
 refine aW (V:=fun k v ob H1=>[(7,v),(8,.int .i64 k)]) (K:=[(1,_),(2,_),(3,_),(6,_)]) (L:=fun k v ob H1=>St [] w0 H H ((b3,p.cells)::ob)) (I:=fun k v ob H1=>(0≤k∧k≤l.length)∧OwnSl 1 I64.cells v (dS p role (l.take k.toNat)) ob) (μ:=fun k=>(l.length - k).toNat) 0 (.slice none 0 0) [] H ky ⟨o2q,OwnSl.nil⟩ (fun w hw=>hw) (fun k v ob H1 hI=>?_)
 obtain⟨⟨k0,k1⟩,hO⟩:=hI
 refine f3 ?_;refine TL.run (ah rfl rfl hl) rfl (zm1 ?_)
 refine ag rfl ?_ ?_<;>intro c12
 ·
  obtain⟨j,hx⟩:=ao (l:=l) k0 c12
  have hjr:=hr j (List.mem_of_getElem? hx)
  obtain⟨x,hxp⟩:=ao (l:=p.points) hjr.1 hjr.2
  refine qz ?_;refine xt ?_
  refine TQ.run (ae rfl hl rfl om om) rfl (TQ.run (aQ hl hx rfl rfl) rfl (TQ.run (ae rfl hpt rfl om om) rfl (TQ.run (bg hpt hxp rfl rfl) rfl ?_)))
  refine TQ.run (aJ rfl) rfl (ip (ab rfl rfl rfl rfl) (mN x role) rfl (TQ.nil (af ?_)))
  refine TC.cond rfl ?_ ?_<;>intro c24
  ·
   refine pO ?_;refine TL.run (ae rfl hl rfl om om) rfl (TL.run (aQ hl hx rfl rfl) rfl (aD rfl rfl rfl rfl (fun b30=>?_)))
   refine TL.append (enc:=I64.cells) rfl rfl rfl hO (Src.own [j] (.here _) rfl rfl) (by have:=oo (p:=p) (role:=role) (l.take k.toNat);have:=List.length_take_le k.toNat l;simp only [List.length_cons,List.length_nil];have:=List.length_take_le' k.toNat l;omega) rfl (.skip _ (.skip _ .all)) rfl (fun a31 c31 ob31 hO31=>?_)
   refine lr ?_
   exact aH (k+1) _ ob31 H ⟨o2q,by rw [EJ k0 hx (by unfold inP;rw [hxp];exact c24)];exact hO31⟩ ky (fun w hw=>hw.drop) om
  refine gG ?_
  exact aH (k+1) _ ob H ⟨o2q,by rw [near_no k0 hx (by unfold inP;rw [hxp];simpa using c24)];exact hO⟩ ky (fun w hw=>hw) om
 refine tw ?_
 exact ef (.inr rfl) (ad rfl (RVal.tmp rfl)) (.skip _ .all) ⟨rfl,hO.cast (by rw [bC c12 k0])⟩
theorem lost_ok {H:Hp}{p:SProto}(role:Str)(hp:ProtoOk H p)(hN:oH p)(hn:p.points.length≤1000)(at_:Int):
  Fn Tryz.prog 172 [.agg p.cells.toArray,gs role,.int .i64 at_] H (fun v H1=>v= .bool (jg p role at_)):=by
 refine Fn.enter Tryz.func172 Tryz.ntmps172 rfl rfl (fun w0=>?_)
 refine zm2 ?_
 refine TL.box rfl rfl (fun b3=>?_)
 refine qH ?_
 refine aT [true] [(0,4),(1,1),(2,4),(3,1),(4,1),(5,3),(6,5),(7,5),(8,1),(9,1),(10,1)] kr kr (aN (S1 SN) (Hp.le.refl _) (fun _ _=>a7 rfl (.here _) rfl) rfl (zm5 ?_))
 refine aN (S1 SN) (Hp.le.refl _) (fun _ _=>a7 rfl (.here _) rfl) rfl (gg ?_)
 refine aF rfl rfl rfl rfl (fun b12=>?_)
 refine TF.pub sq (fun H_b12 le_b12 rd_b12=>?_)
 replace hp:=hp.le le_b12
 have hA12:RdSl H_b12 1 I64.cells (.slice (some ⟨b12,0,none⟩) 1 1) [at_]:=RdSl.blk (l:=[at_]) (enc:=I64.cells) rd_b12 (by intro x hx;rfl) rfl (by show 1≤9223372036854775807;decide)
 refine aw rfl (da (ab rfl rfl rfl rfl) (Bk role hp hN hn hA12 sq) rfl (fun v13 H13 ob13 hle13 hp13=>?_))
 obtain⟨eH13,hO13⟩:=hp13
 subst H13
 obtain⟨a13,c13,rfl⟩:=hO13.form
 refine TL.pubO hO13 (.skip _ .all) sq (fun HP13 leP13 hR13=>?_)
 replace hp:=hp.le leP13
 refine az (S1 SN) (le_b12.trans (leP13)) (aw rfl (da (ab rfl rfl rfl rfl) (Bw role hp hR13 (nP hN) (by have:=kN (role:=role) hN (frm:=[at_]);omega)) rfl (fun v14 H14 ob14 hle14 hp14=>?_)))
 obtain⟨eH14,hO14⟩:=hp14
 subst H14
 obtain⟨a14,c14,rfl⟩:=hO14.form
 refine TL.pubO hO14 (.skip _ .all) sq (fun HP14 leP14 hQ14=>?_)
 refine az (S1 SN) (le_b12.trans (leP13.trans (leP14))) (aq (ah rfl rfl hQ14) rfl (xr ?_))
 exact aR (.inr rfl) (ad rfl (RVal.tmp rfl)) (congrArg Value.bool (by unfold jg;exact decide_eq_decide.2 om))
end Go.Sx
namespace Go.Sx
open Go Go.Proofs
theorem BB {H:Hp}{p:SProto}(role:Str)(hp:ProtoOk H p)(hN:oH p)(hn:p.points.length≤1000){bw:Nat}{sv:Value}{ob:aj}{rows:List GRow}(hO:OwnSl 1 GRow.cells sv rows ob)(hrw:GRowsOk H rows)(hrl:rows.length≤40){fv:Value}{frm:List Int}(hf:RdSl H 1 I64.cells fv frm)(hfl:frm.length≤1000):
  FnX Tryz.prog 125 [.pointer (some ⟨bw,0,none⟩),fv] H ((bw,WK p role sv)::ob) (fun v H1 L1=>∃sv' ob' rows',L1=(bw,WK p role sv')::ob'∧OwnSl 1 GRow.cells sv' rows' ob'∧GRowsOk H1 rows'∧rows'.length≤40∧rows'.map (·.l)=(bR p role (rows.map (·.l)) frm).2.2∧v= .tuple #[.int .i64 (bR p role (rows.map (·.l)) frm).1,.int .i64 (bR p role (rows.map (·.l)) frm).2.1]):=by
 obtain⟨sva,svc,rfl⟩:=hO.form
 have hsl:=kN (role:=role) hN (frm:=frm)
 have hnl:=oo (p:=p) (role:=role) (cQ p role frm)
 refine FnX.enterM Tryz.func125 Tryz.ntmps125 rfl rfl (fun w0 M hM=>?_)
 refine dM ?_;refine qH ?_;refine zm355 ?_;refine jV ?_;refine aN (S1 SN) (Hp.le.refl _) (fun _ _=>jD rfl (.here _) rfl) rfl (jV ?_);refine xq ?_;refine qM ?_
 refine kZ (ab rfl rfl rfl rfl) (Bk role hp hN hn hf hfl) rfl (fun v19 H19 ob19 hf19 hle19 hp19=>?_)
 obtain⟨eH19,hO19⟩:=hp19
 subst H19
 obtain⟨a19,c19,rfl⟩:=hO19.form
 refine TL.pubO hO19 (.skip _ (.past _ .all)) (fun p hp hm=>absurd (hM _ hm) (Nat.not_lt.2 (hf19 p hp))) (fun HP19 leP19 hA19=>?_)
 replace hp:=hp.le leP19
 replace hrw:=hrw.le leP19
 refine az (S1 SN) leP19 (zm5 ?_);refine TF.nil (af (nA ?_));refine zm355 ?_;refine jV ?_;refine aN (S1 SN) (Hp.le.refl _) (fun _ _=>jD rfl (.here _) rfl) rfl (jV ?_);refine xq ?_
 refine qM ?_
 refine kZ (ab rfl rfl rfl rfl) (Bw role hp hA19 (nP hN) (by have:=kN (role:=role) hN (frm:=frm);omega)) rfl (fun v29 H29 ob29 hf29 hle29 hp29=>?_)
 obtain⟨eH29,hO29⟩:=hp29
 subst H29
 obtain⟨a29,c29,rfl⟩:=hO29.form
 refine TL.pubO hO29 (.skip _ (.past _ .all)) (fun p hp hm=>absurd (hM _ hm) (Nat.not_lt.2 (hf29 p hp))) (fun HP29 leP29 hB29=>?_)
 replace hp:=hp.le leP29
 replace hrw:=hrw.le leP29
 replace hA19:=hA19.le leP29
 have hB1:=hB29
 have hA1:=hA19
 have hp1:=hp
 have hrw1:=hrw
 refine az (S1 SN) leP29 (zm5 ?_);refine TF.nil (af (j5 ?_))
 refine aW (V:=fun k v obx H1=>[(8,.int .i64 k)]) (K:=[(0,_),(4,_),(5,_),(6,_),(7,_)]) (L:=fun k v obx H1=>St M w0 H H1 ((bw,WK p role (.slice sva rows.length svc))::ob)) (I:=fun k v obx H1=>(0≤k∧k≤(cQ p role frm).length)∧HP29.le H1∧∀j:Nat,j<k.toNat→∀i,(cQ p role frm)[j]? =some i→jg p role i=false) (μ:=fun k=>((cQ p role frm).length - k).toNat) 0 (.slice none 0 0) [] HP29 ky ⟨o2q,.refl _,fun j h=>absurd h om⟩ (fun w hw=>by simpa only [List.append_nil] using hw) (fun k v obx H1 hI=>?_)
 obtain⟨⟨k0,k1⟩,hI1,hI2⟩:=hI
 have hA2:=hA1.le hI1
 have hB2:=hB1.le hI1
 have hp2:=hp1.le hI1
 replace hrw1:=hrw1.le hI1
 refine f3 ?_;refine TL.run (ah rfl rfl hA2) rfl (zm3 ?_)
 refine ai (s:=34) rfl ?_ ?_<;>intro g34
 ·
  have q34:=of_decide_eq_true g34
  refine cK ?_;refine aC rfl rfl (ah rfl rfl hB2) rfl (gi ?_)
  refine ag rfl ?_ ?_<;>intro c38
  ·
   have hn0:0<(dS p role (cQ p role frm)).length:=by omega
   obtain⟨j,hx⟩:=ao (l:=(cQ p role frm)) k0 om
   refine xv ?_;refine aT [true] [(0,1),(1,1),(2,1),(3,4),(4,1),(5,1),(6,1),(7,4),(8,1),(9,1),(10,1),(11,4),(12,5)] kr kr (jV ?_)
   refine aN (S1 SN) (Hp.le.refl _) (fun _ _=>jD rfl (.here _) rfl) rfl (jV ?_);refine xq ?_;refine gg ?_
   refine aq (ae rfl hA2 rfl om om) rfl (aN (S1 SN) (Hp.le.refl _) (fun _ _=>aQ hA2 hx rfl rfl) rfl (aw rfl (TL.call (ab rfl rfl rfl rfl) (lost_ok role hp2 hN hn j) rfl (fun v53 H53 hle53 hp53=>?_))))
   replace hrw1:=hrw1.le hle53
   subst hp53
   refine az (S1 SN) hle53 (TF.nil (af (TC.cond rfl (fun c53=>?_) (fun c53=>?_))))
   ·
    refine xZ ?_
    have hEq:=Cz (sets:=rows.map (·.l)) hx c53 hn0
    exact aZ (.inr rfl) (cq rfl (RVal.tmp rfl) (RVal.tmp rfl)) (fun w hw=>hw) ⟨_,_,rows,rfl,hO,hrw1,hrl,by rw [hEq],by rw [hEq]⟩
   refine gG ?_
   exact aH (k+1) (.slice none 0 0) [] H53 ⟨o2q,hI1.trans hle53,fun j2 h2 i hi=>by by_cases e:j2<k.toNat;exact hI2 j2 e i hi;rw [show j2=k.toNat by omega,hx] at hi;cases hi;simpa using c53⟩ ky (fun w hw=>hw) om
  exact zq537
 have q34:=of_decide_eq_false g34
 refine jn ?_;refine pP ?_
 exact zq537
end Go.Sx
namespace Go.Sx
open Go Go.Proofs
theorem BW {H:Hp}{p:SProto}(role:Str)(hp:ProtoOk H p){bw:Nat}{sv:Value}{lv:Value}{l:List Int}(hl:RdSl H 1 I64.cells lv l)(hr:∀j∈l,0≤j∧j<p.points.length):
  KFn Tryz.prog bw (WK p role sv) 174 [.pointer (some ⟨bw,0,none⟩),lv] H (fun v H1 ob=>ob=[]∧H1=H∧v= .tuple #[.int .i64 (cL p role l).1,gs (cL p role l).2.1,.int .i64 (cL p role l).2.2]):=by
 have hpt:=hp.pt
 have hlm:=hl.max
 refine FnX.enter Tryz.func174 Tryz.ntmps174 rfl rfl (fun w0=>?_)
 refine eh ?_;refine k6 ?_;refine xJ ?_
 refine TC.loop (V:=fun(q:Int×Int×Str)=>[(7,.int .i64 q.2.1),(8,gs q.2.2),(9,.int .i64 q.1)]) (K:=[(0,_),(1,_),(4,_),(5,_),(6,_)]) (L:=fun(q:Int×Int×Str)=>_) (I:=fun(q:Int×Int×Str)=>(0≤q.1∧q.1≤l.length)∧ez p role q.1.toNat q.2.1 q.2.2 (l.drop q.1.toNat)=cL p role l) (μ:=fun(q:Int×Int×Str)=>(l.length - q.1).toNat) (i:=((0:Int),(0:Int),([]:Str))) ky ⟨o2q,rfl⟩ (fun w hw=>hw) (fun(q:Int×Int×Str) hI=>?_)
 obtain⟨⟨k0,k1⟩,hI3⟩:=hI
 refine f3 ?_;refine TL.run (ah rfl rfl hl) rfl (zm1 ?_)
 refine ag rfl ?_ ?_<;>intro c16
 ·
  obtain⟨j,hx⟩:=ao (l:=l) k0 c16
  have hjr:=hr j (List.mem_of_getElem? hx)
  obtain⟨x,hxp⟩:=ao (l:=p.points) hjr.1 hjr.2
  refine xv ?_;refine aT [true] [(0,1),(1,1),(2,1),(3,1),(4,4),(5,1),(6,1),(7,1),(8,4),(9,1),(10,4),(11,3),(12,5)] kr kr (lY ?_);refine xq ?_;refine gg ?_
  refine aq (ae rfl hl rfl om om) rfl (aN (S1 SN) (Hp.le.refl _) (fun _ _=>aQ hl hx rfl rfl) rfl (aq (ae rfl hpt rfl om om) rfl (aN (S1 SN) (Hp.le.refl _) (fun _ _=>bg hpt hxp rfl rfl) rfl ?_)))
  refine TF.alloc rfl (fun b10=>?_)
  refine aw rfl (gY ?_);refine az (S0 (S1 SN)) (Hp.le.refl _) (TF.nil (af (oJ ?_)));refine xt ?_;refine TQ.nil (af (TC.seq (oJ ?_)));refine o4 ?_;refine TQ.run (bH rfl) rfl (gE ?_)
  refine TQ.run (aB rfl (.h1) rfl) rfl (TQ.run (bW rfl rfl rfl) rfl (TQ.nil (af ?_)))
  refine ag rfl ?_ ?_<;>intro c38
  ·
   refine zF kr kr (xt ?_);refine TQ.nil (af (f3 ?_));refine zm0 ?_
   refine ai (s:=43) rfl ?_ ?_<;>intro g43
   ·
    have q43:=of_decide_eq_true g43
    refine fc ?_;refine fc ?_
    refine ai (s:=47) rfl ?_ ?_<;>intro g47
    ·
     have q47:=aU g47
     refine jn ?_;refine gi ?_;refine dt rfl (qG ?_);refine k5 ?_
     refine aZ (.inr rfl) (fi rfl (RVal.tmp rfl) (RVal.tmp rfl) (RVal.tmp rfl)) (fun w hw=>hw.drop) ⟨[],rfl,rfl,rfl,by rw [← hI3,jw (role:=role) hx hxp (by refine⟨by omega,fun h=>?_⟩;simp_all)];rfl⟩
    have q47:=aP g47
    refine fc ?_;refine nz ?_;refine gi ?_
    refine aX rfl ?_ ?_<;>intro c52
    ·
     refine qG ?_;refine k5 ?_
     refine aZ (.inr rfl) (fi rfl (RVal.tmp rfl) (RVal.tmp rfl) (RVal.tmp rfl)) (fun w hw=>hw.drop) ⟨[],rfl,rfl,rfl,by rw [← hI3,jw (role:=role) hx hxp (by refine⟨by omega,fun h=>?_⟩;simp_all)];rfl⟩
    refine xp ?_;refine nB ?_;refine iY ?_
    exact aS (q.1+1,2,x.frm) ⟨o2q,by have key:=iy (role:=role) (kind:=q.2.1) (peer:=q.2.2) (i:=q.1.toNat) hx hxp (by rintro⟨_,h⟩;apply h;constructor<;>simp_all);rw [if_pos c38,if_pos c38] at key;show ez p role (q.1+1).toNat 2 x.frm (l.drop (q.1+1).toNat)=cL p role l;rw [show(q.1+1).toNat=q.1.toNat+1 by omega,← key];exact hI3⟩ ky (fun w hw=>hw.drop) om
   have q43:=of_decide_eq_false g43
   refine yg ?_;refine eC rfl rfl rfl (dh ?_);refine pP ?_;refine xp ?_;refine nB ?_;refine iY ?_
   exact aS (q.1+1,2,x.frm) ⟨o2q,by have key:=iy (role:=role) (kind:=q.2.1) (peer:=q.2.2) (i:=q.1.toNat) hx hxp om;rw [if_pos c38,if_pos c38] at key;show ez p role (q.1+1).toNat 2 x.frm (l.drop (q.1+1).toNat)=cL p role l;rw [show(q.1+1).toNat=q.1.toNat+1 by omega,← key];exact hI3⟩ ky (fun w hw=>hw.drop) om
  refine jo ?_;refine gw ?_
  refine ai (s:=43) rfl ?_ ?_<;>intro g43
  ·
   have q43:=of_decide_eq_true g43
   refine fc ?_;refine fc ?_
   refine ai (s:=47) rfl ?_ ?_<;>intro g47
   ·
    have q47:=aU g47
    refine jn ?_;refine gi ?_;refine dt rfl (qG ?_);refine k5 ?_
    refine aZ (.inr rfl) (fi rfl (RVal.tmp rfl) (RVal.tmp rfl) (RVal.tmp rfl)) (fun w hw=>hw.drop) ⟨[],rfl,rfl,rfl,by rw [← hI3,jw (role:=role) hx hxp (by refine⟨by omega,fun h=>?_⟩;simp_all)];rfl⟩
   have q47:=aP g47
   refine fc ?_;refine nz ?_;refine gi ?_
   refine aX rfl ?_ ?_<;>intro c52
   ·
    refine qG ?_;refine k5 ?_
    refine aZ (.inr rfl) (fi rfl (RVal.tmp rfl) (RVal.tmp rfl) (RVal.tmp rfl)) (fun w hw=>hw.drop) ⟨[],rfl,rfl,rfl,by rw [← hI3,jw (role:=role) hx hxp (by refine⟨by omega,fun h=>?_⟩;simp_all)];rfl⟩
   refine xp ?_;refine nB ?_;refine iY ?_
   exact aS (q.1+1,1,x.to) ⟨o2q,by have key:=iy (role:=role) (kind:=q.2.1) (peer:=q.2.2) (i:=q.1.toNat) hx hxp (by rintro⟨_,h⟩;apply h;constructor<;>simp_all);rw [if_neg c38,if_neg c38] at key;show ez p role (q.1+1).toNat 1 x.to (l.drop (q.1+1).toNat)=cL p role l;rw [show(q.1+1).toNat=q.1.toNat+1 by omega,← key];exact hI3⟩ ky (fun w hw=>hw.drop) om
  have q43:=of_decide_eq_false g43
  refine yg ?_;refine eC rfl rfl rfl (dh ?_);refine pP ?_;refine xp ?_;refine nB ?_;refine iY ?_
  exact aS (q.1+1,1,x.to) ⟨o2q,by have key:=iy (role:=role) (kind:=q.2.1) (peer:=q.2.2) (i:=q.1.toNat) hx hxp om;rw [if_neg c38,if_neg c38] at key;show ez p role (q.1+1).toNat 1 x.to (l.drop (q.1+1).toNat)=cL p role l;rw [show(q.1+1).toNat=q.1.toNat+1 by omega,← key];exact hI3⟩ ky (fun w hw=>hw.drop) om
 refine ir ?_;refine eh ?_;refine zm3 ?_;refine ei ?_
 exact aZ (.inr rfl) (fi rfl (RVal.tmp rfl) (RVal.tmp rfl) (RVal.tmp rfl)) (fun w hw=>hw) ⟨[],rfl,rfl,rfl,by rw [← hI3,List.drop_eq_nil_of_le om];rfl⟩
end Go.Sx
namespace Go.Sx
open Go Go.Proofs
theorem rput_ok {H:Hp}{l:List Str}{v:Value}(s:Str)(hL:RdSl H 1 Str.cells v l)(hlen:l.length≤1000000):
  Fn Tryz.prog 185 [v,gs s] H (fun r H1=>RdSl H1 1 Str.cells r (cv l s)):=by
 obtain⟨va,vc,rfl⟩:=hL.len
 have hrm:=hL.room _ _ _ rfl
 refine Fn.enter Tryz.func185 Tryz.ntmps185 rfl rfl (fun w0=>?_)
 refine k4 ?_;refine zm7 ?_
 refine TC.block (TC.loop (V:=fun k=>[(5,.int .i64 k)]) (K:=[(0,_),(1,_),(4,_)]) (L:=fun k=>_) (I:=fun k=>0≤k∧k≤l.length∧cv l s=l.take k.toNat++cv (l.drop k.toNat) s) (μ:=fun k=>(l.length - k).toNat) (i:=(0:Int)) ky ⟨by omega,by omega,by simp⟩ (fun w hw=>hw) (fun k hI=>?_))
 refine qR ?_;refine zm3 ?_
 refine ai (s:=11) rfl ?_ ?_<;>intro g11
 ·
  have q11:=of_decide_eq_true g11
  obtain⟨x,hx⟩:=ao (l:=l) hI.1 om
  refine fc ?_;refine aC rfl rfl (ae rfl hL rfl om om) rfl (aC rfl rfl (aQ hL hx rfl rfl) rfl (cK ?_));refine nz ?_;refine zm1 ?_
  refine TC.cond rfl ?_ ?_<;>intro c18
  · refine cV ?_;refine TC.block (iX ?_);refine nv ?_;exact bu (aS (k+1) ⟨by omega,by omega,Er hI.1 hI.2.2 hx (by simp_all)⟩ ky (fun w hw=>hw) om)
  refine ir ?_;refine qR ?_;refine zm3 ?_
  refine ai (s:=25) rfl ?_ ?_<;>intro g25
  ·
   have q25:=of_decide_eq_true g25
   exact zq623
  exact zq595
 have q11:=of_decide_eq_false g11
 refine eg ?_;refine jm ?_;refine pP ?_;refine ir ?_;refine qR ?_;refine zm3 ?_
 refine ai (s:=25) rfl ?_ ?_<;>intro g25
 ·
  have q25:=of_decide_eq_true g25
  obtain⟨x,hx⟩:=ao (l:=l) hI.1 om
  exact zq623
 exact zq595
theorem Eo {H:Hp}{l:List Str}{v:Value}(s:Str)(hL:RdSl H 1 Str.cells v l)(hlen:l.length≤100000):
  Fn Tryz.prog 153 [v,gs s] H (fun r H1=>RdSl H1 1 Str.cells r (l.foldl cv [s])):=by
 obtain⟨la,lc,rfl⟩:=hL.len
 refine Fn.enter Tryz.func153 Tryz.ntmps153 rfl rfl (fun w0=>?_)
 refine mo ?_
 refine aD rfl rfl rfl rfl (fun b8=>?_)
 refine uB ?_
 refine TL.pub sq (fun H_b8 le_b8 rd_b8=>?_)
 have h8:RdSl H_b8 1 Str.cells _ [s]:=RdSl.blk (cap:=1) rd_b8 (by intro x hx;rfl) kr sq
 replace hL:=hL.le le_b8
 refine zm8 ?_
 refine aW (V:=fun k v ob H1=>[(5,v),(6,.int .i64 k)]) (K:=[(0,_),(4,_)]) (L:=fun k v ob H1=>St [] w0 H H1 ob) (I:=fun k v ob H1=>0≤k∧k≤l.length∧ob=[]∧H_b8.le H1∧RdSl H1 1 Str.cells v ((l.take k.toNat).foldl cv [s])) (μ:=fun k=>(l.length - k).toNat) 0 (.slice (some ⟨b8,0,none⟩) 1 1) [] H_b8 ky ⟨by omega,by omega,rfl,Hp.le.refl _,h8⟩ (fun w hw=>hw) (fun k v ob H1 hI=>?_)
 obtain⟨h0,h1,rfl,hle,hR⟩:=hI
 replace hL:=hL.le hle
 refine qR ?_;refine zm1 ?_
 refine ag rfl ?_ ?_<;>intro c12
 ·
  obtain⟨x,hx⟩:=ao (l:=l) h0 c12
  have hfl:=zn s (l.take k.toNat)
  refine gj ?_;refine pO ?_;refine pc ?_;refine TL.run (aQ hL hx rfl rfl) rfl (TL.call (ab rfl rfl rfl rfl) (rput_ok x hR (by simp at hfl;omega)) rfl (fun v20 H20 hle20 hp20=>?_))
  refine lr ?_
  exact aH (k+1) _ [] H20 ⟨by omega,by omega,rfl,hle.trans hle20,by rw [bT h0 hx,List.foldl_append];exact hp20⟩ ky (fun w hw=>hw) om
 refine tw ?_
 exact aR (.inr rfl) (ad rfl (RVal.tmp rfl)) (by rw [bC c12 h0] at hR;exact hR)
end Go.Sx
namespace Go.Sx
open Go Go.Proofs
theorem yp {H:Hp}{p:SProto}(role:Str)(hp:ProtoOk H p){bw:Nat}{sv:Value}{lv:Value}{l:List Int}(hl:RdSl H 1 I64.cells lv l)(hr:∀j∈l,0≤j∧j<p.points.length)(hll:l.length≤1000)(h6:∀x∈p.points,x.arms.length≤6):
  KFn Tryz.prog bw (WK p role sv) 175 [.pointer (some ⟨bw,0,none⟩),lv] H (fun v H1 ob=>ob=[]∧∃lv',v= .tuple #[lv',.bool (jO p l)]∧RdSl H1 1 Str.cells lv' (cY p l)):=by
 refine FnX.enter Tryz.func175 Tryz.ntmps175 rfl rfl (fun w0=>?_)
 refine f4 ?_;refine jt ?_
 refine aW (V:=fun k v ob H1=>[(6,v),(7,.int .i64 k)]) (K:=[(0,_),(1,_),(4,_),(5,_)]) (L:=fun k v ob H1=>St (keys [(bw,WK p role sv)]) w0 H H1 [(bw,WK p role sv)]) (I:=fun k v ob H1=>(0≤k∧k≤l.length)∧H.le H1∧RdSl H1 1 Str.cells v (kw p [] (l.take k.toNat))) (μ:=fun k=>(l.length - k).toNat) 0 (.slice none 0 0) [] H ky ⟨o2q,.refl _,RdSl.nil⟩ (fun w hw=>hw) (fun k v ob H1 hI=>?_)
 obtain⟨⟨k0,k1⟩,hIA,hI3⟩:=hI
 have hp1:=hp.le hIA
 have hl1:=hl.le hIA
 have hpt1:=hp1.pt
 have hlm:=hl.max
 refine f3 ?_;refine TL.run (ah rfl rfl hl1) rfl (zm1 ?_)
 refine ag rfl ?_ ?_<;>intro c14
 ·
  obtain⟨j,hx⟩:=ao (l:=l) k0 c14
  have hjr:=hr j (List.mem_of_getElem? hx)
  obtain⟨x,hxp⟩:=ao (l:=p.points) hjr.1 hjr.2
  have hxa:=(hp1.ps x (List.mem_of_getElem? hxp)).a
  have hx6:=h6 x (List.mem_of_getElem? hxp)
  have hln:=zg h6 (l.take k.toNat) []
  have hlt:=List.length_take_le k.toNat l
  have hlt2:(l.take k.toNat).length≤l.length:=by rw [List.length_take];omega
  simp only [List.length_nil] at hln
  refine qz ?_;refine uu ?_;refine gE ?_;refine xt ?_
  refine TQ.run (ae rfl hl1 rfl om om) rfl (TQ.run (aQ hl1 hx rfl rfl) rfl (TQ.run (ae rfl hpt1 rfl om om) rfl (gE ?_)));refine TQ.run (br hpt1 hxp rfl rfl) rfl (lE ?_)
  refine lg ?_
  refine aW (V:=fun m v ob H2=>[(6,v),(9,.int .i64 m)]) (K:=[(0,_),(1,_),(4,_),(5,_),(7,_),(8,_),(11,_),(12,_),(13,_),(14,_),(17,_),(18,_),(19,_),(20,_),(21,_),(22,_),(23,_),(24,_),(25,_),(26,_),(27,_),(28,_)]) (L:=fun m v ob H2=>St (keys [(bw,WK p role sv)]) w0 H H2 [(bw,WK p role sv)]) (I:=fun m v ob H2=>(0≤m∧m≤x.arms.length)∧H1.le H2∧RdSl H2 1 Str.cells v (gO (kw p [] (l.take k.toNat)) (x.arms.take m.toNat))) (μ:=fun m=>(x.arms.length - m).toNat) 0 v [] H1 ky ⟨o2q,.refl _,hI3⟩ (fun w hw=>hw) (fun m v ob H2 hI=>?_)
  obtain⟨⟨m0,m1⟩,hI2,hI3⟩:=hI
  have hxa2:=hxa.le hI2
  have hxm:=hxa.max
  refine f3 ?_;refine TL.run (ah rfl rfl hxa2) rfl (zm1 ?_)
  refine ag rfl ?_ ?_<;>intro c32
  ·
   obtain⟨a,ha⟩:=ao (l:=x.arms) m0 c32
   have hla:=sD (kw p [] (l.take k.toNat)) (x.arms.take m.toNat)
   have hlt3:(x.arms.take m.toNat).length≤x.arms.length:=by rw [List.length_take];omega
   refine gj ?_;refine pO ?_;refine TL.run (ae rfl hxa2 rfl om om) rfl (zm6 ?_)
   refine TL.run (br hxa2 ha rfl rfl) rfl (TL.call (ab rfl rfl rfl rfl) (Eo a.label hI3 om) rfl (fun v41 H41 hle41 hp41=>?_))
   refine lr ?_
   exact aH (m+1) v41 [] H41 ⟨o2q,hI2.trans hle41,by rw [CE m0 ha];exact hp41⟩ ky (fun w hw=>hw) om
  refine xM ?_
  exact aH (k+1) v [] H2 ⟨o2q,hIA.trans hI2,by rw [CD k0 hx hxp];rw [show x.arms.take m.toNat=x.arms from List.take_of_length_le om] at hI3;exact hI3⟩ ky (fun w hw=>hw) om
 refine gh ?_;refine zm2 ?_
 rw [List.take_of_length_le om] at hI3
 have hO:RdSl H1 1 Str.cells v (cY p l):=hI3
 refine zm8 ?_
 refine TC.loop (V:=fun k=>[(10,.int .i64 k)]) (K:=[(0,_),(1,_),(4,_),(5,_),(6,_)]) (L:=fun k=>_) (I:=fun k=>(0≤k∧k≤l.length)∧l.all (mD p (cY p l).length)=(l.drop k.toNat).all (mD p (cY p l).length)) (μ:=fun k=>(l.length - k).toNat) (i:=(0:Int)) ky ⟨o2q,rfl⟩ (fun w hw=>hw) (fun k hI=>?_)
 obtain⟨⟨k0,k1⟩,hal⟩:=hI
 refine f3 ?_;refine TL.run (ah rfl rfl hl1) rfl (zm1 ?_)
 refine ag rfl ?_ ?_<;>intro c45
 ·
  obtain⟨j,hx⟩:=ao (l:=l) k0 c45
  have hjr:=hr j (List.mem_of_getElem? hx)
  obtain⟨x,hxp⟩:=ao (l:=p.points) hjr.1 hjr.2
  have hxa:=(hp1.ps x (List.mem_of_getElem? hxp)).a
  refine qz ?_;refine uu ?_;refine gE ?_;refine xt ?_
  refine TQ.run (ae rfl hl1 rfl om om) rfl (TQ.run (aQ hl1 hx rfl rfl) rfl (TQ.run (ae rfl hpt1 rfl om om) rfl (gE ?_)))
  refine TQ.run (br hpt1 hxp rfl rfl) rfl (TQ.run (ah rfl rfl hxa) rfl (TQ.run (aJ rfl) rfl (TQ.run (ah rfl rfl hO) rfl ?_)));refine lE ?_
  refine aX rfl ?_ ?_<;>intro c63
  ·
   refine qG ?_;refine iM ?_
   exact aZ (.inr rfl) (cq rfl (RVal.tmp rfl) (RVal.tmp rfl)) (fun w hw=>hw) ⟨[],rfl,rfl,_,by rw [show jO p l=false from du (p:=mD p (cY p l).length) k0 hx (by unfold mD;rw [hxp];simpa using c63) hal],hO⟩
  refine gG ?_
  exact aS (k+1) ⟨o2q,cg (p:=mD p (cY p l).length) k0 hx (by unfold mD;rw [hxp];simpa using c63) hal⟩ ky (fun w hw=>hw) om
 refine ir ?_;refine qG ?_
 exact aZ (.inr rfl) (cq rfl (RVal.tmp rfl) (RVal.tmp rfl)) (fun w hw=>hw) ⟨[],rfl,rfl,_,by rw [show jO p l=true from cU (p:=mD p (cY p l).length) k0 c45 hal],hO⟩
end Go.Sx
namespace Go.Sx
open Go Go.Proofs
theorem eqCar (k k':Int)(s s':Str):jj Tryz.prog 4 40 [.int .i64 k,gs s] [.int .i64 k',gs s']=some (decide (k=k'∧s=s')):=by
 have h:jj Tryz.prog 4 40 [.int .i64 k,gs s] [.int .i64 k',gs s']=some ((k==k')&&(((ByteArray.mk s.toArray).toList==(ByteArray.mk s'.toArray).toList)&&true)):=by kernel_rfl
 rw [h,oA,oA]
 by_cases h1:k=k'<;>by_cases h2:s=s'<;>simp [h1,h2]
theorem mw {H:Hp}{p:SProto}(role:Str)(hp:ProtoOk H p){bw:Nat}{sv:Value}{lv:Value}{l:List Int}(hl:RdSl H 1 I64.cells lv l)(hr:∀j∈l,0≤j∧j<p.points.length)(s:Str)(hll:l.length≤1000):
  KFn Tryz.prog bw (WK p role sv) 176 [.pointer (some ⟨bw,0,none⟩),lv,gs s] H (fun v H1 ob=>H1=H∧∃tv,v= .tuple #[.agg #[.int .i64 (dW p l s).1,gs (dW p l s).2.1],tv,.bool (dW p l s).2.2.2]∧((dW p l s).2.2.2=true→OwnSl 1 I64.cells tv (dW p l s).2.2.1 ob)):=by
 have hpt:=hp.pt
 have hlm:=hl.max
 refine FnX.enter Tryz.func176 Tryz.ntmps176 rfl rfl (fun w0=>?_)
 refine zm2 ?_
 refine TL.alloc rfl (fun b6=>?_)
 refine lW ?_;refine zm2 ?_
 refine TL.alloc rfl (fun b9=>?_)
 refine TL.nil (af (jt ?_))
 refine aW (V:=fun(q:Int×Int×Str) v ob H1=>[(10,v),(11,.int .i64 q.1)]) (K:=[(0,_),(1,_),(2,_),(6,_),(7,_),(8,_),(9,_)]) (L:=fun(q:Int×Int×Str) v ob H1=>St (keys [(bw,WK p role sv)]) w0 H H ((b9,[.int .i64 q.2.1,gs q.2.2])::(b6,[.int .i64 0,gs []])::(bw,WK p role sv)::ob)) (I:=fun(q:Int×Int×Str) v ob H1=>(0≤q.1∧q.1≤l.length)∧∃to,OwnSl 1 I64.cells v to ob∧iU p s q.2.1 q.2.2 to (l.drop q.1.toNat)=dW p l s∧to.length≤q.1.toNat) (μ:=fun(q:Int×Int×Str)=>(l.length - q.1).toNat) ((0:Int),(0:Int),([]:Str)) (.slice none 0 0) [] H ky ⟨o2q,[],OwnSl.nil,rfl,by simp⟩ (fun w hw=>hw) (fun q v ob H1 hI=>?_)
 obtain⟨⟨k0,k1⟩,to,hO,hI3,hI4⟩:=hI
 obtain⟨va,vc,rfl⟩:=hO.form
 refine f3 ?_;refine TL.run (ah rfl rfl hl) rfl (zm1 ?_)
 refine ag rfl ?_ ?_<;>intro c17
 ·
  obtain⟨j,hx⟩:=ao (l:=l) k0 c17
  have hjr:=hr j (List.mem_of_getElem? hx)
  obtain⟨x,hxp⟩:=ao (l:=p.points) hjr.1 hjr.2
  have hxa:=(hp.ps x (List.mem_of_getElem? hxp)).a
  have hfr:=jG (x.arms.map (·.label)) s
  rw [List.length_map] at hfr
  refine qz ?_;refine uu ?_;refine gE ?_;refine gE ?_;refine TQ.run (aB rfl (.h2) rfl) rfl (iZ ?_)
  refine TQ.run (ae rfl hl rfl om om) rfl (TQ.run (aQ hl hx rfl rfl) rfl (TQ.run (ae rfl hpt rfl om om) rfl (gE ?_)));refine TQ.run (br hpt hxp rfl rfl) rfl (lE ?_)
  refine eh ?_;refine ay (ab rfl rfl rfl rfl) (Aa s hxa) rfl (o5 ?_)
  refine ag rfl ?_ ?_<;>intro c36
  ·
   refine TC.exit (bM (cG (af ?_)));refine iX ?_;refine nv ?_
   exact aH (q.1+1,q.2) _ ob H ⟨o2q,_,hO,by rw [show(q.1+1).toNat=q.1.toNat+1 by omega,← CR hx hxp c36];exact hI3,by omega⟩ ky (fun w hw=>hw) om
  obtain⟨a,ha⟩:=ao (l:=x.arms) (i:=cl (x.arms.map (·.label)) s) om om
  refine jo ?_;refine oJ ?_;refine TQ.run (aJ rfl) rfl (TQ.run (bE rfl rfl hO) rfl (iZ ?_))
  refine fT (s:=40) rfl ?_ ?_<;>intro g40
  ·
   have q40:=of_decide_eq_true g40
   refine mf ?_;refine bA rfl rfl (ae rfl hxa rfl om om) rfl (jp ?_)
   refine bA rfl rfl (rT hxa ha rfl rfl) rfl (bA rfl rfl (a7 rfl (.here _) rfl) rfl (bA rfl rfl (rS rfl rfl kr kr (eqCar _ _ _ _)) rfl (lE ?_)))
   refine TC.cond rfl ?_ ?_<;>intro c48
   ·
    refine gu ?_;refine tN ?_;refine fq ?_;refine k5 ?_
    have hE:dW p l s=(q.2.1,q.2.2,[],false):=by rw [← hI3];exact Ff hx hxp c36 ha ⟨by omega,fun h=>by simp [h.1,h.2] at c48⟩
    exact aZ (.inr rfl) (fi rfl (RVal.cellA rfl (.h1) rfl) (RVal.tmp rfl) (RVal.tmp rfl)) (fun w hw=>hw.drop.drop) ⟨ob,rfl,rfl,_,by rw [hE];rfl,fun h=>by rw [hE] at h ⊢;first | exact hO | cases h⟩
   refine xo ?_;refine TL.run (ae rfl hxa rfl om om) rfl (zm6 ?_);refine TL.run (rT hxa ha rfl rfl) rfl (fb ?_);refine pO ?_;refine xu ?_
   refine aD rfl rfl rfl rfl (fun b61=>?_)
   refine TL.append (enc:=I64.cells) rfl rfl rfl hO (Src.own [a.next] (.here _) rfl rfl) (by simp;omega) rfl (.s3 (.skip _ .all)) rfl (fun a62 c62 ob62 hO62=>?_)
   refine lr ?_
   exact aH (q.1+1,a.ck,a.cn) _ ob62 H ⟨o2q,_,hO62,by rw [show(q.1+1).toNat=q.1.toNat+1 by omega,← vT hx hxp c36 ha (by rintro⟨h1,h2⟩;exact h2 (by simpa using c48))];exact hI3,by simp only [List.length_append,List.length_cons,List.length_nil];omega⟩ ky (fun w hw=>hw.drop) om
  have q40:=of_decide_eq_false g40
  refine Dy ?_;refine jQ rfl rfl rfl rfl (jQ rfl rfl rfl rfl (jQ rfl rfl rfl rfl (lE ?_)));refine fU rfl (xo ?_);refine TL.run (ae rfl hxa rfl om om) rfl (zm6 ?_)
  refine TL.run (rT hxa ha rfl rfl) rfl (fb ?_);refine pO ?_;refine xu ?_
  refine aD rfl rfl rfl rfl (fun b61=>?_)
  refine TL.append (enc:=I64.cells) rfl rfl rfl hO (Src.own [a.next] (.here _) rfl rfl) (by simp;omega) rfl (.s3 (.skip _ .all)) rfl (fun a62 c62 ob62 hO62=>?_)
  refine lr ?_
  exact aH (q.1+1,a.ck,a.cn) _ ob62 H ⟨o2q,_,hO62,by rw [show(q.1+1).toNat=q.1.toNat+1 by omega,← vT hx hxp c36 ha om];exact hI3,by simp only [List.length_append,List.length_cons,List.length_nil];omega⟩ ky (fun w hw=>hw.drop) om
 refine ir ?_;refine gu ?_;refine zm0 ?_;refine tN ?_;refine fq ?_
 have hE:dW p l s=(q.2.1,q.2.2,to,true):=by rw [← hI3];exact(by rw [List.drop_eq_nil_of_le om];rfl)
 exact aZ (.inr rfl) (fi rfl (RVal.cellA rfl (.h1) rfl) (RVal.tmp rfl) (RVal.tmp rfl)) (fun w hw=>hw.drop.drop) ⟨ob,rfl,rfl,_,by rw [hE];rfl,fun h=>by rw [hE] at h ⊢;first | exact hO | cases h⟩
end Go.Sx
namespace Go.Sx
open Go Go.Proofs
theorem turn_ok {H:Hp}{p:SProto}(role:Str)(hp:ProtoOk H p)(hN:oH p)(hn:p.points.length≤1000){bw:Nat}{sv:Value}{ob:aj}{rows:List GRow}(hO:OwnSl 1 GRow.cells sv rows ob)(hrw:GRowsOk H rows)(hrl:rows.length≤40)(h6:∀x∈p.points,x.arms.length≤6){fv:Value}{set:List Int}(hf:RdSl H 1 I64.cells fv set)(hr:∀j∈set,0≤j∧j<p.points.length)(hfl:set.length≤1000):
  FnX Tryz.prog 126 [.pointer (some ⟨bw,0,none⟩),fv] H ((bw,WK p role sv)::ob) (fun v H1 L1=>∃sv' ob' rows' av oa,L1=(bw,WK p role sv')::(ob'++oa)∧OwnSl 1 GRow.cells sv' rows' ob'∧GRowsOk H1 rows'∧rows'.length≤40∧rows'.map (·.l)=(bD p role (rows.map (·.l)) set).2.2∧OwnSl 4 SArm.cells av (bD p role (rows.map (·.l)) set).1.2.2 oa∧v= .tuple #[.agg #[.int .i64 (bD p role (rows.map (·.l)) set).1.1,gs (bD p role (rows.map (·.l)) set).1.2.1,av],.int .i64 (bD p role (rows.map (·.l)) set).2.1]):=by
 refine FnX.enterM Tryz.func126 Tryz.ntmps126 rfl rfl (fun w0 M hM=>?_)
 refine zm2 ?_
 refine TL.alloc rfl (fun b4=>?_)
 refine xS ?_;refine TL.run (ah rfl rfl hf) rfl (zm1 ?_)
 refine ag rfl ?_ ?_<;>intro c24
 ·
  refine xn ?_
  have hE:bD p role (rows.map (·.l)) set=((0,[],[]),0,rows.map (·.l)):=by unfold bD;rw [if_pos om]
  exact aZ (.inr rfl) (cq rfl (RVal.cellA rfl (.here _) rfl) (RVal.tmp rfl)) (fun w hw=>by rw [List.append_nil];exact hw.drop) ⟨_,ob,rows,.slice none 0 0,[],rfl,hO,hrw,hrl,by rw [hE],by rw [hE];exact OwnSl.nil,by rw [hE];rfl⟩
 refine xo ?_
 refine nt (X:=[(b4,_)]) (b:=bw) rfl (ab rfl rfl rfl rfl) (BW role hp hf hr) rfl (fun v29 H29 ob29 hle29 hf29 hp29=>?_)
 obtain⟨eb29,eH29,rfl⟩:=hp29
 subst eb29
 replace eH29:=eH29.symm
 subst eH29
 rw [List.append_nil]
 refine qT ?_;refine zm3 ?_;refine o5 ?_
 refine aX rfl ?_ ?_<;>intro c34
 ·
  refine lh ?_;refine zm0 ?_;refine De ?_
  have hE:bD p role (rows.map (·.l)) set=((0,[],[]),(cL p role set).2.2,rows.map (·.l)):=by unfold bD;rw [if_neg om,if_pos c34]
  exact aZ (.inr rfl) (cq rfl (RVal.cellA rfl (.here _) rfl) (RVal.tmp rfl)) (fun w hw=>by rw [List.append_nil];exact hw.drop) ⟨_,ob,rows,.slice none 0 0,[],rfl,hO,hrw,hrl,by rw [hE],by rw [hE];exact OwnSl.nil,by rw [hE];rfl⟩
 have h34:¬(cL p role set).2.2≠0:=by simpa using c34
 refine xo ?_
 refine nt (X:=[(b4,_)]) (b:=bw) rfl (ab rfl rfl rfl rfl) (yp role hp hf hr hfl h6) rfl (fun v40 H40 ob40 hle40 hf40 hp40=>?_)
 obtain⟨eb40,lv40,rfl,hlab⟩:=hp40
 subst eb40
 rw [List.append_nil]
 replace hp:=hp.le hle40
 replace hf:=hf.le hle40
 replace hrw:=hrw.le hle40
 obtain⟨la,lc,rfl⟩:=hlab.len
 have hlm:=hlab.max
 refine qT ?_;refine iW ?_;refine gw ?_
 refine ai (s:=45) rfl ?_ ?_<;>intro g45
 ·
  have q45:=of_decide_eq_true g45
  refine fc ?_;refine zm1 ?_
  refine TC.cond rfl ?_ ?_<;>intro c48
  ·
   refine xn ?_
   have hE:bD p role (rows.map (·.l)) set=((0,[],[]),803,rows.map (·.l)):=by unfold bD;rw [if_neg om,if_neg h34,if_pos ⟨q45,by simpa using c48⟩]
   exact aZ (.inr rfl) (cq rfl (RVal.cellA rfl (.here _) rfl) (RVal.tmp rfl)) (fun w hw=>by rw [List.append_nil];exact hw.drop) ⟨_,ob,rows,.slice none 0 0,[],rfl,hO,hrw,hrl,by rw [hE],by rw [hE];exact OwnSl.nil,by rw [hE];rfl⟩
  exact zq633
 have q45:=of_decide_eq_false g45
 refine jm ?_;refine pP ?_
 exact zq633
end Go.Sx
namespace Go.Sx
open Go Go.Proofs
theorem Bp {H:Hp}(p:SProto)(role:Str)(hp:ProtoOk H p)(hnm:p.name.length≤1000)(hrl:role.length≤1000){B:Nat}(hB:∀x∈p.points,∀a∈x.arms,a.cn.length≤B)(hB2:B≤4294960000):
  Fn Tryz.prog 67 [.agg p.cells.toArray,gs role] H (fun v H1=>∃nm ts tp,v= .tuple #[.agg (SLocal.cells ⟨nm,ts,tp⟩).toArray,.int .i64 (cN p role).1]∧((cN p role).1=0→nm=(p.name++[46])++role∧LocalOk H1 ⟨nm,ts,tp⟩∧ts.map tt=(cN p role).2)):=by
 refine Fn.enter Tryz.func67 Tryz.ntmps67 rfl rfl (fun w0=>?_)
 refine zm2 ?_
 refine TL.box rfl rfl (fun b2=>?_)
 refine TL.alloc rfl (fun b4=>?_)
 refine iW ?_;refine mp ?_;refine ay (ab rfl rfl rfl rfl) (iI p hp) rfl (zm3 ?_)
 refine ai (s:=16) rfl ?_ ?_<;>intro g16
 ·
  refine pQ ?_;refine ll ?_;refine xn ?_
  have hE:(cN p role).1=800:=by unfold cN;rw [if_pos (by first | exact c22 | simp_all)]
  exact aR (.inr rfl) (cq rfl (RVal.cellA rfl (.here _) rfl) (RVal.tmp rfl)) ⟨[],[],(none,0),by rw [hE];rfl,fun h=>absurd (hE.symm.trans h) dq⟩
 refine fM ?_;refine cK ?_;refine aO rfl rfl (ab rfl rfl rfl rfl) (mM role hp.r) rfl (gi ?_)
 refine TC.cond rfl ?_ ?_<;>intro c22
 ·
  refine xn ?_
  have hE:(cN p role).1=800:=by unfold cN;rw [if_pos (by first | exact c22 | simp_all)]
  exact aR (.inr rfl) (cq rfl (RVal.cellA rfl (.here _) rfl) (RVal.tmp rfl)) ⟨[],[],(none,0),by rw [hE];rfl,fun h=>absurd (hE.symm.trans h) dq⟩
 have hrh:(ci p&&cj p.roles role)=true:=by simp_all
 have hRP:=RPOk.of (p:=p) (by simp_all)
 refine cV ?_;refine mp ?_;refine zm0 ?_;refine dw ?_
 refine TL.box rfl rfl (fun b27=>?_)
 refine dN ?_;refine o3 ?_;refine o3 ?_
 obtain⟨bw,hbw⟩:∃bw,bw=b27:=⟨_,rfl⟩
 subst hbw
 refine af (dM ?_)
 refine aD rfl rfl rfl rfl (fun b30=>?_)
 refine TL.pub sq (fun H_b30 le_b30 rd_b30=>?_)
 have hA30:RdSl H_b30 1 I64.cells (.slice (some ⟨b30,0,none⟩) 1 1) [0]:=RdSl.blk (l:=[0]) (enc:=I64.cells) rd_b30 (by intro x hx;rfl) rfl (by show 1≤9223372036854775807;decide)
 replace hp:=hp.le le_b30
 refine oF (X:=[(b4,_),(b2,_)]) (A:=(bw,_)::[]) (Y:=[]) rfl (ab rfl rfl rfl rfl) (BB role hp hRP.nx (by have:=hRP.n24;omega) (OwnSl.nil (enc:=GRow.cells)) (rows:=[]) (by intro r hr;simp at hr) sq hA30 sq) rfl (fun v31 H31 A31 hle31 hp31=>?_)
 obtain⟨sv31,ob31,rows31,rfl,hO31,hrw31,hrl31,hm31,rfl⟩:=hp31
 replace hp:=hp.le hle31
 rw [List.append_nil]
 have hm31':rows31.map (·.l)=(bR p role [] [0]).2.2:=hm31
 refine qT ?_;refine o5 ?_
 refine aX rfl ?_ ?_<;>intro c35
 ·
  have c35b:(bR p role [] [0]).2.1≠0:=c35
  refine lh ?_;refine zm0 ?_;refine De ?_
  have hE:(cN p role).1=(bR p role [] [0]).2.1:=by unfold cN;rw [if_neg (by rw [hrh];decide),if_pos c35b]
  exact aR (.inr rfl) (cq rfl (RVal.cellA rfl (.here _) rfl) (RVal.tmp rfl)) ⟨[],[],(none,0),by rw [hE];rfl,fun h=>absurd (hE.symm.trans h) (c35b)⟩
 have h35:¬(bR p role [] [0]).2.1≠0:=by simpa using c35
 refine cV ?_;refine gX ?_;refine TL.run (eu rfl rfl (by simp only [List.length_append,List.length_cons,List.length_nil];omega)) rfl (zm0 ?_)
 refine TL.run (eu rfl rfl (by simp only [List.length_append,List.length_cons,List.length_nil];omega)) rfl (dw ?_)
 refine TL.alloc rfl (fun b9=>?_)
 refine fb ?_;refine j5 ?_
 have hlk:=sy (p:=p) (role:=role) hRP.nx (sets:=[]) (frm:=[0]) (by intro s hs;simp at hs)
 refine TC.loop (ι:=TQ2) (V:=fun q=>[(10,.int .i64 q.k)]) (K:=[(4,_),(5,_),(6,_),(9,_)]) (L:=fun q=>St [] w0 H q.h ((b9,[gs ((p.name++[46])++role),q.v])::(b4,[gs [],.slice none 0 0])::(b2,p.cells)::(bw,WK p role q.sv)::(q.ob++q.oa))) (I:=fun q=>(0≤q.k∧q.k≤q.rows.length)∧H31.le q.h∧OwnSl 1 GRow.cells q.sv q.rows q.ob∧GRowsOk q.h q.rows∧q.rows.length≤40∧OwnSl 3 STurn.cells q.v q.ts q.oa∧jB p role (41 - q.k.toNat) q.k.toNat (q.rows.map (·.l)) (q.ts.map tt)=jB p role 41 0 (rows31.map (·.l)) []∧kG p.points.length (q.rows.map (·.l))∧(∀t∈q.ts,TurnOk q.h t)∧(q.ts.length:Int)=q.k) (μ:=fun q=>(41 - q.k).toNat) (i:=⟨0,H31,_,ob31,rows31,.slice none 0 0,[],[]⟩) ky ⟨⟨by show(0:Int)≤0;omega,by show(0:Int)≤_;omega⟩,.refl _,hO31,hrw31,hrl31,OwnSl.nil,rfl,by rw [hm31'];exact hlk,by simp,rfl⟩ (fun w hw=>by rw [List.append_nil];exact hw) (fun q hI=>?_)
 obtain⟨⟨k0,k1⟩,hq2,hq3,hq4,hq5,hq6,hq7,hSO,hq9,hq10⟩:=hI
 rw [hm31'] at hq7
 have hp2:=hp.le hq2
 obtain⟨va,vc,hv⟩:=hq6.form
 refine f3 ?_;refine lG ?_;refine mj ?_;refine TL.run (bE rfl rfl hq3) rfl (zm1 ?_)
 refine ag rfl ?_ ?_<;>intro c50
 ·
  obtain⟨r,hrx⟩:=ao (l:=q.rows) k0 c50
  have hs:(q.rows.map (·.l))[q.k.toNat]? =some r.l:=by rw [List.getElem?_map,hrx];rfl
  have hsr:=hSO _ (List.mem_of_getElem? hs)
  have hsl:r.l.length≤1000:=by have:=hRP.n24;have:=hsr.2;omega
  refine o7 ?_;refine lG ?_;refine mj ?_;refine zm0 ?_
  refine TL.run (aY rfl rfl hq3 om om) rfl (TL.run (bG (j:=0) rfl hq3 (.s4 (.app _)) hrx rfl) rfl (oF (X:=[(b9,_),(b4,_),(b2,_)]) (A:=(bw,_)::q.ob) rfl (ab rfl rfl rfl rfl) (turn_ok role hp2 hRP.nx (by have:=hRP.n24;omega) hq3 hq4 hq5 hRP.a6 (hq4 r (List.mem_of_getElem? hrx)) hsr.1 hsl) rfl (fun v62 H62 A62 hle62 hp62=>?_)))
  obtain⟨sv62,ob62,rows62,av62,oa62,rfl,hO62,hrw62,hrl62,hm62,hA62,rfl⟩:=hp62
  obtain⟨aa62,ac62,rfl⟩:=hA62.form
  refine xm ?_
  refine TL.alloc rfl (fun b11=>?_)
  refine gY ?_;refine o5 ?_
  refine aX rfl ?_ ?_<;>intro c66
  ·
   refine lh ?_;refine zm0 ?_;refine cH rfl rfl rfl rfl rfl (.h2) rfl rfl (ei ?_);refine k5 ?_
   have hE:(cN p role).1=(bD p role (q.rows.map (·.l)) r.l).2.1:=by unfold cN;rw [if_neg (by rw [hrh];decide),if_neg h35,← hq7,show 41 - q.k.toNat=(40 - q.k.toNat)+1 by omega,rO hs c66]
   exact aR (.inr rfl) (cq rfl (RVal.cellA rfl (.h2) rfl) (RVal.tmp rfl)) ⟨[],[],(none,0),by rw [hE];rfl,fun h=>absurd (hE.symm.trans h) (c66)⟩
  refine sZ (perm_as [(b11,_),(b9,_),(b4,_),(b2,_)]) (TC.pubO hA62 (.s5 ((.past _ (.app _)))) sq (fun HP62 leP62 hT62=>?_))
  rw [List.nil_append]
  replace hrw62:=hrw62.le leP62
  have hTk:TurnOk HP62 ⟨(bD p role (q.rows.map (·.l)) r.l).1.1,(bD p role (q.rows.map (·.l)) r.l).1.2.1,(bD p role (q.rows.map (·.l)) r.l).1.2.2,(aa62,ac62)⟩:=⟨hT62,fun a ha=>Nat.le_trans (DN hB a ha) hB2⟩
  have hge:q.rows.length≤rows62.length:=by have h1:=congrArg List.length hm62;rw [List.length_map] at h1;rw [h1];have h2:=yv (p:=p) (role:=role) (set:=r.l) (sets:=q.rows.map (·.l));rwa [List.length_map] at h2
  refine cV ?_;refine qF ?_;refine fo ?_
  refine aD rfl rfl rfl rfl (fun b72=>?_)
  refine TL.append (enc:=STurn.cells) rfl rfl rfl hq6 (Src.own [⟨(bD p role (q.rows.map (·.l)) r.l).1.1,(bD p role (q.rows.map (·.l)) r.l).1.2.1,(bD p role (q.rows.map (·.l)) r.l).1.2.2,(aa62,ac62)⟩] (.here _) rfl rfl) (by simp only [List.length_cons,List.length_nil];omega) rfl (.s6 (.past ob62 .all)) rfl (fun a73 c73 ob73 hO73=>?_)
  refine xk ?_;refine TL.nil (iY ?_)
  exact aS (⟨q.k+1,HP62,sv62,ob62,rows62,_,ob73,q.ts++[⟨(bD p role (q.rows.map (·.l)) r.l).1.1,(bD p role (q.rows.map (·.l)) r.l).1.2.1,(bD p role (q.rows.map (·.l)) r.l).1.2.2,(aa62,ac62)⟩]⟩:TQ2) ⟨⟨by show 0≤q.k+1;omega,by show q.k+1≤(rows62.length:Int);omega⟩,hq2.trans (hle62.trans leP62),hO62,hrw62,hrl62,hO73,by show jB p role (41 - (q.k+1).toNat) (q.k+1).toNat (rows62.map (·.l)) _=_;rw [hm31',← hq7,show 41 - q.k.toNat=(41 - (q.k+1).toNat)+1 by omega,kO hs (by simpa using c66),hm62,show(q.k+1).toNat=q.k.toNat+1 by omega,List.map_append];rfl,by show kG _ (rows62.map (·.l));rw [hm62];exact DM hRP.nx hSO,fj (fun t ht=>(hq9 t ht).le (hle62.trans leP62)) hTk,by show _=q.k+1;simp only [List.length_append,List.length_cons,List.length_nil];omega⟩ ky (fun w hw=>hw.drop.drop) (by show(41 - (q.k+1)).toNat<(41 - q.k).toNat;omega)
 refine qE ?_
 rw [hv] at hq6 ⊢
 refine fo ?_;refine tN ?_;refine ei ?_
 have hE:cN p role=(0,q.ts.map tt):=by unfold cN;rw [if_neg (by rw [hrh];decide),if_neg h35,← hq7,mK (by rw [List.length_map];omega)]
 refine TX.pubO hq6 (.s4 (.past _ .all)) sq (fun H2 hle2 hR=>?_)
 exact aR (.inr rfl) (cq rfl (RVal.cellA rfl (.h1) rfl) (RVal.tmp rfl)) ⟨_,q.ts,(va,vc),by rw [hE];rfl,fun _=>⟨rfl,⟨hR,fun t ht=>(hq9 t ht).le hle2⟩,by rw [hE]⟩⟩
end Go.Sx
namespace Go.Sx
open Go Go.Proofs
theorem vj {H:Hp}(p:SProto)(hp:ProtoOk H p)(hnm:p.name.length≤1000)(hrl:∀r∈p.roles,r.length≤1000):
  Fn Tryz.prog 30 [.agg p.cells.toArray] H (fun v H1=>∃lv,v= .tuple #[lv,.int .i64 (jk p).2,.int .i64 (jk p).1]∧((jk p).1=0→∃ls,RdSl H1 2 SLocal.cells lv ls∧LsOk H1 p p.roles.length ls)∧((jk p).1≠0→lv= .slice none 0 0)):=by
 have hro:=hp.r
 have hrm:=hro.max
 refine Fn.enter Tryz.func30 Tryz.ntmps30 rfl rfl (fun w0=>?_)
 refine zm2 ?_
 refine TL.box rfl rfl (fun b1=>?_)
 refine zm3 ?_;refine iW ?_;refine gu ?_;refine ay (ab rfl rfl rfl rfl) (iI p hp) rfl (zm1 ?_)
 refine TC.cond rfl ?_ ?_<;>intro c11
 ·
  refine eh ?_;refine tO ?_
  have hE:jk p=(800,0):=by unfold jk;rw [if_pos (by simpa using c11)]
  exact aR (.inr rfl) (fi rfl (RVal.tmp rfl) (RVal.tmp rfl) (RVal.tmp rfl)) ⟨_,by rw [hE],fun h=>absurd h (by rw [hE];decide),fun _=>rfl⟩
 have hRB:ci p=true:=by simpa using c11
 have hr5:=(RPOk.of hRB).r5
 refine cV ?_;refine jt ?_
 refine aW (V:=fun k v ob H1=>[(5,v),(6,.int .i64 k)]) (K:=[(1,_),(2,_),(3,_),(4,_)]) (L:=fun k v ob H1=>St [] w0 H H1 ((b1,p.cells)::ob)) (I:=fun k v ob H1=>(0≤k∧k≤p.roles.length)∧H.le H1∧jc p k.toNat (p.roles.drop k.toNat)=jc p 0 p.roles∧∃ls,OwnSl 2 SLocal.cells v ls ob∧LsOk H1 p k ls) (μ:=fun k=>(p.roles.length - k).toNat) 0 (.slice none 0 0) [] H ky ⟨o2q,.refl _,rfl,[],OwnSl.nil,⟨rfl,by simp⟩⟩ (fun w hw=>hw) (fun k v ob H1 hI=>?_)
 obtain⟨⟨k0,k1⟩,hI2,hI3,ls,hO,hLs⟩:=hI
 have hp1:=hp.le hI2
 have hro1:=hp1.r
 obtain⟨va,vc,rfl⟩:=hO.form
 refine qQ ?_;refine TL.run (ah rfl rfl hro1) rfl (zm1 ?_)
 refine ag rfl ?_ ?_<;>intro c16
 ·
  obtain⟨rr,hrx⟩:=ao (l:=p.roles) k0 c16
  refine xv ?_
  refine TD.part 6 10 rfl rfl rfl ?_ ?_
  ·
   refine TD.leaf [(0,2),(1,1),(2,2),(3,1),(4,1),(5,2),(6,3),(7,1),(8,1),(9,1),(10,3),(11,0),(12,1)] kr kr (aK (a7 rfl (.here _) rfl) rfl (lX ?_))
   refine aq (ae rfl hro1 rfl om om) rfl (aK (aQ hro1 hrx rfl rfl) rfl (TF.call (ab rfl rfl rfl rfl) (Bp p rr hp1 hnm (hrl rr (List.mem_of_getElem? hrx)) (fun x hx a ha=>(hp.ps x hx).z a ha) (Nat.le_refl _)) rfl (fun v26 H26 hle26 hp26=>?_)))
   obtain⟨nm,ts,tp,rfl,hRo⟩:=hp26
   refine ut ?_
   refine TF.alloc rfl (fun b7=>?_)
   exact zq790
  refine TD.leaf [(0,2),(1,1),(2,2),(3,1),(4,1),(5,2),(10,3),(6,3),(7,1),(8,1),(9,1),(11,0),(12,1)] kr kr (aK (a7 rfl (.here _) rfl) rfl (lX ?_))
  refine aq (ae rfl hro1 rfl om om) rfl (aK (aQ hro1 hrx rfl rfl) rfl (TF.alloc rfl (fun b7=>?_)))
  refine TF.call (ab rfl rfl rfl rfl) (Bp p rr hp1 hnm (hrl rr (List.mem_of_getElem? hrx)) (fun x hx a ha=>(hp.ps x hx).z a ha) (Nat.le_refl _)) rfl (fun v26 H26 hle26 hp26=>?_)
  obtain⟨nm,ts,tp,rfl,hRo⟩:=hp26
  refine ut ?_
  exact zq790
 refine ir ?_;refine eh ?_;refine fq ?_
 have hE:jk p=(0,0):=by unfold jk;rw [if_neg (by rw [hRB];decide),← hI3,List.drop_eq_nil_of_le om];rfl
 refine TX.pubO hO (.skip _ .all) sq (fun H2 hle2 hR=>?_)
 have hk:k=p.roles.length:=by omega
 exact aR (.inr rfl) (fi rfl (RVal.tmp rfl) (RVal.tmp rfl) (RVal.tmp rfl)) ⟨_,by rw [hE],fun _=>⟨ls,hR,hk▸hLs.le hle2⟩,fun h=>absurd (by rw [hE]) h⟩
end Go.Sx
namespace Go.Sx
open Go Go.Proofs
theorem uG {H:Hp}{bd:Nat}{dl:Value}{at_:Int}(hd:DiceOk H dl at_){tv:Value}{types:List Str}(hty:RdSl H 1 Str.cells tv types)(htn:∀s∈types,TyNm s)(htl:types.length≤100)(name:Str)(hnl:name.length≤1000)(hnm:au name=true):
  DFn Tryz.prog bd dl at_ 64 [gs name,tv] H (fun v H1 ob=>ob=[]∧(H.le H1∧∃p:SProto,v= .agg p.cells.toArray∧ProtoOk H1 p∧p.name=name∧∃n,2≤n∧n≤5∧p.roles=rolesL.take n∧(jk p).1=0∧kH p)):=by
 refine FnX.enter Tryz.func64 Tryz.ntmps64 rfl rfl (fun w0=>?_)
 refine zm2 ?_
 refine TL.alloc rfl (fun b6=>?_)
 refine TL.nil (af (gw ?_))
 refine aE (X:=[(b6,_)]) (bd:=bd) rfl (ab rfl rfl rfl rfl) (we hd hty htn htl name) rfl (fun v14 H14 at14 hle14 hd14 hp14=>?_)
 obtain⟨hle14_,p,rfl,hP,hNm,n,hn2,hn5,hRo,hLb⟩:=hp14
 replace hty:=hty.le hle14
 have hrl:∀r∈p.roles,r.length≤1000:=by
  intro r hr;rw [hRo] at hr;have:=mJ hr;omega
 refine TL.alloc rfl (fun b7=>?_)
 refine fb ?_;refine gu ?_
 refine TL.call (ab rfl rfl rfl rfl) (vj p hP (by rw [hNm];exact hnl) hrl) rfl (fun v17 H17 hle17 hp17=>?_)
 obtain⟨lv17,rfl,hok17,hno17⟩:=hp17
 replace hty:=hty.le hle17
 replace hd14:=hd14.le hle17
 refine qT ?_;refine zm3 ?_;refine o5 ?_
 refine ag rfl ?_ ?_<;>intro c22
 ·
  refine qP ?_
  exact aI (aZ (.inr rfl) (ad rfl (RVal.cellA rfl (.h1) rfl)) (fun w hw=>hw.drop.drop) ⟨_,[],rfl,hd14,rfl,hle14_.trans hle17,p,rfl,hP.le hle17,hNm,n,hn2,hn5,hRo,by simpa using c22,hLb⟩)
 refine cV ?_;refine gw ?_
 refine aE (X:=[(b7,_),(b6,_)]) (bd:=bd) rfl (ab rfl rfl rfl rfl) (wL hd14 hty htn htl name 2 om om) rfl (fun v27 H27 at27 hle27 hd27 hp27=>?_)
 obtain⟨hle27_,p2,rfl,hP2,hNm2,hRo2,hA2⟩:=hp27
 refine mb ?_
 exact aZ (.inr rfl) (ad rfl (RVal.cellA rfl (.h1) rfl)) (fun w hw=>hw.drop.drop) ⟨_,[],rfl,hd27,rfl,(hle14_.trans hle17).trans hle27_,p2,rfl,hP2,hNm2,_,by decide,by decide,hRo2,two_all htn hA2 (by rw [hNm2];exact hnm) hRo2,hA2.lab⟩
theorem tx {H:Hp}{bd:Nat}{dl:Value}{at_:Int}(hd:DiceOk H dl at_):
  DFn Tryz.prog bd dl at_ 29 [] H (fun v H1 ob=>ob=[]∧(H.le H1∧∃ps,RdSl H1 3 SProto.cells v ps∧PsOk H1 ps∧Fs ps∧∀p∈ps,kH p)):=by
 refine FnX.enter Tryz.func29 Tryz.ntmps29 rfl rfl (fun w0=>?_)
 refine mo ?_
 refine aE (X:=[]) (bd:=bd) rfl (ab rfl rfl rfl rfl) (uG hd RdSl.nil sq sq [112] dq dq) rfl (fun v6 H6 at6 hle6 hd6 hp6=>?_)
 obtain⟨hle6_,p,rfl,hP_,hNmp,np,hn2p,hn5p,hRop,hzp,hbp⟩:=hp6
 have hP:GP _ [112] p:=⟨hP_,hNmp,np,hn2p,hn5p,hRop⟩
 refine TL.alloc rfl (fun b3=>?_)
 refine xE ?_
 have hrlp:p.roles.length≤5:=by rw [hRop,List.length_take];show min np 5≤5;omega
 refine af (gu ?_)
 refine aD rfl rfl rfl rfl (fun b8=>?_)
 refine xS ?_
 refine aE (X:=[(b8,_),(b3,_)]) (bd:=bd) rfl (ab rfl rfl rfl rfl) (bq 2 om hd6) rfl (fun v10 H10 at10 hle10 hd10 hp10=>?_)
 obtain⟨eH10,r10,rfl,hr10⟩:=hp10
 replace eH10:=eH10.symm;subst eH10
 have hra10:=hr10.1
 have hrb10:=hr10.2.1 om
 refine zm1 ?_
 refine ag rfl ?_ ?_<;>intro c11
 ·
  refine jZ ?_
  refine TL.run (a7 rfl (.h1) rfl) rfl (TL.call (ab rfl rfl rfl rfl) (tF p hP.ok (by rw [hP.nm];decide) (by have:=hrlp;omega) (fun r hr=>by have:=mJ (hRop▸hr);omega)) rfl (fun v15 H15 hle15 hp15=>?_))
  replace hd10:=hd10.le hle15
  rw [hP.nm] at hp15
  refine aE (X:=[(b8,_),(b3,_)]) (bd:=bd) rfl (ab rfl rfl rfl rfl) (uG hd10 hp15 (tyNm_of hRop) (by have:=hrlp;simp only [List.length_map];omega) [113] dq dq) rfl (fun v16 H16 at16 hle16 hd16 hp16=>?_)
  obtain⟨hle16_,q,rfl,hQ_,hNmq,nq,hn2q,hn5q,hRoq,hzq,hbq⟩:=hp16
  have hQ:GP _ [113] q:=⟨hQ_,hNmq,nq,hn2q,hn5q,hRoq⟩
  refine aD rfl rfl rfl rfl (fun b17=>?_)
  refine TL.append (enc:=SProto.cells) rfl rfl rfl (OwnSl.blk (enc:=SProto.cells) [⟨_,_,_,_,_⟩] rfl rfl dq) (Src.own [q] (.here _) rfl rfl) sq rfl (.take (.h1) rfl) rfl (fun a18 c18 ob18 hO18=>?_)
  refine zm1 ?_;refine l9 ?_
  refine dX (X:=[(b17,_),(b3,_),(bd,_)]) hO18 rfl (by simp [keys]) (fun H2 hle2 hR=>?_)
  exact aZ (.inr rfl) (ad rfl (RVal.tmp rfl)) (fun w hw=>hw.drop.drop) ⟨_,[],rfl,hd16.le hle2,rfl,⟨(((hle6_.trans hle15).trans hle16_)).trans hle2,_,hR,⟨p,hP.le (hle15.trans (hle16_.trans hle2)),.inr ⟨q,hQ.le hle2,rfl⟩⟩,(show Fs [p,q] from by intro x hx;rcases List.mem_cons.1 hx with rfl | hx;exact hzp;rw [List.mem_singleton.1 hx];exact hzq),(by intro x hx;rcases List.mem_cons.1 hx with rfl | hx;exact hbp;rw [List.mem_singleton.1 hx];exact hbq)⟩⟩
 refine cV ?_;refine l9 ?_
 refine cB (by simp [keys]) (fun H_b8 le_b8 rd_b8=>?_)
 replace hd10:=hd10.le le_b8
 have hR:RdSl H_b8 3 SProto.cells _ ([p]):=RdSl.blk (cap:=1) rd_b8 (by intro x hx;rfl) kr (by show 1≤9223372036854775807;decide)
 exact aZ (.inr rfl) (ad rfl (RVal.tmp rfl)) (fun w hw=>hw.drop) ⟨_,[],rfl,hd10,rfl,⟨hle6_.trans le_b8,_,hR,⟨p,hP.le le_b8,.inl rfl⟩,(by intro x hx;rw [List.mem_singleton.1 hx];exact hzp),(by intro x hx;rw [List.mem_singleton.1 hx];exact hbp)⟩⟩
end Go.Sx
