import Derived.Test.YtjnlogbbcceaoaaGreatE15
set_option linter.all false
set_option maxRecDepth 100000
set_option maxHeartbeats 32000000
namespace Go.Sx
open Go Go.Proofs
theorem part_ok {H:Hp}{bd:Nat}{dl:Value}{at_:Int}(hd:DiceOk H dl at_){psv:Value}{ps:List SProto}(hps:RdSl H 3 SProto.cells psv ps)(hpk:∀p∈ps,ProtoOk H p)(hpg:∀p∈ps,GPr p)(hpn:0<ps.length)(p:SProto)(hp:ProtoOk H p)(hG:GPr p){tyv:Value}{tys:List SLocal}(hty:RdSl H 2 SLocal.cells tyv tys)(htk:∀l∈tys,LocalOk H l)(role:Int)(carry:Str)(h0:0≤role)(h1:role<p.roles.length)(hcr:carry.length≤1000){T:SLocal}(hTG:∀F:Fx,F.tys=tys→F.role=role→TG F T):
  DFn Tryz.prog bd dl at_ 31 [psv,.agg p.cells.toArray,tyv,.int .i64 role,gs carry] H (fun v H1 ob=>∃S q,v= .agg (GProc.cells q).toArray∧Bag H1 S ob∧GPOk H1 S q∧S.N≤10000000∧q.params=[⟨[99],5,carry⟩,⟨[110],1,[]⟩]∧(∃rr,p.roles[role.toNat]? =some rr∧q.name=p.name++rr)):=by
 obtain⟨psa,psc,rfl⟩:=hps.len
 obtain⟨tya,tyc,rfl⟩:=hty.len
 have hro:=hp.r
 have hn1:=hG.n1
 obtain⟨rr,hrx⟩:=aj (l:=p.roles) h0 h1
 have hrr:=hG.rl (List.mem_of_getElem? hrx)
 have hPV:∀x∈([⟨[99],5,carry⟩,⟨[110],1,[]⟩]:List SParam),VarNm x.name∧x.cn.length≤1000:=by
  intro x hx;simp only [List.mem_cons,List.not_mem_nil,or_false] at hx;rcases hx with rfl | rfl
  · exact⟨.inr (.inl rfl),hcr⟩
  · exact⟨.inr (.inr (.inl rfl)),by simp⟩
 refine FnX.enter Tryz.func31 Tryz.ntmps31 rfl rfl (fun w0=>?_)
 refine zm2 ?_
 refine TL.box rfl rfl (fun b8=>?_)
 refine TL.alloc rfl (fun b12=>?_)
 refine TL.nil (ai (TC.seq (fW kr kr ?_)));refine TQ.run (bA rfl (.h1) rfl) rfl (zJ ?_)
 refine TQ.run (ae rfl hro rfl om om) rfl (TQ.run (aL hro hrx rfl rfl) rfl (gJ (ab rfl rfl rfl rfl) (lQ p rr om om) rfl (k4 ?_)));refine dH ?_;refine lq ?_
 refine aI (X:=[(b12,_),(b8,_)]) (bd:=bd) rfl (ab rfl rfl rfl rfl) (bq 7 om hd) rfl (fun v28 H28 at28 hle28 hd28 hp28=>?_)
 obtain⟨eH28,r28,rfl,hr28⟩:=hp28
 replace eH28:=eH28.symm;subst eH28
 have hra28:=hr28.1
 have hrb28:=hr28.2.1 om
 refine kQ ?_;refine dN ?_
 refine TL.box rfl rfl (fun b31=>?_)
 refine zm1 ?_;refine fO ?_;refine dN ?_;refine dN ?_;refine dN ?_;refine dN ?_
 refine aA rfl rfl rfl rfl (fun b39=>?_)
 refine dN ?_;refine gr ?_;refine mT rfl rfl rfl rfl rfl (.h1) (Nat.le_of_ble_eq_true kr) rfl (jo ?_)
 refine TL.pubN (by simp [keys]) (fun H_b39 le_b39 rd_b39=>?_)
 replace hps:=hps.le le_b39
 replace hty:=hty.le le_b39
 replace hpk:=fun x hx=>(hpk x hx).le le_b39
 replace htk:=fun x hx=>(htk x hx).le le_b39
 replace hd28:=hd28.le le_b39
 have hpa:RdSl H_b39 3 SParam.cells _ ([⟨[99],5,carry⟩,⟨[110],1,[]⟩]):=RdSl.blk (cap:=2) rd_b39 (by intro x hx;rfl) kr (by show 2≤9223372036854775807;decide)
 have hW0:WI ⟨b31,bd,.slice psa ps.length psc,ps,p.name++rr,.slice (some ⟨b39,0,none⟩) 2 2,p.name++rr,.slice tya tys.length tyc,tys,role,dl⟩ ⟨H_b39,Sig.nil,none,0,0,none,0,0,0,9+r28,at28,[]⟩ 0:=⟨⟨hps,hpk,hpg,hpn,hty,htk,hG.proc hrr⟩,.nil,.nil,.nil,by simp,by have:=hr28.1;simp;omega,by have:=hr28.2.1 om;simp;omega,hd28,by simp,by simp [Sig.nil],by simp [Sig.nil]⟩
 refine fB (.h2) (fB (.h2) (aC (F:=⟨b31,bd,.slice psa ps.length psc,ps,p.name++rr,.slice (some ⟨b39,0,none⟩) 2 2,p.name++rr,.slice tya tys.length tyc,tys,role,dl⟩) (V:=⟨H_b39,Sig.nil,none,0,0,none,0,0,0,9+r28,at28,[]⟩) (m:=0) [(b12,_),(b8,_)] rfl rfl (ab rfl rfl rfl rfl) (xt (T:=T) (hTG _ rfl rfl) 5 om _ 0 0 om (by have:=(hTG ⟨b31,bd,.slice psa ps.length psc,ps,p.name++rr,.slice (some ⟨b39,0,none⟩) 2 2,p.name++rr,.slice tya tys.length tyc,tys,role,dl⟩ rfl rfl).n0;omega) om om om) hW0 (by have:=CE (n:=5) om;omega) rfl (fun v44 V44 hle44 hW44 hS44 hs44 ht44 hp44=>?_)))
 replace hpa:=hpa.le hle44
 obtain⟨rfl,hn44⟩:=hp44
 refine jo ?_;refine gr ?_;refine TL.run (ko rfl (.h2) rfl) rfl (iV ?_)
 exact aZ (.inr rfl) (ad rfl (RVal.cellA rfl (.here _) rfl)) (fun w hw=>hw.drop.drop.drop) ⟨_,V44.B,rfl,hW44.d,V44.S,⟨p.name++rr,[⟨[99],5,carry⟩,⟨[110],1,[]⟩],(some ⟨b39,0,none⟩,2),V44.ta,V44.tn,V44.tc,V44.sa,V44.sn,V44.sc⟩,rfl,hW44.bag,⟨hG.proc hrr,hpa,hPV,by simp,hW44.t,hW44.s,by have:=hn44;simp at this;omega,by have:=hW44.me;have:=CE (n:=5) om;dsimp only;omega,by have:=hW44.me;have:=CE (n:=5) om;dsimp only;omega⟩,(by have:=hW44.nb;have:=CE (n:=5) om;omega),rfl,_,hrx,rfl⟩
theorem BJ {H:Hp}{bd:Nat}{dl:Value}{at_:Int}(hd:DiceOk H dl at_){psv:Value}{ps:List SProto}(hps:RdSl H 3 SProto.cells psv ps)(hpk:∀p∈ps,ProtoOk H p)(hpg:∀p∈ps,GPr p)(hpn:0<ps.length)(hpm:ps.length≤100):
  DFn Tryz.prog bd dl at_ 32 [psv] H (fun v H1 ob=>∃S q,v= .agg (GProc.cells q).toArray∧Bag H1 S ob∧GPOk H1 S q∧S.N≤10000000∧q.params=[]∧q.name=cL):=by
 obtain⟨psa,psc,rfl⟩:=hps.len
 have hps0:=hps
 have hpk0:=hpk
 refine FnX.enter Tryz.func32 Tryz.ntmps32 rfl rfl (fun w0=>?_)
 refine zm2 ?_
 refine TL.alloc rfl (fun b4=>?_)
 refine TL.nil (ai (dH ?_));refine dN ?_
 refine TL.box rfl rfl (fun b15=>?_)
 refine kW ?_;refine dN ?_;refine gr ?_;refine mT rfl rfl rfl rfl rfl (.here _) (Nat.le_of_ble_eq_true kr) rfl (jo ?_)
 refine aI (X:=[(b15,_),(b4,_)]) (bd:=bd) rfl (ab rfl rfl rfl rfl) (bq 3 om hd) rfl (fun v21 H21 at21 hle21 hd21 hp21=>?_)
 obtain⟨eH21,r21,rfl,hr21⟩:=hp21
 replace eH21:=eH21.symm;subst eH21
 have hra21:=hr21.1
 have hrb21:=hr21.2.1 om
 refine oq ?_
 have hW0:WI ⟨b15,bd,.slice psa ps.length psc,ps,cL,.slice none 0 0,[],.slice none 0 0,[],0,dl⟩ ⟨H,Sig.nil,none,0,0,none,0,0,0,0,at21,[]⟩ 0:=⟨⟨hps,hpk,hpg,hpn,RdSl.nil,by simp,.nil⟩,.nil,.nil,.nil,by simp,by simp,by simp,hd21,by simp,by simp [Sig.nil],by simp [Sig.nil]⟩
 refine iv (.h1) (ai (ra ?_))
 refine vI (V:=fun(k:Int) (V1:WV) (r:Rw)=>[(7,.int .i64 k)]) (K:=[(0,_),(1,_),(4,_),(5,_),(6,_)]) (L:=fun k V1 r=>St [bd] w0 H V1.H ((b4,[gs [],.slice none 0 0,.slice none 0 0,.slice none 0 0])::Fx.L ⟨b15,bd,.slice psa ps.length psc,ps,cL,.slice none 0 0,[],.slice none 0 0,[],0,dl⟩ V1)) (I:=fun k V1 r=>WI ⟨b15,bd,.slice psa ps.length psc,ps,cL,.slice none 0 0,[],.slice none 0 0,[],0,dl⟩ V1 (20 * k.toNat)∧(0≤k∧k≤1+r21)∧H.le V1.H∧k.toNat≤V1.sn) (μ:=fun k=>(1+r21 - k).toNat) 0 ⟨H,Sig.nil,none,0,0,none,0,0,0,0,at21,[]⟩ ⟨none,0,0⟩ ky (⟨by simpa using hW0,o2q,.refl _,by simp⟩) (fun w hw=>hw) (fun k V1 r hI=>?_)
 obtain⟨hI1,⟨k0,k1⟩,hI3,hI4⟩:=hI
 replace hps:=hps0.le hI3
 replace hpk:=fun x hx=>(hpk0 x hx).le hI3
 refine oD ?_
 refine af rfl ?_ ?_<;>intro c25
 ·
  refine fi ?_;refine fO ?_
  refine TL.run (ah rfl rfl hps) rfl (aI (X:=[(b4,_),(b15,_)]) (bd:=bd) rfl (ab rfl rfl rfl rfl) (bq (ps.length:Int) om hI1.d) rfl (fun v32 H32 at32 hle32 hd32 hp32=>?_))
  obtain⟨rfl,r32,rfl,hr32⟩:=hp32
  have hra32:=hr32.1
  have hrb32:=hr32.2.1 om
  obtain⟨p,hpx⟩:=aj (l:=ps) hra32 hrb32
  have hpm_:=List.mem_of_getElem? hpx
  have hp:=hpk p hpm_
  have hG:=hpg p hpm_
  have hn1:=hG.n1
  have hro:=hp.r
  have hr2:=hG.r2
  have hr5:=hG.r5
  refine TL.run (ae rfl hps rfl om om) rfl (TL.run (aY hps hpx rfl rfl) rfl (TL.alloc rfl (fun b8=>?_)))
  refine qX ?_;refine aU [true,true,false,false] [(0,1),(1,4),(2,1),(3,1),(4,4),(5,1),(6,5),(7,1),(8,2),(9,1)] kr kr (qZ ?_);refine kK ?_;refine zH ?_
  refine az (ah rfl rfl hro) rfl (au rfl (aI (X:=[(b8,_),(b4,_),(b15,_)]) (bd:=bd) rfl (ab rfl rfl rfl rfl) (bq (p.roles.length:Int) om (hI1.dice (.refl _) hd32).d) rfl (fun v41 H41 at41 hle41 hd41 hp41=>?_)))
  obtain⟨rfl,r41,rfl,hr41⟩:=hp41
  have hra41:=hr41.1
  have hrb41:=hr41.2.1 om
  obtain⟨rr,hrx⟩:=aj (l:=p.roles) hra41 hrb41
  have hrr:=hG.rl (List.mem_of_getElem? hrx)
  refine ax (S1 (S1 SN)) (Hp.le.refl _) (Ab ?_);refine bg (aL hro hrx rfl rfl) rfl (zm6 ?_);refine TF.nil (ai (el ?_));refine gL ?_;refine zm0 ?_
  refine aC (F:=⟨b15,bd,.slice psa ps.length psc,ps,cL,.slice none 0 0,[],.slice none 0 0,[],0,dl⟩) (V:={{V1 with at_:=at32} with at_:=at41}) (m:=20 * k.toNat) [(b8,_),(b4,_)] rfl rfl (ab rfl rfl rfl rfl) (xq p rr hp hG (Nat.le_trans hrr dq)) ((hI1.dice (.refl _) hd32).dice (.refl _) hd41) om rfl (fun v47 V47 hle47 hW47 hS47 hs47 ht47 hp47=>?_)
  dsimp only at hle47 hS47 hs47 ht47 hp47
  obtain⟨s47,rfl,hv47⟩:=hp47
  refine rG ?_;refine ar (ab rfl rfl rfl rfl) (du 7) rfl (TL.alloc rfl (fun b11=>?_))
  refine ik ?_;refine fk ?_;refine ly ?_;refine zm1 ?_
  refine af rfl ?_ ?_<;>intro c52
  ·
   refine TC.region (ar (ab rfl rfl rfl rfl) (du 6) rfl (ik ?_));refine zZ ?_;refine Hn ?_;refine AR ?_;refine dO ?_
   refine TD.part 7 2 rfl rfl rfl ?_ ?_
   ·
    refine Hm ?_;refine wq ?_;refine wC ?_
    refine au rfl (aC (F:=⟨b15,bd,.slice psa ps.length psc,ps,cL,.slice none 0 0,[],.slice none 0 0,[],0,dl⟩) (V:=V47) (m:=20 * k.toNat+12) [(b11,_),(b8,_),(b4,_)] rfl rfl (ab rfl rfl rfl rfl) (cQ s47 hv47) hW47 om rfl (fun v60 V60 hle60 hW60 hS60 hs60 ht60 hp60=>?_))
    obtain⟨i60,rfl⟩:=hp60
    exact ax (S1 (S1 (S1 SN))) hle60 (zq987)
   refine Hl ?_;refine Aj ?_
   refine aC (F:=⟨b15,bd,.slice psa ps.length psc,ps,cL,.slice none 0 0,[],.slice none 0 0,[],0,dl⟩) (V:=V47) (m:=20 * k.toNat+12) [(b11,_),(b8,_),(b4,_)] rfl rfl (ab rfl rfl rfl rfl) (cQ s47 hv47) hW47 om rfl (fun v60 V60 hle60 hW60 hS60 hs60 ht60 hp60=>?_)
   obtain⟨i60,rfl⟩:=hp60
   refine ax (S1 (S1 (S1 SN))) hle60 (wC ?_)
   exact zq987
  refine dn ?_;refine zZ ?_;refine Hn ?_;refine AR ?_;refine dO ?_
  refine TD.part 7 2 rfl rfl rfl ?_ ?_
  ·
   refine Hm ?_;refine wq ?_;refine wC ?_
   refine au rfl (aC (F:=⟨b15,bd,.slice psa ps.length psc,ps,cL,.slice none 0 0,[],.slice none 0 0,[],0,dl⟩) (V:=V47) (m:=20 * k.toNat+12) [(b11,_),(b8,_),(b4,_)] rfl rfl (ab rfl rfl rfl rfl) (cQ s47 hv47) hW47 om rfl (fun v60 V60 hle60 hW60 hS60 hs60 ht60 hp60=>?_))
   obtain⟨i60,rfl⟩:=hp60
   exact ax (S1 (S1 (S1 SN))) hle60 (zq966)
  refine Hl ?_;refine Aj ?_
  refine aC (F:=⟨b15,bd,.slice psa ps.length psc,ps,cL,.slice none 0 0,[],.slice none 0 0,[],0,dl⟩) (V:=V47) (m:=20 * k.toNat+12) [(b11,_),(b8,_),(b4,_)] rfl rfl (ab rfl rfl rfl rfl) (cQ s47 hv47) hW47 om rfl (fun v60 V60 hle60 hW60 hS60 hs60 ht60 hp60=>?_)
  obtain⟨i60,rfl⟩:=hp60
  refine ax (S1 (S1 (S1 SN))) hle60 (wC ?_)
  exact zq966
 refine tL ?_;refine gr ?_;refine TL.run (ko rfl (.h1) rfl) rfl (iV ?_)
 exact aZ (.inr rfl) (ad rfl (RVal.cellA rfl (.here _) rfl)) (fun w hw=>hw.drop.drop) ⟨_,V1.B,rfl,hI1.d,V1.S,⟨cL,[],(none,0),V1.ta,V1.tn,V1.tc,V1.sa,V1.sn,V1.sc⟩,rfl,hI1.bag,⟨by simp [PNm,cL],RdSl.nil,by simp,by simp,hI1.t,hI1.s,by dsimp only;omega,by have:=hI1.me;dsimp only;omega,by have:=hI1.me;dsimp only;omega⟩,(by have:=hI1.nb;omega),rfl,rfl⟩
theorem rH:∀{l:List (List Int)} {x:List Int} {k:Nat},jB l x=some k→k<l.length
 | [],x,k,h=>by simp [jB] at h
 | y::r,x,k,h=>by
  unfold jB at h
  split at h
  ·simp at h;subst h;simp
  ·rw [Option.map_eq_some_iff] at h
   obtain⟨j,hj,rfl⟩:=h
   have:=rH hj
   simp;omega
theorem BO {p:SProto}{role:Str}{sets:List (List Int)}{frm:List Int}(h40:sets.length≤40)(h:(bZ p role sets frm).2.1=0):
  0≤(bZ p role sets frm).1∧(bZ p role sets frm).1<(bZ p role sets frm).2.2.length∧(bZ p role sets frm).2.2.length≤40:=by
 unfold bZ at h ⊢
 split at h
 ·simp at h
 ·rename_i hc
  rw [if_neg hc]
  split at h
  ·rename_i i hi
   have:=rH hi
   dsimp only
   omega
  ·rename_i hi
   split at h
   ·simp at h
   ·rename_i hn
    rw [if_neg hn]
    simp only [List.length_append,List.length_cons,List.length_nil]
    omega
def ArmIn (n B:Nat)(a:SArm):Prop:=(0≤a.next∧a.next<(n:Int))∧a.label.length≤B
theorem ArmIn.up {n m B:Nat}{a:SArm}(h:ArmIn n B a)(hm:n≤m):ArmIn m B a:=⟨⟨h.1.1,by have:=h.1.2;omega⟩,h.2⟩
theorem xz {p:SProto}{role:Str}{set:List Int}{B:Nat}:∀(l:List Str) (sets:List (List Int)) (acc:List SArm),sets.length≤40→(∀a∈acc,ArmIn sets.length B a)→(∀lb∈l,lb.length≤B)→(dI p role set l sets acc).2.1=0→
  (dI p role set l sets acc).1.length=acc.length+l.length∧(dI p role set l sets acc).2.2.length≤40∧∀a∈(dI p role set l sets acc).1,ArmIn (dI p role set l sets acc).2.2.length B a
 | [],sets,acc,h40,ha,_,_=>⟨rfl,h40,ha⟩
 | lb::r,sets,acc,h40,ha,hl,h0=>by
  unfold dI at h0 ⊢
  have hat:= @BO p role sets (eQ p set lb).2.2.1 h40
  have hge:= @uX p role sets (eQ p set lb).2.2.1
  generalize bZ p role sets (eQ p set lb).2.2.1=q at h0 hat hge ⊢
  obtain⟨ix,e,s'⟩:=q
  dsimp only at h0 hat hge ⊢
  by_cases hb:e≠0
  ·rw [if_pos hb] at h0
   exact absurd h0 hb
  ·rw [if_neg hb] at h0 ⊢
   obtain⟨h1,h2,h3⟩:=hat (Decidable.of_not_not hb)
   have hacc:∀a∈acc++[(⟨lb,(eQ p set lb).1,(eQ p set lb).2.1,ix⟩:SArm)],ArmIn s'.length B a:=gI (fun a hm=>(ha a hm).up hge) ⟨⟨h1,h2⟩,hl lb sq⟩
   obtain⟨h4,h5,h6⟩:=xz r s' _ h3 hacc (fun x hx=>hl x (by simp [hx])) h0
   refine⟨?_,h5,h6⟩
   rw [h4];simp only [List.length_append,List.length_cons,List.length_nil];omega
theorem Bj:∀{l:List Str} {s x:Str},x∈cj l s→x=s∨x∈l
 | [],s,x,h=>by simp [cj] at h;exact .inl h
 | y::r,s,x,h=>by
  unfold cj at h
  split at h
  ·rcases List.mem_cons.1 h with rfl | h
   ·exact .inr sq
   ·rcases Bj h with h | h
    ·exact .inl h
    ·exact .inr (by simp [h])
  ·split at h
   ·exact .inr h
   ·rcases List.mem_cons.1 h with rfl | h
    ·exact .inl rfl
    ·exact .inr h
theorem rW:∀{o i:List Str} {x:Str},x∈o.foldl cj i→x∈o∨x∈i
 | [],i,x,h=>.inr h
 | y::r,i,x,h=>by
  rcases rW (o:=r) (i:=cj i y) h with h | h
  ·exact .inl (by simp [h])
  ·rcases Bj h with h | h
   ·exact .inl (by simp [h])
   ·exact .inr h
theorem BR:∀{l:List SArm} {o:List Str} {x:Str},x∈lZ o l→x∈o∨∃a∈l,x=a.label
 | [],o,x,h=>.inl h
 | a::r,o,x,h=>by
  have h:x∈lZ (o.foldl cj [a.label]) r:=h
  rcases BR h with h | ⟨b,hb,e⟩
  ·rcases rW h with h | h
   ·exact .inl h
   ·exact .inr ⟨a,by simp,by simpa using h⟩
  ·exact .inr ⟨b,by simp [hb],e⟩
theorem BP {p:SProto}:∀{l:List Int} {o:List Str} {x:Str},x∈py p o l→x∈o∨∃q∈p.points,∃a∈q.arms,x=a.label
 | [],o,x,h=>.inl h
 | j::r,o,x,h=>by
  have h:x∈py p (match p.points[j.toNat]? with | some x=>lZ o x.arms | none=>o) r:=h
  rcases BP h with h | h
  ·split at h
   ·rename_i q hq
    rcases BR h with h | ⟨a,ha,e⟩
    ·exact .inl h
    ·exact .inr ⟨q,List.mem_of_getElem? hq,a,ha,e⟩
   ·exact .inl h
  ·exact .inr h
theorem putS_ne (l:List Str)(s:Str):cj l s≠[]:=by
 cases l with
 | nil=>simp [cj]
 | cons x r=>
  unfold cj
  split
  ·simp
  ·split<;>simp
theorem vr:∀{o i:List Str},i≠[]→o.foldl cj i≠[]
 | [],_,h=>h
 | y::r,i,_=>vr (o:=r) (i:=cj i y) (putS_ne _ _)
theorem zp:∀{l:List SArm} {o:List Str},o≠[]∨l≠[]→lZ o l≠[]
 | [],o,h=>by
  rcases h with h | h
  ·exact h
  ·exact absurd rfl h
 | a::r,o,_=>zp (l:=r) (o:=o.foldl cj [a.label]) (.inl (vr sq))
theorem ES {p:SProto}:∀{l:List Int} {o:List Str},(o≠[]∨∃j∈l,∃q,p.points[j.toNat]? =some q∧q.arms≠[])→py p o l≠[]
 | [],o,h=>by
  rcases h with h | ⟨j,hj,_⟩
  ·exact h
  ·simp at hj
 | j::r,o,h=>by
  refine ES (l:=r) (o:=match p.points[j.toNat]? with | some x=>lZ o x.arms | none=>o) ?_
  rcases h with h | ⟨k,hk,q,hq,ha⟩
  ·refine .inl ?_
   split
   ·exact zp (.inl h)
   ·exact h
  ·rcases List.mem_cons.1 hk with rfl | hk
   ·refine .inl ?_
    rw [hq]
    exact zp (.inr ha)
   ·exact .inr ⟨k,hk,q,hq,ha⟩
theorem rI {p:SProto}{role:Str}{B:Nat}(hB:∀x∈p.points,x.frm.length≤B∧x.to.length≤B):∀(l:List Int) (i:Nat) (kind:Int) (peer:Str),peer.length≤B→(gu p role i kind peer l).2.1.length≤B
 | [],_,_,_,h=>h
 | j::r,i,kind,peer,h=>by
  unfold gu
  split
  ·exact h
  ·rename_i x hx
   have hb:=hB x (List.mem_of_getElem? hx)
   have hp:(if x.to=role then x.frm else x.to).length≤B:=by
    split
    ·exact hb.1
    ·exact hb.2
   generalize (if x.to=role then x.frm else x.to)=pe at hp ⊢
   generalize (if x.to=role then(2:Int) else 1)=ke
   by_cases hc:0<i∧¬(ke=kind∧pe=peer)
   ·rw [if_pos hc];simp
   ·rw [if_neg hc];exact rI hB r _ _ _ hp
theorem zj {s:Str}(h:aN s=true):s.length≤12∧s≠[]:=by
 unfold aN at h
 split at h
 ·cases h
 ·split at h
  ·cases h
  ·rename_i h1 h2
   refine⟨by omega,fun e=>?_⟩
   subst e;simp at h1
theorem RPOk.lens {p:SProto}(h:RPOk p){x:SPoint}(hx:x∈p.points):(x.frm.length≤1000∧x.to.length≤1000)∧(∀a∈x.arms,a.label.length≤1000)∧(x.frm≠[]∨x.to≠[]→x.arms≠[]):=by
 have hp:=h.pt x hx
 unfold cO ez eT bI eA at hp
 simp only [Bool.or_eq_true,Bool.and_eq_true,decide_eq_true_eq] at hp
 rcases hp with ⟨h1,h2,h3⟩ | ⟨⟨h1,h2,_⟩,⟨h3,_⟩,h5,_⟩
 ·refine⟨by rw [h1,h2];simp,fun a ha=>?_,fun hh=>?_⟩
  ·rw [List.length_eq_zero_iff.1 (show x.arms.length=0 by omega)] at ha;simp at ha
  ·rcases hh with hh | hh
   ·exact absurd h1 hh
   ·exact absurd h2 hh
 ·have e1:=(zj (h.rn _ h1)).1
  have e2:=(zj (h.rn _ h2)).1
  refine⟨by omega,fun a ha=>?_,fun _ e=>?_⟩
  ·have:=List.all_eq_true.1 h5 a ha
   unfold f8 at this
   simp only [Bool.and_eq_true] at this
   have:=(zj this.1).1
   omega
  ·rw [e] at h3;simp at h3
def TTok (n:Nat)(t:TT):Prop:=t.2.1.length≤1000∧t.2.2.length≤6∧(t.1≠0→t.1≠2→1≤t.2.2.length)∧∀a∈t.2.2,ArmIn n 1000 a
theorem TTok.up {n m:Nat}{t:TT}(h:TTok n t)(hm:n≤m):TTok m t:=⟨h.1,h.2.1,h.2.2.1,fun a ha=>(h.2.2.2 a ha).up hm⟩
theorem tt0 {n:Nat}:TTok n (0,[],[]):=⟨by simp,by simp,by simp,by simp⟩
theorem Fk {p:SProto}{role:Str}(hP:RPOk p)(hr:role≠[]){sets:List (List Int)}{set:List Int}(h40:sets.length≤40)(hin:∀j∈set,inP p role j=true)(h0:(bQ p role sets set).2.1=0):
  (bQ p role sets set).2.2.length≤40∧TTok (bQ p role sets set).2.2.length (bQ p role sets set).1:=by
 unfold bQ at h0 ⊢
 by_cases c1:set.length=0
 ·rw [if_pos c1];exact⟨h40,tt0⟩
 rw [if_neg c1] at h0 ⊢
 by_cases c2:(dP p role set).2.2≠0
 ·rw [if_pos c2];exact⟨h40,tt0⟩
 rw [if_neg c2] at h0 ⊢
 by_cases c3:(dP p role set).1=1∧qF p set=false
 ·rw [if_pos c3];exact⟨h40,tt0⟩
 rw [if_neg c3] at h0 ⊢
 by_cases c4:6<(fu p set).length
 ·rw [if_pos c4];exact⟨h40,tt0⟩
 rw [if_neg c4] at h0 ⊢
 by_cases c5:(fu p set).all (qC p set)=false
 ·rw [if_pos c5];exact⟨h40,tt0⟩
 rw [if_neg c5] at h0 ⊢
 by_cases c6:(dI p role set (fu p set) sets []).2.1≠0
 ·rw [if_pos c6] at h0;exact absurd h0 c6
 rw [if_neg c6]
 obtain⟨h1,h2,h3⟩:=xz (B:=1000) (fu p set) sets [] h40 sq (fun lb hlb=>by
  rcases BP hlb with h | ⟨q,hq,a,ha,rfl⟩
  ·simp at h
  ·exact(hP.lens hq).2.1 a ha) (Decidable.of_not_not c6)
 refine⟨h2,?_,?_,fun _ _=>?_,h3⟩
 ·exact rI (fun x hx=>(hP.lens hx).1) set 0 0 [] sq
 ·dsimp only;rw [h1];simp only [List.length_nil];omega
 ·dsimp only;rw [h1]
  have:fu p set≠[]:=by
   refine ES (.inr ?_)
   obtain⟨j,r,e⟩:∃j r,set=j::r:=by
    cases set with
    | nil=>exact absurd rfl c1
    | cons j r=>exact⟨j,r,rfl⟩
   have hj:=hin j (by rw [e];simp)
   unfold inP at hj
   split at hj
   ·rename_i x hx
    refine⟨j,by rw [e];simp,x,hx,(hP.lens (List.mem_of_getElem? hx)).2.2 ?_⟩
    unfold fX at hj
    simp only [Bool.or_eq_true,decide_eq_true_eq] at hj
    rcases hj with h | h
    ·exact .inl (by rw [h];exact hr)
    ·exact .inr (by rw [h];exact hr)
   ·cases hj
  have:=List.length_pos_iff.2 this
  simp only [List.length_nil];omega
def InP (p:SProto)(role:Str)(sets:List (List Int)):Prop:=∀s∈sets,∀j∈s,inP p role j=true
theorem uW {p:SProto}{role:Str}{sets:List (List Int)}{frm:List Int}(h:InP p role sets):InP p role (bZ p role sets frm).2.2:=by
 unfold bZ
 split
 ·exact h
 ·split
  ·exact h
  ·split
   ·exact h
   ·exact gI h (fun j hj=>(List.mem_filter.1 hj).2)
theorem tV {p:SProto}{role:Str}{set:List Int}:∀(l:List Str) (sets:List (List Int)) (acc:List SArm),InP p role sets→InP p role (dI p role set l sets acc).2.2
 | [],_,_,h=>h
 | lb::r,sets,acc,h=>by
  unfold dI
  split
  ·exact uW h
  ·exact tV r _ _ (uW h)
theorem HP {p:SProto}{role:Str}{set:List Int}{sets:List (List Int)}(h:InP p role sets):InP p role (bQ p role sets set).2.2:=by
 unfold bQ
 split; · exact h
 split; · exact h
 split; · exact h
 split; · exact h
 split; · exact h
 split; · exact tV _ _ _ h
 exact tV _ _ _ h
theorem Bf {p:SProto}{role:Str}(hP:RPOk p)(hr:role≠[]):∀(f i:Nat) (sets:List (List Int)) (acc:List TT),sets.length≤40→i≤sets.length→41≤i+f→acc.length=i→(∀t∈acc,TTok sets.length t)→InP p role sets→(m7 p role f i sets acc).1=0→
  sets.length≤(m7 p role f i sets acc).2.length∧∀t∈(m7 p role f i sets acc).2,TTok (m7 p role f i sets acc).2.length t
 | 0,i,sets,acc,h40,hi,hf,_,_,_,_=>by omega
 | f+1,i,sets,acc,h40,hi,hf,hac,hT,hI,h0=>by
  cases hs:sets[i]? with
  | none=>
   have hle:=List.getElem?_eq_none_iff.1 hs
   rw [Bd hle]
   have:acc.length=sets.length:=by omega
   dsimp only
   rw [this]
   exact⟨Nat.le_refl _,hT⟩
  | some s=>
   have hlt:=(List.getElem?_eq_some_iff.1 hs).1
   by_cases hb:(bQ p role sets s).2.1≠0
   ·rw [Be hs hb] at h0;exact absurd h0 hb
   ·rw [xO hs hb] at h0 ⊢
    obtain⟨h1,h2⟩:=Fk hP hr h40 (hI s (List.mem_of_getElem? hs)) (Decidable.of_not_not hb)
    have hge:= @AZ p role s sets
    have hin:= @HP p role s sets hI
    generalize (bQ p role sets s).2.2=s' at *
    generalize (bQ p role sets s).1=t' at *
    obtain⟨h3,h4⟩:=Bf hP hr f (i+1) s' (acc++[t']) h1 om om (by simp [hac]) (gI (fun t ht=>(hT t ht).up hge) h2) hin h0
    exact⟨by omega,h4⟩
theorem FG {p:SProto}{role:Str}(h0:(ek p role).1=0):0<(ek p role).2.length∧∀t∈(ek p role).2,TTok (ek p role).2.length t:=by
 unfold ek at h0 ⊢
 by_cases c1:(dw p&&bI p.roles role)=false
 ·rw [if_pos c1] at h0;cases h0
 rw [if_neg c1] at h0 ⊢
 by_cases c2:(bZ p role [] [0]).2.1≠0
 ·rw [if_pos c2] at h0;exact absurd h0 c2
 rw [if_neg c2] at h0 ⊢
 have c1:dw p=true∧bI p.roles role=true:=by simpa using c1
 have hP:=RPOk.of c1.1
 have hr:=(zj (hP.rn role (of_decide_eq_true c1.2))).2
 obtain⟨h1,h2,h3⟩:= @BO p role [] [0] sq (Decidable.of_not_not c2)
 obtain⟨h4,h5⟩:=Bf hP hr 41 0 _ [] h3 om om rfl sq (uW (by intro s hs;simp at hs)) h0
 exact⟨by omega,h5⟩
theorem xV {p:SProto}:∀(l:List Str) (i:Nat),(lO p i l).1=0→∀r∈l,(ek p r).1=0
 | [],_,_,r,hr=>by simp at hr
 | x::l,i,h,r,hr=>by
  unfold lO at h
  split at h
  ·rename_i hb;exact absurd h hb
  ·rename_i hb
   rcases List.mem_cons.1 hr with rfl | hr
   ·exact Decidable.of_not_not hb
   ·exact xV l _ h r hr
theorem JA {p:SProto}(h:(m9 p).1=0):∀r∈p.roles,(ek p r).1=0:=by
 unfold m9 at h
 split at h
 ·cases h
 ·exact xV _ _ h
theorem LsOk.tg {H:Hp}{p:SProto}{ls:List SLocal}(h:LsOk H p p.roles.length ls)(hz:(m9 p).1=0){k:Int}(h0:0≤k){T:SLocal}(hk:ls[k.toNat]? =some T):∀F:Fx,F.tys=ls→F.role=k→TG F T:=by
 intro F hF hR
 obtain⟨r,hr,hnm,hok,htt⟩:=h.at_ _ _ hk
 obtain⟨h1,h2⟩:=FG (JA hz r (List.mem_of_getElem? hr))
 rw [← htt,List.length_map] at h1
 rw [← htt,List.length_map] at h2
 refine⟨by rw [hR];exact h0,by rw [hR,hF];have:=(List.getElem?_eq_some_iff.1 hk).1;omega,by rw [hR,hF];exact hk,h1,fun t ht=>?_⟩
 obtain⟨a1,a2,a3,a4⟩:=h2 (tt t) (List.mem_map.2 ⟨t,ht,rfl⟩)
 exact⟨a1,a2,a3,fun a ha=>(a4 a ha).2,fun a ha=>(a4 a ha).1⟩
def Sig.un (S S':Sig):Sig:=⟨fun b=>match S.f b with | .some x=>.some x | .none=>S'.f b,max S.N S'.N⟩
theorem Sig.le_un {S S':Sig}:S.le (S.un S'):=⟨fun b x h=>by show(match S.f b with | .some x=>.some x | .none=>S'.f b)=some x;rw [h],Nat.le_max_left _ _⟩
theorem Bag.un_le {H:Hp}{S S':Sig}{B B':aq}(h:Bag H S B)(h':Bag H S' B')(hd:((B++B').map (·.1)).Nodup):S'.le (S.un S'):=by
 refine⟨fun b x hx=>?_,Nat.le_max_right _ _⟩
 show(match S.f b with | .some x=>.some x | .none=>S'.f b)=some x
 cases e:S.f b with
 | none=>exact hx
 | some y=>
  obtain⟨c1,m1⟩:=h.mem b y.1 y.2 e
  obtain⟨c2,m2⟩:=h'.mem b x.1 x.2 hx
  rw [List.map_append,List.nodup_append] at hd
  exact absurd rfl (hd.2.2 b (List.mem_map.2 ⟨_,m1,rfl⟩) b (List.mem_map.2 ⟨_,m2,rfl⟩))
theorem Bag.un {H:Hp}{S S':Sig}{B B':aq}(h:Bag H S B)(h':Bag H S' B')(hd:((B++B').map (·.1)).Nodup):Bag H (S.un S') (B++B'):=by
 have hle:=h.un_le h' hd
 refine⟨fun q hq=>?_,fun b t m hs=>?_⟩
 ·rcases List.mem_append.1 hq with hq | hq
  ·obtain⟨t,m,h1,h2,h3⟩:=h.ty q hq
   refine⟨t,m,Sig.le_un.1 _ _ h1,h2,fun o u hu=>?_⟩
   obtain⟨ct,h4,h5⟩:=h3 o u hu
   exact⟨ct,h4,h5.le (.refl H) Sig.le_un⟩
  ·obtain⟨t,m,h1,h2,h3⟩:=h'.ty q hq
   refine⟨t,m,hle.1 _ _ h1,h2,fun o u hu=>?_⟩
   obtain⟨ct,h4,h5⟩:=h3 o u hu
   exact⟨ct,h4,h5.le (.refl H) hle⟩
 ·have hs:(match S.f b with | .some x=>.some x | .none=>S'.f b)=some (t,m):=hs
  cases e:S.f b with
  | none=>
   rw [e] at hs
   obtain⟨cs,hc⟩:=h'.mem b t m hs
   exact⟨cs,List.mem_append_right _ hc⟩
  | some y=>
   rw [e] at hs
   cases hs
   obtain⟨cs,hc⟩:=h.mem b t m e
   exact⟨cs,List.mem_append_left _ hc⟩
structure PSt where
 k:Int
 h:Hp
 a:Int
 S:Sig
 v:Value
 qs:List GProc
 ob:aq
 B:aq
structure PInv (H:Hp)(dl:Value)(m:Int)(q:PSt):Prop where
 le:H.le q.h
 d:DiceOk q.h dl q.a
 o:OwnSl 4 GProc.cells q.v q.qs q.ob
 b:Bag q.h q.S q.B
 g:∀x∈q.qs,GPOk q.h q.S x
 N:q.S.N≤10000000
 n:(q.qs.length:Int)≤m
theorem PInv.add {H h':Hp}{dl:Value}{m m' k a':Int}{q:PSt}{S':Sig}{v':Value}{x:GProc}{ob' B':aq}(h:PInv H dl m q)(hl:q.h.le h')(hd:DiceOk h' dl a')(hO:OwnSl 4 GProc.cells v' (q.qs++[x]) ob')(hB:Bag h' S' B')(hx:GPOk h' S' x)(hnd:((q.B++B').map (·.1)).Nodup)(hN:S'.N≤10000000)(hm:m+1≤m'):
  PInv H dl m' ⟨k,h',a',q.S.un S',v',q.qs++[x],ob',q.B++B'⟩:=
 ⟨h.le.trans hl,hd,hO,(h.b.leH hl).un hB hnd,gI (fun y hy=>(h.g y hy).le hl Sig.le_un) (hx.le (.refl _) ((h.b.leH hl).un_le hB hnd)),Nat.max_le.2 ⟨h.N,hN⟩,by
  have:=h.n
  simp only [List.length_append,List.length_cons,List.length_nil];omega⟩
structure LsG (H:Hp)(p:SProto)(lv:Value)(ls:List SLocal):Prop where
 r:RdSl H 2 SLocal.cells lv ls
 n:ls.length≤p.roles.length
 l:∀l∈ls,LocalOk H l∧l.name.length≤1000
 g:∀(k:Int) (T:SLocal),0≤k→ls[k.toNat]? =some T→∀F:Fx,F.tys=ls→F.role=k→TG F T
theorem LsG.of {H:Hp}{p:SProto}{lv:Value}(hG:GPr p)(h1:(m9 p).1=0→∃ls,RdSl H 2 SLocal.cells lv ls∧LsOk H p p.roles.length ls)(h2:(m9 p).1≠0→lv= .slice none 0 0):∃ls,LsG H p lv ls:=by
 by_cases h:(m9 p).1=0
 ·obtain⟨ls,hr,hk⟩:=h1 h
  refine⟨ls,hr,by have:=hk.len;omega,fun l hl=>?_,fun k T k0 hT=>hk.tg h k0 hT⟩
  obtain⟨i,hi⟩:=List.getElem?_of_mem hl
  obtain⟨r,hr,hn,hok,_⟩:=hk.at_ i l hi
  refine⟨hok,?_⟩
  have e1:=hG.rs r (List.mem_of_getElem? hr)
  have e2:=hG.n1
  rw [hn];simp only [List.length_append,List.length_cons,List.length_nil];omega
 ·rw [h2 h]
  exact⟨[],.nil,by simp,by simp,fun k T _ hT=>by simp at hT⟩
theorem LsG.le {H H':Hp}{p:SProto}{lv:Value}{ls:List SLocal}(h:LsG H p lv ls)(hl:H.le H'):LsG H' p lv ls:=⟨h.r.le hl,h.n,fun l hm=>⟨(h.l l hm).1.le hl,(h.l l hm).2⟩,h.g⟩
theorem Cy {P:Program}{n:Nat}{ops:Array Oper}{Q:Exit→Act→World→Prop}{E:Env}{M:List Nat}{w0:World}{H0 H:Hp}{L:aq}{l:List Oper}(h:(L.map (·.1)).Nodup→TL P n ops Q l E (St M w0 H0 H L)):TL P n ops Q l E (St M w0 H0 H L):=
 fun a w he hw=>h hw.nd a w he hw
theorem I5 {x y z:Nat×List Value}{A B:aq}(h:((x::y::z::(A++B)).map (·.1)).Nodup):(B.map (·.1)).Nodup:=
 h.sublist ((((((List.sublist_append_right A B).cons z).cons y).cons x)).map _)
theorem BN {H:Hp}{lv:Value}{l:List Int}(hl:RdSl H 1 I64.cells lv l)(hm:l.length≤1000000000000):
  FnO Tryz.prog 11 [lv] H (fun v H1 ob=>∃ps qs S pv psv ob1 B,v= .agg #[psv,.slice none 0 0,pv]∧ob=ob1++B∧RdSl H1 3 SProto.cells psv ps∧PsOk H1 ps∧OwnSl 4 GProc.cells pv qs ob1∧Bag H1 S B∧(∀x∈qs,GPOk H1 S x)∧S.N≤10000000∧1≤qs.length∧qs.length≤11):=by
 refine FnO.enter Tryz.func11 Tryz.ntmps11 rfl rfl (fun w0=>?_)
 refine zm2 ?_
 refine TL.alloc rfl (fun b2=>?_)
 refine jo ?_
 refine bD (ab rfl rfl rfl rfl) (New_ok hl hm) rfl (fun v11 H11 ob11 hle11 hp11=>?_)
 obtain⟨bd,dl,rfl,rfl,hd⟩:=hp11
 refine kW ?_
 refine aI (X:=[(b2,_)]) (bd:=bd) rfl (ab rfl rfl rfl rfl) (vV hd) rfl (fun v13 H13 at13 hle13 hd13 hp13=>?_)
 obtain⟨hle13_,ps,hps,hPs⟩:=hp13
 obtain⟨psa,psc,rfl⟩:=hps.len
 refine dN ?_
 refine TL.alloc rfl (fun b4=>?_)
 refine m4 ?_;refine iq ?_
 refine TC.loop (ι:=PSt) (V:=fun q=>[(5,.int .i64 q.k)]) (K:=[(2,_),(3,_),(4,_)]) (L:=fun q=>St [] w0 H q.h ((b4,[.slice psa ps.length psc,.slice none 0 0,q.v])::(b2,[.slice none 0 0,.slice none 0 0,.slice none 0 0])::(bd,[dl,.int .i64 q.a])::(q.ob++q.B))) (I:=fun q=>(0≤q.k∧q.k≤ps.length)∧PInv H13 dl (5 * q.k) q) (μ:=fun q=>(ps.length - q.k).toNat) (i:=⟨0,H13,at13,Sig.nil,.slice none 0 0,[],[],[]⟩) ky ⟨⟨by show(0:Int)≤0;omega,by show(0:Int)≤_;omega⟩,⟨.refl _,hd13,.nil,.nil,by simp,by simp [Sig.nil],by simp⟩⟩ (fun w hw=>hw) (fun q hI=>?_)
 obtain⟨⟨k0q,k1q⟩,hIq⟩:=hI
 have hpsq:=hps.le hIq.le
 have hPsq:=hPs.le hIq.le
 refine jO ?_;refine TL.run (ah rfl rfl hpsq) rfl (zm1 ?_)
 refine af rfl ?_ ?_<;>intro c19
 ·
  obtain⟨p,hpx⟩:=aj (l:=ps) k0q c19
  have hpm:=List.mem_of_getElem? hpx
  have hG:=hPs.pg p hpm
  refine oA ?_
  refine TL.run (ae rfl hpsq rfl om om) rfl (TL.run (aY hpsq hpx rfl rfl) rfl (TL.call (ab rfl rfl rfl rfl) (xW p (hPsq.pk p hpm) (by have:=hG.n1;omega) (fun r hr=>by have:=hG.rs r hr;omega)) rfl (fun v28 H28 hle28 hp28=>?_)))
  obtain⟨lv28,rfl,hok28,hno28⟩:=hp28
  obtain⟨ls,hL28⟩:=LsG.of hG hok28 hno28
  obtain⟨la,lc,rfl⟩:=hL28.r.len
  refine lq ?_;refine zm3 ?_;refine zT ?_
  refine TC.loop (ι:=PSt) (V:=fun r=>[(9,.int .i64 r.k)]) (K:=[(2,_),(3,_),(4,_),(5,_),(6,_),(15,_),(16,_),(17,_),(18,_),(19,_),(22,_),(23,_),(24,_),(25,_),(26,_),(27,_),(28,_),(29,_),(30,_),(31,_)]) (L:=fun r=>St [] w0 H r.h ((b4,[.slice psa ps.length psc,.slice none 0 0,r.v])::(b2,[.slice none 0 0,.slice none 0 0,.slice none 0 0])::(bd,[dl,.int .i64 r.a])::(r.ob++r.B))) (I:=fun r=>(0≤r.k∧r.k≤ls.length)∧PInv H28 dl (5 * q.k+r.k) r) (μ:=fun r=>(ls.length - r.k).toNat) (i:={q with k:=0,h:=H28}) ky ⟨⟨by show(0:Int)≤0;omega,by show(0:Int)≤_;omega⟩,⟨.refl _,hIq.d.le hle28,hIq.o,hIq.b.leH hle28,fun x hx=>(hIq.g x hx).le hle28 (.refl _),hIq.N,by have:=hIq.n;show(q.qs.length:Int)≤5 * q.k+0;omega⟩⟩ (fun w hw=>hw) (fun r hI=>?_)
  obtain⟨⟨k0r,k1r⟩,hIr⟩:=hI
  have hLr:=hL28.le hIr.le
  have hpsr:=hpsq.le (hle28.trans hIr.le)
  have hPsr:=hPsq.le (hle28.trans hIr.le)
  refine fk ?_;refine TL.run (ah rfl rfl hLr.r) rfl (zm1 ?_)
  refine af rfl ?_ ?_<;>intro c35
  ·
   obtain⟨l0,hlx⟩:=aj (l:=ls) k0r c35
   refine qK ?_;refine zm463 ?_;refine qZ ?_;refine kK ?_;refine zH ?_;refine qZ ?_;refine zm6 ?_
   refine az (ae rfl hpsr rfl om om) rfl (aO (S1 (S1 SN)) (Hp.le.refl _) (fun _ _=>aY hpsr hpx rfl rfl) rfl (tw ?_))
   refine az (ae rfl hLr.r rfl om om) rfl (zm4 ?_)
   refine aO (S1 (S1 SN)) (Hp.le.refl _) (fun _ _=>aT hLr.r hlx rfl rfl) rfl (au rfl (vF (X:=[(b4,_),(b2,_)]) (Y:=r.ob++r.B) (bd:=bd) rfl (ab rfl rfl rfl rfl) (part_ok hIr.d hpsr hPsr.pk hPsr.pg hPsr.pn.1 p (hPsr.pk p hpm) hG hLr.r (fun l h=>(hLr.l l h).1) r.k _ k0r (by have:=hLr.n;omega) (hLr.l _ (List.mem_of_getElem? hlx)).2 (hLr.g r.k _ k0r hlx)) rfl (fun v55 H55 at55 ob55 hle55 hd55 hp55=>?_)))
   obtain⟨S55,q55,rfl,hB55,hq55,hN55b,_,_⟩:=hp55
   refine aS (kq [(b4,_),(b2,_),(bd,_)]) (Cy (fun hN55=>?_))
   have hnd55:((r.B++ob55).map (·.1)).Nodup:=I5 hN55
   refine ax (S1 (S1 SN)) hle55 (aJ rfl rfl rfl rfl (fun b56=>?_))
   refine au rfl (TL.append (enc:=GProc.cells) rfl rfl rfl hIr.o (Src.own [q55] (.here _) rfl rfl) (by have:=hIr.n;have:=hPs.pn.2;have:=hL28.n;have:=hG.r5;simp only [List.length_cons,List.length_nil];omega) rfl (.s4 (.app _)) rfl (fun a57 c57 ob57 hO57=>?_))
   refine ax (S0 (S1 (S1 SN))) hle55 (DN ?_);refine TF.back (TF.nil (ol ?_));refine TL.run (fK rfl rfl om (by have:=hL28.n;have:=hG.r5;omega)) rfl (cu ?_)
   exact aD (⟨r.k+1,H55,at55,r.S.un S55,_,r.qs++[q55],ob57,r.B++ob55⟩:PSt) ⟨⟨by show 0≤r.k+1;omega,by show r.k+1≤(ls.length:Int);omega⟩,hIr.add hle55 hd55 hO57 hB55 hq55 hnd55 hN55b (by show _≤5 * q.k+(r.k+1);omega)⟩ ky (fun w hw=>hw.drop) (by show(_ - (r.k+1)).toNat<(_ - r.k).toNat;omega)
  refine k8 ?_;refine ol ?_;refine TL.run (fK rfl rfl om (by have:=hPs.pn.2;omega)) rfl (cu ?_)
  exact aD ({r with k:=q.k+1}:PSt) ⟨⟨by show 0≤q.k+1;omega,by show q.k+1≤(ps.length:Int);omega⟩,⟨(hIq.le.trans hle28).trans hIr.le,hIr.d,hIr.o,hIr.b,hIr.g,hIr.N,by have:=hIr.n;have:=hL28.n;have:=hG.r5;show(r.qs.length:Int)≤5 * (q.k+1);omega⟩⟩ ky (fun w hw=>hw) (by show(_ - (q.k+1)).toNat<(_ - q.k).toNat;omega)
 refine iB ?_;refine dO ?_;refine aU [true,true,false] [(0,1),(1,4),(2,1),(3,1),(4,4),(5,5),(6,3),(7,5),(8,1),(9,0)] kr kr (qZ ?_);refine kK ?_;refine zH ?_
 refine au rfl (vF (X:=[(b4,_),(b2,_)]) (Y:=q.ob++q.B) (bd:=bd) rfl (ab rfl rfl rfl rfl) (BJ hIq.d hpsq hPsq.pk hPsq.pg hPsq.pn.1 (by have:=hPsq.pn.2;omega)) rfl (fun v64 H64 at64 ob64 hle64 hd64 hp64=>?_))
 obtain⟨S64,q64,rfl,hB64,hq64,hN64b,_,_⟩:=hp64
 refine aS (kq [(b4,_),(b2,_),(bd,_)]) (Cy (fun hN64=>?_))
 have hnd64:((q.B++ob64).map (·.1)).Nodup:=I5 hN64
 refine ax (S1 (S1 SN)) hle64 (aJ rfl rfl rfl rfl (fun b65=>?_))
 refine au rfl (TL.append (enc:=GProc.cells) rfl rfl rfl hIq.o (Src.own [q64] (.here _) rfl rfl) (by have:=hIq.n;have:=hPs.pn.2;simp only [List.length_cons,List.length_nil];omega) rfl (.s4 (.app _)) rfl (fun a66 c66 ob66 hO66=>?_))
 refine ax (S0 (S1 (S1 SN))) hle64 (DN ?_);refine kY ?_;refine nh ?_;refine no ?_
 have hF:PInv H13 dl 11 ⟨0,H64,at64,q.S.un S64,_,q.qs++[q64],ob66,q.B++ob64⟩:=hIq.add hle64 hd64 hO66 hB64 hq64 hnd64 hN64b (by have:=hPs.pn.2;omega)
 exact cf (.inr rfl) (ad rfl (RVal.cellA rfl (.h2) rfl)) (.s3 (.skip _ .all)) ⟨ps,_,_,_,_,ob66,q.B++ob64,rfl,rfl,hpsq.le hle64,hPsq.le hle64,hF.o,hF.b,hF.g,hF.N,by simp,by have h:((q.qs++[q64]).length:Int)≤11:=hF.n;show(q.qs++[q64]).length≤11;omega⟩
structure GenC (N:Nat)(c:SCast):Prop where
 r:AnyNm c.role
 p:PNm c.proc
 a:c.args.length≤N
structure GenW (w:SWay):Prop where
 l:AnyNm w.label
 n:VarNm w.name
structure GenS (N:Nat)(s:SStep):Prop where
 name:VarNm s.name
 peer:AnyNm s.peer
 label:AnyNm s.label
 proc:PNm s.proc
 an:s.args.length≤N
 cn:s.casts.length≤N
 wn:s.ways.length≤N
 c:∀c∈s.casts,GenC N c
 w:∀w∈s.ways,GenW w
structure GenQ (N:Nat)(q:SProc):Prop where
 nm:PNm q.name
 pv:∀x∈q.params,VarNm x.name∧x.cn.length≤1000
 pl:q.params.length≤2
 s0:0<q.steps.length
 tl:q.terms.length≤10000000
 sl:q.steps.length≤10000000
 t:∀t∈q.terms,VarNm t.name∧AnyNm t.text
 s:∀s∈q.steps,GenS N s
theorem AllT.one {H:Hp}{S:Sig}{c:CT}{cs:List CT}{vs:List Value}(h:AllT H S (c::cs) vs):∃v r,vs=v::r∧CTy H S c v∧AllT H S cs r:=by
 cases vs with
 | nil=>exact h.elim
 | cons v r=>exact⟨v,r,rfl,h.1,h.2⟩
theorem AllT.none {H:Hp}{S:Sig}{vs:List Value}(h:AllT H S [] vs):vs=[]:=by
 cases vs with
 | nil=>rfl
 | cons v r=>exact h.elim
theorem Ce {H:Hp}{S:Sig}{cs:List Value}(h:AllT H S (fL 4) cs):∃x:Int,cs=I64.cells x∧True:=by
 obtain⟨v,r,rfl,h1,h2⟩:=h.one
 rw [h2.none]
 obtain⟨i,rfl⟩:=h1
 exact⟨i,rfl,trivial⟩
theorem Gm {H:Hp}{S:Sig}{cs:List Value}(h:AllT H S (fL 0) cs):∃t:Term,cs=t.cells∧VarNm t.name∧AnyNm t.text:=by
 obtain⟨v1,_,rfl,⟨k,rfl⟩,g1⟩:=h.one
 obtain⟨v2,_,rfl,⟨n,rfl,hn⟩,g2⟩:=g1.one
 obtain⟨v3,_,rfl,⟨i,rfl⟩,g3⟩:=g2.one
 obtain⟨v4,_,rfl,⟨x,rfl,hx⟩,g4⟩:=g3.one
 obtain⟨v5,_,rfl,⟨l,rfl⟩,g5⟩:=g4.one
 obtain⟨v6,_,rfl,⟨r,rfl⟩,g6⟩:=g5.one
 rw [g6.none]
 exact⟨⟨k,n,i,x,l,r⟩,rfl,hn,hx⟩
theorem Jc {H:Hp}{S:Sig}{cs:List Value}(h:AllT H S (fL 1) cs):∃w:SWay,cs=w.cells∧GenW w:=by
 obtain⟨v1,_,rfl,⟨k,rfl,hk⟩,g1⟩:=h.one
 obtain⟨v2,_,rfl,⟨n,rfl,hn⟩,g2⟩:=g1.one
 obtain⟨v3,_,rfl,⟨i,rfl⟩,g3⟩:=g2.one
 rw [g3.none]
 exact⟨⟨k,n,i⟩,rfl,hk,hn⟩
theorem Gq {H:Hp}{S:Sig}(hB:BagH H S){cs:List Value}(h:AllT H S (fL 2) cs):∃c:SCast,cs=c.cells∧GenC S.N c∧RdSl H 1 I64.cells (.slice c.ap.1 c.args.length c.ap.2) c.args:=by
 obtain⟨v1,_,rfl,⟨k,rfl,hk⟩,g1⟩:=h.one
 obtain⟨v2,_,rfl,⟨n,rfl,hn⟩,g2⟩:=g1.one
 obtain⟨v3,_,rfl,⟨a,m,c,rfl,hs,hm⟩,g3⟩:=g2.one
 rw [g3.none]
 obtain⟨xs,hl,hr,_⟩:=hs.list (enc:=I64.cells) (p:=fun _=>True) rfl hB (fun cs h=>Ce h)
 subst hl
 exact⟨⟨k,n,xs,(a,c)⟩,rfl,⟨hk,hn,hm⟩,hr⟩
theorem Gn {H:Hp}{S:Sig}(hB:BagH H S){cs:List Value}(h:AllT H S (fL 3) cs):∃s:SStep,cs=s.cells∧GenS S.N s∧StepOk H s:=by
 obtain⟨v1,_,rfl,⟨k,rfl⟩,g1⟩:=h.one
 obtain⟨v2,_,rfl,⟨nm,rfl,hnm⟩,g2⟩:=g1.one
 obtain⟨v3,_,rfl,⟨pe,rfl,hpe⟩,g3⟩:=g2.one
 obtain⟨v4,_,rfl,⟨la,rfl,hla⟩,g4⟩:=g3.one
 obtain⟨v5,_,rfl,⟨pr,rfl,hpr⟩,g5⟩:=g4.one
 obtain⟨v6,_,rfl,⟨tm,rfl⟩,g6⟩:=g5.one
 obtain⟨v7,_,rfl,⟨aa,an,ac,rfl,has,han⟩,g7⟩:=g6.one
 obtain⟨v8,_,rfl,⟨ca,cn,cc,rfl,hcs,hcn⟩,g8⟩:=g7.one
 obtain⟨v9,_,rfl,⟨wa,wn,wc,rfl,hws,hwn⟩,g9⟩:=g8.one
 obtain⟨v10,_,rfl,⟨nx,rfl⟩,g10⟩:=g9.one
 rw [g10.none]
 obtain⟨A,hl1,hr1,_⟩:=has.list (enc:=I64.cells) (p:=fun _=>True) rfl hB (fun cs h=>Ce h)
 obtain⟨C,hl2,hr2,hC⟩:=hcs.list (enc:=SCast.cells) (p:=fun c=>GenC S.N c∧RdSl H 1 I64.cells (.slice c.ap.1 c.args.length c.ap.2) c.args) rfl hB (fun cs h=>Gq hB h)
 obtain⟨W,hl3,hr3,hW⟩:=hws.list (enc:=SWay.cells) (p:=GenW) rfl hB (fun cs h=>Jc h)
 subst hl1 hl2 hl3
 exact⟨⟨k,nm,pe,la,pr,tm,A,(aa,ac),C,(ca,cc),W,(wa,wc),nx⟩,rfl,⟨hnm,hpe,hla,hpr,han,hcn,hwn,fun c hc=>(hC c hc).1,hW⟩,⟨hr1,hr2,fun c hc=>(hC c hc).2,hr3⟩⟩
theorem AnyNm.cn {s:Str}(h:s.length≤1000):s.length≤4294960000:=by omega
theorem Gp {H:Hp}{S:Sig}(hB:BagH H S){q:GProc}(h:GPOk H S q):∃p:SProc,q.cells=p.cells∧p.name=q.name∧p.params=q.params∧GenQ S.N p∧ProcOk H p:=by
 obtain⟨T,hl1,hr1,hT⟩:=h.t.list (enc:=Term.cells) (p:=fun t=>VarNm t.name∧AnyNm t.text) rfl hB (fun cs h=>Gm h)
 obtain⟨L,hl2,hr2,hL⟩:=h.s.list (enc:=SStep.cells) (p:=fun s=>GenS S.N s∧StepOk H s) rfl hB (fun cs h=>Gn hB h)
 obtain⟨nm,params,pp,ta,tn,tc,sa,sn,sc⟩:=q
 have h1:=h.nm;have h2:=h.pa;have h3:=h.pv;have h4:=h.pl;have h5:=h.s0;have h6:=h.tl;have h7:=h.sl
 dsimp only at *
 subst hl1 hl2
 refine⟨⟨nm,params,pp,T,(ta,tc),L,(sa,sc)⟩,rfl,rfl,rfl,⟨h1,h3,h4,h5,h6,h7,hT,fun s hs=>(hL s hs).1⟩,⟨h2,fun x hx=>AnyNm.cn (h3 x hx).2,by show params.length≤_;omega,hr1,fun t ht=>?_,hr2,fun s hs=>(hL s hs).2⟩⟩
 have:=(hT t ht).1.len
 omega
theorem vq {H:Hp}{S:Sig}(hB:BagH H S):∀(qs:List GProc),(∀x∈qs,GPOk H S x)→∃ps:List SProc,qs.map GProc.cells=ps.map SProc.cells∧ps.map (·.name)=qs.map (·.name)∧∀p∈ps,GenQ S.N p∧ProcOk H p
 | [],_=>⟨[],rfl,rfl,by simp⟩
 | q::r,h=>by
  obtain⟨p,h1,h2,_,h3,h4⟩:=Gp hB (h q sq)
  obtain⟨ps,h5,h6,h7⟩:=vq hB r (fun x hx=>h x (by simp [hx]))
  refine⟨p::ps,by simp [h1,h5],by simp [h2,h6],fun x hx=>?_⟩
  rcases List.mem_cons.1 hx with rfl | hx
  ·exact⟨h3,h4⟩
  ·exact h7 x hx
theorem recell2 {α β:Type}{H:Hp}{k:Nat}{enc:α→List Value}{enc':β→List Value}{v:Value}{l:List α}{l':List β}(h:RdSl H k enc v l)(e:l.map enc=l'.map enc'):RdSl H k enc' v l':=by
 have hl:l'.length=l.length:=by have:=congrArg List.length e;simpa using this.symm
 refine⟨by rw [hl];exact h.len,by rw [hl];exact h.max,fun hne=>?_,fun i x hx j u hu=>?_,fun a n c hv=>by rw [hl];exact h.room a n c hv⟩
 ·rw [hl];exact h.addr (fun e0=>hne (List.length_eq_zero_iff.1 (by rw [hl,e0];rfl)))
 ·have h1:(l.map enc)[i]? =some (enc' x):=by rw [e,List.getElem?_map,hx];rfl
  rw [List.getElem?_map] at h1
  cases hy:l[i]? with
  | none=>rw [hy] at h1;simp at h1
  | some y=>
   rw [hy] at h1
   simp only [Option.map_some,Option.some.injEq] at h1
   exact h.get i y hy j u (by rw [h1];exact hu)
structure GenP (P:SProg):Prop where
 l:P.locals=[]
 n1:1≤P.procs.length
 n11:P.procs.length≤11
 q:∀q∈P.procs,GenQ 10000000 q
theorem GenS.up {N M:Nat}{s:SStep}(h:GenS N s)(hm:N≤M):GenS M s:=
 ⟨h.name,h.peer,h.label,h.proc,Nat.le_trans h.an hm,Nat.le_trans h.cn hm,Nat.le_trans h.wn hm,fun c hc=>⟨(h.c c hc).r,(h.c c hc).p,Nat.le_trans (h.c c hc).a hm⟩,h.w⟩
theorem GenQ.up {N M:Nat}{q:SProc}(h:GenQ N q)(hm:N≤M):GenQ M q:=⟨h.nm,h.pv,h.pl,h.s0,h.tl,h.sl,h.t,fun s hs=>(h.s s hs).up hm⟩
theorem GenP.sz {P:SProg}(h:GenP P):∀q∈P.procs,se q:=fun q hq s hs=>Nat.le_trans ((h.q q hq).s s hs).wn dq
theorem Cd {H:Hp}{S:Sig}{qs:List GProc}{pv psv:Value}{ps:List SProto}(hB:BagH H S)(hq:RdSl H 4 GProc.cells pv qs)(hg:∀x∈qs,GPOk H S x)(hps:RdSl H 3 SProto.cells psv ps)(hpo:∀p∈ps,ProtoOk H p)(hN:S.N≤10000000)(h1:1≤qs.length)(h11:qs.length≤11):
  ∃P:SProg,.agg #[psv,.slice none 0 0,pv]=Value.agg P.cells.toArray∧ProgOk H P∧GenP P∧P.protos=ps∧P.procs.map (·.name)=qs.map (·.name):=by
 obtain⟨procs,h2,h3,h4⟩:=vq hB qs hg
 have hr:=recell2 (enc':=SProc.cells) hq h2
 have hl:procs.length=qs.length:=by have:=congrArg List.length h2;simpa using this.symm
 obtain⟨pa,pc,rfl⟩:=hr.len
 obtain⟨sa,sc,rfl⟩:=hps.len
 exact⟨⟨ps,(sa,sc),[],(none,0),procs,(pa,pc)⟩,rfl,⟨hps,hpo,RdSl.nil,by simp,hr,fun q hq=>(h4 q hq).2⟩,⟨rfl,by dsimp only;omega,by dsimp only;omega,fun q hq=>(h4 q hq).1.up hN⟩,rfl,h3⟩
section
variable {P:Program}{n:Nat}{ops:Array Oper}{Q:Exit→Act→World→Prop}{E:Env}{M:List Nat}{w0:World}{H0 H:Hp}{L:aq}{C:World→Prop}
theorem TX.pubB {S:Sig}{B:aq}{F:aq→aq}{q:Act→World→Prop}(hB:Bag H S B)(hU:Tl B L F)(hM:∀p∈B,p.1∉M)(h:∀H',H.le H'→BagH H' S→TX n q E (St M w0 H0 H' (F []))):TX n q E (St M w0 H0 H L):=by
 intro a w he hw
 obtain⟨H',h1,h2,h3⟩:=St.pubB hB hU hM hw
 exact h H' h1 h2 a w he h3
end
theorem SlT.tail {S:Sig}{t:Nat}{a:Option Addr}{n c k:Nat}(h:SlT S t a n c)(hn:0<n)(hk:kT t=k):∃a',Go.sliced a 1 n c k= .slice a' (n - 1) (c - 1)∧SlT S t a' (n - 1) (c - 1):=by
 rcases h with ⟨_,h,_⟩ | ⟨b,j,m,rfl,hS,h1,h2,h3⟩
 ·omega
 ·subst hk
  unfold Go.sliced
  by_cases hc:c=1
  ·rw [if_pos hc]
   exact⟨_,rfl,.inr ⟨b,j,m,rfl,hS,by omega,by omega,by omega⟩⟩
  ·rw [if_neg hc]
   refine⟨some ⟨b,(j+1) * kT t,none⟩,?_,.inr ⟨b,j+1,m,rfl,hS,by omega,by omega,by omega⟩⟩
   simp only [Option.map_some,Addr.add_lit]
   congr 3
   simp [Nat.add_mul]
theorem DE {i:Nat}{r:Str}(h:rolesL[i]? =some r):AnyNm r:=by
 have:=o6 (n:=5) (by rw [List.take_of_length_le dq];exact List.mem_of_getElem? h)
 simp [AnyNm];omega
theorem Cv {i:Nat}{r:Str}(h:labelsL[i]? =some r):AnyNm r:=by
 have:=Gg h;simp [AnyNm];omega
theorem Do {H:Hp}{lv:Value}{l:List Int}(hl:RdSl H 1 I64.cells lv l)(hm:l.length≤1000000000000)(wh what:Int):
  Fn Tryz.prog 10 [lv,.int .i64 wh,.int .i64 what] H (fun v H1=>∃pg:SProg,v= .agg pg.cells.toArray∧ProgOk H1 pg∧GenP pg):=by
 have one0:=hl.isOne
 refine Fn.enter Tryz.func10 Tryz.ntmps10 rfl rfl (fun w0=>?_)
 refine zm2 ?_
 refine TL.alloc rfl (fun b6=>?_)
 refine jo ?_
 refine bD (ab rfl rfl rfl rfl) (BN hl hm) rfl (fun v12 H12 ob12 hle12 hp12=>?_)
 obtain⟨ps,qs,S,pv,psv,ob1,B,rfl,rfl,hps,hPs,hO,hB,hq,hN,hn1,hn11⟩:=hp12
 obtain⟨psa,psc,rfl⟩:=hps.len
 obtain⟨pva,pvc,rfl⟩:=hO.form
 refine TL.alloc rfl (fun b7=>?_)
 refine sY ?_;refine TL.run (d8 rfl) rfl (fj ?_)
 refine TL.run (bK rfl rfl hO) rfl (TL.run (d8 rfl) rfl (TL.run (hZ rfl rfl (by rw [lA om om];omega)) rfl (TL.run (d8 rfl) rfl ?_)));refine cu ?_
 have hk:=lT wh (n:=(qs.length:Int)) om om
 generalize hkE:IntKind.i64.wrap ((IntKind.u64.wrap wh).tmod (IntKind.u64.wrap (qs.length:Int)))=k at hk ⊢
 obtain⟨q,hqx⟩:=aj (l:=qs) hk.1 hk.2
 have hgq:=hq q (List.mem_of_getElem? hqx)
 have hs0:=hgq.s0
 have hrl5:rolesL.length=5:=rfl
 have hll4:labelsL.length=4:=rfl
 have hsl:=hgq.sl
 obtain⟨bs,js,ms,hsa,hsS,hsj⟩:=hgq.s.at hs0
 refine ai (el ?_);refine zS ?_;refine fj ?_;refine zm0 ?_;refine TL.run (bY rfl rfl hO om om) rfl (zm5 ?_)
 refine TL.run (PR.to (eK rfl hO (.s2 (.app _)) hqx rfl) (rfl:_=Value.slice q.sa q.sn q.sc)) rfl (lz ?_)
 refine TL.run (d8 rfl) rfl (TL.run (hZ rfl rfl (by rw [lA om om];omega)) rfl (TL.run (d8 rfl) rfl (cu ?_)))
 have hm2:=lT ((IntKind.u64.wrap wh).tdiv 32) (n:=(q.sn:Int)) om om
 generalize hmE:IntKind.i64.wrap ((IntKind.u64.wrap ((IntKind.u64.wrap wh).tdiv 32)).tmod (IntKind.u64.wrap (q.sn:Int)))=m at hm2 ⊢
 refine ai (zI ?_);refine TL.run (bY rfl rfl hO om om) rfl (zm5 ?_);refine TL.run (PR.to (eK rfl hO (.s2 (.app _)) hqx rfl) (rfl:_=Value.slice q.sa q.sn q.sc)) rfl (zm0 ?_)
 refine TL.run (di rfl rfl hsa om om) rfl (tH ?_);refine TL.run (d8 rfl) rfl (TL.run (hZ rfl rfl om) rfl (xk ?_))
 refine af rfl ?_ ?_<;>intro c50
 ·
  refine jz ?_;refine gr ?_
  refine dS (t:=3) (f:=1) rfl rfl hB (.s2 (.past ob1 .all)) hsS rfl hsj om rfl ⟨_,rfl,.inr (.inr (.inr (.inl rfl)))⟩ rfl rfl (fun B1 hB1=>?_)
  refine kI ?_
  refine TX.pubO hO (.s2 (.app _)) sq (fun H2 hle2 hR=>?_)
  refine TX.pubB (hB1.leH hle2) (.skip _ (.skip _ .all)) sq (fun H3 hle3 hBH=>?_)
  exact gU
 refine eE ?_
 refine af rfl ?_ ?_<;>intro c55
 ·
  refine jz ?_
  refine TL.call (ab rfl rfl rfl rfl) (jg) rfl (fun v58 H58 hle58 hp58=>?_)
  have hro58:=hp58
  replace hps:=hps.le hle58
  replace hPs:=hPs.le hle58
  replace hB:=hB.leH hle58
  replace hq:=fun x hx=>(hq x hx).le hle58 (.refl _)
  refine zm0 ?_;refine zS ?_;refine TL.run (hZ rfl rfl om) rfl (TL.run (d8 rfl) rfl ?_)
  have hp63:=IH ((IntKind.u64.wrap what).tdiv 12) (n:=5) om om
  obtain⟨rx,hrx⟩:=aj (l:=rolesL) hp63.1 hp63.2
  refine TL.run (ae rfl hro58 rfl om om) rfl (TL.run (aL hro58 hrx rfl rfl) rfl (gr ?_))
  refine dS (t:=3) (f:=2) rfl rfl hB (.s2 (.past ob1 .all)) hsS rfl hsj om rfl ⟨_,rfl,DE hrx⟩ rfl rfl (fun B2 hB2=>?_)
  refine kI ?_
  refine TX.pubO hO (.s2 (.app _)) sq (fun H2 hle2 hR=>?_)
  refine TX.pubB (hB2.leH hle2) (.skip _ (.skip _ .all)) sq (fun H3 hle3 hBH=>?_)
  exact gU
 refine eE ?_
 refine af rfl ?_ ?_<;>intro c68
 ·
  refine jz ?_
  refine TL.call (ab rfl rfl rfl rfl) (eF) rfl (fun v71 H71 hle71 hp71=>?_)
  have hla71:=hp71
  replace hps:=hps.le hle71
  replace hPs:=hPs.le hle71
  replace hB:=hB.leH hle71
  replace hq:=fun x hx=>(hq x hx).le hle71 (.refl _)
  refine zm0 ?_;refine zS ?_;refine TL.run (hZ rfl rfl om) rfl (TL.run (d8 rfl) rfl ?_)
  have hp76:=IH ((IntKind.u64.wrap what).tdiv 12) (n:=4) om om
  obtain⟨lx,hlx⟩:=aj (l:=labelsL) hp76.1 hp76.2
  refine TL.run (ae rfl hla71 rfl om om) rfl (TL.run (aL hla71 hlx rfl rfl) rfl (gr ?_))
  refine dS (t:=3) (f:=3) rfl rfl hB (.s2 (.past ob1 .all)) hsS rfl hsj om rfl ⟨_,rfl,Cv hlx⟩ rfl rfl (fun B3 hB3=>?_)
  refine kI ?_
  refine TX.pubO hO (.s2 (.app _)) sq (fun H2 hle2 hR=>?_)
  refine TX.pubB (hB3.leH hle2) (.skip _ (.skip _ .all)) sq (fun H3 hle3 hBH=>?_)
  exact gU
 refine eE ?_
 refine af rfl ?_ ?_<;>intro c81
 ·
  refine mW ?_;refine gr ?_
  refine dS (t:=3) (f:=9) rfl rfl hB (.s2 (.past ob1 .all)) hsS rfl hsj om rfl ⟨_,rfl⟩ rfl rfl (fun B9 hB9=>?_)
  refine kI ?_
  refine TX.pubO hO (.s2 (.app _)) sq (fun H2 hle2 hR=>?_)
  refine TX.pubB (hB9.leH hle2) (.skip _ (.skip _ .all)) sq (fun H3 hle3 hBH=>?_)
  exact gU
 refine eE ?_
 refine af rfl ?_ ?_<;>intro c87
 ·
  refine mW ?_;refine zS ?_;refine TL.run (hZ rfl rfl om) rfl (TL.run (d8 rfl) rfl (gr ?_))
  refine dS (t:=3) (f:=0) rfl rfl hB (.s2 (.past ob1 .all)) hsS rfl hsj om rfl ⟨_,rfl⟩ rfl rfl (fun B0 hB0=>?_)
  refine kI ?_
  refine TX.pubO hO (.s2 (.app _)) sq (fun H2 hle2 hR=>?_)
  refine TX.pubB (hB0.leH hle2) (.skip _ (.skip _ .all)) sq (fun H3 hle3 hBH=>?_)
  exact gU
 refine eE ?_
 refine af rfl ?_ ?_<;>intro c97
 ·
  refine mW ?_;refine zS ?_;refine TL.run (hZ rfl rfl om) rfl (TL.run (d8 rfl) rfl (ly ?_));refine gr ?_
  refine dS (t:=3) (f:=5) rfl rfl hB (.s2 (.past ob1 .all)) hsS rfl hsj om rfl ⟨_,rfl⟩ rfl rfl (fun B5 hB5=>?_)
  refine kI ?_
  refine TX.pubO hO (.s2 (.app _)) sq (fun H2 hle2 hR=>?_)
  refine TX.pubB (hB5.leH hle2) (.skip _ (.skip _ .all)) sq (fun H3 hle3 hBH=>?_)
  exact gU
 refine eE ?_
 refine af rfl ?_ ?_<;>intro c108
 ·
  refine jz ?_;refine gr ?_
  refine dS (t:=3) (f:=4) rfl rfl hB (.s2 (.past ob1 .all)) hsS rfl hsj om rfl ⟨_,rfl,by simp [PNm]⟩ rfl rfl (fun B4 hB4=>?_)
  refine kI ?_
  refine TX.pubO hO (.s2 (.app _)) sq (fun H2 hle2 hR=>?_)
  refine TX.pubB (hB4.leH hle2) (.skip _ (.skip _ .all)) sq (fun H3 hle3 hBH=>?_)
  exact gU
 refine eE ?_
 refine af rfl ?_ ?_<;>intro c113
 ·
  refine zm2 ?_
  obtain⟨u_hcell,⟨wa,wn,wc,rfl,hws,hwn⟩,hcell⟩:=hB.get (t:=3) (f:=8) hsS rfl hsj (i:=m.toNat) om rfl
  refine zm0 ?_;refine gr ?_;refine DZ ?_;refine lz ?_;refine zm1 ?_
  refine af rfl ?_ ?_<;>intro c120
  ·
   refine TC.region ?_
   obtain⟨wa2,hwe,hws2⟩:=hws.tail (k:=3) om rfl
   refine zm3 ?_;refine gr ?_;refine DZ ?_;refine TL.run (PR.to (xY rfl rfl om om) hwe) rfl (gr ?_)
   refine dS (t:=3) (f:=8) rfl rfl hB (.s2 (.past ob1 .all)) hsS rfl hsj om rfl ⟨_,_,_,rfl,hws2,by omega⟩ rfl rfl (fun B8 hB8=>?_)
   refine kI ?_
   refine TX.pubO hO (.s2 (.app _)) sq (fun H2 hle2 hR=>?_)
   refine TX.pubB (hB8.leH hle2) (.skip _ (.skip _ .all)) sq (fun H3 hle3 hBH=>?_)
   exact gU
  refine TC.skip (bn (ai (lg ?_)))
  refine TX.pubO hO (.s2 (.app _)) sq (fun H2 hle2 hR=>?_)
  refine TX.pubB (hB.leH hle2) (.skip _ (.skip _ .all)) sq (fun H3 hle3 hBH=>?_)
  exact gU
 refine eE ?_
 refine af rfl ?_ ?_<;>intro c129
 ·
  refine zm2 ?_
  obtain⟨u_hcell,⟨ca,cn,cc,rfl,hcs,hcn⟩,hcell⟩:=hB.get (t:=3) (f:=7) hsS rfl hsj (i:=m.toNat) om rfl
  refine zm0 ?_;refine gr ?_;refine DZ ?_;refine lz ?_;refine zm1 ?_
  refine af rfl ?_ ?_<;>intro c136
  ·
   refine TC.region ?_
   obtain⟨bc,jc,mc,hca,hcS,hcj⟩:=hcs.at om
   refine zm0 ?_;refine gr ?_;refine DZ ?_;refine TL.run (di rfl rfl hca om om) rfl (zm5 ?_)
   refine dS (t:=2) (f:=0) rfl rfl hB (.s2 (.past ob1 .all)) hcS rfl hcj (by show(0:Int).toNat<cn;simp;omega) rfl ⟨_,rfl,by simp [AnyNm]⟩ rfl rfl (fun B0c hB0c=>?_)
   refine kI ?_
   refine TX.pubO hO (.s2 (.app _)) sq (fun H2 hle2 hR=>?_)
   refine TX.pubB (hB0c.leH hle2) (.skip _ (.skip _ .all)) sq (fun H3 hle3 hBH=>?_)
   exact gU
  refine TC.skip (bn (ai (lg ?_)))
  refine TX.pubO hO (.s2 (.app _)) sq (fun H2 hle2 hR=>?_)
  refine TX.pubB (hB.leH hle2) (.skip _ (.skip _ .all)) sq (fun H3 hle3 hBH=>?_)
  exact gU
 refine eE ?_
 refine af rfl ?_ ?_<;>intro c143
 ·
  refine jz ?_;refine gr ?_
  refine dS (t:=3) (f:=6) rfl rfl hB (.s2 (.past ob1 .all)) hsS rfl hsj om rfl ⟨_,_,_,rfl,.nil,Nat.zero_le _⟩ rfl rfl (fun B6 hB6=>?_)
  refine kI ?_
  refine TX.pubO hO (.s2 (.app _)) sq (fun H2 hle2 hR=>?_)
  refine TX.pubB (hB6.leH hle2) (.skip _ (.skip _ .all)) sq (fun H3 hle3 hBH=>?_)
  exact gU
 refine eE ?_
 refine af rfl ?_ ?_<;>intro c148
 ·
  refine ll ?_;refine gr ?_
  refine dS (t:=3) (f:=0) rfl rfl hB (.s2 (.past ob1 .all)) hsS rfl hsj om rfl ⟨_,rfl⟩ rfl rfl (fun B0a hB0a=>?_)
  refine gr ?_
  refine dS (t:=3) (f:=1) rfl rfl hB0a (.s2 (.past ob1 .all)) hsS rfl hsj om rfl ⟨_,rfl,.nil⟩ rfl rfl (fun B1b hB1b=>?_)
  refine gr ?_
  refine dS (t:=3) (f:=5) rfl rfl hB1b (.s2 (.past ob1 .all)) hsS rfl hsj om rfl ⟨_,rfl⟩ rfl rfl (fun B5d hB5d=>?_)
  refine gr ?_
  refine dS (t:=3) (f:=9) rfl rfl hB5d (.s2 (.past ob1 .all)) hsS rfl hsj om rfl ⟨_,rfl⟩ rfl rfl (fun B9e hB9e=>?_)
  refine kI ?_
  refine TX.pubO hO (.s2 (.app _)) sq (fun H2 hle2 hR=>?_)
  refine TX.pubB (hB9e.leH hle2) (.skip _ (.skip _ .all)) sq (fun H3 hle3 hBH=>?_)
  exact gU
 refine wz ?_;refine TL.run (bY rfl rfl hO om om) rfl (zm5 ?_)
 refine ig (a:=q) (a':={q with params:=[],pp:=(none,0)}) rfl rfl hO (.s2 (.app _)) hqx rfl rfl rfl rfl (fun ob1b hogb hO2=>?_)
 have hq2:∀x∈qs.set k.toNat {q with params:=[],pp:=(none,0)},GPOk H12 S x:=fun x hx=>by
  rcases List.mem_or_eq_of_mem_set hx with hx | rfl
  · exact hq x hx
  · have h9:=hq q (List.mem_of_getElem? hqx);exact⟨h9.nm,RdSl.nil,by simp,by simp,h9.t,h9.s,h9.s0,h9.tl,h9.sl⟩
 refine kI ?_
 refine TX.pubO hO2 (.s2 (.app _)) sq (fun H2 hle2 hR=>?_)
 refine TX.pubB (hB.leH hle2) (.skip _ (.skip _ .all)) sq (fun H3 hle3 hBH=>?_)
 obtain⟨pg,hv,hpo,hgp,_,_⟩:=Cd hBH (hR.le hle3) (fun x hx=>(hq2 x hx).le (hle2.trans hle3) (.refl _)) (hps.le (hle2.trans hle3)) ((hPs.le (hle2.trans hle3)).pk) hN (by first | omega | (simp;omega)) (by first | omega | (simp;omega))
 exact aR (.inr rfl) (ad rfl (RVal.cellA rfl (.h1) rfl)) ⟨pg,hv,hpo,hgp⟩
theorem vg {H:Hp}(p:SProto)(hP:ProtoOk H p)(h5:p.roles.length≤5)(h24:p.points.length≤24)(h6:∀x∈p.points,x.arms.length≤6):
  Fn Tryz.prog 55 [.agg p.cells.toArray] H (fun v H1=>∃p2:SProto,v= .agg p2.cells.toArray∧ProtoOk H1 p2∧p2.bare=p.bare):=by
 refine Fn.enter Tryz.func55 Tryz.ntmps55 rfl rfl (fun w0=>?_)
 refine zm2 ?_
 refine TL.box rfl rfl (fun b1=>?_)
 refine TL.alloc rfl (fun b2=>?_)
 refine gN ?_;refine iN ?_
 refine TL.append (enc:=Str.cells) rfl rfl rfl (OwnSl.nil (enc:=Str.cells)) (Src.sl hP.r) (by simp;omega) rfl (.new _ rfl) rfl (fun a8 c8 ob8 hO8=>?_)
 refine qY ?_
 refine TL.pubO hO8 (.skip _ (.skip _ .all)) sq (fun HPob8 lePob8 hRr=>?_)
 replace hP:=hP.le lePob8
 refine aS (L':=(b2,_)::(b1,_)::[]) (List.Perm.refl _) ?_
 replace hRr:=hRr.cast (List.nil_append _)
 refine kh ?_
 refine aK (V:=fun(ix:Int×List SPoint) v1 ob1 H1=>[(3,v1),(4,.int .i64 ix.1)]) (K:=[(1,_),(2,_)]) (L:=fun(ix:Int×List SPoint) v1 ob1 H1=>St [] w0 H H1 ((b2,[gs [],.slice none 0 0,.slice none 0 0])::(b1,[gs p.name,.slice a8 (([]:List Str)++p.roles).length c8,.slice p.pp.1 p.points.length p.pp.2])::ob1)) (I:=fun(ix:Int×List SPoint) v1 ob1 H1=>(0≤ix.1∧ix.1≤p.points.length)∧HPob8.le H1∧OwnSl 3 SPoint.cells v1 ix.2 ob1∧ix.2.length=ix.1∧PtAll H1 ix.2∧ix.2.map SPoint.bare=(p.points.take ix.1.toNat).map SPoint.bare) (μ:=fun(ix:Int×List SPoint)=>(p.points.length - ix.1).toNat) ((0:Int),[]) (.slice none 0 0) [] HPob8 ky ⟨o2q,Hp.le.refl _,OwnSl.nil,rfl,(fun _ h=>by cases h),rfl⟩ (fun w hw=>hw) (fun ix v1 ob1 H1 hI=>?_)
 obtain⟨⟨k01,k11⟩,hle1,hO1,hPl1,hPA1,hPm1⟩:=hI
 obtain⟨k1,P1⟩:=ix
 dsimp only at *
 obtain⟨va1,vc1,rfl⟩:=hO1.form
 replace hP:=hP.le hle1
 replace hRr:=hRr.le hle1
 refine kU ?_;refine TL.run (ah rfl rfl hP.pt) rfl (zm1 ?_)
 refine af rfl ?_ ?_<;>intro c14
 ·
  obtain⟨y,hk1⟩:=aj (l:=p.points) k01 c14
  have hyO:=hP.ps y (List.mem_of_getElem? hk1)
  have hyz:=h6 y (List.mem_of_getElem? hk1)
  refine wE ?_;refine TL.run (ae rfl hP.pt rfl om om) rfl (TL.run (aY hP.pt hk1 rfl rfl) rfl (TL.alloc rfl (fun b5=>?_)))
  refine nt ?_
  refine TL.append (enc:=SArm.cells) rfl rfl rfl (OwnSl.nil (enc:=SArm.cells)) (Src.sl hyO.a) (by simp;omega) rfl (.new _ rfl) rfl (fun a24 c24 ob24 hO24=>?_)
  refine pS ?_;refine TC.region (TL.pubO hO24 (.s3 (.past _ .all)) sq (fun HPob24 lePob24 hR24=>?_))
  replace hle1:=hle1.trans lePob24
  replace hPA1:=hPA1.le lePob24
  replace hyO:=hyO.le lePob24
  refine aS (L':=(b5,_)::((b2,_)::((b1,_)::(ob1)))) (dV [(b5,_),(b2,_),(b1,_)] (A:=ob1)) ?_
  replace hR24:=hR24.cast (List.nil_append _)
  refine zm0 ?_;refine gL ?_
  refine aA rfl rfl rfl rfl (fun b28=>?_)
  refine TL.append (enc:=SPoint.cells) rfl rfl rfl hO1 (Src.own [⟨y.frm,y.to,y.arms,(a24,c24)⟩] (.here _) rfl rfl) (by simp;omega) rfl (.s3 (.skip _ .all)) rfl (fun a29 c29 ob29 hO29=>?_)
  refine iW ?_
  exact ay (i:=(k1,P1)) (k1+1,P1++[⟨y.frm,y.to,y.arms,(a24,c24)⟩]) _ ob29 HPob24 ⟨o2q,hle1,hO29,by simp only [List.length_append,List.length_cons,List.length_nil];omega,dG hPA1 ⟨hR24,hyO.z⟩,eP k01 hk1 hPm1 rfl⟩ ky (fun w hw=>hw.drop.drop) om
 refine oK ?_
 have hQe:=hPm1
 rw [aX c14 k01] at hQe
 refine TL.pubO hO1 (.skip _ (.skip _ .all)) sq (fun HPob1 lePob1 hRp=>?_)
 replace hRr:=hRr.le lePob1
 replace hPA1:=hPA1.le lePob1
 refine aS (L':=(b2,_)::(b1,_)::[]) (List.Perm.refl _) (zm0 ?_);refine qY ?_;refine ng ?_;refine iV ?_
 exact aR (.inr rfl) (ad rfl (RVal.cellA rfl (.here _) rfl)) ⟨⟨p.name,p.roles,(a8,c8),P1,(va1,vc1)⟩,rfl,⟨hRr,hRp,hPA1⟩,by unfold SProto.bare;simp only [hQe]⟩
theorem vh {H:Hp}(l:SLocal)(hP:LocalOk H l)(h40:l.turns.length≤40)(h6:∀x∈l.turns,x.arms.length≤6):
  Fn Tryz.prog 56 [.agg l.cells.toArray] H (fun v H1=>∃l2:SLocal,v= .agg l2.cells.toArray∧LocalOk H1 l2∧l2.bare=l.bare):=by
 refine Fn.enter Tryz.func56 Tryz.ntmps56 rfl rfl (fun w0=>?_)
 refine zm2 ?_
 refine TL.box rfl rfl (fun b1=>?_)
 refine TL.alloc rfl (fun b2=>?_)
 refine TL.nil (ai (kg ?_))
 refine aK (V:=fun(ix:Int×List STurn) v1 ob1 H1=>[(3,v1),(4,.int .i64 ix.1)]) (K:=[(1,_),(2,_)]) (L:=fun(ix:Int×List STurn) v1 ob1 H1=>St [] w0 H H1 ((b2,[gs [],.slice none 0 0])::(b1,l.cells)::ob1)) (I:=fun(ix:Int×List STurn) v1 ob1 H1=>(0≤ix.1∧ix.1≤l.turns.length)∧H.le H1∧OwnSl 3 STurn.cells v1 ix.2 ob1∧ix.2.length=ix.1∧TuAll H1 ix.2∧ix.2.map SArms.bare=(l.turns.take ix.1.toNat).map SArms.bare) (μ:=fun(ix:Int×List STurn)=>(l.turns.length - ix.1).toNat) ((0:Int),[]) (.slice none 0 0) [] H ky ⟨o2q,Hp.le.refl _,OwnSl.nil,rfl,(fun _ h=>by cases h),rfl⟩ (fun w hw=>hw) (fun ix v1 ob1 H1 hI=>?_)
 obtain⟨⟨k01,k11⟩,hle1,hO1,hPl1,hPA1,hPm1⟩:=hI
 obtain⟨k1,P1⟩:=ix
 dsimp only at *
 obtain⟨va1,vc1,rfl⟩:=hO1.form
 replace hP:=hP.le hle1
 refine kU ?_;refine TL.run (ah rfl rfl hP.t) rfl (zm1 ?_)
 refine af rfl ?_ ?_<;>intro c10
 ·
  obtain⟨y,hk1⟩:=aj (l:=l.turns) k01 c10
  have hyO:=hP.ts y (List.mem_of_getElem? hk1)
  have hyz:=h6 y (List.mem_of_getElem? hk1)
  refine wE ?_;refine TL.run (ae rfl hP.t rfl om om) rfl (TL.run (aY hP.t hk1 rfl rfl) rfl (TL.alloc rfl (fun b5=>?_)))
  refine nt ?_
  refine TL.append (enc:=SArm.cells) rfl rfl rfl (OwnSl.nil (enc:=SArm.cells)) (Src.sl hyO.a) (by simp;omega) rfl (.new _ rfl) rfl (fun a20 c20 ob20 hO20=>?_)
  refine pS ?_;refine TC.region (TL.pubO hO20 (.s3 (.past _ .all)) sq (fun HPob20 lePob20 hR20=>?_))
  replace hle1:=hle1.trans lePob20
  replace hPA1:=hPA1.le lePob20
  replace hyO:=hyO.le lePob20
  refine aS (L':=(b5,_)::((b2,_)::((b1,_)::(ob1)))) (dV [(b5,_),(b2,_),(b1,_)] (A:=ob1)) ?_
  replace hR20:=hR20.cast (List.nil_append _)
  refine zm0 ?_;refine gL ?_
  refine aA rfl rfl rfl rfl (fun b24=>?_)
  refine TL.append (enc:=STurn.cells) rfl rfl rfl hO1 (Src.own [⟨y.kind,y.peer,y.arms,(a20,c20)⟩] (.here _) rfl rfl) (by simp;omega) rfl (.s3 (.skip _ .all)) rfl (fun a25 c25 ob25 hO25=>?_)
  refine iW ?_
  exact ay (i:=(k1,P1)) (k1+1,P1++[⟨y.kind,y.peer,y.arms,(a20,c20)⟩]) _ ob25 HPob20 ⟨o2q,hle1,hO25,by simp only [List.length_append,List.length_cons,List.length_nil];omega,dG hPA1 ⟨hR20,hyO.z⟩,eP k01 hk1 hPm1 rfl⟩ ky (fun w hw=>hw.drop.drop) om
 refine oK ?_
 have hQe:=hPm1
 rw [aX c10 k01] at hQe
 refine TL.pubO hO1 (.skip _ (.skip _ .all)) sq (fun HPob1 lePob1 hRp=>?_)
 replace hPA1:=hPA1.le lePob1
 refine aS (L':=(b2,_)::(b1,_)::[]) (List.Perm.refl _) (zm0 ?_);refine qY ?_;refine ng ?_;refine iV ?_
 exact aR (.inr rfl) (ad rfl (RVal.cellA rfl (.here _) rfl)) ⟨⟨l.name,P1,(va1,vc1)⟩,rfl,⟨hRp,hPA1⟩,by unfold SLocal.bare;simp only [hQe]⟩
end Go.Sx
