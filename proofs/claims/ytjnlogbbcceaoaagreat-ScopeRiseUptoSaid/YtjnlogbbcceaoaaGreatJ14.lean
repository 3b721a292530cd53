import Derived.Test.YtjnlogbbcceaoaaGreatJ13
set_option linter.all false
set_option maxRecDepth 100000
set_option maxHeartbeats 32000000
namespace Go.Sx
open Go Go.Proofs
theorem yg {H:Hp}{bd:Nat}{dl:Value}{at_:Int}(hd:DiceOk H dl at_){tv:Value}{types:List Str}(hty:RdSl H 1 Str.cells tv types)(htn:∀s∈types,TyNm s)(htl:types.length≤100)(name:Str):
  DFn Tryz.prog bd dl at_ 168 [gs name,.int .i64 2,tv] H (fun v H1 ob=>ob=[]∧(H.le H1∧∃p:SProto,v= .agg p.cells.toArray∧ProtoOk H1 p∧p.name=name∧p.roles=rolesL.take 2)):=by
 have hrl:(rolesL.take (2:Int).toNat).length=2:=rfl
 refine FnX.enter Tryz.func168 Tryz.ntmps168 rfl rfl (fun w0=>?_)
 refine zm2 ?_
 refine TL.alloc rfl (fun b8=>?_)
 refine gE ?_
 refine TL.call (ab rfl rfl rfl rfl) (ia) rfl (fun v19 H19 hle19 hp19=>?_)
 replace hd:=hd.le hle19
 replace hty:=hty.le hle19
 have hro19:=hp19
 obtain⟨ra19,rc19,rfl⟩:=hro19.len
 have hcp:5≤rc19:=hro19.room _ _ _ rfl
 have hsl:=hro19.sliced (i:=0) (j:=(2:Int).toNat) omq dq
 have hle0:=hle19
 refine zm0 ?_;refine wz ?_
 refine TL.append (enc:=Str.cells) rfl rfl rfl (OwnSl.nil (enc:=Str.cells)) (Src.sl hsl) (by simp only [List.length_drop,List.length_nil];omega) rfl (.new _ rfl) rfl (fun a22 c22 ob22 hO22=>?_)
 refine dt ?_
 refine TL.alloc rfl (fun b9=>?_)
 refine ww ?_
 refine dV (X:=[(b9,_),(b8,_),(bd,_)]) hO22 rfl (by simp [keys]) (fun HR leR hR=>?_)
 replace hd:=hd.le leR
 replace hty:=hty.le leR
 replace hle0:=hle0.trans leR
 have hrs0:RdSl HR 1 Str.cells (.slice a22 (rolesL.take (2:Int).toNat).length c22) (rolesL.take (2:Int).toNat):=hR
 have hty1:=hty
 have hleR:=hle0
 refine ag (rZ (V:=fun(q:Q4)=>[(10,gs q.a),(11,gs q.b)]) (K:=[(0,_),(2,_),(3,_),(8,_),(9,_)]) ky (L:=fun(q:Q4)=>St (keys [(bd,[dl,.int .i64 at_])]) w0 H q.h [(b9,[gs name,.slice a22 (rolesL.take (2:Int).toNat).length c22,.slice none 0 0]),(b8,[gs [],.slice none 0 0,.slice none 0 0]),(bd,[dl,.int .i64 q.at_])]) (I:=fun(q:Q4)=>DiceOk q.h dl q.at_∧HR.le q.h) ?_ ?_)
 · exact CJ
 intro q hI
 obtain⟨hI1,hI2⟩:=hI
 have hty:=hty1.le hI2
 have hrs:=hrs0.le hI2
 have hle:=hleR.trans hI2
 refine d5 ?_
 refine aA (X:=[(b9,_),(b8,_)]) (bd:=bd) rfl (ab rfl rfl rfl rfl) (bn 2 omq hI1) rfl (fun v36 H36 at36 hle36 hd36 hp36=>?_)
 obtain⟨eH36,r36,rfl,hr36⟩:=hp36
 replace eH36:=eH36.symm;subst eH36
 have hra36:=hr36.1
 have hrb36:=hr36.2.1 omq
 refine ly ?_;refine d5 ?_
 refine aA (X:=[(b9,_),(b8,_)]) (bd:=bd) rfl (ab rfl rfl rfl rfl) (gi hd36) rfl (fun v39 H39 at39 hle39 hd39 hp39=>?_)
 obtain⟨eH39,k39,rfl,hk39⟩:=hp39
 replace eH39:=eH39.symm;subst eH39
 refine TL.alloc rfl (fun b13=>?_)
 refine qb ?_;refine Da ?_;refine vT ?_;refine th ?_;refine th ?_;refine zm7 ?_;refine Ae ?_;refine dQ ?_;refine wu ?_
 refine aC rfl rfl rfl rfl (fun b55=>?_)
 refine dQ ?_
 refine aC rfl rfl rfl rfl (fun b57=>?_)
 refine ao rfl (TL.append (enc:=SPoint.cells) rfl rfl rfl (OwnSl.nil (enc:=SPoint.cells)) (Src.own [⟨_,_,[⟨[],0,[],0⟩,⟨[],0,[],0⟩],(some ⟨b55,0,none⟩,2)⟩] (.here _) rfl rfl) sq rfl (.new _ rfl) rfl (fun a58 c58 ob58 hO58=>?_))
 refine aq (S0 (S0 (S1 (S1 (S1 (S1 SN)))))) (Hp.le.refl _) (f9 ?_);refine md ?_;refine jS ?_;refine jT ?_;refine TC.rounds 1 (zT ?_);refine eM rfl (gC ?_);refine kS ?_
 refine af rfl ?_ ?_<;>intro c93
 ·
  refine eY ?_;refine zm367 ?_;refine jQ ?_;refine jQ ?_;refine zm7 ?_;refine aw (gu rfl rfl omq omq) rfl (lZ ?_);refine tf ?_;refine jQ ?_;refine lZ ?_;refine tf ?_;refine zm7 ?_
  refine ao rfl (aA (X:=[(b57,_),(b55,_),(b13,_),(b9,_),(b8,_)]) (bd:=bd) rfl (ab rfl rfl rfl rfl) (gi hd39) rfl (fun v107 H107 at107 hle107 hd107 hp107=>?_))
  obtain⟨eH107,k107,rfl,hk107⟩:=hp107
  replace eH107:=eH107.symm;subst eH107
  refine aq (S1 (S1 (S1 (S1 (S1 SN))))) (Hp.le.refl _) (dQ ?_)
  refine aC rfl rfl rfl rfl (fun b109=>?_)
  refine dQ ?_
  refine aC rfl rfl rfl rfl (fun b111=>?_)
  refine ao rfl (TL.append (enc:=SPoint.cells) rfl rfl rfl hO58 (Src.own [⟨_,_,[⟨[],0,[],0⟩],(some ⟨b109,0,none⟩,1)⟩] (.here _) rfl rfl) sq rfl (.s7 (.skip _ .all)) rfl (fun a112 c112 ob112 hO112=>?_))
  refine aq (S0 (S0 (S1 (S1 (S1 (S1 (S1 SN))))))) (Hp.le.refl _) (f9 ?_);refine wt ?_;refine jS ?_;refine gp ?_;refine qa ?_;refine TL.run (bC rfl rfl hO112) rfl (uO ?_);refine qa ?_
  refine TL.run (bN rfl rfl hO112 sq sq) rfl (zm5 ?_)
  refine TL.run (PR.to (ef rfl hO112 (.s7 (.skip _ .all)) rfl rfl) (rfl:_=Value.slice (some ⟨b55,0,none⟩) 2 2)) rfl (te ?_);refine md ?_
  refine sZ ?_;refine TC.rounds 1 (zT ?_);refine eM rfl (qg ?_);refine qa ?_;refine dt ?_
  refine aB rfl rfl rfl rfl (fun b170=>?_)
  refine TL.append (enc:=SPoint.cells) rfl rfl rfl hO112 (Src.own [fL] (.here _) rfl rfl) sq rfl (.s8 (.skip _ .all)) rfl (fun a171 c171 ob171 hO171=>?_)
  refine zm5 ?_;refine aX rfl rfl rfl (.h6) rfl rfl (gD ?_)
  refine TL.run (a7 rfl (.h6) rfl) rfl (cH rfl rfl rfl rfl rfl (.h7) rfl rfl (TL.nil (ag ?_)))
  refine TC.ret (ws ?_)
  refine cD (by simp [keys]) (fun H_b55 le_b55 rd_b55=>?_)
  replace hrs:=hrs.le le_b55
  replace hle:=hle.trans le_b55
  replace hd107:=hd107.le le_b55
  obtain⟨l_b55,n_b55,hA_b55,z_b55⟩:=kF rd_b55 (by first | simp | (have:=hc82.len htn;omega)) (by first | simp | (have:=hc82.len htn;omega))
  refine or ?_
  refine cD (by simp [keys]) (fun H_b109 le_b109 rd_b109=>?_)
  replace hrs:=hrs.le le_b109
  replace hle:=hle.trans le_b109
  replace hd107:=hd107.le le_b109
  replace hA_b55:=hA_b55.le le_b109
  obtain⟨l_b109,n_b109,hA_b109,z_b109⟩:=eb rd_b109 (by first | simp | (have:=hc82.len htn;omega))
  refine dV (X:=[(b170,_),(b111,_),(b57,_),(b13,_),(b9,_),(b8,_),(bd,_)]) hO171 rfl (by simp [keys]) (fun H2 hle2 hP=>?_)
  replace hrs:=hrs.le hle2
  replace hle:=hle.trans hle2
  replace hd107:=hd107.le hle2
  replace hA_b55:=hA_b55.le hle2
  replace hA_b109:=hA_b109.le hle2
  have hP2:=hP.recell (l':=[⟨[97],[98],l_b55,(some ⟨b55,0,none⟩,2)⟩,⟨[98],[97],l_b109,(some ⟨b109,0,none⟩,1)⟩,fL]) (by simp only [List.nil_append,List.cons_append,List.map_cons,List.map_nil,SPoint.cells,n_b55,n_b109];rfl)
  have hPK:∀x∈([⟨[97],[98],l_b55,(some ⟨b55,0,none⟩,2)⟩,⟨[98],[97],l_b109,(some ⟨b109,0,none⟩,1)⟩,fL]:List SPoint),PointOk H2 x:=by
   intro x hx;simp only [List.mem_cons,List.not_mem_nil,or_false] at hx
   rcases hx with rfl | rfl | rfl
   · exact⟨by show RdSl H2 4 SArm.cells (.slice (some ⟨b55,0,none⟩) l_b55.length _) l_b55;rw [n_b55];exact hA_b55,z_b55⟩
   · exact⟨by show RdSl H2 4 SArm.cells (.slice (some ⟨b109,0,none⟩) l_b109.length _) l_b109;rw [n_b109];exact hA_b109,z_b109⟩
   · exact jB
  exact aU (.inr rfl) (ad rfl (RVal.cellA rfl (.h5) rfl)) (fun w hw=>hw.drop.drop.drop.drop.drop.drop) ⟨_,[],rfl,hd107,rfl,hle,⟨name,(rolesL.take (2:Int).toNat),(a22,c22),[⟨[97],[98],l_b55,(some ⟨b55,0,none⟩,2)⟩,⟨[98],[97],l_b109,(some ⟨b109,0,none⟩,1)⟩,fL],(a171,c171)⟩,rfl,⟨hrs,hP2,hPK⟩,rfl,rfl⟩
 refine gp ?_;refine lh ?_;refine TL.run (bC rfl rfl hO58) rfl (TL.run (gu rfl rfl sq sq) rfl (zm1 ?_));refine TC.region (zm5 ?_);refine lh ?_;refine zm0 ?_
 refine TL.run (bN rfl rfl hO58 sq sq) rfl (zm5 ?_);refine zm346 ?_;refine zS ?_;refine m6 ?_;refine wR ?_;refine lh ?_;refine TL.run (bC rfl rfl hO58) rfl (uO ?_);refine lh ?_
 refine TL.run (bN rfl rfl hO58 sq sq) rfl (zm5 ?_);refine zm346 ?_;refine te ?_;refine m6 ?_;refine sZ ?_;refine TC.rounds 1 (zT ?_);refine eM rfl (qg ?_);refine lh ?_
 refine dt ?_
 refine aB rfl rfl rfl rfl (fun b170=>?_)
 refine TL.append (enc:=SPoint.cells) rfl rfl rfl hO58 (Src.own [fL] (.here _) rfl rfl) sq rfl (.s6 (.skip _ .all)) rfl (fun a171 c171 ob171 hO171=>?_)
 refine zm5 ?_;refine aX rfl rfl rfl (.h4) rfl rfl (gD ?_);refine TL.run (a7 rfl (.h4) rfl) rfl (ma ?_)
 refine or ?_
 refine cD (by simp [keys]) (fun H_b55 le_b55 rd_b55=>?_)
 replace hrs:=hrs.le le_b55
 replace hle:=hle.trans le_b55
 replace hd39:=hd39.le le_b55
 obtain⟨l_b55,n_b55,hA_b55,z_b55⟩:=kF rd_b55 (by first | simp | (have:=hc82.len htn;omega)) (by first | simp | (have:=hc82.len htn;omega))
 refine dV (X:=[(b170,_),(b57,_),(b13,_),(b9,_),(b8,_),(bd,_)]) hO171 rfl (by simp [keys]) (fun H2 hle2 hP=>?_)
 replace hrs:=hrs.le hle2
 replace hle:=hle.trans hle2
 replace hd39:=hd39.le hle2
 replace hA_b55:=hA_b55.le hle2
 have hP2:=hP.recell (l':=[⟨[97],[98],l_b55,(some ⟨b55,0,none⟩,2)⟩,fL]) (by simp only [List.nil_append,List.cons_append,List.map_cons,List.map_nil,SPoint.cells,n_b55];rfl)
 have hPK:∀x∈([⟨[97],[98],l_b55,(some ⟨b55,0,none⟩,2)⟩,fL]:List SPoint),PointOk H2 x:=by
  intro x hx;simp only [List.mem_cons,List.not_mem_nil,or_false] at hx
  rcases hx with rfl | rfl
  · exact⟨by show RdSl H2 4 SArm.cells (.slice (some ⟨b55,0,none⟩) l_b55.length _) l_b55;rw [n_b55];exact hA_b55,z_b55⟩
  · exact jB
 exact aU (.inr rfl) (ad rfl (RVal.cellA rfl (.h4) rfl)) (fun w hw=>hw.drop.drop.drop.drop.drop) ⟨_,[],rfl,hd39,rfl,hle,⟨name,(rolesL.take (2:Int).toNat),(a22,c22),[⟨[97],[98],l_b55,(some ⟨b55,0,none⟩,2)⟩,fL],(a171,c171)⟩,rfl,⟨hrs,hP2,hPK⟩,rfl,rfl⟩
theorem yf {H:Hp}{bd:Nat}{dl:Value}{at_:Int}(hd:DiceOk H dl at_){tv:Value}{types:List Str}(hty:RdSl H 1 Str.cells tv types)(htn:∀s∈types,TyNm s)(htl:types.length≤100)(name:Str):
  DFn Tryz.prog bd dl at_ 168 [gs name,.int .i64 3,tv] H (fun v H1 ob=>ob=[]∧(H.le H1∧∃p:SProto,v= .agg p.cells.toArray∧ProtoOk H1 p∧p.name=name∧p.roles=rolesL.take 3)):=by
 have hrl:(rolesL.take (3:Int).toNat).length=3:=rfl
 refine FnX.enter Tryz.func168 Tryz.ntmps168 rfl rfl (fun w0=>?_)
 refine zm2 ?_
 refine TL.alloc rfl (fun b8=>?_)
 refine gE ?_
 refine TL.call (ab rfl rfl rfl rfl) (ia) rfl (fun v19 H19 hle19 hp19=>?_)
 replace hd:=hd.le hle19
 replace hty:=hty.le hle19
 have hro19:=hp19
 obtain⟨ra19,rc19,rfl⟩:=hro19.len
 have hcp:5≤rc19:=hro19.room _ _ _ rfl
 have hsl:=hro19.sliced (i:=0) (j:=(3:Int).toNat) omq dq
 have hle0:=hle19
 refine zm0 ?_;refine wz ?_
 refine TL.append (enc:=Str.cells) rfl rfl rfl (OwnSl.nil (enc:=Str.cells)) (Src.sl hsl) (by simp only [List.length_drop,List.length_nil];omega) rfl (.new _ rfl) rfl (fun a22 c22 ob22 hO22=>?_)
 refine dt ?_
 refine TL.alloc rfl (fun b9=>?_)
 refine ww ?_
 refine dV (X:=[(b9,_),(b8,_),(bd,_)]) hO22 rfl (by simp [keys]) (fun HR leR hR=>?_)
 replace hd:=hd.le leR
 replace hty:=hty.le leR
 replace hle0:=hle0.trans leR
 have hrs0:RdSl HR 1 Str.cells (.slice a22 (rolesL.take (3:Int).toNat).length c22) (rolesL.take (3:Int).toNat):=hR
 have hty1:=hty
 have hleR:=hle0
 refine ag (rZ (V:=fun(q:Q4)=>[(10,gs q.a),(11,gs q.b)]) (K:=[(0,_),(2,_),(3,_),(8,_),(9,_)]) ky (L:=fun(q:Q4)=>St (keys [(bd,[dl,.int .i64 at_])]) w0 H q.h [(b9,[gs name,.slice a22 (rolesL.take (3:Int).toNat).length c22,.slice none 0 0]),(b8,[gs [],.slice none 0 0,.slice none 0 0]),(bd,[dl,.int .i64 q.at_])]) (I:=fun(q:Q4)=>DiceOk q.h dl q.at_∧HR.le q.h) ?_ ?_)
 · exact CJ
 intro q hI
 obtain⟨hI1,hI2⟩:=hI
 have hty:=hty1.le hI2
 have hrs:=hrs0.le hI2
 have hle:=hleR.trans hI2
 refine d5 ?_
 refine aA (X:=[(b9,_),(b8,_)]) (bd:=bd) rfl (ab rfl rfl rfl rfl) (bn 2 omq hI1) rfl (fun v36 H36 at36 hle36 hd36 hp36=>?_)
 obtain⟨eH36,r36,rfl,hr36⟩:=hp36
 replace eH36:=eH36.symm;subst eH36
 have hra36:=hr36.1
 have hrb36:=hr36.2.1 omq
 refine ly ?_;refine d5 ?_
 refine aA (X:=[(b9,_),(b8,_)]) (bd:=bd) rfl (ab rfl rfl rfl rfl) (gi hd36) rfl (fun v39 H39 at39 hle39 hd39 hp39=>?_)
 obtain⟨eH39,k39,rfl,hk39⟩:=hp39
 replace eH39:=eH39.symm;subst eH39
 refine TL.alloc rfl (fun b13=>?_)
 refine qb ?_;refine Da ?_;refine vT ?_;refine th ?_;refine th ?_;refine zm7 ?_;refine Ae ?_;refine dQ ?_;refine wu ?_
 refine aC rfl rfl rfl rfl (fun b55=>?_)
 refine dQ ?_
 refine aC rfl rfl rfl rfl (fun b57=>?_)
 refine ao rfl (TL.append (enc:=SPoint.cells) rfl rfl rfl (OwnSl.nil (enc:=SPoint.cells)) (Src.own [⟨_,_,[⟨[],0,[],0⟩,⟨[],0,[],0⟩],(some ⟨b55,0,none⟩,2)⟩] (.here _) rfl rfl) sq rfl (.new _ rfl) rfl (fun a58 c58 ob58 hO58=>?_))
 refine aq (S0 (S0 (S1 (S1 (S1 (S1 SN)))))) (Hp.le.refl _) (f9 ?_);refine md ?_;refine jS ?_;refine jT ?_;refine TC.rounds 2 (sY ?_);refine zm347 ?_;refine jQ ?_;refine jQ ?_;refine l7 ?_
 refine tf ?_;refine jQ ?_;refine l6 ?_;refine tf ?_;refine ou ?_;refine jQ ?_
 refine aw (bC rfl rfl hO58) rfl (aw (fk rfl rfl sq sq) rfl (ao rfl (aA (X:=[(b57,_),(b55,_),(b13,_),(b9,_),(b8,_)]) (bd:=bd) rfl (ab rfl rfl rfl rfl) (fz hd39 hty htn htl) rfl (fun v82_0 H82_0 at82_0 hle82_0 hd82_0 hp82_0=>?_))))
 obtain⟨eH82_0,k82_0,nm82_0,rfl,hc82_0⟩:=hp82_0
 replace eH82_0:=eH82_0.symm;subst eH82_0
 refine aq (S1 (S1 (S1 (S1 (S1 SN))))) (Hp.le.refl _) (dQ ?_)
 refine aC rfl rfl rfl rfl (fun b88=>?_)
 refine dQ ?_
 refine aC rfl rfl rfl rfl (fun b90=>?_)
 refine ao rfl (TL.append (enc:=SPoint.cells) rfl rfl rfl hO58 (Src.own [⟨_,_,[⟨[],0,[],0⟩],(some ⟨b88,0,none⟩,1)⟩] (.here _) rfl rfl) sq rfl (.s7 (.skip _ .all)) rfl (fun a91_0 c91_0 ob91_0 hO91_0=>?_))
 refine aq (S0 (S0 (S1 (S1 (S1 (S1 (S1 SN))))))) (Hp.le.refl _) (f9 ?_);refine wt ?_;refine sX ?_;refine gC ?_;refine kS ?_
 refine af rfl ?_ ?_<;>intro c93
 ·
  refine eY ?_;refine zm368 ?_;refine sW ?_;refine sW ?_;refine zm7 ?_;refine aw (gu rfl rfl omq omq) rfl (lZ ?_);refine Ad ?_;refine sW ?_;refine lZ ?_;refine Ad ?_
  refine zm7 ?_;refine ao rfl (aA (X:=[(b90,_),(b88,_),(b57,_),(b55,_),(b13,_),(b9,_),(b8,_)]) (bd:=bd) rfl (ab rfl rfl rfl rfl) (gi hd82_0) rfl (fun v107 H107 at107 hle107 hd107 hp107=>?_))
  obtain⟨eH107,k107,rfl,hk107⟩:=hp107
  replace eH107:=eH107.symm;subst eH107
  refine aq (S1 (S1 (S1 (S1 (S1 (S1 (S1 SN))))))) (Hp.le.refl _) (dQ ?_)
  refine aC rfl rfl rfl rfl (fun b109=>?_)
  refine dQ ?_
  refine aC rfl rfl rfl rfl (fun b111=>?_)
  refine ao rfl (TL.append (enc:=SPoint.cells) rfl rfl rfl hO91_0 (Src.own [⟨_,_,[⟨[],0,[],0⟩],(some ⟨b109,0,none⟩,1)⟩] (.here _) rfl rfl) sq rfl (.s9 (.skip _ .all)) rfl (fun a112 c112 ob112 hO112=>?_))
  refine aq (S0 (S0 (S1 (S1 (S1 (S1 (S1 (S1 (S1 SN))))))))) (Hp.le.refl _) (f9 ?_);refine Ac ?_;refine jS ?_;refine gp ?_;refine p9 ?_;refine TL.run (bC rfl rfl hO112) rfl (uO ?_);refine p9 ?_
  refine TL.run (bN rfl rfl hO112 sq sq) rfl (zm5 ?_)
  refine TL.run (PR.to (ef rfl hO112 (.s9 (.skip _ .all)) rfl rfl) (rfl:_=Value.slice (some ⟨b55,0,none⟩) 2 2)) rfl (te ?_)
  refine wt ?_;refine sZ ?_;refine TC.rounds 2 (sY ?_);refine zm348 ?_;refine sV ?_;refine sV ?_;refine l7 ?_;refine Ab ?_;refine sV ?_;refine l6 ?_;refine Ab ?_;refine o8 ?_
  refine CZ ?_;refine aw (bC rfl rfl hO112) rfl (sU ?_)
  refine aC rfl rfl rfl rfl (fun b162=>?_)
  refine dQ ?_
  refine aC rfl rfl rfl rfl (fun b164=>?_)
  refine ao rfl (TL.append (enc:=SPoint.cells) rfl rfl rfl hO112 (Src.own [⟨_,_,[⟨[],0,[],0⟩],(some ⟨b162,0,none⟩,1)⟩] (.here _) rfl rfl) sq rfl (.s11 (.skip _ .all)) rfl (fun a165_0 c165_0 ob165_0 hO165_0=>?_))
  refine aq (S0 (S0 (S1 (S1 (S1 (S1 (S1 (S1 (S1 (S1 (S1 (S1 SN)))))))))))) (Hp.le.refl _) (f9 ?_);refine C9 ?_;refine sX ?_;refine qg ?_;refine C8 ?_;refine dt ?_
  refine aB rfl rfl rfl rfl (fun b170=>?_)
  refine TL.append (enc:=SPoint.cells) rfl rfl rfl hO165_0 (Src.own [fL] (.here _) rfl rfl) sq rfl (.s12 (.skip _ .all)) rfl (fun a171 c171 ob171 hO171=>?_)
  refine zm5 ?_;refine aX rfl rfl rfl (.h10) rfl rfl (gD ?_)
  refine TL.run (a7 rfl (.h10) rfl) rfl (cH rfl rfl rfl rfl rfl (.h11) rfl rfl (TL.nil (ag ?_)))
  refine TC.ret (C7 ?_)
  refine cD (by simp [keys]) (fun H_b55 le_b55 rd_b55=>?_)
  replace hrs:=hrs.le le_b55
  replace hle:=hle.trans le_b55
  replace hd107:=hd107.le le_b55
  obtain⟨l_b55,n_b55,hA_b55,z_b55⟩:=kF rd_b55 (by first | simp | (have:=hc82.len htn;omega)) (by first | simp | (have:=hc82.len htn;omega))
  refine Aa ?_
  refine cD (by simp [keys]) (fun H_b88 le_b88 rd_b88=>?_)
  replace hrs:=hrs.le le_b88
  replace hle:=hle.trans le_b88
  replace hd107:=hd107.le le_b88
  replace hA_b55:=hA_b55.le le_b88
  obtain⟨l_b88,n_b88,hA_b88,z_b88⟩:=eb rd_b88 (by first | simp | (have:=hc82_0.len htn;omega))
  refine ws ?_
  refine cD (by simp [keys]) (fun H_b109 le_b109 rd_b109=>?_)
  replace hrs:=hrs.le le_b109
  replace hle:=hle.trans le_b109
  replace hd107:=hd107.le le_b109
  replace hA_b55:=hA_b55.le le_b109
  replace hA_b88:=hA_b88.le le_b109
  obtain⟨l_b109,n_b109,hA_b109,z_b109⟩:=eb rd_b109 (by first | simp | (have:=hc82.len htn;omega))
  refine or ?_
  refine cD (by simp [keys]) (fun H_b162 le_b162 rd_b162=>?_)
  replace hrs:=hrs.le le_b162
  replace hle:=hle.trans le_b162
  replace hd107:=hd107.le le_b162
  replace hA_b55:=hA_b55.le le_b162
  replace hA_b88:=hA_b88.le le_b162
  replace hA_b109:=hA_b109.le le_b162
  obtain⟨l_b162,n_b162,hA_b162,z_b162⟩:=eb rd_b162 (by first | simp | (have:=hc82_0.len htn;omega))
  refine dV (X:=[(b170,_),(b164,_),(b111,_),(b90,_),(b57,_),(b13,_),(b9,_),(b8,_),(bd,_)]) hO171 rfl (by simp [keys]) (fun H2 hle2 hP=>?_)
  replace hrs:=hrs.le hle2
  replace hle:=hle.trans hle2
  replace hd107:=hd107.le hle2
  replace hA_b55:=hA_b55.le hle2
  replace hA_b88:=hA_b88.le hle2
  replace hA_b109:=hA_b109.le hle2
  replace hA_b162:=hA_b162.le hle2
  have hP2:=hP.recell (l':=[⟨[97],[98],l_b55,(some ⟨b55,0,none⟩,2)⟩,⟨[98],[99],l_b88,(some ⟨b88,0,none⟩,1)⟩,⟨[99],[97],l_b109,(some ⟨b109,0,none⟩,1)⟩,⟨[98],[99],l_b162,(some ⟨b162,0,none⟩,1)⟩,fL]) (by simp only [List.nil_append,List.cons_append,List.map_cons,List.map_nil,SPoint.cells,n_b55,n_b88,n_b109,n_b162];rfl)
  have hPK:∀x∈([⟨[97],[98],l_b55,(some ⟨b55,0,none⟩,2)⟩,⟨[98],[99],l_b88,(some ⟨b88,0,none⟩,1)⟩,⟨[99],[97],l_b109,(some ⟨b109,0,none⟩,1)⟩,⟨[98],[99],l_b162,(some ⟨b162,0,none⟩,1)⟩,fL]:List SPoint),PointOk H2 x:=by
   intro x hx;simp only [List.mem_cons,List.not_mem_nil,or_false] at hx
   rcases hx with rfl | rfl | rfl | rfl | rfl
   · exact⟨by show RdSl H2 4 SArm.cells (.slice (some ⟨b55,0,none⟩) l_b55.length _) l_b55;rw [n_b55];exact hA_b55,z_b55⟩
   · exact⟨by show RdSl H2 4 SArm.cells (.slice (some ⟨b88,0,none⟩) l_b88.length _) l_b88;rw [n_b88];exact hA_b88,z_b88⟩
   · exact⟨by show RdSl H2 4 SArm.cells (.slice (some ⟨b109,0,none⟩) l_b109.length _) l_b109;rw [n_b109];exact hA_b109,z_b109⟩
   · exact⟨by show RdSl H2 4 SArm.cells (.slice (some ⟨b162,0,none⟩) l_b162.length _) l_b162;rw [n_b162];exact hA_b162,z_b162⟩
   · exact jB
  exact aU (.inr rfl) (ad rfl (RVal.cellA rfl (.h7) rfl)) (fun w hw=>hw.drop.drop.drop.drop.drop.drop.drop.drop) ⟨_,[],rfl,hd107,rfl,hle,⟨name,(rolesL.take (3:Int).toNat),(a22,c22),[⟨[97],[98],l_b55,(some ⟨b55,0,none⟩,2)⟩,⟨[98],[99],l_b88,(some ⟨b88,0,none⟩,1)⟩,⟨[99],[97],l_b109,(some ⟨b109,0,none⟩,1)⟩,⟨[98],[99],l_b162,(some ⟨b162,0,none⟩,1)⟩,fL],(a171,c171)⟩,rfl,⟨hrs,hP2,hPK⟩,rfl,rfl⟩
 refine gp ?_;refine qa ?_;refine TL.run (bC rfl rfl hO91_0) rfl (TL.run (gu rfl rfl sq sq) rfl (zm1 ?_));refine TC.region (zm5 ?_);refine qa ?_;refine zm0 ?_
 refine TL.run (bN rfl rfl hO91_0 sq sq) rfl (zm5 ?_)
 refine TL.run (PR.to (ef rfl hO91_0 (.s7 (.skip _ .all)) rfl rfl) (rfl:_=Value.slice (some ⟨b88,0,none⟩) 1 1)) rfl (zS ?_);refine m6 ?_
 refine wR ?_;refine qa ?_;refine TL.run (bC rfl rfl hO91_0) rfl (uO ?_);refine qa ?_;refine TL.run (bN rfl rfl hO91_0 sq sq) rfl (zm5 ?_)
 refine TL.run (PR.to (ef rfl hO91_0 (.s7 (.skip _ .all)) rfl rfl) (rfl:_=Value.slice (some ⟨b55,0,none⟩) 2 2)) rfl (te ?_);refine md ?_
 refine sZ ?_;refine TC.rounds 2 (sY ?_);refine zm369 ?_;refine zm4 ?_;refine z8 ?_;refine zm4 ?_;refine z8 ?_;refine l7 ?_
 refine aJ (S1 (S1 (S1 (S1 (S1 (S1 (S1 (S1 SN)))))))) (Hp.le.refl _) (fun _ _=>aN hrs rfl rfl rfl) rfl (zm4 ?_);refine z8 ?_;refine l6 ?_
 refine aJ (S1 (S1 (S1 (S1 (S1 (S1 (S1 (S1 SN)))))))) (Hp.le.refl _) (fun _ _=>aN hrs rfl rfl rfl) rfl (o8 ?_);refine z8 ?_;refine aw (bC rfl rfl hO91_0) rfl (sU ?_)
 refine aC rfl rfl rfl rfl (fun b162=>?_)
 refine dQ ?_
 refine aC rfl rfl rfl rfl (fun b164=>?_)
 refine ao rfl (TL.append (enc:=SPoint.cells) rfl rfl rfl hO91_0 (Src.own [⟨_,_,[⟨[],0,[],0⟩],(some ⟨b162,0,none⟩,1)⟩] (.here _) rfl rfl) sq rfl (.s9 (.skip _ .all)) rfl (fun a165_0 c165_0 ob165_0 hO165_0=>?_))
 refine aq (S0 (S0 (S1 (S1 (S1 (S1 (S1 (S1 (S1 (S1 SN)))))))))) (Hp.le.refl _) (f9 ?_);refine Ac ?_;refine sX ?_;refine qg ?_;refine p9 ?_;refine dt ?_
 refine aB rfl rfl rfl rfl (fun b170=>?_)
 refine TL.append (enc:=SPoint.cells) rfl rfl rfl hO165_0 (Src.own [fL] (.here _) rfl rfl) sq rfl (.s10 (.skip _ .all)) rfl (fun a171 c171 ob171 hO171=>?_)
 refine zm5 ?_;refine aX rfl rfl rfl (.h8) rfl rfl (gD ?_)
 refine TL.run (a7 rfl (.h8) rfl) rfl (cH rfl rfl rfl rfl rfl (.h9) rfl rfl (TL.nil (ag ?_)))
 refine TC.ret (Aa ?_)
 refine cD (by simp [keys]) (fun H_b55 le_b55 rd_b55=>?_)
 replace hrs:=hrs.le le_b55
 replace hle:=hle.trans le_b55
 replace hd82_0:=hd82_0.le le_b55
 obtain⟨l_b55,n_b55,hA_b55,z_b55⟩:=kF rd_b55 (by first | simp | (have:=hc82.len htn;omega)) (by first | simp | (have:=hc82.len htn;omega))
 refine ws ?_
 refine cD (by simp [keys]) (fun H_b88 le_b88 rd_b88=>?_)
 replace hrs:=hrs.le le_b88
 replace hle:=hle.trans le_b88
 replace hd82_0:=hd82_0.le le_b88
 replace hA_b55:=hA_b55.le le_b88
 obtain⟨l_b88,n_b88,hA_b88,z_b88⟩:=eb rd_b88 (by first | simp | (have:=hc82_0.len htn;omega))
 refine or ?_
 refine cD (by simp [keys]) (fun H_b162 le_b162 rd_b162=>?_)
 replace hrs:=hrs.le le_b162
 replace hle:=hle.trans le_b162
 replace hd82_0:=hd82_0.le le_b162
 replace hA_b55:=hA_b55.le le_b162
 replace hA_b88:=hA_b88.le le_b162
 obtain⟨l_b162,n_b162,hA_b162,z_b162⟩:=eb rd_b162 (by first | simp | (have:=hc82_0.len htn;omega))
 refine dV (X:=[(b170,_),(b164,_),(b90,_),(b57,_),(b13,_),(b9,_),(b8,_),(bd,_)]) hO171 rfl (by simp [keys]) (fun H2 hle2 hP=>?_)
 replace hrs:=hrs.le hle2
 replace hle:=hle.trans hle2
 replace hd82_0:=hd82_0.le hle2
 replace hA_b55:=hA_b55.le hle2
 replace hA_b88:=hA_b88.le hle2
 replace hA_b162:=hA_b162.le hle2
 have hP2:=hP.recell (l':=[⟨[97],[98],l_b55,(some ⟨b55,0,none⟩,2)⟩,⟨[98],[99],l_b88,(some ⟨b88,0,none⟩,1)⟩,⟨[98],[99],l_b162,(some ⟨b162,0,none⟩,1)⟩,fL]) (by simp only [List.nil_append,List.cons_append,List.map_cons,List.map_nil,SPoint.cells,n_b55,n_b88,n_b162];rfl)
 have hPK:∀x∈([⟨[97],[98],l_b55,(some ⟨b55,0,none⟩,2)⟩,⟨[98],[99],l_b88,(some ⟨b88,0,none⟩,1)⟩,⟨[98],[99],l_b162,(some ⟨b162,0,none⟩,1)⟩,fL]:List SPoint),PointOk H2 x:=by
  intro x hx;simp only [List.mem_cons,List.not_mem_nil,or_false] at hx
  rcases hx with rfl | rfl | rfl | rfl
  · exact⟨by show RdSl H2 4 SArm.cells (.slice (some ⟨b55,0,none⟩) l_b55.length _) l_b55;rw [n_b55];exact hA_b55,z_b55⟩
  · exact⟨by show RdSl H2 4 SArm.cells (.slice (some ⟨b88,0,none⟩) l_b88.length _) l_b88;rw [n_b88];exact hA_b88,z_b88⟩
  · exact⟨by show RdSl H2 4 SArm.cells (.slice (some ⟨b162,0,none⟩) l_b162.length _) l_b162;rw [n_b162];exact hA_b162,z_b162⟩
  · exact jB
 exact aU (.inr rfl) (ad rfl (RVal.cellA rfl (.h6) rfl)) (fun w hw=>hw.drop.drop.drop.drop.drop.drop.drop) ⟨_,[],rfl,hd82_0,rfl,hle,⟨name,(rolesL.take (3:Int).toNat),(a22,c22),[⟨[97],[98],l_b55,(some ⟨b55,0,none⟩,2)⟩,⟨[98],[99],l_b88,(some ⟨b88,0,none⟩,1)⟩,⟨[98],[99],l_b162,(some ⟨b162,0,none⟩,1)⟩,fL],(a171,c171)⟩,rfl,⟨hrs,hP2,hPK⟩,rfl,rfl⟩
theorem ye {H:Hp}{bd:Nat}{dl:Value}{at_:Int}(hd:DiceOk H dl at_){tv:Value}{types:List Str}(hty:RdSl H 1 Str.cells tv types)(htn:∀s∈types,TyNm s)(htl:types.length≤100)(name:Str):
  DFn Tryz.prog bd dl at_ 168 [gs name,.int .i64 4,tv] H (fun v H1 ob=>ob=[]∧(H.le H1∧∃p:SProto,v= .agg p.cells.toArray∧ProtoOk H1 p∧p.name=name∧p.roles=rolesL.take 4)):=by
 have hrl:(rolesL.take (4:Int).toNat).length=4:=rfl
 refine FnX.enter Tryz.func168 Tryz.ntmps168 rfl rfl (fun w0=>?_)
 refine zm2 ?_
 refine TL.alloc rfl (fun b8=>?_)
 refine gE ?_
 refine TL.call (ab rfl rfl rfl rfl) (ia) rfl (fun v19 H19 hle19 hp19=>?_)
 replace hd:=hd.le hle19
 replace hty:=hty.le hle19
 have hro19:=hp19
 obtain⟨ra19,rc19,rfl⟩:=hro19.len
 have hcp:5≤rc19:=hro19.room _ _ _ rfl
 have hsl:=hro19.sliced (i:=0) (j:=(4:Int).toNat) omq dq
 have hle0:=hle19
 refine zm0 ?_;refine wz ?_
 refine TL.append (enc:=Str.cells) rfl rfl rfl (OwnSl.nil (enc:=Str.cells)) (Src.sl hsl) (by simp only [List.length_drop,List.length_nil];omega) rfl (.new _ rfl) rfl (fun a22 c22 ob22 hO22=>?_)
 refine dt ?_
 refine TL.alloc rfl (fun b9=>?_)
 refine ww ?_
 refine dV (X:=[(b9,_),(b8,_),(bd,_)]) hO22 rfl (by simp [keys]) (fun HR leR hR=>?_)
 replace hd:=hd.le leR
 replace hty:=hty.le leR
 replace hle0:=hle0.trans leR
 have hrs0:RdSl HR 1 Str.cells (.slice a22 (rolesL.take (4:Int).toNat).length c22) (rolesL.take (4:Int).toNat):=hR
 have hty1:=hty
 have hleR:=hle0
 refine ag (rZ (V:=fun(q:Q4)=>[(10,gs q.a),(11,gs q.b)]) (K:=[(0,_),(2,_),(3,_),(8,_),(9,_)]) ky (L:=fun(q:Q4)=>St (keys [(bd,[dl,.int .i64 at_])]) w0 H q.h [(b9,[gs name,.slice a22 (rolesL.take (4:Int).toNat).length c22,.slice none 0 0]),(b8,[gs [],.slice none 0 0,.slice none 0 0]),(bd,[dl,.int .i64 q.at_])]) (I:=fun(q:Q4)=>DiceOk q.h dl q.at_∧HR.le q.h) ?_ ?_)
 · exact CJ
 intro q hI
 obtain⟨hI1,hI2⟩:=hI
 have hty:=hty1.le hI2
 have hrs:=hrs0.le hI2
 have hle:=hleR.trans hI2
 refine d5 ?_
 refine aA (X:=[(b9,_),(b8,_)]) (bd:=bd) rfl (ab rfl rfl rfl rfl) (bn 2 omq hI1) rfl (fun v36 H36 at36 hle36 hd36 hp36=>?_)
 obtain⟨eH36,r36,rfl,hr36⟩:=hp36
 replace eH36:=eH36.symm;subst eH36
 have hra36:=hr36.1
 have hrb36:=hr36.2.1 omq
 refine ly ?_;refine d5 ?_
 refine aA (X:=[(b9,_),(b8,_)]) (bd:=bd) rfl (ab rfl rfl rfl rfl) (gi hd36) rfl (fun v39 H39 at39 hle39 hd39 hp39=>?_)
 obtain⟨eH39,k39,rfl,hk39⟩:=hp39
 replace eH39:=eH39.symm;subst eH39
 refine TL.alloc rfl (fun b13=>?_)
 refine qb ?_;refine Da ?_;refine vT ?_;refine th ?_;refine th ?_;refine zm7 ?_;refine Ae ?_;refine dQ ?_;refine wu ?_
 refine aC rfl rfl rfl rfl (fun b55=>?_)
 refine dQ ?_
 refine aC rfl rfl rfl rfl (fun b57=>?_)
 refine ao rfl (TL.append (enc:=SPoint.cells) rfl rfl rfl (OwnSl.nil (enc:=SPoint.cells)) (Src.own [⟨_,_,[⟨[],0,[],0⟩,⟨[],0,[],0⟩],(some ⟨b55,0,none⟩,2)⟩] (.here _) rfl rfl) sq rfl (.new _ rfl) rfl (fun a58 c58 ob58 hO58=>?_))
 refine aq (S0 (S0 (S1 (S1 (S1 (S1 SN)))))) (Hp.le.refl _) (f9 ?_);refine md ?_;refine jS ?_;refine jT ?_;refine TC.rounds 3 (sY ?_);refine zm347 ?_;refine jQ ?_;refine jQ ?_;refine l7 ?_
 refine tf ?_;refine jQ ?_;refine l6 ?_;refine tf ?_;refine ou ?_;refine jQ ?_
 refine aw (bC rfl rfl hO58) rfl (aw (fk rfl rfl sq sq) rfl (ao rfl (aA (X:=[(b57,_),(b55,_),(b13,_),(b9,_),(b8,_)]) (bd:=bd) rfl (ab rfl rfl rfl rfl) (fz hd39 hty htn htl) rfl (fun v82_0 H82_0 at82_0 hle82_0 hd82_0 hp82_0=>?_))))
 obtain⟨eH82_0,k82_0,nm82_0,rfl,hc82_0⟩:=hp82_0
 replace eH82_0:=eH82_0.symm;subst eH82_0
 refine aq (S1 (S1 (S1 (S1 (S1 SN))))) (Hp.le.refl _) (dQ ?_)
 refine aC rfl rfl rfl rfl (fun b88=>?_)
 refine dQ ?_
 refine aC rfl rfl rfl rfl (fun b90=>?_)
 refine ao rfl (TL.append (enc:=SPoint.cells) rfl rfl rfl hO58 (Src.own [⟨_,_,[⟨[],0,[],0⟩],(some ⟨b88,0,none⟩,1)⟩] (.here _) rfl rfl) sq rfl (.s7 (.skip _ .all)) rfl (fun a91_0 c91_0 ob91_0 hO91_0=>?_))
 refine aq (S0 (S0 (S1 (S1 (S1 (S1 (S1 SN))))))) (Hp.le.refl _) (f9 ?_);refine wt ?_;refine zR ?_;refine zQ ?_;refine zm370 ?_;refine sW ?_;refine sW ?_;refine l7 ?_;refine Ad ?_;refine sW ?_
 refine l6 ?_;refine Ad ?_;refine gQ ?_;refine o8 ?_
 refine aJ (S1 (S1 (S1 (S1 (S1 (S1 (S1 SN))))))) (Hp.le.refl _) (fun _ _=>aE rfl (.h5) rfl) rfl (aw (bC rfl rfl hO91_0) rfl (aw (fk rfl rfl sq sq) rfl (ao rfl ?_)))
 refine aA (X:=[(b90,_),(b88,_),(b57,_),(b55,_),(b13,_),(b9,_),(b8,_)]) (bd:=bd) rfl (ab rfl rfl rfl rfl) (fz hd82_0 hty htn htl) rfl (fun v82_1 H82_1 at82_1 hle82_1 hd82_1 hp82_1=>?_)
 obtain⟨eH82_1,k82_1,nm82_1,rfl,hc82_1⟩:=hp82_1
 replace eH82_1:=eH82_1.symm;subst eH82_1
 refine aq (S1 (S1 (S1 (S1 (S1 (S1 (S1 SN))))))) (Hp.le.refl _) (dQ ?_)
 refine aC rfl rfl rfl rfl (fun b88x=>?_)
 refine dQ ?_
 refine aC rfl rfl rfl rfl (fun b90x=>?_)
 refine ao rfl (TL.append (enc:=SPoint.cells) rfl rfl rfl hO91_0 (Src.own [⟨_,_,[⟨[],0,[],0⟩],(some ⟨b88x,0,none⟩,1)⟩] (.here _) rfl rfl) sq rfl (.s9 (.skip _ .all)) rfl (fun a91_1 c91_1 ob91_1 hO91_1=>?_))
 refine aq (S0 (S0 (S1 (S1 (S1 (S1 (S1 (S1 (S1 SN))))))))) (Hp.le.refl _) (f9 ?_);refine Ac ?_;refine sX ?_;refine gC ?_;refine kS ?_
 refine af rfl ?_ ?_<;>intro c93
 ·
  refine eY ?_;refine zm371 ?_;refine zm4 ?_;refine C6 ?_;refine zm4 ?_;refine C6 ?_;refine zm7 ?_;refine aw (gu rfl rfl omq omq) rfl (lZ ?_)
  refine aJ (S1 (S1 (S1 (S1 (S1 (S1 (S1 (S1 (S1 SN))))))))) (Hp.le.refl _) (fun _ _=>aN hrs rfl rfl rfl) rfl (zm4 ?_);refine C6 ?_;refine lZ ?_
  refine aJ (S1 (S1 (S1 (S1 (S1 (S1 (S1 (S1 (S1 SN))))))))) (Hp.le.refl _) (fun _ _=>aN hrs rfl rfl rfl) rfl (zm7 ?_)
  refine ao rfl (aA (X:=[(b90x,_),(b88x,_),(b90,_),(b88,_),(b57,_),(b55,_),(b13,_),(b9,_),(b8,_)]) (bd:=bd) rfl (ab rfl rfl rfl rfl) (gi hd82_1) rfl (fun v107 H107 at107 hle107 hd107 hp107=>?_))
  obtain⟨eH107,k107,rfl,hk107⟩:=hp107
  replace eH107:=eH107.symm;subst eH107
  refine aq (S1 (S1 (S1 (S1 (S1 (S1 (S1 (S1 (S1 SN))))))))) (Hp.le.refl _) (dQ ?_)
  refine aC rfl rfl rfl rfl (fun b109=>?_)
  refine dQ ?_
  refine aC rfl rfl rfl rfl (fun b111=>?_)
  refine ao rfl (TL.append (enc:=SPoint.cells) rfl rfl rfl hO91_1 (Src.own [⟨_,_,[⟨[],0,[],0⟩],(some ⟨b109,0,none⟩,1)⟩] (.here _) rfl rfl) sq rfl (.s11 (.skip _ .all)) rfl (fun a112 c112 ob112 hO112=>?_))
  refine aq (S0 (S0 (S1 (S1 (S1 (S1 (S1 (S1 (S1 (S1 (S1 SN))))))))))) (Hp.le.refl _) (f9 ?_);refine C9 ?_;refine jS ?_;refine gp ?_;refine C8 ?_;refine TL.run (bC rfl rfl hO112) rfl (uO ?_)
  refine C8 ?_;refine TL.run (bN rfl rfl hO112 sq sq) rfl (zm5 ?_);refine zm372 ?_;refine te ?_;refine Ac ?_;refine sZ ?_;refine TC.rounds 3 (sY ?_);refine zm350 ?_;refine sT ?_
  refine sT ?_;refine l7 ?_;refine z7 ?_;refine sT ?_;refine l6 ?_;refine z7 ?_;refine o8 ?_;refine CY ?_;refine aw (bC rfl rfl hO112) rfl (sU ?_)
  refine aC rfl rfl rfl rfl (fun b162=>?_)
  refine dQ ?_
  refine aC rfl rfl rfl rfl (fun b164=>?_)
  refine ao rfl (TL.append (enc:=SPoint.cells) rfl rfl rfl hO112 (Src.own [⟨_,_,[⟨[],0,[],0⟩],(some ⟨b162,0,none⟩,1)⟩] (.here _) rfl rfl) sq rfl (.s13 (.skip _ .all)) rfl (fun a165_0 c165_0 ob165_0 hO165_0=>?_))
  refine aq (S0 (S0 (S1 (S1 (S1 (S1 (S1 (S1 (S1 (S1 (S1 (S1 (S1 (S1 SN)))))))))))))) (Hp.le.refl _) (f9 ?_);refine zm352 ?_;refine zR ?_;refine zQ ?_;refine zm373 ?_;refine zm4 ?_;refine z6 ?_;refine zm4 ?_
  refine z6 ?_;refine l7 ?_;refine zm353 ?_;refine zm4 ?_;refine z6 ?_;refine l6 ?_;refine zm353 ?_;refine o8 ?_;refine z6 ?_;refine aw (bC rfl rfl hO165_0) rfl (sU ?_)
  refine aC rfl rfl rfl rfl (fun b162x=>?_)
  refine dQ ?_
  refine aC rfl rfl rfl rfl (fun b164x=>?_)
  refine ao rfl (TL.append (enc:=SPoint.cells) rfl rfl rfl hO165_0 (Src.own [⟨_,_,[⟨[],0,[],0⟩],(some ⟨b162x,0,none⟩,1)⟩] (.here _) rfl rfl) sq rfl (.s15 (.skip _ .all)) rfl (fun a165_1 c165_1 ob165_1 hO165_1=>?_))
  refine aq (S0 (S0 (S1 (S1 (S1 (S1 (S1 (S1 (S1 (S1 (S1 (S1 (S1 (S1 (S1 (S1 SN)))))))))))))))) (Hp.le.refl _) (f9 ?_)
  refine aX rfl rfl rfl (.h13) rfl rfl (sX ?_);refine qg ?_
  refine TL.run (aE rfl (.h13) rfl) rfl (dt ?_)
  refine aB rfl rfl rfl rfl (fun b170=>?_)
  refine TL.append (enc:=SPoint.cells) rfl rfl rfl hO165_1 (Src.own [fL] (.here _) rfl rfl) sq rfl (.s16 (.skip _ .all)) rfl (fun a171 c171 ob171 hO171=>?_)
  refine zm5 ?_;refine aX rfl rfl rfl (.h14) rfl rfl (gD ?_)
  refine TL.run (a7 rfl (.h14) rfl) rfl (zm374 ?_)
  refine TL.nil (ag (TC.ret (gl (.h12) ?_)))
  refine cD (by simp [keys]) (fun H_b55 le_b55 rd_b55=>?_)
  replace hrs:=hrs.le le_b55
  replace hle:=hle.trans le_b55
  replace hd107:=hd107.le le_b55
  obtain⟨l_b55,n_b55,hA_b55,z_b55⟩:=kF rd_b55 (by first | simp | (have:=hc82.len htn;omega)) (by first | simp | (have:=hc82.len htn;omega))
  refine zm354 ?_
  refine cD (by simp [keys]) (fun H_b88 le_b88 rd_b88=>?_)
  replace hrs:=hrs.le le_b88
  replace hle:=hle.trans le_b88
  replace hd107:=hd107.le le_b88
  replace hA_b55:=hA_b55.le le_b88
  obtain⟨l_b88,n_b88,hA_b88,z_b88⟩:=eb rd_b88 (by first | simp | (have:=hc82_0.len htn;omega))
  refine C7 ?_
  refine cD (by simp [keys]) (fun H_b88x le_b88x rd_b88x=>?_)
  replace hrs:=hrs.le le_b88x
  replace hle:=hle.trans le_b88x
  replace hd107:=hd107.le le_b88x
  replace hA_b55:=hA_b55.le le_b88x
  replace hA_b88:=hA_b88.le le_b88x
  obtain⟨l_b88x,n_b88x,hA_b88x,z_b88x⟩:=eb rd_b88x (by first | simp | (have:=hc82_1.len htn;omega))
  refine Aa ?_
  refine cD (by simp [keys]) (fun H_b109 le_b109 rd_b109=>?_)
  replace hrs:=hrs.le le_b109
  replace hle:=hle.trans le_b109
  replace hd107:=hd107.le le_b109
  replace hA_b55:=hA_b55.le le_b109
  replace hA_b88:=hA_b88.le le_b109
  replace hA_b88x:=hA_b88x.le le_b109
  obtain⟨l_b109,n_b109,hA_b109,z_b109⟩:=eb rd_b109 (by first | simp | (have:=hc82.len htn;omega))
  refine ws ?_
  refine cD (by simp [keys]) (fun H_b162 le_b162 rd_b162=>?_)
  replace hrs:=hrs.le le_b162
  replace hle:=hle.trans le_b162
  replace hd107:=hd107.le le_b162
  replace hA_b55:=hA_b55.le le_b162
  replace hA_b88:=hA_b88.le le_b162
  replace hA_b88x:=hA_b88x.le le_b162
  replace hA_b109:=hA_b109.le le_b162
  obtain⟨l_b162,n_b162,hA_b162,z_b162⟩:=eb rd_b162 (by first | simp | (have:=hc82_0.len htn;omega))
  refine or ?_
  refine cD (by simp [keys]) (fun H_b162x le_b162x rd_b162x=>?_)
  replace hrs:=hrs.le le_b162x
  replace hle:=hle.trans le_b162x
  replace hd107:=hd107.le le_b162x
  replace hA_b55:=hA_b55.le le_b162x
  replace hA_b88:=hA_b88.le le_b162x
  replace hA_b88x:=hA_b88x.le le_b162x
  replace hA_b109:=hA_b109.le le_b162x
  replace hA_b162:=hA_b162.le le_b162x
  obtain⟨l_b162x,n_b162x,hA_b162x,z_b162x⟩:=eb rd_b162x (by first | simp | (have:=hc82_1.len htn;omega))
  refine dV (X:=[(b170,_),(b164x,_),(b164,_),(b111,_),(b90x,_),(b90,_),(b57,_),(b13,_),(b9,_),(b8,_),(bd,_)]) hO171 rfl (by simp [keys]) (fun H2 hle2 hP=>?_)
  replace hrs:=hrs.le hle2
  replace hle:=hle.trans hle2
  replace hd107:=hd107.le hle2
  replace hA_b55:=hA_b55.le hle2
  replace hA_b88:=hA_b88.le hle2
  replace hA_b88x:=hA_b88x.le hle2
  replace hA_b109:=hA_b109.le hle2
  replace hA_b162:=hA_b162.le hle2
  replace hA_b162x:=hA_b162x.le hle2
  have hP2:=hP.recell (l':=[⟨[97],[98],l_b55,(some ⟨b55,0,none⟩,2)⟩,⟨[98],[99],l_b88,(some ⟨b88,0,none⟩,1)⟩,⟨[99],[100],l_b88x,(some ⟨b88x,0,none⟩,1)⟩,⟨[100],[97],l_b109,(some ⟨b109,0,none⟩,1)⟩,⟨[98],[99],l_b162,(some ⟨b162,0,none⟩,1)⟩,⟨[99],[100],l_b162x,(some ⟨b162x,0,none⟩,1)⟩,fL]) (by simp only [List.nil_append,List.cons_append,List.map_cons,List.map_nil,SPoint.cells,n_b55,n_b88,n_b88x,n_b109,n_b162,n_b162x];rfl)
  have hPK:∀x∈([⟨[97],[98],l_b55,(some ⟨b55,0,none⟩,2)⟩,⟨[98],[99],l_b88,(some ⟨b88,0,none⟩,1)⟩,⟨[99],[100],l_b88x,(some ⟨b88x,0,none⟩,1)⟩,⟨[100],[97],l_b109,(some ⟨b109,0,none⟩,1)⟩,⟨[98],[99],l_b162,(some ⟨b162,0,none⟩,1)⟩,⟨[99],[100],l_b162x,(some ⟨b162x,0,none⟩,1)⟩,fL]:List SPoint),PointOk H2 x:=by
   intro x hx;simp only [List.mem_cons,List.not_mem_nil,or_false] at hx
   rcases hx with rfl | rfl | rfl | rfl | rfl | rfl | rfl
   · exact⟨by show RdSl H2 4 SArm.cells (.slice (some ⟨b55,0,none⟩) l_b55.length _) l_b55;rw [n_b55];exact hA_b55,z_b55⟩
   · exact⟨by show RdSl H2 4 SArm.cells (.slice (some ⟨b88,0,none⟩) l_b88.length _) l_b88;rw [n_b88];exact hA_b88,z_b88⟩
   · exact⟨by show RdSl H2 4 SArm.cells (.slice (some ⟨b88x,0,none⟩) l_b88x.length _) l_b88x;rw [n_b88x];exact hA_b88x,z_b88x⟩
   · exact⟨by show RdSl H2 4 SArm.cells (.slice (some ⟨b109,0,none⟩) l_b109.length _) l_b109;rw [n_b109];exact hA_b109,z_b109⟩
   · exact⟨by show RdSl H2 4 SArm.cells (.slice (some ⟨b162,0,none⟩) l_b162.length _) l_b162;rw [n_b162];exact hA_b162,z_b162⟩
   · exact⟨by show RdSl H2 4 SArm.cells (.slice (some ⟨b162x,0,none⟩) l_b162x.length _) l_b162x;rw [n_b162x];exact hA_b162x,z_b162x⟩
   · exact jB
  exact aU (.inr rfl) (ad rfl (RVal.cellA rfl (.h9) rfl)) (fun w hw=>hw.drop.drop.drop.drop.drop.drop.drop.drop.drop.drop) ⟨_,[],rfl,hd107,rfl,hle,⟨name,(rolesL.take (4:Int).toNat),(a22,c22),[⟨[97],[98],l_b55,(some ⟨b55,0,none⟩,2)⟩,⟨[98],[99],l_b88,(some ⟨b88,0,none⟩,1)⟩,⟨[99],[100],l_b88x,(some ⟨b88x,0,none⟩,1)⟩,⟨[100],[97],l_b109,(some ⟨b109,0,none⟩,1)⟩,⟨[98],[99],l_b162,(some ⟨b162,0,none⟩,1)⟩,⟨[99],[100],l_b162x,(some ⟨b162x,0,none⟩,1)⟩,fL],(a171,c171)⟩,rfl,⟨hrs,hP2,hPK⟩,rfl,rfl⟩
 refine gp ?_;refine p9 ?_;refine TL.run (bC rfl rfl hO91_1) rfl (TL.run (gu rfl rfl sq sq) rfl (zm1 ?_));refine TC.region (zm5 ?_);refine p9 ?_;refine zm0 ?_
 refine TL.run (bN rfl rfl hO91_1 sq sq) rfl (zm5 ?_)
 refine TL.run (PR.to (ef rfl hO91_1 (.s9 (.skip _ .all)) rfl rfl) (rfl:_=Value.slice (some ⟨b88x,0,none⟩) 1 1)) rfl (zS ?_)
 refine m6 ?_;refine wR ?_;refine p9 ?_;refine TL.run (bC rfl rfl hO91_1) rfl (uO ?_);refine p9 ?_;refine TL.run (bN rfl rfl hO91_1 sq sq) rfl (zm5 ?_)
 refine TL.run (PR.to (ef rfl hO91_1 (.s9 (.skip _ .all)) rfl rfl) (rfl:_=Value.slice (some ⟨b55,0,none⟩) 2 2)) rfl (te ?_)
 refine wt ?_;refine sZ ?_;refine TC.rounds 3 (sY ?_);refine zm348 ?_;refine sV ?_;refine sV ?_;refine l7 ?_;refine Ab ?_;refine sV ?_;refine l6 ?_;refine Ab ?_;refine o8 ?_
 refine CZ ?_;refine aw (bC rfl rfl hO91_1) rfl (sU ?_)
 refine aC rfl rfl rfl rfl (fun b162=>?_)
 refine dQ ?_
 refine aC rfl rfl rfl rfl (fun b164=>?_)
 refine ao rfl (TL.append (enc:=SPoint.cells) rfl rfl rfl hO91_1 (Src.own [⟨_,_,[⟨[],0,[],0⟩],(some ⟨b162,0,none⟩,1)⟩] (.here _) rfl rfl) sq rfl (.s11 (.skip _ .all)) rfl (fun a165_0 c165_0 ob165_0 hO165_0=>?_))
 refine aq (S0 (S0 (S1 (S1 (S1 (S1 (S1 (S1 (S1 (S1 (S1 (S1 SN)))))))))))) (Hp.le.refl _) (f9 ?_);refine C9 ?_;refine zR ?_;refine zQ ?_;refine zm350 ?_;refine sT ?_;refine sT ?_;refine l7 ?_
 refine z7 ?_;refine sT ?_;refine l6 ?_;refine z7 ?_;refine o8 ?_;refine CY ?_;refine aw (bC rfl rfl hO165_0) rfl (sU ?_)
 refine aC rfl rfl rfl rfl (fun b162x=>?_)
 refine dQ ?_
 refine aC rfl rfl rfl rfl (fun b164x=>?_)
 refine ao rfl (TL.append (enc:=SPoint.cells) rfl rfl rfl hO165_0 (Src.own [⟨_,_,[⟨[],0,[],0⟩],(some ⟨b162x,0,none⟩,1)⟩] (.here _) rfl rfl) sq rfl (.s13 (.skip _ .all)) rfl (fun a165_1 c165_1 ob165_1 hO165_1=>?_))
 refine aq (S0 (S0 (S1 (S1 (S1 (S1 (S1 (S1 (S1 (S1 (S1 (S1 (S1 (S1 SN)))))))))))))) (Hp.le.refl _) (f9 ?_);refine zm352 ?_;refine sX ?_;refine qg ?_
 refine TL.run (aE rfl (.h11) rfl) rfl (dt ?_)
 refine aB rfl rfl rfl rfl (fun b170=>?_)
 refine TL.append (enc:=SPoint.cells) rfl rfl rfl hO165_1 (Src.own [fL] (.here _) rfl rfl) sq rfl (.s14 (.skip _ .all)) rfl (fun a171 c171 ob171 hO171=>?_)
 refine zm5 ?_;refine aX rfl rfl rfl (.h12) rfl rfl (gD ?_)
 refine TL.run (a7 rfl (.h12) rfl) rfl (cH rfl rfl rfl rfl rfl (.h13) rfl rfl (TL.nil (ag ?_)))
 refine TC.ret (zm354 ?_)
 refine cD (by simp [keys]) (fun H_b55 le_b55 rd_b55=>?_)
 replace hrs:=hrs.le le_b55
 replace hle:=hle.trans le_b55
 replace hd82_1:=hd82_1.le le_b55
 obtain⟨l_b55,n_b55,hA_b55,z_b55⟩:=kF rd_b55 (by first | simp | (have:=hc82.len htn;omega)) (by first | simp | (have:=hc82.len htn;omega))
 refine C7 ?_
 refine cD (by simp [keys]) (fun H_b88 le_b88 rd_b88=>?_)
 replace hrs:=hrs.le le_b88
 replace hle:=hle.trans le_b88
 replace hd82_1:=hd82_1.le le_b88
 replace hA_b55:=hA_b55.le le_b88
 obtain⟨l_b88,n_b88,hA_b88,z_b88⟩:=eb rd_b88 (by first | simp | (have:=hc82_0.len htn;omega))
 refine Aa ?_
 refine cD (by simp [keys]) (fun H_b88x le_b88x rd_b88x=>?_)
 replace hrs:=hrs.le le_b88x
 replace hle:=hle.trans le_b88x
 replace hd82_1:=hd82_1.le le_b88x
 replace hA_b55:=hA_b55.le le_b88x
 replace hA_b88:=hA_b88.le le_b88x
 obtain⟨l_b88x,n_b88x,hA_b88x,z_b88x⟩:=eb rd_b88x (by first | simp | (have:=hc82_1.len htn;omega))
 refine ws ?_
 refine cD (by simp [keys]) (fun H_b162 le_b162 rd_b162=>?_)
 replace hrs:=hrs.le le_b162
 replace hle:=hle.trans le_b162
 replace hd82_1:=hd82_1.le le_b162
 replace hA_b55:=hA_b55.le le_b162
 replace hA_b88:=hA_b88.le le_b162
 replace hA_b88x:=hA_b88x.le le_b162
 obtain⟨l_b162,n_b162,hA_b162,z_b162⟩:=eb rd_b162 (by first | simp | (have:=hc82_0.len htn;omega))
 refine or ?_
 refine cD (by simp [keys]) (fun H_b162x le_b162x rd_b162x=>?_)
 replace hrs:=hrs.le le_b162x
 replace hle:=hle.trans le_b162x
 replace hd82_1:=hd82_1.le le_b162x
 replace hA_b55:=hA_b55.le le_b162x
 replace hA_b88:=hA_b88.le le_b162x
 replace hA_b88x:=hA_b88x.le le_b162x
 replace hA_b162:=hA_b162.le le_b162x
 obtain⟨l_b162x,n_b162x,hA_b162x,z_b162x⟩:=eb rd_b162x (by first | simp | (have:=hc82_1.len htn;omega))
 refine dV (X:=[(b170,_),(b164x,_),(b164,_),(b90x,_),(b90,_),(b57,_),(b13,_),(b9,_),(b8,_),(bd,_)]) hO171 rfl (by simp [keys]) (fun H2 hle2 hP=>?_)
 replace hrs:=hrs.le hle2
 replace hle:=hle.trans hle2
 replace hd82_1:=hd82_1.le hle2
 replace hA_b55:=hA_b55.le hle2
 replace hA_b88:=hA_b88.le hle2
 replace hA_b88x:=hA_b88x.le hle2
 replace hA_b162:=hA_b162.le hle2
 replace hA_b162x:=hA_b162x.le hle2
 have hP2:=hP.recell (l':=[⟨[97],[98],l_b55,(some ⟨b55,0,none⟩,2)⟩,⟨[98],[99],l_b88,(some ⟨b88,0,none⟩,1)⟩,⟨[99],[100],l_b88x,(some ⟨b88x,0,none⟩,1)⟩,⟨[98],[99],l_b162,(some ⟨b162,0,none⟩,1)⟩,⟨[99],[100],l_b162x,(some ⟨b162x,0,none⟩,1)⟩,fL]) (by simp only [List.nil_append,List.cons_append,List.map_cons,List.map_nil,SPoint.cells,n_b55,n_b88,n_b88x,n_b162,n_b162x];rfl)
 have hPK:∀x∈([⟨[97],[98],l_b55,(some ⟨b55,0,none⟩,2)⟩,⟨[98],[99],l_b88,(some ⟨b88,0,none⟩,1)⟩,⟨[99],[100],l_b88x,(some ⟨b88x,0,none⟩,1)⟩,⟨[98],[99],l_b162,(some ⟨b162,0,none⟩,1)⟩,⟨[99],[100],l_b162x,(some ⟨b162x,0,none⟩,1)⟩,fL]:List SPoint),PointOk H2 x:=by
  intro x hx;simp only [List.mem_cons,List.not_mem_nil,or_false] at hx
  rcases hx with rfl | rfl | rfl | rfl | rfl | rfl
  · exact⟨by show RdSl H2 4 SArm.cells (.slice (some ⟨b55,0,none⟩) l_b55.length _) l_b55;rw [n_b55];exact hA_b55,z_b55⟩
  · exact⟨by show RdSl H2 4 SArm.cells (.slice (some ⟨b88,0,none⟩) l_b88.length _) l_b88;rw [n_b88];exact hA_b88,z_b88⟩
  · exact⟨by show RdSl H2 4 SArm.cells (.slice (some ⟨b88x,0,none⟩) l_b88x.length _) l_b88x;rw [n_b88x];exact hA_b88x,z_b88x⟩
  · exact⟨by show RdSl H2 4 SArm.cells (.slice (some ⟨b162,0,none⟩) l_b162.length _) l_b162;rw [n_b162];exact hA_b162,z_b162⟩
  · exact⟨by show RdSl H2 4 SArm.cells (.slice (some ⟨b162x,0,none⟩) l_b162x.length _) l_b162x;rw [n_b162x];exact hA_b162x,z_b162x⟩
  · exact jB
 exact aU (.inr rfl) (ad rfl (RVal.cellA rfl (.h8) rfl)) (fun w hw=>hw.drop.drop.drop.drop.drop.drop.drop.drop.drop) ⟨_,[],rfl,hd82_1,rfl,hle,⟨name,(rolesL.take (4:Int).toNat),(a22,c22),[⟨[97],[98],l_b55,(some ⟨b55,0,none⟩,2)⟩,⟨[98],[99],l_b88,(some ⟨b88,0,none⟩,1)⟩,⟨[99],[100],l_b88x,(some ⟨b88x,0,none⟩,1)⟩,⟨[98],[99],l_b162,(some ⟨b162,0,none⟩,1)⟩,⟨[99],[100],l_b162x,(some ⟨b162x,0,none⟩,1)⟩,fL],(a171,c171)⟩,rfl,⟨hrs,hP2,hPK⟩,rfl,rfl⟩
theorem rq {H:Hp}{bd:Nat}{dl:Value}{at_:Int}(hd:DiceOk H dl at_){tv:Value}{types:List Str}(hty:RdSl H 1 Str.cells tv types)(htn:∀s∈types,TyNm s)(htl:types.length≤100)(name:Str)(many:Int)(h2:2≤many)(h4:many≤4):
  DFn Tryz.prog bd dl at_ 168 [gs name,.int .i64 many,tv] H (fun v H1 ob=>ob=[]∧(H.le H1∧∃p:SProto,v= .agg p.cells.toArray∧ProtoOk H1 p∧p.name=name∧∃n,2≤n∧n≤5∧p.roles=rolesL.take n)):=by
 have key:∀{n:Nat},2≤n→n≤5→DFn Tryz.prog bd dl at_ 168 [gs name,.int .i64 many,tv] H (fun v H1 ob=>ob=[]∧(H.le H1∧∃p:SProto,v= .agg p.cells.toArray∧ProtoOk H1 p∧p.name=name∧p.roles=rolesL.take n))→DFn Tryz.prog bd dl at_ 168 [gs name,.int .i64 many,tv] H (fun v H1 ob=>ob=[]∧(H.le H1∧∃p:SProto,v= .agg p.cells.toArray∧ProtoOk H1 p∧p.name=name∧∃n,2≤n∧n≤5∧p.roles=rolesL.take n)):=
  fun h1 h2 h=>FnX.mono h (by
   rintro v H' L' ⟨at',ob,e1,e2,e3,e4,p,e5,e6,e7,e8⟩
   exact⟨at',ob,e1,e2,e3,e4,p,e5,e6,e7,_,h1,h2,e8⟩)
 rcases(by omega:many=2∨many=3∨many=4) with rfl | rfl | rfl
 · exact key omq omq (yg hd hty htn htl name)
 · exact key omq omq (yf hd hty htn htl name)
 exact key omq omq (ye hd hty htn htl name)
end Go.Sx
namespace Go.Sx
open Go Go.Proofs
theorem vv {H:Hp}{bd:Nat}{dl:Value}{at_:Int}(hd:DiceOk H dl at_){tv:Value}{types:List Str}(hty:RdSl H 1 Str.cells tv types)(htn:∀s∈types,TyNm s)(htl:types.length≤100)(name:Str):
  DFn Tryz.prog bd dl at_ 123 [gs name,tv] H (fun v H1 ob=>ob=[]∧(H.le H1∧∃p:SProto,v= .agg p.cells.toArray∧ProtoOk H1 p∧p.name=name∧∃n,2≤n∧n≤5∧p.roles=rolesL.take n)):=by
 refine FnX.enter Tryz.func123 Tryz.ntmps123 rfl rfl (fun w0=>?_)
 refine zm2 ?_
 refine TL.alloc rfl (fun b6=>?_)
 refine TL.nil (ag (k4 ?_))
 refine aA (X:=[(b6,_)]) (bd:=bd) rfl (ab rfl rfl rfl rfl) (bn 4 omq hd) rfl (fun v8 H8 at8 hle8 hd8 hp8=>?_)
 obtain⟨eH8,r8,rfl,hr8⟩:=hp8
 replace eH8:=eH8.symm;subst eH8
 have hra8:=hr8.1
 have hrb8:=hr8.2.1 omq
 refine tD ?_
 refine af rfl ?_ ?_<;>intro c9
 ·
  refine im ?_
  refine aA (X:=[(b6,_)]) (bd:=bd) rfl (ab rfl rfl rfl rfl) (vw hd8 hty htn htl name 2 omq omq) rfl (fun v14 H14 at14 hle14 hd14 hp14=>?_)
  obtain⟨hle14_,p,rfl,hP,hNm,hRo,hA⟩:=hp14
  refine jm ?_;exact bp (aD (aU (.inr rfl) (ad rfl (RVal.cellA rfl (.here _) rfl)) (fun w hw=>hw.drop) ⟨_,[],rfl,hd14,rfl,hle14_,p,rfl,hP,hNm,_,by decide,by decide,hRo⟩))
 refine dN ?_
 refine af rfl ?_ ?_<;>intro c15
 ·
  refine im ?_
  refine aA (X:=[(b6,_)]) (bd:=bd) rfl (ab rfl rfl rfl rfl) (bn 3 omq hd8) rfl (fun v20 H20 at20 hle20 hd20 hp20=>?_)
  obtain⟨eH20,r20,rfl,hr20⟩:=hp20
  replace eH20:=eH20.symm;subst eH20
  have hra20:=hr20.1
  have hrb20:=hr20.2.1 omq
  refine lw ?_;refine zm0 ?_
  refine aA (X:=[(b6,_)]) (bd:=bd) rfl (ab rfl rfl rfl rfl) (rq hd20 hty htn htl name (2+r20) omq omq) rfl (fun v23 H23 at23 hle23 hd23 hp23=>?_)
  obtain⟨hle23_,p,rfl,hP,hNm,n,hn2,hn5,hRo⟩:=hp23
  refine jm ?_;exact bp (aD (aU (.inr rfl) (ad rfl (RVal.cellA rfl (.here _) rfl)) (fun w hw=>hw.drop) ⟨_,[],rfl,hd23,rfl,hle23_,p,rfl,hP,hNm,n,hn2,hn5,hRo⟩))
 refine dN ?_
 refine af rfl ?_ ?_<;>intro c24
 ·
  refine im ?_
  refine aA (X:=[(b6,_)]) (bd:=bd) rfl (ab rfl rfl rfl rfl) (vw hd8 hty htn htl name 3 omq omq) rfl (fun v29 H29 at29 hle29 hd29 hp29=>?_)
  obtain⟨hle29_,p,rfl,hP,hNm,hRo,hA⟩:=hp29
  refine jm ?_;exact bp (aD (aU (.inr rfl) (ad rfl (RVal.cellA rfl (.here _) rfl)) (fun w hw=>hw.drop) ⟨_,[],rfl,hd29,rfl,hle29_,p,rfl,hP,hNm,_,by decide,by decide,hRo⟩))
 refine TC.skip (bq (ag (im ?_)))
 refine aA (X:=[(b6,_)]) (bd:=bd) rfl (ab rfl rfl rfl rfl) (rq hd8 hty htn htl name 3 omq omq) rfl (fun v33 H33 at33 hle33 hd33 hp33=>?_)
 obtain⟨hle33_,p,rfl,hP,hNm,n,hn2,hn5,hRo⟩:=hp33
 refine jm ?_
 exact aU (.inr rfl) (ad rfl (RVal.cellA rfl (.here _) rfl)) (fun w hw=>hw.drop) ⟨_,[],rfl,hd33,rfl,hle33_,p,rfl,hP,hNm,n,hn2,hn5,hRo⟩
theorem sA {H:Hp}(p:SProto)(hp:ProtoOk H p)(h1:p.name.length≤1000)(h2:p.roles.length≤100)(h3:∀r∈p.roles,r.length≤1000):
  Fn Tryz.prog 66 [.agg p.cells.toArray] H (fun v H1=>RdSl H1 1 Str.cells v (p.roles.map (fun r=>(p.name++[46])++r))):=by
 have hro:=hp.r
 have hmx:=hro.max
 refine Fn.enter Tryz.func66 Tryz.ntmps66 rfl rfl (fun w0=>?_)
 refine zm2 ?_
 refine TL.box rfl rfl (fun b1=>?_)
 refine zm1 ?_;refine jR ?_
 refine aY (V:=fun k v ob H1=>[(3,v),(4,.int .i64 k)]) (K:=[(1,_),(2,_)]) (L:=fun k v ob H1=>St [] w0 H H ((b1,p.cells)::ob)) (I:=fun k v ob H1=>(0≤k∧k≤p.roles.length)∧OwnSl 1 Str.cells v ((p.roles.take k.toNat).map (fun r=>(p.name++[46])++r)) ob) (μ:=fun k=>(p.roles.length - k).toNat) 0 (.slice none 0 0) [] H ky ⟨o2q,OwnSl.nil⟩ (fun w hw=>hw) (fun k v ob H1 hI=>?_)
 obtain⟨⟨k0,k1⟩,hO⟩:=hI
 refine sS ?_;refine TL.run (ai rfl rfl hro) rfl (zm1 ?_)
 refine af rfl ?_ ?_<;>intro c9
 ·
  obtain⟨x,hx⟩:=al (l:=p.roles) k0 c9
  have hxl:=h3 x (List.mem_of_getElem? hx)
  refine zU ?_;refine cI [(0,1),(1,1),(2,2),(3,1),(4,1),(5,2),(6,1),(7,1),(8,2),(9,1),(10,3),(11,0),(12,1)] kr kr (zm7 ?_);refine pZ ?_
  refine aw (eo rfl rfl (by simp only [List.length_append,List.length_cons,List.length_nil];omega)) rfl (zP ?_);refine wr ?_
  refine aW (aN hro hx rfl rfl) rfl (aw (eo rfl rfl (by simp only [List.length_append,List.length_cons,List.length_nil];omega)) rfl (aC rfl rfl rfl rfl (fun b22=>?_)))
  refine bz (TL.append (enc:=Str.cells) rfl rfl rfl hO (Src.own [(p.name++[46])++x] (.here _) rfl rfl) (by simp;omega) rfl (.skip _ (.skip _ .all)) rfl (fun a23 c23 ob23 hO23=>?_))
  refine TF.back (zm7 ?_);refine TF.nil (jP ?_)
  exact aI (k+1) _ ob23 H ⟨o2q,by rw [bR k0 hx];exact hO23⟩ ky (fun w hw=>hw.drop) omq
 refine sj ?_
 refine TX.pubO hO (.skip _ .all) sq (fun H2 hle2 hR=>?_)
 rw [bA c9 k0] at hR
 exact aR (.inr rfl) (ad rfl (RVal.tmp rfl)) hR
end Go.Sx
namespace Go.Sx
open Go Go.Proofs
theorem mB {H:Hp}(x:SPoint)(r:Str):
  FnS Tryz.prog 194 [.agg x.cells.toArray,gs r] H (.bool (ff x r)):=by
 refine FnS.enter Tryz.func194 Tryz.ntmps194 rfl rfl (fun w0=>?_)
 refine zm2 ?_
 refine TL.box rfl rfl (fun b2=>?_)
 refine zm1 ?_;refine mi ?_;refine l3 ?_
 refine aj (s:=9) rfl ?_ ?_<;>intro g9
 ·
  have q9:=of_decide_eq_true g9
  refine eq ?_;refine fQ ?_
  exact ar (.inr rfl) (ad rfl (RVal.tmp rfl)) (congrArg Value.bool (by unfold ff;simp_all))
 have q9:=of_decide_eq_false g9
 refine zm9 ?_;refine cQ ?_;refine m8 ?_;refine fQ ?_
 exact ar (.inr rfl) (ad rfl (RVal.tmp rfl)) (congrArg Value.bool (by unfold ff;simp_all))
theorem qW {H:Hp}{a b:List Int}{va vb:Value}(ha:RdSl H 1 I64.cells va a)(hb:RdSl H 1 I64.cells vb b):
  FnS Tryz.prog 173 [va,vb] H (.bool (decide (a=b))):=by
 have hma:=ha.max
 have hmb:=hb.max
 refine FnS.enter Tryz.func173 Tryz.ntmps173 rfl rfl (fun w0=>?_)
 refine oq ?_
 refine aP rfl ?_ ?_<;>intro c10
 ·
  refine lA ?_
  exact ar (.inr rfl) (ad rfl (RVal.tmp rfl)) (congrArg Value.bool (by first | exact(nr c10).symm | exact(qL hx hy c25).symm | exact(ns hl k0 c14 hI2).symm))
 have hl:a.length=b.length:=by omega
 refine m9 ?_
 refine TC.loop (V:=fun k=>[(5,.int .i64 k)]) (K:=[(0,_),(1,_),(4,_)]) (L:=fun k=>_) (I:=fun k=>(0≤k∧k≤a.length)∧a.take k.toNat=b.take k.toNat) (μ:=fun k=>(a.length - k).toNat) (i:=(0:Int)) ky ⟨o2q,rfl⟩ (fun w hw=>hw) (fun k hI=>?_)
 obtain⟨⟨k0,k1⟩,hI2⟩:=hI
 refine oo ?_
 refine af rfl ?_ ?_<;>intro c14
 ·
  obtain⟨x,hx⟩:=al (l:=a) k0 c14
  obtain⟨y,hy⟩:=al (l:=b) k0 omq
  refine oi ?_;refine TQ.run (aN ha hx rfl rfl) rfl (oh ?_);refine TQ.run (aN hb hy rfl rfl) rfl (kV ?_)
  refine aP rfl ?_ ?_<;>intro c25
  ·
   refine oD ?_
   exact ar (.inr rfl) (ad rfl (RVal.tmp rfl)) (congrArg Value.bool (by first | exact(nr c10).symm | exact(qL hx hy c25).symm | exact(ns hl k0 c14 hI2).symm))
  refine iE ?_
  exact aQ (k+1) ⟨o2q,by rw [bM k0 hx,bM k0 hy,hI2];congr 2<;>omega⟩ ky (fun w hw=>hw) omq
 refine ga ?_
 exact ar (.inr rfl) (ad rfl (RVal.tmp rfl)) (congrArg Value.bool (by first | exact(nr c10).symm | exact(qL hx hy c25).symm | exact(ns hl k0 c14 hI2).symm))
theorem zc {H:Hp}{l:List SArm}{v:Value}(s:Str)(hL:RdSl H 4 SArm.cells v l):
  FnS Tryz.prog 195 [v,gs s] H (.int .i64 (ci (l.map (·.label)) s)):=by
 have hmax:=hL.max
 refine FnS.enter Tryz.func195 Tryz.ntmps195 rfl rfl (fun w0=>?_)
 refine jR ?_
 refine TC.loop (V:=fun k=>[(5,.int .i64 k)]) (K:=[(0,_),(1,_),(4,_)]) (L:=fun k=>_) (I:=fun k=>0≤k∧k≤l.length∧∀j:Nat,j<k.toNat→(l.map (·.label))[j]? ≠some s) (μ:=fun k=>(l.length - k).toNat) (i:=(0:Int)) ky ⟨by omega,by omega,fun j h=>absurd h omq⟩ (fun w hw=>hw) (fun k hI=>?_)
 refine p8 ?_;refine zm1 ?_
 refine af rfl ?_ ?_<;>intro c9
 ·
  obtain⟨x,hx⟩:=al (l:=l) hI.1 c9
  refine qc ?_;refine oF ?_;refine zm5 ?_;refine TL.run (bh hL hx rfl rfl) rfl (w6 ?_)
  refine af rfl ?_ ?_<;>intro c18
  ·
   refine w5 ?_
   exact ar (.inr rfl) (ad rfl (RVal.tmp rfl)) (congrArg (Value.int .i64) (by first | exact(dG hI.1 (by rw [iJ hx,c18]) hI.2.2).symm | exact(fq hI.2.2 (by rw [List.length_map];exact c9)).symm))
  refine iE ?_
  exact aQ (k+1) ⟨by omega,by omega,fun j hj=>by by_cases hjk:j<k.toNat;exact hI.2.2 j hjk;rw [show j=k.toNat by omega,iJ hx];intro e;exact c18 (by simpa using e)⟩ ky (fun w hw=>hw) omq
 refine ga ?_
 exact ar (.inr rfl) (ad rfl (RVal.tmp rfl)) (congrArg (Value.int .i64) (by first | exact(dG hI.1 (by rw [iJ hx,c18]) hI.2.2).symm | exact(fq hI.2.2 (by rw [List.length_map];exact c9)).symm))
end Go.Sx
namespace Go.Sx
open Go Go.Proofs
theorem AB {H:Hp}{p:SProto}(role:Str)(hp:ProtoOk H p)(hN:nY p)(hn:p.points.length≤1000){fv:Value}{frm:List Int}(hf:RdSl H 1 I64.cells fv frm)(hfl:frm.length≤1000):
  FnO Tryz.prog 170 [.agg p.cells.toArray,gs role,fv] H (fun v H1 ob=>H1=H∧OwnSl 1 I64.cells v (cZ p role frm) ob):=by
 have hpt:=hp.pt
 refine FnO.enter Tryz.func170 Tryz.ntmps170 rfl rfl (fun w0=>?_)
 refine zm2 ?_
 refine TL.box rfl rfl (fun b3=>?_)
 refine zm1 ?_;refine fE ?_;refine TL.run (ai rfl rfl hpt) rfl (gH rfl rfl (by first | omega | decide) (by first | omega | decide) (by first | omega | decide) rfl (fun b18=>?_))
 refine zm1 ?_;refine jR ?_
 refine aY (V:=fun(q:Int×List Bool) v ob H1=>[(8,v),(9,.int .i64 q.1)]) (K:=[(1,_),(2,_),(3,_),(6,_),(7,_)]) (L:=fun(q:Int×List Bool) v ob H1=>St [] w0 H H ((b18,q.2.map Value.bool)::(b3,p.cells)::ob)) (I:=fun(q:Int×List Bool) v ob H1=>(0≤q.1∧q.1≤frm.length)∧∃todo,OwnSl 1 I64.cells v todo ob∧Met p.points.length q.2 todo∧iV q.2 todo (frm.drop q.1.toNat)=iU p role frm) (μ:=fun(q:Int×List Bool)=>(frm.length - q.1).toNat) (0,List.replicate p.points.length false) (.slice none 0 0) [] H ky ⟨o2q,[],OwnSl.nil,Met.zero _,rfl⟩ (fun w hw=>by rw [← reps_b];exact hw) (fun q v ob H1 hI=>?_)
 obtain⟨⟨k0,k1⟩,todo,hO,hM,hI3⟩:=hI
 have hfm:=hf.max
 refine f8 ?_;refine TL.run (ai rfl rfl hf) rfl (zm1 ?_)
 refine af rfl ?_ ?_<;>intro c22
 ·
  obtain⟨x,hx⟩:=al (l:=frm) k0 c22
  refine qc ?_;refine TL.run (ae rfl hf rfl omq omq) rfl (TL.run (aN hf hx rfl rfl) rfl (zm3 ?_))
  refine aj (s:=30) rfl ?_ ?_<;>intro g30
  ·
   have q30:=of_decide_eq_true g30
   refine fj ?_;refine az rfl rfl (ae rfl hf rfl omq omq) rfl (az rfl rfl (aN hf hx rfl rfl) rfl (cQ ?_));refine az rfl rfl (dj rfl rfl) rfl (dg ?_)
   refine aj (s:=39) rfl ?_ ?_<;>intro g39
   ·
    have q39:=of_decide_eq_true g39
    refine fj ?_;refine cQ ?_;refine az rfl rfl (ae rfl hf rfl omq omq) rfl (az rfl rfl (aN hf hx rfl rfl) rfl ?_)
    obtain⟨b,hbm,hb⟩:=zo (met:=q.2) (i:=x) omq (by rw [hM.len];omega)
    refine az rfl rfl (gh rfl rfl omq omq) rfl (az rfl rfl (aE rfl (.here _) hb) rfl (gb ?_))
    refine TC.cond rfl ?_ ?_<;>intro c48
    ·
     have hbf:q.2[x.toNat]? =some false:=by rw [hbm];simpa using c48
     have h0x:0≤x:=by omega
     refine im ?_;refine TL.run (ae rfl hf rfl omq omq) rfl (TL.run (aN hf hx rfl rfl) rfl (fi ?_))
     refine aX rfl rfl rfl (.here _) (by rw [Nat.blt_eq,List.length_map,hM.len];omega) rfl (TL.nil (ag (pQ ?_)))
     refine TL.run (ae rfl hf rfl omq omq) rfl (TL.run (aN hf hx rfl rfl) rfl (aB rfl rfl rfl rfl (fun b60=>?_)))
     refine TL.append (enc:=I64.cells) rfl rfl rfl hO (Src.own [x] (.here _) rfl rfl) (by simp;have:=hM.le;omega) rfl (.s2 (.skip _ .all)) rfl (fun a61 c61 ob61 hO61=>?_)
     refine l5 ?_
     exact aI (q.1+1,q.2.set x.toNat true) _ ob61 H ⟨o2q,_,hO61,hM.set h0x hbf,by rw [show(q.1+1).toNat=q.1.toNat+1 by omega,← Bv hx ⟨h0x,hbf⟩];exact hI3⟩ ky (fun w hw=>(mset hw.drop)) omq
    refine iE ?_
    exact aI (q.1+1,q.2) _ ob H ⟨o2q,_,hO,hM,by rw [show(q.1+1).toNat=q.1.toNat+1 by omega,← qH hx (by rintro⟨_,e⟩;rw [hbm] at e;cases e;simp at c48)];exact hI3⟩ ky (fun w hw=>hw) omq
   have q39:=of_decide_eq_false g39
   refine eq ?_;refine eq ?_;refine o9 ?_;refine iE ?_
   refine aI (q.1+1,q.2) _ ob H ⟨o2q,_,hO,hM,by rw [show(q.1+1).toNat=q.1.toNat+1 by omega,← qH hx (by rintro⟨e0,e⟩;have:=(List.getElem?_eq_some_iff.1 e).1;rw [hM.len] at this;omega)];exact hI3⟩ ky (fun w hw=>hw) omq
  have q30:=of_decide_eq_false g30
  refine eq ?_;refine lf ?_;refine eq ?_;refine o9 ?_;refine iE ?_
  refine aI (q.1+1,q.2) _ ob H ⟨o2q,_,hO,hM,by rw [show(q.1+1).toNat=q.1.toNat+1 by omega,← qH hx (by rintro⟨e0,e⟩;have:=(List.getElem?_eq_some_iff.1 e).1;rw [hM.len] at this;omega)];exact hI3⟩ ky (fun w hw=>hw) omq
 refine wq ?_
 refine aY (V:=fun(q:Int×List Bool) v ob H1=>[(8,v),(10,.int .i64 q.1)]) (K:=[(1,_),(3,_),(6,_),(7,_)]) (L:=fun(q:Int×List Bool) v ob H1=>St [] w0 H H ((b18,q.2.map Value.bool)::(b3,p.cells)::ob)) (I:=fun(q:Int×List Bool) v ob H1=>0≤q.1∧∃todo,OwnSl 1 I64.cells v todo ob∧Met p.points.length q.2 todo∧q.1≤todo.length∧gy p role (p.points.length - q.1.toNat) q.1.toNat q.2 todo=gy p role p.points.length 0 (iU p role frm).1 (iU p role frm).2) (μ:=fun(q:Int×List Bool)=>(p.points.length - q.1).toNat) (0,q.2) _ ob H ky ⟨by omega,_,hO,hM,by omega,by rw [← hI3,List.drop_eq_nil_of_le omq];rfl⟩ (fun w hw=>hw) (fun q v ob H1 hI=>?_)
 obtain⟨k0,todo,hO,hM,hI3,hI4⟩:=hI
 refine f8 ?_;refine TL.run (bC rfl rfl hO) rfl (zm1 ?_)
 refine af rfl ?_ ?_<;>intro c65
 ·
  have htl:=hM.le
  obtain⟨j,hj⟩:=al (l:=todo) k0 c65
  have hjr:=hM.rng j (List.mem_of_getElem? hj)
  obtain⟨x,hxp⟩:=al (l:=p.points) hjr.1 hjr.2
  have hxa:=(hp.ps x (List.mem_of_getElem? hxp)).a
  have hxm:=hxa.max
  refine wo ?_;refine cI [(0,1),(1,2),(2,1),(3,1),(4,1),(5,2),(6,1),(7,2),(8,3),(9,0)] kr kr (pR ?_);refine gQ ?_
  refine aw (bN rfl rfl hO omq omq) rfl (aW (ef (j:=0) rfl hO (.skip _ (.skip _ .all)) hj rfl) rfl (aw (ae rfl hpt rfl omq omq) rfl (aW (bg hpt hxp rfl rfl) rfl ?_)))
  refine TF.alloc rfl (fun b11=>?_)
  refine bz (gc ?_);refine jS ?_;refine jI ?_
  refine aY (V:=fun(u:Int×List Bool) v ob H1=>[(8,v),(12,.int .i64 u.1)]) (K:=[(1,_),(3,_),(6,_),(7,_),(10,_),(11,_),(62,_),(63,_),(64,_),(65,_),(68,_),(69,_),(70,_),(71,_),(72,_),(73,_),(74,_),(75,_)]) (L:=fun(u:Int×List Bool) v ob H1=>St [] w0 H H ((b11,x.cells)::(b18,u.2.map Value.bool)::(b3,p.cells)::ob)) (I:=fun(u:Int×List Bool) v ob H1=>(0≤u.1∧u.1≤x.arms.length)∧∃td,OwnSl 1 I64.cells v td ob∧Met p.points.length u.2 td∧todo.length≤td.length∧(ff x role=true→u.2=q.2∧td=todo)∧(¬ff x role=true→ik u.2 td (x.arms.drop u.1.toNat)=ik q.2 todo x.arms)) (μ:=fun(u:Int×List Bool)=>(x.arms.length - u.1).toNat) (0,q.2) _ ob H ky ⟨o2q,_,hO,hM,Nat.le_refl _,fun _=>⟨rfl,rfl⟩,fun _=>rfl⟩ (fun w hw=>hw) (fun u v ob H1 hI=>?_)
  obtain⟨⟨u0,u1⟩,td,hO,hM,hI2,hI3,hI5⟩:=hI
  refine sS ?_;refine TL.run (ai rfl rfl hxa) rfl (zm3 ?_)
  refine aj (s:=81) rfl ?_ ?_<;>intro g81
  ·
   have q81:=of_decide_eq_true g81
   refine az rfl rfl (a7 rfl (.here _) rfl) rfl (cQ ?_);refine aM rfl rfl (ab rfl rfl rfl rfl) (mB x role) rfl (gb ?_)
   refine TC.cond rfl ?_ ?_<;>intro c86
   ·
    have hnw:¬ff x role=true:=by simpa using c86
    obtain⟨a,ha⟩:=al (l:=x.arms) u0 omq
    have hax:=hN x (List.mem_of_getElem? hxp) a (List.mem_of_getElem? ha)
    refine mm ?_;refine fD ?_;refine zm0 ?_;refine wm ?_
    obtain⟨b,hbm,hb⟩:=zo (met:=u.2) (i:=a.next) omq (by rw [hM.len];omega)
    refine fi ?_;refine TL.run (aE rfl (.h1) hb) rfl (zm1 ?_)
    refine TC.cond rfl ?_ ?_<;>intro c98
    ·
     have hbf:u.2[a.next.toNat]? =some false:=by rw [hbm];simpa using c98
     refine d5 ?_;refine fD ?_;refine zm0 ?_;refine wm ?_;refine fi ?_;refine aX rfl rfl rfl (.h1) (by rw [Nat.blt_eq,List.length_map,hM.len];omega) rfl (TL.nil (ag (k8 ?_)));refine zm0 ?_
     refine wm ?_
     refine aB rfl rfl rfl rfl (fun b114=>?_)
     refine TL.append (enc:=I64.cells) rfl rfl rfl hO (Src.own [a.next] (.here _) rfl rfl) (by simp;have:=hM.le;omega) rfl (.s3 (.skip _ .all)) rfl (fun a115 c115 ob115 hO115=>?_)
     refine l5 ?_
     exact aI (u.1+1,u.2.set a.next.toNat true) _ ob115 H ⟨o2q,_,hO115,hM.set hax.1 hbf,by rw [List.length_append];omega,fun h=>absurd h hnw,fun h=>by rw [show(u.1+1).toNat=u.1.toNat+1 by omega,← CD ha hbf];exact hI5 h⟩ ky (fun w hw=>(mset1 hw.drop)) omq
    refine iE ?_
    exact aI (u.1+1,u.2) _ ob H ⟨o2q,_,hO,hM,hI2,fun h=>absurd h hnw,fun h=>by rw [show(u.1+1).toNat=u.1.toNat+1 by omega,← E1 ha (by rw [hbm];intro e;cases e;simp at c98)];exact hI5 h⟩ ky (fun w hw=>hw) omq
   have hw:ff x role=true:=by simpa using c86
   refine wl ?_
   exact aI (q.1+1,u.2) _ ob H ⟨by omega,_,hO,hM,by omega,by rw [← hI4,show(q.1+1).toNat=q.1.toNat+1 by omega,show p.points.length - q.1.toNat=(p.points.length - (q.1.toNat+1))+1 by omega,qG hj hxp (r:=(u.2,td)) (by rw [if_pos hw];obtain⟨e1,e2⟩:=hI3 hw;rw [e1,e2])]⟩ ky (fun w hw=>hw.drop) omq
  have q81:=of_decide_eq_false g81
  refine eq ?_;refine o9 ?_;refine wl ?_
  exact aI (q.1+1,u.2) _ ob H ⟨by omega,_,hO,hM,by omega,by rw [← hI4,show(q.1+1).toNat=q.1.toNat+1 by omega,show p.points.length - q.1.toNat=(p.points.length - (q.1.toNat+1))+1 by omega,qG hj hxp (r:=(u.2,td)) (by by_cases hw:ff x role=true;(rw [if_pos hw];obtain⟨e1,e2⟩:=hI3 hw;rw [e1,e2]);(rw [if_neg hw,← hI5 hw,List.drop_eq_nil_of_le omq];rfl))]⟩ ky (fun w hw=>hw.drop) omq
 refine gn ?_;refine jR ?_
 refine aY (V:=fun k v ob H1=>[(13,v),(14,.int .i64 k)]) (K:=[(6,_),(7,_)]) (L:=fun k v ob H1=>St [] w0 H H ((b18,q.2.map Value.bool)::(b3,p.cells)::ob)) (I:=fun k v ob H1=>(0≤k∧k≤p.points.length)∧OwnSl 1 I64.cells v (jX q.2 k.toNat) ob) (μ:=fun k=>(p.points.length - k).toNat) 0 (.slice none 0 0) [] H ky ⟨o2q,OwnSl.nil⟩ (fun w hw=>St.dropT (A:=[(b18,_),(b3,_)]) hw) (fun k v ob H1 hI=>?_)
 obtain⟨⟨k0,k1⟩,hO⟩:=hI
 refine f8 ?_;refine TL.run (dj rfl rfl) rfl (zm1 ?_)
 refine af rfl ?_ ?_<;>intro c119
 ·
  obtain⟨b,hbm,hb⟩:=zo (met:=q.2) (i:=k) omq (by rw [hM.len];omega)
  refine qc ?_;refine fi ?_;refine TL.run (aE rfl (.here _) hb) rfl (TL.nil (ag (TC.cond rfl (fun c125=>?_) (fun c125=>?_))))
  ·
   refine lW ?_
   refine aB rfl rfl rfl rfl (fun b128=>?_)
   refine TL.append (enc:=I64.cells) rfl rfl rfl hO (Src.own [k] (.here _) rfl rfl) (by simp;have:=tR q.2 k.toNat;omega) rfl (.s2 (.skip _ .all)) rfl (fun a129 c129 ob129 hO129=>?_)
   refine l5 ?_
   exact aI (k+1) _ ob129 H ⟨o2q,by rw [Bm k0 (by rw [hbm,c125])];exact hO129⟩ ky (fun w hw=>hw.drop) omq
  refine iE ?_
  exact aI (k+1) _ ob H ⟨o2q,by rw [Dw k0 (by rw [hbm];simpa using c125)];exact hO⟩ ky (fun w hw=>hw) omq
 refine sj ?_
 exact ez (.inr rfl) (ad rfl (RVal.tmp rfl)) (.skip _ (.skip _ .all)) ⟨rfl,hO.cast (by unfold cZ;rw [← hI4,Bu omq];show jX q.2 k.toNat=jX q.2 q.2.length;rw [hM.len];congr 1;omega)⟩
end Go.Sx
namespace Go.Sx
open Go Go.Proofs
theorem AQ {H:Hp}{p:SProto}(role:Str)(hp:ProtoOk H p){lv:Value}{l:List Int}(hl:RdSl H 1 I64.cells lv l)(hr:∀j∈l,0≤j∧j<p.points.length)(hll:l.length≤100000):
  FnO Tryz.prog 171 [.agg p.cells.toArray,gs role,lv] H (fun v H1 ob=>H1=H∧OwnSl 1 I64.cells v (ej p role l) ob):=by
 have hpt:=hp.pt
 refine FnO.enter Tryz.func171 Tryz.ntmps171 rfl rfl (fun w0=>?_)
 refine zm2 ?_
 refine TL.box rfl rfl (fun b3=>?_)
 refine zm1 ?_;refine jR ?_
 refine aY (V:=fun k v ob H1=>[(7,v),(8,.int .i64 k)]) (K:=[(1,_),(2,_),(3,_),(6,_)]) (L:=fun k v ob H1=>St [] w0 H H ((b3,p.cells)::ob)) (I:=fun k v ob H1=>(0≤k∧k≤l.length)∧OwnSl 1 I64.cells v (ej p role (l.take k.toNat)) ob) (μ:=fun k=>(l.length - k).toNat) 0 (.slice none 0 0) [] H ky ⟨o2q,OwnSl.nil⟩ (fun w hw=>hw) (fun k v ob H1 hI=>?_)
 obtain⟨⟨k0,k1⟩,hO⟩:=hI
 refine f8 ?_;refine TL.run (ai rfl rfl hl) rfl (zm1 ?_)
 refine af rfl ?_ ?_<;>intro c12
 ·
  obtain⟨j,hx⟩:=al (l:=l) k0 c12
  have hjr:=hr j (List.mem_of_getElem? hx)
  obtain⟨x,hxp⟩:=al (l:=p.points) hjr.1 hjr.2
  refine pY ?_;refine wk ?_
  refine TQ.run (ae rfl hl rfl omq omq) rfl (TQ.run (aN hl hx rfl rfl) rfl (TQ.run (ae rfl hpt rfl omq omq) rfl (TQ.run (bg hpt hxp rfl rfl) rfl ?_)))
  refine TQ.run (aF rfl) rfl (il (ab rfl rfl rfl rfl) (mB x role) rfl (TQ.nil (ag ?_)))
  refine TC.cond rfl ?_ ?_<;>intro c24
  ·
   refine pQ ?_;refine TL.run (ae rfl hl rfl omq omq) rfl (TL.run (aN hl hx rfl rfl) rfl (aB rfl rfl rfl rfl (fun b30=>?_)))
   refine TL.append (enc:=I64.cells) rfl rfl rfl hO (Src.own [j] (.here _) rfl rfl) (by have:=nE (p:=p) (role:=role) (l.take k.toNat);have:=List.length_take_le k.toNat l;simp only [List.length_cons,List.length_nil];have:=List.length_take_le' k.toNat l;omega) rfl (.skip _ (.skip _ .all)) rfl (fun a31 c31 ob31 hO31=>?_)
   refine l5 ?_
   exact aI (k+1) _ ob31 H ⟨o2q,by rw [Eh k0 hx (by unfold inP;rw [hxp];exact c24)];exact hO31⟩ ky (fun w hw=>hw.drop) omq
  refine iE ?_
  exact aI (k+1) _ ob H ⟨o2q,by rw [near_no k0 hx (by unfold inP;rw [hxp];simpa using c24)];exact hO⟩ ky (fun w hw=>hw) omq
 refine sj ?_
 exact ez (.inr rfl) (ad rfl (RVal.tmp rfl)) (.skip _ .all) ⟨rfl,hO.cast (by rw [bA c12 k0])⟩
theorem lost_ok {H:Hp}{p:SProto}(role:Str)(hp:ProtoOk H p)(hN:nY p)(hn:p.points.length≤1000)(at_:Int):
  Fn Tryz.prog 172 [.agg p.cells.toArray,gs role,.int .i64 at_] H (fun v H1=>v= .bool (lo p role at_)):=by
 refine Fn.enter Tryz.func172 Tryz.ntmps172 rfl rfl (fun w0=>?_)
 refine zm2 ?_
 refine TL.box rfl rfl (fun b3=>?_)
 refine wC ?_
 refine aT [true] [(0,4),(1,1),(2,4),(3,1),(4,1),(5,3),(6,5),(7,5),(8,1),(9,1),(10,1)] kr kr (aJ (S1 SN) (Hp.le.refl _) (fun _ _=>a7 rfl (.here _) rfl) rfl (zm7 ?_))
 refine aJ (S1 SN) (Hp.le.refl _) (fun _ _=>a7 rfl (.here _) rfl) rfl (gQ ?_)
 refine aC rfl rfl rfl rfl (fun b12=>?_)
 refine TF.pub sq (fun H_b12 le_b12 rd_b12=>?_)
 replace hp:=hp.le le_b12
 have hA12:RdSl H_b12 1 I64.cells (.slice (some ⟨b12,0,none⟩) 1 1) [at_]:=RdSl.blk (l:=[at_]) (enc:=I64.cells) rd_b12 (by intro x hx;rfl) rfl (by show 1≤9223372036854775807;decide)
 refine ao rfl (cV (ab rfl rfl rfl rfl) (AB role hp hN hn hA12 sq) rfl (fun v13 H13 ob13 hle13 hp13=>?_))
 obtain⟨eH13,hO13⟩:=hp13
 subst H13
 obtain⟨a13,c13,rfl⟩:=hO13.form
 refine TL.pubO hO13 (.skip _ .all) sq (fun HP13 leP13 hR13=>?_)
 replace hp:=hp.le leP13
 refine aq (S1 SN) (le_b12.trans (leP13)) (ao rfl (cV (ab rfl rfl rfl rfl) (AQ role hp hR13 (nl hN) (by have:=kE (role:=role) hN (frm:=[at_]);omega)) rfl (fun v14 H14 ob14 hle14 hp14=>?_)))
 obtain⟨eH14,hO14⟩:=hp14
 subst H14
 obtain⟨a14,c14,rfl⟩:=hO14.form
 refine TL.pubO hO14 (.skip _ .all) sq (fun HP14 leP14 hQ14=>?_)
 refine aq (S1 SN) (le_b12.trans (leP13.trans (leP14))) (aw (ai rfl rfl hQ14) rfl (gQ ?_))
 exact TF.nil (ag (TC.ret (aR (.inr rfl) (ad rfl (RVal.tmp rfl)) (congrArg Value.bool (by unfold lo;exact decide_eq_decide.2 omq)))))
end Go.Sx
namespace Go.Sx
open Go Go.Proofs
theorem AT {H:Hp}{p:SProto}(role:Str)(hp:ProtoOk H p)(hN:nY p)(hn:p.points.length≤1000){bw:Nat}{sv:Value}{ob:ak}{rows:List GRow}(hO:OwnSl 1 GRow.cells sv rows ob)(hrw:GRowsOk H rows)(hrl:rows.length≤40){fv:Value}{frm:List Int}(hf:RdSl H 1 I64.cells fv frm)(hfl:frm.length≤1000):
  FnX Tryz.prog 125 [.pointer (some ⟨bw,0,none⟩),fv] H ((bw,WK p role sv)::ob) (fun v H1 L1=>∃sv' ob' rows',L1=(bw,WK p role sv')::ob'∧OwnSl 1 GRow.cells sv' rows' ob'∧GRowsOk H1 rows'∧rows'.length≤40∧rows'.map (·.l)=(bS p role (rows.map (·.l)) frm).2.2∧v= .tuple #[.int .i64 (bS p role (rows.map (·.l)) frm).1,.int .i64 (bS p role (rows.map (·.l)) frm).2.1]):=by
 obtain⟨sva,svc,rfl⟩:=hO.form
 have hsl:=kE (role:=role) hN (frm:=frm)
 have hnl:=nE (p:=p) (role:=role) (cZ p role frm)
 refine FnX.enterM Tryz.func125 Tryz.ntmps125 rfl rfl (fun w0 M hM=>?_)
 refine dN ?_;refine lz ?_;refine zm355 ?_;refine iR ?_;refine aJ (S1 SN) (Hp.le.refl _) (fun _ _=>jx rfl (.here _) rfl) rfl (iR ?_);refine wj ?_;refine zm7 ?_
 refine ao rfl (kR (ab rfl rfl rfl rfl) (AB role hp hN hn hf hfl) rfl (fun v19 H19 ob19 hf19 hle19 hp19=>?_))
 obtain⟨eH19,hO19⟩:=hp19
 subst H19
 obtain⟨a19,c19,rfl⟩:=hO19.form
 refine TL.pubO hO19 (.skip _ (.past _ .all)) (fun p hp hm=>absurd (hM _ hm) (Nat.not_lt.2 (hf19 p hp))) (fun HP19 leP19 hA19=>?_)
 replace hp:=hp.le leP19
 replace hrw:=hrw.le leP19
 refine aq (S1 SN) leP19 (zm7 ?_);refine TF.nil (ag (lz ?_));refine zm355 ?_;refine iR ?_;refine aJ (S1 SN) (Hp.le.refl _) (fun _ _=>jx rfl (.here _) rfl) rfl (iR ?_);refine wj ?_;refine zm7 ?_
 refine ao rfl (kR (ab rfl rfl rfl rfl) (AQ role hp hA19 (nl hN) (by have:=kE (role:=role) hN (frm:=frm);omega)) rfl (fun v29 H29 ob29 hf29 hle29 hp29=>?_))
 obtain⟨eH29,hO29⟩:=hp29
 subst H29
 obtain⟨a29,c29,rfl⟩:=hO29.form
 refine TL.pubO hO29 (.skip _ (.past _ .all)) (fun p hp hm=>absurd (hM _ hm) (Nat.not_lt.2 (hf29 p hp))) (fun HP29 leP29 hB29=>?_)
 replace hp:=hp.le leP29
 replace hrw:=hrw.le leP29
 replace hA19:=hA19.le leP29
 have hB1:=hB29
 have hA1:=hA19
 have hp1:=hp
 have hrw1:=hrw
 refine aq (S1 SN) leP29 (zm7 ?_);refine TF.nil (ag (jT ?_))
 refine aY (V:=fun k v obx H1=>[(8,.int .i64 k)]) (K:=[(0,_),(4,_),(5,_),(6,_),(7,_)]) (L:=fun k v obx H1=>St M w0 H H1 ((bw,WK p role (.slice sva rows.length svc))::ob)) (I:=fun k v obx H1=>(0≤k∧k≤(cZ p role frm).length)∧HP29.le H1∧∀j:Nat,j<k.toNat→∀i,(cZ p role frm)[j]? =some i→lo p role i=false) (μ:=fun k=>((cZ p role frm).length - k).toNat) 0 (.slice none 0 0) [] HP29 ky ⟨o2q,.refl _,fun j h=>absurd h omq⟩ (fun w hw=>by simpa only [List.append_nil] using hw) (fun k v obx H1 hI=>?_)
 obtain⟨⟨k0,k1⟩,hI1,hI2⟩:=hI
 have hA2:=hA1.le hI1
 have hB2:=hB1.le hI1
 have hp2:=hp1.le hI1
 replace hrw1:=hrw1.le hI1
 refine f8 ?_;refine TL.run (ai rfl rfl hA2) rfl (zm3 ?_)
 refine aj (s:=34) rfl ?_ ?_<;>intro g34
 ·
  have q34:=of_decide_eq_true g34
  refine cQ ?_;refine az rfl rfl (ai rfl rfl hB2) rfl (gb ?_)
  refine af rfl ?_ ?_<;>intro c38
  ·
   have hn0:0<(ej p role (cZ p role frm)).length:=by omega
   obtain⟨j,hx⟩:=al (l:=(cZ p role frm)) k0 omq
   refine wo ?_;refine aT [true] [(0,1),(1,1),(2,1),(3,4),(4,1),(5,1),(6,1),(7,4),(8,1),(9,1),(10,1),(11,4),(12,5)] kr kr (iR ?_)
   refine aJ (S1 SN) (Hp.le.refl _) (fun _ _=>jx rfl (.here _) rfl) rfl (iR ?_);refine wj ?_;refine gQ ?_
   refine aw (ae rfl hA2 rfl omq omq) rfl (aJ (S1 SN) (Hp.le.refl _) (fun _ _=>aN hA2 hx rfl rfl) rfl (ao rfl (TL.call (ab rfl rfl rfl rfl) (lost_ok role hp2 hN hn j) rfl (fun v53 H53 hle53 hp53=>?_))))
   replace hrw1:=hrw1.le hle53
   subst hp53
   refine aq (S1 SN) hle53 (TF.nil (ag (TC.cond rfl (fun c53=>?_) (fun c53=>?_))))
   ·
    refine w5 ?_
    have hEq:=Ce (sets:=rows.map (·.l)) hx c53 hn0
    exact aU (.inr rfl) (co rfl (RVal.tmp rfl) (RVal.tmp rfl)) (fun w hw=>hw) ⟨_,_,rows,rfl,hO,hrw1,hrl,by rw [hEq],by rw [hEq]⟩
   refine iE ?_
   exact aI (k+1) (.slice none 0 0) [] H53 ⟨o2q,hI1.trans hle53,fun j2 h2 i hi=>by by_cases e:j2<k.toNat;exact hI2 j2 e i hi;rw [show j2=k.toNat by omega,hx] at hi;cases hi;simpa using c53⟩ ky (fun w hw=>hw) omq
  exact zq374
 have q34:=of_decide_eq_false g34
 refine jj ?_;refine o9 ?_
 exact zq374
end Go.Sx
