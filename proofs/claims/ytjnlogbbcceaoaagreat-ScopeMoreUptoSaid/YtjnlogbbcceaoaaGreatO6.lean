import Derived.Test.YtjnlogbbcceaoaaGreatO5
set_option linter.all false
set_option maxRecDepth 100000
set_option maxHeartbeats 32000000
namespace Go.Sx
open Go Go.Proofs
theorem tJ {H:Hp}{bd:Nat}{dl:Value}{at_:Int}(hd:DiceOk H dl at_){tv:Value}{types:List Str}(hty:RdSl H 1 Str.cells tv types)(htn:∀s∈types,TyNm s)(htl:types.length≤100)(name:Str):
  DFn Tryz.prog bd dl at_ 168 [gs name,.int .i64 2,tv] H (fun v H1 ob=>ob=[]∧(H.le H1∧∃p:SProto,v= .agg p.cells.toArray∧ProtoOk H1 p∧p.name=name∧p.roles=rolesL.take 2)):=by
 have hrl:(rolesL.take (2:Int).toNat).length=2:=rfl
 refine FnX.enter Tryz.func168 Tryz.ntmps168 rfl rfl (fun w0=>?_)
 refine zm2 ?_
 refine TL.alloc rfl (fun b8=>?_)
 refine fY ?_
 refine TL.call (ab rfl rfl rfl rfl) (gP) rfl (fun v19 H19 hle19 hp19=>?_)
 replace hd:=hd.le hle19
 replace hty:=hty.le hle19
 have hro19:=hp19
 obtain⟨ra19,rc19,rfl⟩:=hro19.len
 have hcp:5≤rc19:=hro19.room _ _ _ rfl
 have hsl:=hro19.sliced (i:=0) (j:=(2:Int).toNat) om dq
 have hle0:=hle19
 refine zm0 ?_;refine r9 ?_
 refine TL.append (enc:=Str.cells) rfl rfl rfl (OwnSl.nil (enc:=Str.cells)) (Src.sl hsl) (by simp only [List.length_drop,List.length_nil];omega) rfl (.new _ rfl) rfl (fun a22 c22 ob22 hO22=>?_)
 refine cE ?_
 refine TL.alloc rfl (fun b9=>?_)
 refine r7 ?_
 refine dh (X:=[(b9,_),(b8,_),(bd,_)]) hO22 rfl (by simp [keys]) (fun HR leR hR=>?_)
 replace hd:=hd.le leR
 replace hty:=hty.le leR
 replace hle0:=hle0.trans leR
 have hrs0:RdSl HR 1 Str.cells (.slice a22 (rolesL.take (2:Int).toNat).length c22) (rolesL.take (2:Int).toNat):=hR
 have hty1:=hty
 have hleR:=hle0
 refine ae (oD (V:=fun(q:Q4)=>[(10,gs q.a),(11,gs q.b)]) (K:=[(0,_),(2,_),(3,_),(8,_),(9,_)]) ky (L:=fun(q:Q4)=>St (keys [(bd,[dl,.int .i64 at_])]) w0 H q.h [(b9,[gs name,.slice a22 (rolesL.take (2:Int).toNat).length c22,.slice none 0 0]),(b8,[gs [],.slice none 0 0,.slice none 0 0]),(bd,[dl,.int .i64 q.at_])]) (I:=fun(q:Q4)=>DiceOk q.h dl q.at_∧HR.le q.h) ?_ ?_)
 · exact xW
 intro q hI
 obtain⟨hI1,hI2⟩:=hI
 have hty:=hty1.le hI2
 have hrs:=hrs0.le hI2
 have hle:=hleR.trans hI2
 refine cZ ?_
 refine az (X:=[(b9,_),(b8,_)]) (bd:=bd) rfl (ab rfl rfl rfl rfl) (aV 2 om hI1) rfl (fun v36 H36 at36 hle36 hd36 hp36=>?_)
 obtain⟨eH36,r36,rfl,hr36⟩:=hp36
 replace eH36:=eH36.symm;subst eH36
 have hra36:=hr36.1
 have hrb36:=hr36.2.1 om
 refine jr ?_;refine cZ ?_
 refine az (X:=[(b9,_),(b8,_)]) (bd:=bd) rfl (ab rfl rfl rfl rfl) (fi hd36) rfl (fun v39 H39 at39 hle39 hd39 hp39=>?_)
 obtain⟨eH39,k39,rfl,hk39⟩:=hp39
 replace eH39:=eH39.symm;subst eH39
 refine TL.alloc rfl (fun b13=>?_)
 refine lP ?_;refine yo ?_;refine rj ?_;refine py ?_;refine py ?_;refine zm6 ?_;refine rZ ?_;refine dj ?_;refine rY ?_
 refine aA rfl rfl rfl rfl (fun b55=>?_)
 refine dj ?_
 refine aA rfl rfl rfl rfl (fun b57=>?_)
 refine ak rfl (TL.append (enc:=SPoint.cells) rfl rfl rfl (OwnSl.nil (enc:=SPoint.cells)) (Src.own [⟨_,_,[⟨[],0,[],0⟩,⟨[],0,[],0⟩],(some ⟨b55,0,none⟩,2)⟩] (.here _) rfl rfl) sq rfl (.new _ rfl) rfl (fun a58 c58 ob58 hO58=>?_))
 refine al (S0 (S0 (S1 (S1 (S1 (S1 SN)))))) (Hp.le.refl _) (eY ?_);refine j5 ?_;refine ik ?_;refine lR ?_;refine TC.rounds 1 (vu ?_);refine dR rfl (gG ?_);refine ja ?_
 refine ag rfl ?_ ?_<;>intro c93
 ·
  refine d3 ?_;refine zm343 ?_;refine ii ?_;refine ii ?_;refine zm6 ?_;refine ar (fq rfl rfl om om) rfl (jQ ?_);refine px ?_;refine ii ?_;refine jQ ?_;refine px ?_;refine zm6 ?_
  refine ak rfl (az (X:=[(b57,_),(b55,_),(b13,_),(b9,_),(b8,_)]) (bd:=bd) rfl (ab rfl rfl rfl rfl) (fi hd39) rfl (fun v107 H107 at107 hle107 hd107 hp107=>?_))
  obtain⟨eH107,k107,rfl,hk107⟩:=hp107
  replace eH107:=eH107.symm;subst eH107
  refine al (S1 (S1 (S1 (S1 (S1 SN))))) (Hp.le.refl _) (dj ?_)
  refine aA rfl rfl rfl rfl (fun b109=>?_)
  refine dj ?_
  refine aA rfl rfl rfl rfl (fun b111=>?_)
  refine ak rfl (TL.append (enc:=SPoint.cells) rfl rfl rfl hO58 (Src.own [⟨_,_,[⟨[],0,[],0⟩],(some ⟨b109,0,none⟩,1)⟩] (.here _) rfl rfl) sq rfl (.s7 (.skip _ .all)) rfl (fun a112 c112 ob112 hO112=>?_))
  refine al (S0 (S0 (S1 (S1 (S1 (S1 (S1 SN))))))) (Hp.le.refl _) (eY ?_);refine rX ?_;refine ik ?_;refine fm ?_;refine m8 ?_;refine TL.run (bj rfl rfl hO112) rfl (qu ?_);refine m8 ?_
  refine TL.run (bP rfl rfl hO112 sq sq) rfl (zm8 ?_)
  refine TL.run (PR.to (dU rfl hO112 (.s7 (.skip _ .all)) rfl rfl) (rfl:_=Value.slice (some ⟨b55,0,none⟩) 2 2)) rfl (pw ?_);refine j5 ?_
  refine pu ?_;refine TC.rounds 1 (vu ?_);refine dR rfl (m7 ?_);refine m8 ?_;refine cE ?_
  refine ax rfl rfl rfl rfl (fun b170=>?_)
  refine TL.append (enc:=SPoint.cells) rfl rfl rfl hO112 (Src.own [em] (.here _) rfl rfl) sq rfl (.s8 (.skip _ .all)) rfl (fun a171 c171 ob171 hO171=>?_)
  refine zm8 ?_;refine aZ rfl rfl rfl (.h6) rfl rfl (fz ?_)
  refine TL.run (aU rfl (.h6) rfl) rfl (cf rfl rfl rfl rfl rfl (.h7) rfl rfl (TL.nil (ae ?_)))
  refine TC.ret (pq ?_)
  refine bY (by simp [keys]) (fun H_b55 le_b55 rd_b55=>?_)
  replace hrs:=hrs.le le_b55
  replace hle:=hle.trans le_b55
  replace hd107:=hd107.le le_b55
  obtain⟨l_b55,n_b55,hA_b55,z_b55⟩:=iR rd_b55 (by first | simp | (have:=hc82.len htn;omega)) (by first | simp | (have:=hc82.len htn;omega))
  refine lO ?_
  refine bY (by simp [keys]) (fun H_b109 le_b109 rd_b109=>?_)
  replace hrs:=hrs.le le_b109
  replace hle:=hle.trans le_b109
  replace hd107:=hd107.le le_b109
  replace hA_b55:=hA_b55.le le_b109
  obtain⟨l_b109,n_b109,hA_b109,z_b109⟩:=dn rd_b109 (by first | simp | (have:=hc82.len htn;omega))
  refine dh (X:=[(b170,_),(b111,_),(b57,_),(b13,_),(b9,_),(b8,_),(bd,_)]) hO171 rfl (by simp [keys]) (fun H2 hle2 hP=>?_)
  replace hrs:=hrs.le hle2
  replace hle:=hle.trans hle2
  replace hd107:=hd107.le hle2
  replace hA_b55:=hA_b55.le hle2
  replace hA_b109:=hA_b109.le hle2
  have hP2:=hP.recell (l':=[⟨[97],[98],l_b55,(some ⟨b55,0,none⟩,2)⟩,⟨[98],[97],l_b109,(some ⟨b109,0,none⟩,1)⟩,em]) (by simp only [List.nil_append,List.cons_append,List.map_cons,List.map_nil,SPoint.cells,n_b55,n_b109];rfl)
  have hPK:∀x∈([⟨[97],[98],l_b55,(some ⟨b55,0,none⟩,2)⟩,⟨[98],[97],l_b109,(some ⟨b109,0,none⟩,1)⟩,em]:List SPoint),PointOk H2 x:=by
   intro x hx;simp only [List.mem_cons,List.not_mem_nil,or_false] at hx
   rcases hx with rfl | rfl | rfl
   · exact⟨by show RdSl H2 4 SArm.cells (.slice (some ⟨b55,0,none⟩) l_b55.length _) l_b55;rw [n_b55];exact hA_b55,z_b55⟩
   · exact⟨by show RdSl H2 4 SArm.cells (.slice (some ⟨b109,0,none⟩) l_b109.length _) l_b109;rw [n_b109];exact hA_b109,z_b109⟩
   · exact gR
  exact aO (.inr rfl) (ad rfl (RVal.cellA rfl (.h5) rfl)) (fun w hw=>hw.drop.drop.drop.drop.drop.drop) ⟨_,[],rfl,hd107,rfl,hle,⟨name,(rolesL.take (2:Int).toNat),(a22,c22),[⟨[97],[98],l_b55,(some ⟨b55,0,none⟩,2)⟩,⟨[98],[97],l_b109,(some ⟨b109,0,none⟩,1)⟩,em],(a171,c171)⟩,rfl,⟨hrs,hP2,hPK⟩,rfl,rfl⟩
 refine fm ?_;refine oI ?_;refine TL.run (bj rfl rfl hO58) rfl (TL.run (fq rfl rfl sq sq) rfl (zm1 ?_));refine TC.region (zm8 ?_);refine oI ?_;refine zm0 ?_
 refine TL.run (bP rfl rfl hO58 sq sq) rfl (zm8 ?_);refine zm312 ?_;refine vt ?_;refine jM ?_;refine rW ?_;refine oI ?_;refine TL.run (bj rfl rfl hO58) rfl (qu ?_);refine oI ?_
 refine TL.run (bP rfl rfl hO58 sq sq) rfl (zm8 ?_);refine zm312 ?_;refine pw ?_;refine jM ?_;refine pu ?_;refine TC.rounds 1 (vu ?_);refine dR rfl (m7 ?_);refine oI ?_
 refine cE ?_
 refine ax rfl rfl rfl rfl (fun b170=>?_)
 refine TL.append (enc:=SPoint.cells) rfl rfl rfl hO58 (Src.own [em] (.here _) rfl rfl) sq rfl (.s6 (.skip _ .all)) rfl (fun a171 c171 ob171 hO171=>?_)
 refine zm8 ?_;refine aZ rfl rfl rfl (.h4) rfl rfl (fz ?_);refine TL.run (aU rfl (.h4) rfl) rfl (j4 ?_)
 refine lO ?_
 refine bY (by simp [keys]) (fun H_b55 le_b55 rd_b55=>?_)
 replace hrs:=hrs.le le_b55
 replace hle:=hle.trans le_b55
 replace hd39:=hd39.le le_b55
 obtain⟨l_b55,n_b55,hA_b55,z_b55⟩:=iR rd_b55 (by first | simp | (have:=hc82.len htn;omega)) (by first | simp | (have:=hc82.len htn;omega))
 refine dh (X:=[(b170,_),(b57,_),(b13,_),(b9,_),(b8,_),(bd,_)]) hO171 rfl (by simp [keys]) (fun H2 hle2 hP=>?_)
 replace hrs:=hrs.le hle2
 replace hle:=hle.trans hle2
 replace hd39:=hd39.le hle2
 replace hA_b55:=hA_b55.le hle2
 have hP2:=hP.recell (l':=[⟨[97],[98],l_b55,(some ⟨b55,0,none⟩,2)⟩,em]) (by simp only [List.nil_append,List.cons_append,List.map_cons,List.map_nil,SPoint.cells,n_b55];rfl)
 have hPK:∀x∈([⟨[97],[98],l_b55,(some ⟨b55,0,none⟩,2)⟩,em]:List SPoint),PointOk H2 x:=by
  intro x hx;simp only [List.mem_cons,List.not_mem_nil,or_false] at hx
  rcases hx with rfl | rfl
  · exact⟨by show RdSl H2 4 SArm.cells (.slice (some ⟨b55,0,none⟩) l_b55.length _) l_b55;rw [n_b55];exact hA_b55,z_b55⟩
  · exact gR
 exact aO (.inr rfl) (ad rfl (RVal.cellA rfl (.h4) rfl)) (fun w hw=>hw.drop.drop.drop.drop.drop) ⟨_,[],rfl,hd39,rfl,hle,⟨name,(rolesL.take (2:Int).toNat),(a22,c22),[⟨[97],[98],l_b55,(some ⟨b55,0,none⟩,2)⟩,em],(a171,c171)⟩,rfl,⟨hrs,hP2,hPK⟩,rfl,rfl⟩
theorem tI {H:Hp}{bd:Nat}{dl:Value}{at_:Int}(hd:DiceOk H dl at_){tv:Value}{types:List Str}(hty:RdSl H 1 Str.cells tv types)(htn:∀s∈types,TyNm s)(htl:types.length≤100)(name:Str):
  DFn Tryz.prog bd dl at_ 168 [gs name,.int .i64 3,tv] H (fun v H1 ob=>ob=[]∧(H.le H1∧∃p:SProto,v= .agg p.cells.toArray∧ProtoOk H1 p∧p.name=name∧p.roles=rolesL.take 3)):=by
 have hrl:(rolesL.take (3:Int).toNat).length=3:=rfl
 refine FnX.enter Tryz.func168 Tryz.ntmps168 rfl rfl (fun w0=>?_)
 refine zm2 ?_
 refine TL.alloc rfl (fun b8=>?_)
 refine fY ?_
 refine TL.call (ab rfl rfl rfl rfl) (gP) rfl (fun v19 H19 hle19 hp19=>?_)
 replace hd:=hd.le hle19
 replace hty:=hty.le hle19
 have hro19:=hp19
 obtain⟨ra19,rc19,rfl⟩:=hro19.len
 have hcp:5≤rc19:=hro19.room _ _ _ rfl
 have hsl:=hro19.sliced (i:=0) (j:=(3:Int).toNat) om dq
 have hle0:=hle19
 refine zm0 ?_;refine r9 ?_
 refine TL.append (enc:=Str.cells) rfl rfl rfl (OwnSl.nil (enc:=Str.cells)) (Src.sl hsl) (by simp only [List.length_drop,List.length_nil];omega) rfl (.new _ rfl) rfl (fun a22 c22 ob22 hO22=>?_)
 refine cE ?_
 refine TL.alloc rfl (fun b9=>?_)
 refine r7 ?_
 refine dh (X:=[(b9,_),(b8,_),(bd,_)]) hO22 rfl (by simp [keys]) (fun HR leR hR=>?_)
 replace hd:=hd.le leR
 replace hty:=hty.le leR
 replace hle0:=hle0.trans leR
 have hrs0:RdSl HR 1 Str.cells (.slice a22 (rolesL.take (3:Int).toNat).length c22) (rolesL.take (3:Int).toNat):=hR
 have hty1:=hty
 have hleR:=hle0
 refine ae (oD (V:=fun(q:Q4)=>[(10,gs q.a),(11,gs q.b)]) (K:=[(0,_),(2,_),(3,_),(8,_),(9,_)]) ky (L:=fun(q:Q4)=>St (keys [(bd,[dl,.int .i64 at_])]) w0 H q.h [(b9,[gs name,.slice a22 (rolesL.take (3:Int).toNat).length c22,.slice none 0 0]),(b8,[gs [],.slice none 0 0,.slice none 0 0]),(bd,[dl,.int .i64 q.at_])]) (I:=fun(q:Q4)=>DiceOk q.h dl q.at_∧HR.le q.h) ?_ ?_)
 · exact xW
 intro q hI
 obtain⟨hI1,hI2⟩:=hI
 have hty:=hty1.le hI2
 have hrs:=hrs0.le hI2
 have hle:=hleR.trans hI2
 refine cZ ?_
 refine az (X:=[(b9,_),(b8,_)]) (bd:=bd) rfl (ab rfl rfl rfl rfl) (aV 2 om hI1) rfl (fun v36 H36 at36 hle36 hd36 hp36=>?_)
 obtain⟨eH36,r36,rfl,hr36⟩:=hp36
 replace eH36:=eH36.symm;subst eH36
 have hra36:=hr36.1
 have hrb36:=hr36.2.1 om
 refine jr ?_;refine cZ ?_
 refine az (X:=[(b9,_),(b8,_)]) (bd:=bd) rfl (ab rfl rfl rfl rfl) (fi hd36) rfl (fun v39 H39 at39 hle39 hd39 hp39=>?_)
 obtain⟨eH39,k39,rfl,hk39⟩:=hp39
 replace eH39:=eH39.symm;subst eH39
 refine TL.alloc rfl (fun b13=>?_)
 refine lP ?_;refine yo ?_;refine rj ?_;refine py ?_;refine py ?_;refine zm6 ?_;refine rZ ?_;refine dj ?_;refine rY ?_
 refine aA rfl rfl rfl rfl (fun b55=>?_)
 refine dj ?_
 refine aA rfl rfl rfl rfl (fun b57=>?_)
 refine ak rfl (TL.append (enc:=SPoint.cells) rfl rfl rfl (OwnSl.nil (enc:=SPoint.cells)) (Src.own [⟨_,_,[⟨[],0,[],0⟩,⟨[],0,[],0⟩],(some ⟨b55,0,none⟩,2)⟩] (.here _) rfl rfl) sq rfl (.new _ rfl) rfl (fun a58 c58 ob58 hO58=>?_))
 refine al (S0 (S0 (S1 (S1 (S1 (S1 SN)))))) (Hp.le.refl _) (eY ?_);refine j5 ?_;refine ik ?_;refine lR ?_;refine TC.rounds 2 (po ?_);refine zm313 ?_;refine ii ?_;refine ii ?_;refine j3 ?_
 refine px ?_;refine ii ?_;refine jZ ?_;refine px ?_;refine lS ?_;refine ii ?_
 refine ar (bj rfl rfl hO58) rfl (ar (ej rfl rfl sq sq) rfl (ak rfl (az (X:=[(b57,_),(b55,_),(b13,_),(b9,_),(b8,_)]) (bd:=bd) rfl (ab rfl rfl rfl rfl) (ez hd39 hty htn htl) rfl (fun v82_0 H82_0 at82_0 hle82_0 hd82_0 hp82_0=>?_))))
 obtain⟨eH82_0,k82_0,nm82_0,rfl,hc82_0⟩:=hp82_0
 replace eH82_0:=eH82_0.symm;subst eH82_0
 refine al (S1 (S1 (S1 (S1 (S1 SN))))) (Hp.le.refl _) (dj ?_)
 refine aA rfl rfl rfl rfl (fun b88=>?_)
 refine dj ?_
 refine aA rfl rfl rfl rfl (fun b90=>?_)
 refine ak rfl (TL.append (enc:=SPoint.cells) rfl rfl rfl hO58 (Src.own [⟨_,_,[⟨[],0,[],0⟩],(some ⟨b88,0,none⟩,1)⟩] (.here _) rfl rfl) sq rfl (.s7 (.skip _ .all)) rfl (fun a91_0 c91_0 ob91_0 hO91_0=>?_))
 refine al (S0 (S0 (S1 (S1 (S1 (S1 (S1 SN))))))) (Hp.le.refl _) (eY ?_);refine rX ?_;refine pm ?_;refine gG ?_;refine ja ?_
 refine ag rfl ?_ ?_<;>intro c93
 ·
  refine d3 ?_;refine zm344 ?_;refine pj ?_;refine pj ?_;refine zm6 ?_;refine ar (fq rfl rfl om om) rfl (jQ ?_);refine vM ?_;refine pj ?_;refine jQ ?_;refine vM ?_
  refine zm6 ?_;refine ak rfl (az (X:=[(b90,_),(b88,_),(b57,_),(b55,_),(b13,_),(b9,_),(b8,_)]) (bd:=bd) rfl (ab rfl rfl rfl rfl) (fi hd82_0) rfl (fun v107 H107 at107 hle107 hd107 hp107=>?_))
  obtain⟨eH107,k107,rfl,hk107⟩:=hp107
  replace eH107:=eH107.symm;subst eH107
  refine al (S1 (S1 (S1 (S1 (S1 (S1 (S1 SN))))))) (Hp.le.refl _) (dj ?_)
  refine aA rfl rfl rfl rfl (fun b109=>?_)
  refine dj ?_
  refine aA rfl rfl rfl rfl (fun b111=>?_)
  refine ak rfl (TL.append (enc:=SPoint.cells) rfl rfl rfl hO91_0 (Src.own [⟨_,_,[⟨[],0,[],0⟩],(some ⟨b109,0,none⟩,1)⟩] (.here _) rfl rfl) sq rfl (.s9 (.skip _ .all)) rfl (fun a112 c112 ob112 hO112=>?_))
  refine al (S0 (S0 (S1 (S1 (S1 (S1 (S1 (S1 (S1 SN))))))))) (Hp.le.refl _) (eY ?_);refine vL ?_;refine ik ?_;refine fm ?_;refine m6 ?_;refine TL.run (bj rfl rfl hO112) rfl (qu ?_);refine m6 ?_
  refine TL.run (bP rfl rfl hO112 sq sq) rfl (zm8 ?_)
  refine TL.run (PR.to (dU rfl hO112 (.s9 (.skip _ .all)) rfl rfl) (rfl:_=Value.slice (some ⟨b55,0,none⟩) 2 2)) rfl (pw ?_)
  refine rX ?_;refine pu ?_;refine TC.rounds 2 (po ?_);refine zm314 ?_;refine pi ?_;refine pi ?_;refine j3 ?_;refine vK ?_;refine pi ?_;refine jZ ?_;refine vK ?_;refine mh ?_
  refine yb ?_;refine ar (bj rfl rfl hO112) rfl (ph ?_)
  refine aA rfl rfl rfl rfl (fun b162=>?_)
  refine dj ?_
  refine aA rfl rfl rfl rfl (fun b164=>?_)
  refine ak rfl (TL.append (enc:=SPoint.cells) rfl rfl rfl hO112 (Src.own [⟨_,_,[⟨[],0,[],0⟩],(some ⟨b162,0,none⟩,1)⟩] (.here _) rfl rfl) sq rfl (.s11 (.skip _ .all)) rfl (fun a165_0 c165_0 ob165_0 hO165_0=>?_))
  refine al (S0 (S0 (S1 (S1 (S1 (S1 (S1 (S1 (S1 (S1 (S1 (S1 SN)))))))))))) (Hp.le.refl _) (eY ?_);refine yn ?_;refine pm ?_;refine m7 ?_;refine ym ?_;refine cE ?_
  refine ax rfl rfl rfl rfl (fun b170=>?_)
  refine TL.append (enc:=SPoint.cells) rfl rfl rfl hO165_0 (Src.own [em] (.here _) rfl rfl) sq rfl (.s12 (.skip _ .all)) rfl (fun a171 c171 ob171 hO171=>?_)
  refine zm8 ?_;refine aZ rfl rfl rfl (.h10) rfl rfl (fz ?_)
  refine TL.run (aU rfl (.h10) rfl) rfl (cf rfl rfl rfl rfl rfl (.h11) rfl rfl (TL.nil (ae ?_)))
  refine TC.ret (yl ?_)
  refine bY (by simp [keys]) (fun H_b55 le_b55 rd_b55=>?_)
  replace hrs:=hrs.le le_b55
  replace hle:=hle.trans le_b55
  replace hd107:=hd107.le le_b55
  obtain⟨l_b55,n_b55,hA_b55,z_b55⟩:=iR rd_b55 (by first | simp | (have:=hc82.len htn;omega)) (by first | simp | (have:=hc82.len htn;omega))
  refine rV ?_
  refine bY (by simp [keys]) (fun H_b88 le_b88 rd_b88=>?_)
  replace hrs:=hrs.le le_b88
  replace hle:=hle.trans le_b88
  replace hd107:=hd107.le le_b88
  replace hA_b55:=hA_b55.le le_b88
  obtain⟨l_b88,n_b88,hA_b88,z_b88⟩:=dn rd_b88 (by first | simp | (have:=hc82_0.len htn;omega))
  refine pq ?_
  refine bY (by simp [keys]) (fun H_b109 le_b109 rd_b109=>?_)
  replace hrs:=hrs.le le_b109
  replace hle:=hle.trans le_b109
  replace hd107:=hd107.le le_b109
  replace hA_b55:=hA_b55.le le_b109
  replace hA_b88:=hA_b88.le le_b109
  obtain⟨l_b109,n_b109,hA_b109,z_b109⟩:=dn rd_b109 (by first | simp | (have:=hc82.len htn;omega))
  refine lO ?_
  refine bY (by simp [keys]) (fun H_b162 le_b162 rd_b162=>?_)
  replace hrs:=hrs.le le_b162
  replace hle:=hle.trans le_b162
  replace hd107:=hd107.le le_b162
  replace hA_b55:=hA_b55.le le_b162
  replace hA_b88:=hA_b88.le le_b162
  replace hA_b109:=hA_b109.le le_b162
  obtain⟨l_b162,n_b162,hA_b162,z_b162⟩:=dn rd_b162 (by first | simp | (have:=hc82_0.len htn;omega))
  refine dh (X:=[(b170,_),(b164,_),(b111,_),(b90,_),(b57,_),(b13,_),(b9,_),(b8,_),(bd,_)]) hO171 rfl (by simp [keys]) (fun H2 hle2 hP=>?_)
  replace hrs:=hrs.le hle2
  replace hle:=hle.trans hle2
  replace hd107:=hd107.le hle2
  replace hA_b55:=hA_b55.le hle2
  replace hA_b88:=hA_b88.le hle2
  replace hA_b109:=hA_b109.le hle2
  replace hA_b162:=hA_b162.le hle2
  have hP2:=hP.recell (l':=[⟨[97],[98],l_b55,(some ⟨b55,0,none⟩,2)⟩,⟨[98],[99],l_b88,(some ⟨b88,0,none⟩,1)⟩,⟨[99],[97],l_b109,(some ⟨b109,0,none⟩,1)⟩,⟨[98],[99],l_b162,(some ⟨b162,0,none⟩,1)⟩,em]) (by simp only [List.nil_append,List.cons_append,List.map_cons,List.map_nil,SPoint.cells,n_b55,n_b88,n_b109,n_b162];rfl)
  have hPK:∀x∈([⟨[97],[98],l_b55,(some ⟨b55,0,none⟩,2)⟩,⟨[98],[99],l_b88,(some ⟨b88,0,none⟩,1)⟩,⟨[99],[97],l_b109,(some ⟨b109,0,none⟩,1)⟩,⟨[98],[99],l_b162,(some ⟨b162,0,none⟩,1)⟩,em]:List SPoint),PointOk H2 x:=by
   intro x hx;simp only [List.mem_cons,List.not_mem_nil,or_false] at hx
   rcases hx with rfl | rfl | rfl | rfl | rfl
   · exact⟨by show RdSl H2 4 SArm.cells (.slice (some ⟨b55,0,none⟩) l_b55.length _) l_b55;rw [n_b55];exact hA_b55,z_b55⟩
   · exact⟨by show RdSl H2 4 SArm.cells (.slice (some ⟨b88,0,none⟩) l_b88.length _) l_b88;rw [n_b88];exact hA_b88,z_b88⟩
   · exact⟨by show RdSl H2 4 SArm.cells (.slice (some ⟨b109,0,none⟩) l_b109.length _) l_b109;rw [n_b109];exact hA_b109,z_b109⟩
   · exact⟨by show RdSl H2 4 SArm.cells (.slice (some ⟨b162,0,none⟩) l_b162.length _) l_b162;rw [n_b162];exact hA_b162,z_b162⟩
   · exact gR
  exact aO (.inr rfl) (ad rfl (RVal.cellA rfl (.h7) rfl)) (fun w hw=>hw.drop.drop.drop.drop.drop.drop.drop.drop) ⟨_,[],rfl,hd107,rfl,hle,⟨name,(rolesL.take (3:Int).toNat),(a22,c22),[⟨[97],[98],l_b55,(some ⟨b55,0,none⟩,2)⟩,⟨[98],[99],l_b88,(some ⟨b88,0,none⟩,1)⟩,⟨[99],[97],l_b109,(some ⟨b109,0,none⟩,1)⟩,⟨[98],[99],l_b162,(some ⟨b162,0,none⟩,1)⟩,em],(a171,c171)⟩,rfl,⟨hrs,hP2,hPK⟩,rfl,rfl⟩
 refine fm ?_;refine m8 ?_;refine TL.run (bj rfl rfl hO91_0) rfl (TL.run (fq rfl rfl sq sq) rfl (zm1 ?_));refine TC.region (zm8 ?_);refine m8 ?_;refine zm0 ?_
 refine TL.run (bP rfl rfl hO91_0 sq sq) rfl (zm8 ?_)
 refine TL.run (PR.to (dU rfl hO91_0 (.s7 (.skip _ .all)) rfl rfl) (rfl:_=Value.slice (some ⟨b88,0,none⟩) 1 1)) rfl (vt ?_);refine jM ?_
 refine rW ?_;refine m8 ?_;refine TL.run (bj rfl rfl hO91_0) rfl (qu ?_);refine m8 ?_;refine TL.run (bP rfl rfl hO91_0 sq sq) rfl (zm8 ?_)
 refine TL.run (PR.to (dU rfl hO91_0 (.s7 (.skip _ .all)) rfl rfl) (rfl:_=Value.slice (some ⟨b55,0,none⟩) 2 2)) rfl (pw ?_);refine j5 ?_
 refine pu ?_;refine TC.rounds 2 (po ?_);refine zm345 ?_;refine zm3 ?_;refine vJ ?_;refine zm3 ?_;refine vJ ?_;refine j3 ?_
 refine aF (S1 (S1 (S1 (S1 (S1 (S1 (S1 (S1 SN)))))))) (Hp.le.refl _) (fun _ _=>aJ hrs rfl rfl rfl) rfl (zm3 ?_);refine vJ ?_;refine jZ ?_
 refine aF (S1 (S1 (S1 (S1 (S1 (S1 (S1 (S1 SN)))))))) (Hp.le.refl _) (fun _ _=>aJ hrs rfl rfl rfl) rfl (mh ?_);refine vJ ?_;refine ar (bj rfl rfl hO91_0) rfl (ph ?_)
 refine aA rfl rfl rfl rfl (fun b162=>?_)
 refine dj ?_
 refine aA rfl rfl rfl rfl (fun b164=>?_)
 refine ak rfl (TL.append (enc:=SPoint.cells) rfl rfl rfl hO91_0 (Src.own [⟨_,_,[⟨[],0,[],0⟩],(some ⟨b162,0,none⟩,1)⟩] (.here _) rfl rfl) sq rfl (.s9 (.skip _ .all)) rfl (fun a165_0 c165_0 ob165_0 hO165_0=>?_))
 refine al (S0 (S0 (S1 (S1 (S1 (S1 (S1 (S1 (S1 (S1 SN)))))))))) (Hp.le.refl _) (eY ?_);refine vL ?_;refine pm ?_;refine m7 ?_;refine m6 ?_;refine cE ?_
 refine ax rfl rfl rfl rfl (fun b170=>?_)
 refine TL.append (enc:=SPoint.cells) rfl rfl rfl hO165_0 (Src.own [em] (.here _) rfl rfl) sq rfl (.s10 (.skip _ .all)) rfl (fun a171 c171 ob171 hO171=>?_)
 refine zm8 ?_;refine aZ rfl rfl rfl (.h8) rfl rfl (fz ?_)
 refine TL.run (aU rfl (.h8) rfl) rfl (cf rfl rfl rfl rfl rfl (.h9) rfl rfl (TL.nil (ae ?_)))
 refine TC.ret (rV ?_)
 refine bY (by simp [keys]) (fun H_b55 le_b55 rd_b55=>?_)
 replace hrs:=hrs.le le_b55
 replace hle:=hle.trans le_b55
 replace hd82_0:=hd82_0.le le_b55
 obtain⟨l_b55,n_b55,hA_b55,z_b55⟩:=iR rd_b55 (by first | simp | (have:=hc82.len htn;omega)) (by first | simp | (have:=hc82.len htn;omega))
 refine pq ?_
 refine bY (by simp [keys]) (fun H_b88 le_b88 rd_b88=>?_)
 replace hrs:=hrs.le le_b88
 replace hle:=hle.trans le_b88
 replace hd82_0:=hd82_0.le le_b88
 replace hA_b55:=hA_b55.le le_b88
 obtain⟨l_b88,n_b88,hA_b88,z_b88⟩:=dn rd_b88 (by first | simp | (have:=hc82_0.len htn;omega))
 refine lO ?_
 refine bY (by simp [keys]) (fun H_b162 le_b162 rd_b162=>?_)
 replace hrs:=hrs.le le_b162
 replace hle:=hle.trans le_b162
 replace hd82_0:=hd82_0.le le_b162
 replace hA_b55:=hA_b55.le le_b162
 replace hA_b88:=hA_b88.le le_b162
 obtain⟨l_b162,n_b162,hA_b162,z_b162⟩:=dn rd_b162 (by first | simp | (have:=hc82_0.len htn;omega))
 refine dh (X:=[(b170,_),(b164,_),(b90,_),(b57,_),(b13,_),(b9,_),(b8,_),(bd,_)]) hO171 rfl (by simp [keys]) (fun H2 hle2 hP=>?_)
 replace hrs:=hrs.le hle2
 replace hle:=hle.trans hle2
 replace hd82_0:=hd82_0.le hle2
 replace hA_b55:=hA_b55.le hle2
 replace hA_b88:=hA_b88.le hle2
 replace hA_b162:=hA_b162.le hle2
 have hP2:=hP.recell (l':=[⟨[97],[98],l_b55,(some ⟨b55,0,none⟩,2)⟩,⟨[98],[99],l_b88,(some ⟨b88,0,none⟩,1)⟩,⟨[98],[99],l_b162,(some ⟨b162,0,none⟩,1)⟩,em]) (by simp only [List.nil_append,List.cons_append,List.map_cons,List.map_nil,SPoint.cells,n_b55,n_b88,n_b162];rfl)
 have hPK:∀x∈([⟨[97],[98],l_b55,(some ⟨b55,0,none⟩,2)⟩,⟨[98],[99],l_b88,(some ⟨b88,0,none⟩,1)⟩,⟨[98],[99],l_b162,(some ⟨b162,0,none⟩,1)⟩,em]:List SPoint),PointOk H2 x:=by
  intro x hx;simp only [List.mem_cons,List.not_mem_nil,or_false] at hx
  rcases hx with rfl | rfl | rfl | rfl
  · exact⟨by show RdSl H2 4 SArm.cells (.slice (some ⟨b55,0,none⟩) l_b55.length _) l_b55;rw [n_b55];exact hA_b55,z_b55⟩
  · exact⟨by show RdSl H2 4 SArm.cells (.slice (some ⟨b88,0,none⟩) l_b88.length _) l_b88;rw [n_b88];exact hA_b88,z_b88⟩
  · exact⟨by show RdSl H2 4 SArm.cells (.slice (some ⟨b162,0,none⟩) l_b162.length _) l_b162;rw [n_b162];exact hA_b162,z_b162⟩
  · exact gR
 exact aO (.inr rfl) (ad rfl (RVal.cellA rfl (.h6) rfl)) (fun w hw=>hw.drop.drop.drop.drop.drop.drop.drop) ⟨_,[],rfl,hd82_0,rfl,hle,⟨name,(rolesL.take (3:Int).toNat),(a22,c22),[⟨[97],[98],l_b55,(some ⟨b55,0,none⟩,2)⟩,⟨[98],[99],l_b88,(some ⟨b88,0,none⟩,1)⟩,⟨[98],[99],l_b162,(some ⟨b162,0,none⟩,1)⟩,em],(a171,c171)⟩,rfl,⟨hrs,hP2,hPK⟩,rfl,rfl⟩
theorem tH {H:Hp}{bd:Nat}{dl:Value}{at_:Int}(hd:DiceOk H dl at_){tv:Value}{types:List Str}(hty:RdSl H 1 Str.cells tv types)(htn:∀s∈types,TyNm s)(htl:types.length≤100)(name:Str):
  DFn Tryz.prog bd dl at_ 168 [gs name,.int .i64 4,tv] H (fun v H1 ob=>ob=[]∧(H.le H1∧∃p:SProto,v= .agg p.cells.toArray∧ProtoOk H1 p∧p.name=name∧p.roles=rolesL.take 4)):=by
 have hrl:(rolesL.take (4:Int).toNat).length=4:=rfl
 refine FnX.enter Tryz.func168 Tryz.ntmps168 rfl rfl (fun w0=>?_)
 refine zm2 ?_
 refine TL.alloc rfl (fun b8=>?_)
 refine fY ?_
 refine TL.call (ab rfl rfl rfl rfl) (gP) rfl (fun v19 H19 hle19 hp19=>?_)
 replace hd:=hd.le hle19
 replace hty:=hty.le hle19
 have hro19:=hp19
 obtain⟨ra19,rc19,rfl⟩:=hro19.len
 have hcp:5≤rc19:=hro19.room _ _ _ rfl
 have hsl:=hro19.sliced (i:=0) (j:=(4:Int).toNat) om dq
 have hle0:=hle19
 refine zm0 ?_;refine r9 ?_
 refine TL.append (enc:=Str.cells) rfl rfl rfl (OwnSl.nil (enc:=Str.cells)) (Src.sl hsl) (by simp only [List.length_drop,List.length_nil];omega) rfl (.new _ rfl) rfl (fun a22 c22 ob22 hO22=>?_)
 refine cE ?_
 refine TL.alloc rfl (fun b9=>?_)
 refine r7 ?_
 refine dh (X:=[(b9,_),(b8,_),(bd,_)]) hO22 rfl (by simp [keys]) (fun HR leR hR=>?_)
 replace hd:=hd.le leR
 replace hty:=hty.le leR
 replace hle0:=hle0.trans leR
 have hrs0:RdSl HR 1 Str.cells (.slice a22 (rolesL.take (4:Int).toNat).length c22) (rolesL.take (4:Int).toNat):=hR
 have hty1:=hty
 have hleR:=hle0
 refine ae (oD (V:=fun(q:Q4)=>[(10,gs q.a),(11,gs q.b)]) (K:=[(0,_),(2,_),(3,_),(8,_),(9,_)]) ky (L:=fun(q:Q4)=>St (keys [(bd,[dl,.int .i64 at_])]) w0 H q.h [(b9,[gs name,.slice a22 (rolesL.take (4:Int).toNat).length c22,.slice none 0 0]),(b8,[gs [],.slice none 0 0,.slice none 0 0]),(bd,[dl,.int .i64 q.at_])]) (I:=fun(q:Q4)=>DiceOk q.h dl q.at_∧HR.le q.h) ?_ ?_)
 · exact xW
 intro q hI
 obtain⟨hI1,hI2⟩:=hI
 have hty:=hty1.le hI2
 have hrs:=hrs0.le hI2
 have hle:=hleR.trans hI2
 refine cZ ?_
 refine az (X:=[(b9,_),(b8,_)]) (bd:=bd) rfl (ab rfl rfl rfl rfl) (aV 2 om hI1) rfl (fun v36 H36 at36 hle36 hd36 hp36=>?_)
 obtain⟨eH36,r36,rfl,hr36⟩:=hp36
 replace eH36:=eH36.symm;subst eH36
 have hra36:=hr36.1
 have hrb36:=hr36.2.1 om
 refine jr ?_;refine cZ ?_
 refine az (X:=[(b9,_),(b8,_)]) (bd:=bd) rfl (ab rfl rfl rfl rfl) (fi hd36) rfl (fun v39 H39 at39 hle39 hd39 hp39=>?_)
 obtain⟨eH39,k39,rfl,hk39⟩:=hp39
 replace eH39:=eH39.symm;subst eH39
 refine TL.alloc rfl (fun b13=>?_)
 refine lP ?_;refine yo ?_;refine rj ?_;refine py ?_;refine py ?_;refine zm6 ?_;refine rZ ?_;refine dj ?_;refine rY ?_
 refine aA rfl rfl rfl rfl (fun b55=>?_)
 refine dj ?_
 refine aA rfl rfl rfl rfl (fun b57=>?_)
 refine ak rfl (TL.append (enc:=SPoint.cells) rfl rfl rfl (OwnSl.nil (enc:=SPoint.cells)) (Src.own [⟨_,_,[⟨[],0,[],0⟩,⟨[],0,[],0⟩],(some ⟨b55,0,none⟩,2)⟩] (.here _) rfl rfl) sq rfl (.new _ rfl) rfl (fun a58 c58 ob58 hO58=>?_))
 refine al (S0 (S0 (S1 (S1 (S1 (S1 SN)))))) (Hp.le.refl _) (eY ?_);refine j5 ?_;refine ik ?_;refine lR ?_;refine TC.rounds 3 (po ?_);refine zm313 ?_;refine ii ?_;refine ii ?_;refine j3 ?_
 refine px ?_;refine ii ?_;refine jZ ?_;refine px ?_;refine lS ?_;refine ii ?_
 refine ar (bj rfl rfl hO58) rfl (ar (ej rfl rfl sq sq) rfl (ak rfl (az (X:=[(b57,_),(b55,_),(b13,_),(b9,_),(b8,_)]) (bd:=bd) rfl (ab rfl rfl rfl rfl) (ez hd39 hty htn htl) rfl (fun v82_0 H82_0 at82_0 hle82_0 hd82_0 hp82_0=>?_))))
 obtain⟨eH82_0,k82_0,nm82_0,rfl,hc82_0⟩:=hp82_0
 replace eH82_0:=eH82_0.symm;subst eH82_0
 refine al (S1 (S1 (S1 (S1 (S1 SN))))) (Hp.le.refl _) (dj ?_)
 refine aA rfl rfl rfl rfl (fun b88=>?_)
 refine dj ?_
 refine aA rfl rfl rfl rfl (fun b90=>?_)
 refine ak rfl (TL.append (enc:=SPoint.cells) rfl rfl rfl hO58 (Src.own [⟨_,_,[⟨[],0,[],0⟩],(some ⟨b88,0,none⟩,1)⟩] (.here _) rfl rfl) sq rfl (.s7 (.skip _ .all)) rfl (fun a91_0 c91_0 ob91_0 hO91_0=>?_))
 refine al (S0 (S0 (S1 (S1 (S1 (S1 (S1 SN))))))) (Hp.le.refl _) (eY ?_);refine rX ?_;refine vr ?_;refine vq ?_;refine zm346 ?_;refine pj ?_;refine pj ?_;refine j3 ?_;refine vM ?_;refine pj ?_
 refine jZ ?_;refine vM ?_;refine ic ?_;refine mh ?_
 refine aF (S1 (S1 (S1 (S1 (S1 (S1 (S1 SN))))))) (Hp.le.refl _) (fun _ _=>ay rfl (.h5) rfl) rfl (ar (bj rfl rfl hO91_0) rfl (ar (ej rfl rfl sq sq) rfl (ak rfl ?_)))
 refine az (X:=[(b90,_),(b88,_),(b57,_),(b55,_),(b13,_),(b9,_),(b8,_)]) (bd:=bd) rfl (ab rfl rfl rfl rfl) (ez hd82_0 hty htn htl) rfl (fun v82_1 H82_1 at82_1 hle82_1 hd82_1 hp82_1=>?_)
 obtain⟨eH82_1,k82_1,nm82_1,rfl,hc82_1⟩:=hp82_1
 replace eH82_1:=eH82_1.symm;subst eH82_1
 refine al (S1 (S1 (S1 (S1 (S1 (S1 (S1 SN))))))) (Hp.le.refl _) (dj ?_)
 refine aA rfl rfl rfl rfl (fun b88x=>?_)
 refine dj ?_
 refine aA rfl rfl rfl rfl (fun b90x=>?_)
 refine ak rfl (TL.append (enc:=SPoint.cells) rfl rfl rfl hO91_0 (Src.own [⟨_,_,[⟨[],0,[],0⟩],(some ⟨b88x,0,none⟩,1)⟩] (.here _) rfl rfl) sq rfl (.s9 (.skip _ .all)) rfl (fun a91_1 c91_1 ob91_1 hO91_1=>?_))
 refine al (S0 (S0 (S1 (S1 (S1 (S1 (S1 (S1 (S1 SN))))))))) (Hp.le.refl _) (eY ?_);refine vL ?_;refine pm ?_;refine gG ?_;refine ja ?_
 refine ag rfl ?_ ?_<;>intro c93
 ·
  refine d3 ?_;refine zm347 ?_;refine zm3 ?_;refine yk ?_;refine zm3 ?_;refine yk ?_;refine zm6 ?_;refine ar (fq rfl rfl om om) rfl (jQ ?_)
  refine aF (S1 (S1 (S1 (S1 (S1 (S1 (S1 (S1 (S1 SN))))))))) (Hp.le.refl _) (fun _ _=>aJ hrs rfl rfl rfl) rfl (zm3 ?_);refine yk ?_;refine jQ ?_
  refine aF (S1 (S1 (S1 (S1 (S1 (S1 (S1 (S1 (S1 SN))))))))) (Hp.le.refl _) (fun _ _=>aJ hrs rfl rfl rfl) rfl (zm6 ?_)
  refine ak rfl (az (X:=[(b90x,_),(b88x,_),(b90,_),(b88,_),(b57,_),(b55,_),(b13,_),(b9,_),(b8,_)]) (bd:=bd) rfl (ab rfl rfl rfl rfl) (fi hd82_1) rfl (fun v107 H107 at107 hle107 hd107 hp107=>?_))
  obtain⟨eH107,k107,rfl,hk107⟩:=hp107
  replace eH107:=eH107.symm;subst eH107
  refine al (S1 (S1 (S1 (S1 (S1 (S1 (S1 (S1 (S1 SN))))))))) (Hp.le.refl _) (dj ?_)
  refine aA rfl rfl rfl rfl (fun b109=>?_)
  refine dj ?_
  refine aA rfl rfl rfl rfl (fun b111=>?_)
  refine ak rfl (TL.append (enc:=SPoint.cells) rfl rfl rfl hO91_1 (Src.own [⟨_,_,[⟨[],0,[],0⟩],(some ⟨b109,0,none⟩,1)⟩] (.here _) rfl rfl) sq rfl (.s11 (.skip _ .all)) rfl (fun a112 c112 ob112 hO112=>?_))
  refine al (S0 (S0 (S1 (S1 (S1 (S1 (S1 (S1 (S1 (S1 (S1 SN))))))))))) (Hp.le.refl _) (eY ?_);refine yn ?_;refine ik ?_;refine fm ?_;refine ym ?_;refine TL.run (bj rfl rfl hO112) rfl (qu ?_)
  refine ym ?_;refine TL.run (bP rfl rfl hO112 sq sq) rfl (zm8 ?_);refine zm348 ?_;refine pw ?_;refine vL ?_;refine pu ?_;refine TC.rounds 3 (po ?_);refine zm316 ?_;refine pf ?_
  refine pf ?_;refine j3 ?_;refine vI ?_;refine pf ?_;refine jZ ?_;refine vI ?_;refine mh ?_;refine ya ?_;refine ar (bj rfl rfl hO112) rfl (ph ?_)
  refine aA rfl rfl rfl rfl (fun b162=>?_)
  refine dj ?_
  refine aA rfl rfl rfl rfl (fun b164=>?_)
  refine ak rfl (TL.append (enc:=SPoint.cells) rfl rfl rfl hO112 (Src.own [⟨_,_,[⟨[],0,[],0⟩],(some ⟨b162,0,none⟩,1)⟩] (.here _) rfl rfl) sq rfl (.s13 (.skip _ .all)) rfl (fun a165_0 c165_0 ob165_0 hO165_0=>?_))
  refine al (S0 (S0 (S1 (S1 (S1 (S1 (S1 (S1 (S1 (S1 (S1 (S1 (S1 (S1 SN)))))))))))))) (Hp.le.refl _) (eY ?_);refine zm318 ?_;refine vr ?_;refine vq ?_;refine zm349 ?_;refine zm3 ?_;refine vH ?_;refine zm3 ?_
  refine vH ?_;refine j3 ?_;refine zm319 ?_;refine zm3 ?_;refine vH ?_;refine jZ ?_;refine zm319 ?_;refine mh ?_;refine vH ?_;refine ar (bj rfl rfl hO165_0) rfl (ph ?_)
  refine aA rfl rfl rfl rfl (fun b162x=>?_)
  refine dj ?_
  refine aA rfl rfl rfl rfl (fun b164x=>?_)
  refine ak rfl (TL.append (enc:=SPoint.cells) rfl rfl rfl hO165_0 (Src.own [⟨_,_,[⟨[],0,[],0⟩],(some ⟨b162x,0,none⟩,1)⟩] (.here _) rfl rfl) sq rfl (.s15 (.skip _ .all)) rfl (fun a165_1 c165_1 ob165_1 hO165_1=>?_))
  refine al (S0 (S0 (S1 (S1 (S1 (S1 (S1 (S1 (S1 (S1 (S1 (S1 (S1 (S1 (S1 (S1 SN)))))))))))))))) (Hp.le.refl _) (eY ?_)
  refine aZ rfl rfl rfl (.h13) rfl rfl (pm ?_);refine m7 ?_
  refine TL.run (ay rfl (.h13) rfl) rfl (cE ?_)
  refine ax rfl rfl rfl rfl (fun b170=>?_)
  refine TL.append (enc:=SPoint.cells) rfl rfl rfl hO165_1 (Src.own [em] (.here _) rfl rfl) sq rfl (.s16 (.skip _ .all)) rfl (fun a171 c171 ob171 hO171=>?_)
  refine zm8 ?_;refine aZ rfl rfl rfl (.h14) rfl rfl (fz ?_)
  refine TL.run (aU rfl (.h14) rfl) rfl (zm350 ?_)
  refine TL.nil (ae (TC.ret (d9 (.h12) ?_)))
  refine bY (by simp [keys]) (fun H_b55 le_b55 rd_b55=>?_)
  replace hrs:=hrs.le le_b55
  replace hle:=hle.trans le_b55
  replace hd107:=hd107.le le_b55
  obtain⟨l_b55,n_b55,hA_b55,z_b55⟩:=iR rd_b55 (by first | simp | (have:=hc82.len htn;omega)) (by first | simp | (have:=hc82.len htn;omega))
  refine zm320 ?_
  refine bY (by simp [keys]) (fun H_b88 le_b88 rd_b88=>?_)
  replace hrs:=hrs.le le_b88
  replace hle:=hle.trans le_b88
  replace hd107:=hd107.le le_b88
  replace hA_b55:=hA_b55.le le_b88
  obtain⟨l_b88,n_b88,hA_b88,z_b88⟩:=dn rd_b88 (by first | simp | (have:=hc82_0.len htn;omega))
  refine yl ?_
  refine bY (by simp [keys]) (fun H_b88x le_b88x rd_b88x=>?_)
  replace hrs:=hrs.le le_b88x
  replace hle:=hle.trans le_b88x
  replace hd107:=hd107.le le_b88x
  replace hA_b55:=hA_b55.le le_b88x
  replace hA_b88:=hA_b88.le le_b88x
  obtain⟨l_b88x,n_b88x,hA_b88x,z_b88x⟩:=dn rd_b88x (by first | simp | (have:=hc82_1.len htn;omega))
  refine rV ?_
  refine bY (by simp [keys]) (fun H_b109 le_b109 rd_b109=>?_)
  replace hrs:=hrs.le le_b109
  replace hle:=hle.trans le_b109
  replace hd107:=hd107.le le_b109
  replace hA_b55:=hA_b55.le le_b109
  replace hA_b88:=hA_b88.le le_b109
  replace hA_b88x:=hA_b88x.le le_b109
  obtain⟨l_b109,n_b109,hA_b109,z_b109⟩:=dn rd_b109 (by first | simp | (have:=hc82.len htn;omega))
  refine pq ?_
  refine bY (by simp [keys]) (fun H_b162 le_b162 rd_b162=>?_)
  replace hrs:=hrs.le le_b162
  replace hle:=hle.trans le_b162
  replace hd107:=hd107.le le_b162
  replace hA_b55:=hA_b55.le le_b162
  replace hA_b88:=hA_b88.le le_b162
  replace hA_b88x:=hA_b88x.le le_b162
  replace hA_b109:=hA_b109.le le_b162
  obtain⟨l_b162,n_b162,hA_b162,z_b162⟩:=dn rd_b162 (by first | simp | (have:=hc82_0.len htn;omega))
  refine lO ?_
  refine bY (by simp [keys]) (fun H_b162x le_b162x rd_b162x=>?_)
  replace hrs:=hrs.le le_b162x
  replace hle:=hle.trans le_b162x
  replace hd107:=hd107.le le_b162x
  replace hA_b55:=hA_b55.le le_b162x
  replace hA_b88:=hA_b88.le le_b162x
  replace hA_b88x:=hA_b88x.le le_b162x
  replace hA_b109:=hA_b109.le le_b162x
  replace hA_b162:=hA_b162.le le_b162x
  obtain⟨l_b162x,n_b162x,hA_b162x,z_b162x⟩:=dn rd_b162x (by first | simp | (have:=hc82_1.len htn;omega))
  refine dh (X:=[(b170,_),(b164x,_),(b164,_),(b111,_),(b90x,_),(b90,_),(b57,_),(b13,_),(b9,_),(b8,_),(bd,_)]) hO171 rfl (by simp [keys]) (fun H2 hle2 hP=>?_)
  replace hrs:=hrs.le hle2
  replace hle:=hle.trans hle2
  replace hd107:=hd107.le hle2
  replace hA_b55:=hA_b55.le hle2
  replace hA_b88:=hA_b88.le hle2
  replace hA_b88x:=hA_b88x.le hle2
  replace hA_b109:=hA_b109.le hle2
  replace hA_b162:=hA_b162.le hle2
  replace hA_b162x:=hA_b162x.le hle2
  have hP2:=hP.recell (l':=[⟨[97],[98],l_b55,(some ⟨b55,0,none⟩,2)⟩,⟨[98],[99],l_b88,(some ⟨b88,0,none⟩,1)⟩,⟨[99],[100],l_b88x,(some ⟨b88x,0,none⟩,1)⟩,⟨[100],[97],l_b109,(some ⟨b109,0,none⟩,1)⟩,⟨[98],[99],l_b162,(some ⟨b162,0,none⟩,1)⟩,⟨[99],[100],l_b162x,(some ⟨b162x,0,none⟩,1)⟩,em]) (by simp only [List.nil_append,List.cons_append,List.map_cons,List.map_nil,SPoint.cells,n_b55,n_b88,n_b88x,n_b109,n_b162,n_b162x];rfl)
  have hPK:∀x∈([⟨[97],[98],l_b55,(some ⟨b55,0,none⟩,2)⟩,⟨[98],[99],l_b88,(some ⟨b88,0,none⟩,1)⟩,⟨[99],[100],l_b88x,(some ⟨b88x,0,none⟩,1)⟩,⟨[100],[97],l_b109,(some ⟨b109,0,none⟩,1)⟩,⟨[98],[99],l_b162,(some ⟨b162,0,none⟩,1)⟩,⟨[99],[100],l_b162x,(some ⟨b162x,0,none⟩,1)⟩,em]:List SPoint),PointOk H2 x:=by
   intro x hx;simp only [List.mem_cons,List.not_mem_nil,or_false] at hx
   rcases hx with rfl | rfl | rfl | rfl | rfl | rfl | rfl
   · exact⟨by show RdSl H2 4 SArm.cells (.slice (some ⟨b55,0,none⟩) l_b55.length _) l_b55;rw [n_b55];exact hA_b55,z_b55⟩
   · exact⟨by show RdSl H2 4 SArm.cells (.slice (some ⟨b88,0,none⟩) l_b88.length _) l_b88;rw [n_b88];exact hA_b88,z_b88⟩
   · exact⟨by show RdSl H2 4 SArm.cells (.slice (some ⟨b88x,0,none⟩) l_b88x.length _) l_b88x;rw [n_b88x];exact hA_b88x,z_b88x⟩
   · exact⟨by show RdSl H2 4 SArm.cells (.slice (some ⟨b109,0,none⟩) l_b109.length _) l_b109;rw [n_b109];exact hA_b109,z_b109⟩
   · exact⟨by show RdSl H2 4 SArm.cells (.slice (some ⟨b162,0,none⟩) l_b162.length _) l_b162;rw [n_b162];exact hA_b162,z_b162⟩
   · exact⟨by show RdSl H2 4 SArm.cells (.slice (some ⟨b162x,0,none⟩) l_b162x.length _) l_b162x;rw [n_b162x];exact hA_b162x,z_b162x⟩
   · exact gR
  exact aO (.inr rfl) (ad rfl (RVal.cellA rfl (.h9) rfl)) (fun w hw=>hw.drop.drop.drop.drop.drop.drop.drop.drop.drop.drop) ⟨_,[],rfl,hd107,rfl,hle,⟨name,(rolesL.take (4:Int).toNat),(a22,c22),[⟨[97],[98],l_b55,(some ⟨b55,0,none⟩,2)⟩,⟨[98],[99],l_b88,(some ⟨b88,0,none⟩,1)⟩,⟨[99],[100],l_b88x,(some ⟨b88x,0,none⟩,1)⟩,⟨[100],[97],l_b109,(some ⟨b109,0,none⟩,1)⟩,⟨[98],[99],l_b162,(some ⟨b162,0,none⟩,1)⟩,⟨[99],[100],l_b162x,(some ⟨b162x,0,none⟩,1)⟩,em],(a171,c171)⟩,rfl,⟨hrs,hP2,hPK⟩,rfl,rfl⟩
 refine fm ?_;refine m6 ?_;refine TL.run (bj rfl rfl hO91_1) rfl (TL.run (fq rfl rfl sq sq) rfl (zm1 ?_));refine TC.region (zm8 ?_);refine m6 ?_;refine zm0 ?_
 refine TL.run (bP rfl rfl hO91_1 sq sq) rfl (zm8 ?_)
 refine TL.run (PR.to (dU rfl hO91_1 (.s9 (.skip _ .all)) rfl rfl) (rfl:_=Value.slice (some ⟨b88x,0,none⟩) 1 1)) rfl (vt ?_)
 refine jM ?_;refine rW ?_;refine m6 ?_;refine TL.run (bj rfl rfl hO91_1) rfl (qu ?_);refine m6 ?_;refine TL.run (bP rfl rfl hO91_1 sq sq) rfl (zm8 ?_)
 refine TL.run (PR.to (dU rfl hO91_1 (.s9 (.skip _ .all)) rfl rfl) (rfl:_=Value.slice (some ⟨b55,0,none⟩) 2 2)) rfl (pw ?_)
 refine rX ?_;refine pu ?_;refine TC.rounds 3 (po ?_);refine zm314 ?_;refine pi ?_;refine pi ?_;refine j3 ?_;refine vK ?_;refine pi ?_;refine jZ ?_;refine vK ?_;refine mh ?_
 refine yb ?_;refine ar (bj rfl rfl hO91_1) rfl (ph ?_)
 refine aA rfl rfl rfl rfl (fun b162=>?_)
 refine dj ?_
 refine aA rfl rfl rfl rfl (fun b164=>?_)
 refine ak rfl (TL.append (enc:=SPoint.cells) rfl rfl rfl hO91_1 (Src.own [⟨_,_,[⟨[],0,[],0⟩],(some ⟨b162,0,none⟩,1)⟩] (.here _) rfl rfl) sq rfl (.s11 (.skip _ .all)) rfl (fun a165_0 c165_0 ob165_0 hO165_0=>?_))
 refine al (S0 (S0 (S1 (S1 (S1 (S1 (S1 (S1 (S1 (S1 (S1 (S1 SN)))))))))))) (Hp.le.refl _) (eY ?_);refine yn ?_;refine vr ?_;refine vq ?_;refine zm316 ?_;refine pf ?_;refine pf ?_;refine j3 ?_
 refine vI ?_;refine pf ?_;refine jZ ?_;refine vI ?_;refine mh ?_;refine ya ?_;refine ar (bj rfl rfl hO165_0) rfl (ph ?_)
 refine aA rfl rfl rfl rfl (fun b162x=>?_)
 refine dj ?_
 refine aA rfl rfl rfl rfl (fun b164x=>?_)
 refine ak rfl (TL.append (enc:=SPoint.cells) rfl rfl rfl hO165_0 (Src.own [⟨_,_,[⟨[],0,[],0⟩],(some ⟨b162x,0,none⟩,1)⟩] (.here _) rfl rfl) sq rfl (.s13 (.skip _ .all)) rfl (fun a165_1 c165_1 ob165_1 hO165_1=>?_))
 refine al (S0 (S0 (S1 (S1 (S1 (S1 (S1 (S1 (S1 (S1 (S1 (S1 (S1 (S1 SN)))))))))))))) (Hp.le.refl _) (eY ?_);refine zm318 ?_;refine pm ?_;refine m7 ?_
 refine TL.run (ay rfl (.h11) rfl) rfl (cE ?_)
 refine ax rfl rfl rfl rfl (fun b170=>?_)
 refine TL.append (enc:=SPoint.cells) rfl rfl rfl hO165_1 (Src.own [em] (.here _) rfl rfl) sq rfl (.s14 (.skip _ .all)) rfl (fun a171 c171 ob171 hO171=>?_)
 refine zm8 ?_;refine aZ rfl rfl rfl (.h12) rfl rfl (fz ?_)
 refine TL.run (aU rfl (.h12) rfl) rfl (cf rfl rfl rfl rfl rfl (.h13) rfl rfl (TL.nil (ae ?_)))
 refine TC.ret (zm320 ?_)
 refine bY (by simp [keys]) (fun H_b55 le_b55 rd_b55=>?_)
 replace hrs:=hrs.le le_b55
 replace hle:=hle.trans le_b55
 replace hd82_1:=hd82_1.le le_b55
 obtain⟨l_b55,n_b55,hA_b55,z_b55⟩:=iR rd_b55 (by first | simp | (have:=hc82.len htn;omega)) (by first | simp | (have:=hc82.len htn;omega))
 refine yl ?_
 refine bY (by simp [keys]) (fun H_b88 le_b88 rd_b88=>?_)
 replace hrs:=hrs.le le_b88
 replace hle:=hle.trans le_b88
 replace hd82_1:=hd82_1.le le_b88
 replace hA_b55:=hA_b55.le le_b88
 obtain⟨l_b88,n_b88,hA_b88,z_b88⟩:=dn rd_b88 (by first | simp | (have:=hc82_0.len htn;omega))
 refine rV ?_
 refine bY (by simp [keys]) (fun H_b88x le_b88x rd_b88x=>?_)
 replace hrs:=hrs.le le_b88x
 replace hle:=hle.trans le_b88x
 replace hd82_1:=hd82_1.le le_b88x
 replace hA_b55:=hA_b55.le le_b88x
 replace hA_b88:=hA_b88.le le_b88x
 obtain⟨l_b88x,n_b88x,hA_b88x,z_b88x⟩:=dn rd_b88x (by first | simp | (have:=hc82_1.len htn;omega))
 refine pq ?_
 refine bY (by simp [keys]) (fun H_b162 le_b162 rd_b162=>?_)
 replace hrs:=hrs.le le_b162
 replace hle:=hle.trans le_b162
 replace hd82_1:=hd82_1.le le_b162
 replace hA_b55:=hA_b55.le le_b162
 replace hA_b88:=hA_b88.le le_b162
 replace hA_b88x:=hA_b88x.le le_b162
 obtain⟨l_b162,n_b162,hA_b162,z_b162⟩:=dn rd_b162 (by first | simp | (have:=hc82_0.len htn;omega))
 refine lO ?_
 refine bY (by simp [keys]) (fun H_b162x le_b162x rd_b162x=>?_)
 replace hrs:=hrs.le le_b162x
 replace hle:=hle.trans le_b162x
 replace hd82_1:=hd82_1.le le_b162x
 replace hA_b55:=hA_b55.le le_b162x
 replace hA_b88:=hA_b88.le le_b162x
 replace hA_b88x:=hA_b88x.le le_b162x
 replace hA_b162:=hA_b162.le le_b162x
 obtain⟨l_b162x,n_b162x,hA_b162x,z_b162x⟩:=dn rd_b162x (by first | simp | (have:=hc82_1.len htn;omega))
 refine dh (X:=[(b170,_),(b164x,_),(b164,_),(b90x,_),(b90,_),(b57,_),(b13,_),(b9,_),(b8,_),(bd,_)]) hO171 rfl (by simp [keys]) (fun H2 hle2 hP=>?_)
 replace hrs:=hrs.le hle2
 replace hle:=hle.trans hle2
 replace hd82_1:=hd82_1.le hle2
 replace hA_b55:=hA_b55.le hle2
 replace hA_b88:=hA_b88.le hle2
 replace hA_b88x:=hA_b88x.le hle2
 replace hA_b162:=hA_b162.le hle2
 replace hA_b162x:=hA_b162x.le hle2
 have hP2:=hP.recell (l':=[⟨[97],[98],l_b55,(some ⟨b55,0,none⟩,2)⟩,⟨[98],[99],l_b88,(some ⟨b88,0,none⟩,1)⟩,⟨[99],[100],l_b88x,(some ⟨b88x,0,none⟩,1)⟩,⟨[98],[99],l_b162,(some ⟨b162,0,none⟩,1)⟩,⟨[99],[100],l_b162x,(some ⟨b162x,0,none⟩,1)⟩,em]) (by simp only [List.nil_append,List.cons_append,List.map_cons,List.map_nil,SPoint.cells,n_b55,n_b88,n_b88x,n_b162,n_b162x];rfl)
 have hPK:∀x∈([⟨[97],[98],l_b55,(some ⟨b55,0,none⟩,2)⟩,⟨[98],[99],l_b88,(some ⟨b88,0,none⟩,1)⟩,⟨[99],[100],l_b88x,(some ⟨b88x,0,none⟩,1)⟩,⟨[98],[99],l_b162,(some ⟨b162,0,none⟩,1)⟩,⟨[99],[100],l_b162x,(some ⟨b162x,0,none⟩,1)⟩,em]:List SPoint),PointOk H2 x:=by
  intro x hx;simp only [List.mem_cons,List.not_mem_nil,or_false] at hx
  rcases hx with rfl | rfl | rfl | rfl | rfl | rfl
  · exact⟨by show RdSl H2 4 SArm.cells (.slice (some ⟨b55,0,none⟩) l_b55.length _) l_b55;rw [n_b55];exact hA_b55,z_b55⟩
  · exact⟨by show RdSl H2 4 SArm.cells (.slice (some ⟨b88,0,none⟩) l_b88.length _) l_b88;rw [n_b88];exact hA_b88,z_b88⟩
  · exact⟨by show RdSl H2 4 SArm.cells (.slice (some ⟨b88x,0,none⟩) l_b88x.length _) l_b88x;rw [n_b88x];exact hA_b88x,z_b88x⟩
  · exact⟨by show RdSl H2 4 SArm.cells (.slice (some ⟨b162,0,none⟩) l_b162.length _) l_b162;rw [n_b162];exact hA_b162,z_b162⟩
  · exact⟨by show RdSl H2 4 SArm.cells (.slice (some ⟨b162x,0,none⟩) l_b162x.length _) l_b162x;rw [n_b162x];exact hA_b162x,z_b162x⟩
  · exact gR
 exact aO (.inr rfl) (ad rfl (RVal.cellA rfl (.h8) rfl)) (fun w hw=>hw.drop.drop.drop.drop.drop.drop.drop.drop.drop) ⟨_,[],rfl,hd82_1,rfl,hle,⟨name,(rolesL.take (4:Int).toNat),(a22,c22),[⟨[97],[98],l_b55,(some ⟨b55,0,none⟩,2)⟩,⟨[98],[99],l_b88,(some ⟨b88,0,none⟩,1)⟩,⟨[99],[100],l_b88x,(some ⟨b88x,0,none⟩,1)⟩,⟨[98],[99],l_b162,(some ⟨b162,0,none⟩,1)⟩,⟨[99],[100],l_b162x,(some ⟨b162x,0,none⟩,1)⟩,em],(a171,c171)⟩,rfl,⟨hrs,hP2,hPK⟩,rfl,rfl⟩
theorem nX {H:Hp}{bd:Nat}{dl:Value}{at_:Int}(hd:DiceOk H dl at_){tv:Value}{types:List Str}(hty:RdSl H 1 Str.cells tv types)(htn:∀s∈types,TyNm s)(htl:types.length≤100)(name:Str)(many:Int)(h2:2≤many)(h4:many≤4):
  DFn Tryz.prog bd dl at_ 168 [gs name,.int .i64 many,tv] H (fun v H1 ob=>ob=[]∧(H.le H1∧∃p:SProto,v= .agg p.cells.toArray∧ProtoOk H1 p∧p.name=name∧∃n,2≤n∧n≤5∧p.roles=rolesL.take n)):=by
 have key:∀{n:Nat},2≤n→n≤5→DFn Tryz.prog bd dl at_ 168 [gs name,.int .i64 many,tv] H (fun v H1 ob=>ob=[]∧(H.le H1∧∃p:SProto,v= .agg p.cells.toArray∧ProtoOk H1 p∧p.name=name∧p.roles=rolesL.take n))→DFn Tryz.prog bd dl at_ 168 [gs name,.int .i64 many,tv] H (fun v H1 ob=>ob=[]∧(H.le H1∧∃p:SProto,v= .agg p.cells.toArray∧ProtoOk H1 p∧p.name=name∧∃n,2≤n∧n≤5∧p.roles=rolesL.take n)):=
  fun h1 h2 h=>FnX.mono h (by
   rintro v H' L' ⟨at',ob,e1,e2,e3,e4,p,e5,e6,e7,e8⟩
   exact⟨at',ob,e1,e2,e3,e4,p,e5,e6,e7,_,h1,h2,e8⟩)
 rcases(by omega:many=2∨many=3∨many=4) with rfl | rfl | rfl
 · exact key om om (tJ hd hty htn htl name)
 · exact key om om (tI hd hty htn htl name)
 exact key om om (tH hd hty htn htl name)
end Go.Sx
namespace Go.Sx
open Go Go.Proofs
theorem qU {H:Hp}{bd:Nat}{dl:Value}{at_:Int}(hd:DiceOk H dl at_){tv:Value}{types:List Str}(hty:RdSl H 1 Str.cells tv types)(htn:∀s∈types,TyNm s)(htl:types.length≤100)(name:Str):
  DFn Tryz.prog bd dl at_ 123 [gs name,tv] H (fun v H1 ob=>ob=[]∧(H.le H1∧∃p:SProto,v= .agg p.cells.toArray∧ProtoOk H1 p∧p.name=name∧∃n,2≤n∧n≤5∧p.roles=rolesL.take n)):=by
 refine FnX.enter Tryz.func123 Tryz.ntmps123 rfl rfl (fun w0=>?_)
 refine zm2 ?_
 refine TL.alloc rfl (fun b6=>?_)
 refine TL.nil (ae (il ?_))
 refine az (X:=[(b6,_)]) (bd:=bd) rfl (ab rfl rfl rfl rfl) (aV 4 om hd) rfl (fun v8 H8 at8 hle8 hd8 hp8=>?_)
 obtain⟨eH8,r8,rfl,hr8⟩:=hp8
 replace eH8:=eH8.symm;subst eH8
 have hra8:=hr8.1
 have hrb8:=hr8.2.1 om
 refine sE ?_
 refine ag rfl ?_ ?_<;>intro c9
 ·
  refine fo ?_
  refine az (X:=[(b6,_)]) (bd:=bd) rfl (ab rfl rfl rfl rfl) (qV hd8 hty htn htl name 2 om om) rfl (fun v14 H14 at14 hle14 hd14 hp14=>?_)
  obtain⟨hle14_,p,rfl,hP,hNm,hRo,hA⟩:=hp14
  refine gH ?_;exact aY (aC (aO (.inr rfl) (ad rfl (RVal.cellA rfl (.here _) rfl)) (fun w hw=>hw.drop) ⟨_,[],rfl,hd14,rfl,hle14_,p,rfl,hP,hNm,_,by decide,by decide,hRo⟩))
 refine dZ ?_
 refine ag rfl ?_ ?_<;>intro c15
 ·
  refine fo ?_
  refine az (X:=[(b6,_)]) (bd:=bd) rfl (ab rfl rfl rfl rfl) (aV 3 om hd8) rfl (fun v20 H20 at20 hle20 hd20 hp20=>?_)
  obtain⟨eH20,r20,rfl,hr20⟩:=hp20
  replace eH20:=eH20.symm;subst eH20
  have hra20:=hr20.1
  have hrb20:=hr20.2.1 om
  refine jq ?_;refine zm0 ?_
  refine az (X:=[(b6,_)]) (bd:=bd) rfl (ab rfl rfl rfl rfl) (nX hd20 hty htn htl name (2+r20) om om) rfl (fun v23 H23 at23 hle23 hd23 hp23=>?_)
  obtain⟨hle23_,p,rfl,hP,hNm,n,hn2,hn5,hRo⟩:=hp23
  refine gH ?_;exact aY (aC (aO (.inr rfl) (ad rfl (RVal.cellA rfl (.here _) rfl)) (fun w hw=>hw.drop) ⟨_,[],rfl,hd23,rfl,hle23_,p,rfl,hP,hNm,n,hn2,hn5,hRo⟩))
 refine dZ ?_
 refine ag rfl ?_ ?_<;>intro c24
 ·
  refine fo ?_
  refine az (X:=[(b6,_)]) (bd:=bd) rfl (ab rfl rfl rfl rfl) (qV hd8 hty htn htl name 3 om om) rfl (fun v29 H29 at29 hle29 hd29 hp29=>?_)
  obtain⟨hle29_,p,rfl,hP,hNm,hRo,hA⟩:=hp29
  refine gH ?_;exact aY (aC (aO (.inr rfl) (ad rfl (RVal.cellA rfl (.here _) rfl)) (fun w hw=>hw.drop) ⟨_,[],rfl,hd29,rfl,hle29_,p,rfl,hP,hNm,_,by decide,by decide,hRo⟩))
 refine TC.skip (a8 (ae (fo ?_)))
 refine az (X:=[(b6,_)]) (bd:=bd) rfl (ab rfl rfl rfl rfl) (nX hd8 hty htn htl name 3 om om) rfl (fun v33 H33 at33 hle33 hd33 hp33=>?_)
 obtain⟨hle33_,p,rfl,hP,hNm,n,hn2,hn5,hRo⟩:=hp33
 refine gH ?_
 exact aO (.inr rfl) (ad rfl (RVal.cellA rfl (.here _) rfl)) (fun w hw=>hw.drop) ⟨_,[],rfl,hd33,rfl,hle33_,p,rfl,hP,hNm,n,hn2,hn5,hRo⟩
theorem oP {H:Hp}(p:SProto)(hp:ProtoOk H p)(h1:p.name.length≤1000)(h2:p.roles.length≤100)(h3:∀r∈p.roles,r.length≤1000):
  Fn Tryz.prog 66 [.agg p.cells.toArray] H (fun v H1=>RdSl H1 1 Str.cells v (p.roles.map (fun r=>(p.name++[46])++r))):=by
 have hro:=hp.r
 have hmx:=hro.max
 refine Fn.enter Tryz.func66 Tryz.ntmps66 rfl rfl (fun w0=>?_)
 refine zm2 ?_
 refine TL.box rfl rfl (fun b1=>?_)
 refine zm1 ?_;refine ij ?_
 refine aR (V:=fun k v ob H1=>[(3,v),(4,.int .i64 k)]) (K:=[(1,_),(2,_)]) (L:=fun k v ob H1=>St [] w0 H H ((b1,p.cells)::ob)) (I:=fun k v ob H1=>(0≤k∧k≤p.roles.length)∧OwnSl 1 Str.cells v ((p.roles.take k.toNat).map (fun r=>(p.name++[46])++r)) ob) (μ:=fun k=>(p.roles.length - k).toNat) 0 (.slice none 0 0) [] H ky ⟨o2q,OwnSl.nil⟩ (fun w hw=>hw) (fun k v ob H1 hI=>?_)
 obtain⟨⟨k0,k1⟩,hO⟩:=hI
 refine pd ?_;refine TL.run (ai rfl rfl hro) rfl (zm1 ?_)
 refine ag rfl ?_ ?_<;>intro c9
 ·
  obtain⟨x,hx⟩:=ao (l:=p.roles) k0 c9
  have hxl:=h3 x (List.mem_of_getElem? hx)
  refine vv ?_;refine cJ [(0,1),(1,1),(2,2),(3,1),(4,1),(5,2),(6,1),(7,1),(8,2),(9,1),(10,3),(11,0),(12,1)] kr kr (zm6 ?_);refine mT ?_
  refine ar (dA rfl rfl (by simp only [List.length_append,List.length_cons,List.length_nil];omega)) rfl (vp ?_);refine rU ?_
  refine aQ (aJ hro hx rfl rfl) rfl (ar (dA rfl rfl (by simp only [List.length_append,List.length_cons,List.length_nil];omega)) rfl (aA rfl rfl rfl rfl (fun b22=>?_)))
  refine bn (TL.append (enc:=Str.cells) rfl rfl rfl hO (Src.own [(p.name++[46])++x] (.here _) rfl rfl) (by simp;omega) rfl (.skip _ (.skip _ .all)) rfl (fun a23 c23 ob23 hO23=>?_))
  refine TF.back (zm6 ?_);refine TF.nil (ie ?_)
  exact aE (k+1) _ ob23 H ⟨o2q,by rw [bF k0 hx];exact hO23⟩ ky (fun w hw=>hw.drop) om
 refine oJ ?_
 refine TX.pubO hO (.skip _ .all) sq (fun H2 hle2 hR=>?_)
 rw [bh c9 k0] at hR
 exact aN (.inr rfl) (ad rfl (RVal.tmp rfl)) hR
end Go.Sx
namespace Go.Sx
open Go
def dE (x:SPoint)(r:Str):Bool:=decide (x.frm=r)||decide (x.to=r)
def f3:List Bool→List Int→List Int→List Bool×List Int
 | met,todo,[]=>(met,todo)
 | met,todo,i::r=>if 0≤i∧met[i.toNat]? =some false then f3 (met.set i.toNat true) (todo++[i]) r else f3 met todo r
def fW:List Bool→List Int→List SArm→List Bool×List Int
 | met,todo,[]=>(met,todo)
 | met,todo,a::r=>if met[a.next.toNat]? =some false then fW (met.set a.next.toNat true) (todo++[a.next]) r else fW met todo r
def e9 (p:SProto)(role:Str)(j:Int)(met:List Bool)(todo:List Int):List Bool×List Int:=match p.points[j.toNat]? with
 | none=>(met,todo)
 | some x=>if dE x role=true then(met,todo) else fW met todo x.arms
def eR (p:SProto)(role:Str):Nat→Nat→List Bool→List Int→List Bool×List Int
 | 0,_,met,todo=>(met,todo)
 | f+1,i,met,todo=>match todo[i]? with
  | none=>(met,todo)
  | some j=>eR p role f (i+1) (e9 p role j met todo).1 (e9 p role j met todo).2
def vX (met:List Bool):List Int:=((List.range met.length).filter (fun i=>met[i]? ==some true)).map (fun i:Nat=>(i:Int))
def fO (p:SProto)(role:Str)(frm:List Int):List Bool×List Int:=f3 (List.replicate p.points.length false) [] frm
def cx (p:SProto)(role:Str)(frm:List Int):List Int:=vX (eR p role p.points.length 0 (fO p role frm).1 (fO p role frm).2).1
structure Met (n:Nat)(met:List Bool)(todo:List Int):Prop where
 len:met.length=n
 cnt:todo.length=met.count true
 rng:∀j∈todo,0≤j∧j<n
theorem Met.le {n:Nat}{met:List Bool}{todo:List Int}(h:Met n met todo):todo.length≤n:=by
 rw [h.cnt,← h.len];exact List.count_le_length
theorem Met.zero (n:Nat):Met n (List.replicate n false) []:=⟨by simp,by simp [List.count_replicate],by simp⟩
theorem xx {l:List Bool}{i:Nat}(h:l[i]? =some false):(l.set i true).count true=l.count true+1:=by
 induction l generalizing i with
 | nil=>simp at h
 | cons b l ih=>
  cases i with
  | zero=>simp at h;subst h;simp
  | succ i=>
   simp only [List.getElem?_cons_succ] at h
   have:=ih h
   simp only [List.set_cons_succ,List.count_cons,this]
   omega
theorem Met.set {n:Nat}{met:List Bool}{todo:List Int}(h:Met n met todo){j:Int}(h0:0≤j)(hj:met[j.toNat]? =some false):Met n (met.set j.toNat true) (todo++[j]):=by
 refine⟨by simp [h.len],by rw [xx hj,List.length_append,h.cnt];rfl,fun x hx=>?_⟩
 rcases List.mem_append.1 hx with hx | hx
 ·exact h.rng x hx
 ·rw [List.mem_singleton.1 hx]
  have:=(List.getElem?_eq_some_iff.1 hj).1
  rw [h.len] at this
  exact⟨h0,by omega⟩
theorem nA {met:List Bool}{todo:List Int}{l:List Int}{i:Int}{k:Nat}(hx:l[k]? =some i)(h:¬(0≤i∧met[i.toNat]? =some false)):f3 met todo (l.drop k)=f3 met todo (l.drop (k+1)):=by
 rw [List.drop_eq_getElem?_toList_append,hx]
 simp only [Option.toList_some,List.singleton_append,f3,if_neg h]
theorem wS {met:List Bool}{todo:List Int}{l:List Int}{i:Int}{k:Nat}(hx:l[k]? =some i)(h:0≤i∧met[i.toNat]? =some false):f3 met todo (l.drop k)=f3 (met.set i.toNat true) (todo++[i]) (l.drop (k+1)):=by
 rw [List.drop_eq_getElem?_toList_append,hx]
 simp only [Option.toList_some,List.singleton_append,f3,if_pos h]
theorem zK {met:List Bool}{todo:List Int}{l:List SArm}{a:SArm}{k:Nat}(hx:l[k]? =some a)(h:¬met[a.next.toNat]? =some false):fW met todo (l.drop k)=fW met todo (l.drop (k+1)):=by
 rw [List.drop_eq_getElem?_toList_append,hx]
 simp only [Option.toList_some,List.singleton_append,fW,if_neg h]
theorem xI {met:List Bool}{todo:List Int}{l:List SArm}{a:SArm}{k:Nat}(hx:l[k]? =some a)(h:met[a.next.toNat]? =some false):fW met todo (l.drop k)=fW (met.set a.next.toNat true) (todo++[a.next]) (l.drop (k+1)):=by
 rw [List.drop_eq_getElem?_toList_append,hx]
 simp only [Option.toList_some,List.singleton_append,fW,if_pos h]
theorem uT {met:List Bool}{i:Int}(h0:0≤i)(h1:i<met.length):∃b,met[i.toNat]? =some b∧(met.map Value.bool)[0+i.toNat * 1]? =some (.bool b):=by
 have h2:i.toNat<met.length:=by omega
 refine⟨met[i.toNat],List.getElem?_eq_getElem h2,?_⟩
 rw [Nat.zero_add,Nat.mul_one,List.getElem?_map,List.getElem?_eq_getElem h2];rfl
theorem pO (met:List Bool)(k:Nat)(b:Bool)(h:met[k]? =some b):(((List.range (k+1)).filter (fun i=>met[i]? ==some true)).map (fun i:Nat=>(i:Int)))=((List.range k).filter (fun i=>met[i]? ==some true)).map (fun i:Nat=>(i:Int))++(if b=true then [(k:Int)] else []):=by
 rw [List.range_succ,List.filter_append,List.map_append]
 congr 1
 cases b<;>simp [h]
def lB (p:SProto):Prop:=∀x∈p.points,∀a∈x.arms,0≤a.next∧a.next<p.points.length
theorem k6 {a b:List Int}(h:¬(a.length:Int)=b.length):decide (a=b)=false:=by
 simp only [decide_eq_false_iff_not];rintro rfl;exact h rfl
theorem nE {a b:List Int}{k:Int}{x y:Int}(hx:a[k.toNat]? =some x)(hy:b[k.toNat]? =some y)(h:¬x=y):decide (a=b)=false:=by
 simp only [decide_eq_false_iff_not];rintro rfl;rw [hx] at hy;exact h (Option.some.inj hy)
theorem k7 {a b:List Int}{k:Int}(hl:a.length=b.length)(k0:0≤k)(hk:¬k<a.length)(h:a.take k.toNat=b.take k.toNat):decide (a=b)=true:=by
 simp only [decide_eq_true_iff]
 rwa [List.take_of_length_le om,List.take_of_length_le om] at h
theorem reps_b (n:Nat):fP n [.bool false]=(List.replicate n false).map Value.bool:=by
 induction n with
 | zero=>rfl
 | succ n ih=>rw [List.replicate_succ,List.map_cons,← ih];rfl
theorem mset {M:List Nat}{w0 w:World}{H0 H:Hp}{b:Nat}{met:List Bool}{i:Nat}{R:aj}(h:St M w0 H0 H ((b,(met.map Value.bool).set (0+i * 1) (.bool true))::R) w):St M w0 H0 H ((b,(met.set i true).map Value.bool)::R) w:=by
 rw [List.map_set]
 simpa using h
theorem mset1 {M:List Nat}{w0 w:World}{H0 H:Hp}{b:Nat}{met:List Bool}{i:Nat}{y:Nat×List Value}{R:aj}(h:St M w0 H0 H (y::(b,(met.map Value.bool).set (0+i * 1) (.bool true))::R) w):St M w0 H0 H (y::(b,(met.set i true).map Value.bool)::R) w:=by
 rw [List.map_set]
 simpa using h
theorem St.dropT {M:List Nat}{w0 w:World}{H0 H:Hp}{A B:aj}(h:St M w0 H0 H (A++B) w):St M w0 H0 H A w:=(h.perm List.perm_append_comm).dropN
theorem nz {p:SProto}{role:Str}{f i:Nat}{met:List Bool}{todo:List Int}{j:Int}{x:SPoint}{r:List Bool×List Int}(hj:todo[i]? =some j)(hx:p.points[j.toNat]? =some x)(hr:(if dE x role=true then(met,todo) else fW met todo x.arms)=r):eR p role (f+1) i met todo=eR p role f (i+1) r.1 r.2:=by
 rw [eR,hj]
 simp only [e9,hx,hr]
theorem pS {p:SProto}{role:Str}{f i:Nat}{met:List Bool}{todo:List Int}(h:todo.length≤i):eR p role f i met todo=(met,todo):=by
 cases f with
 | zero=>rfl
 | succ f=>rw [eR,List.getElem?_eq_none h]
def gY (met:List Bool)(k:Nat):List Int:=((List.range k).filter (fun i=>met[i]? ==some true)).map (fun i:Nat=>(i:Int))
theorem pP {met:List Bool}{k:Int}(k0:0≤k)(h:met[k.toNat]? =some true):gY met (k+1).toNat=gY met k.toNat++[k]:=by
 unfold gY
 rw [show(k+1).toNat=k.toNat+1 by omega,pO met k.toNat true h]
 simp;omega
theorem sN {met:List Bool}{k:Int}(k0:0≤k)(h:met[k.toNat]? =some false):gY met (k+1).toNat=gY met k.toNat:=by
 unfold gY
 rw [show(k+1).toNat=k.toNat+1 by omega,pO met k.toNat false h]
 simp
theorem pQ (met:List Bool)(k:Nat):(gY met k).length≤k:=by
 unfold gY
 rw [List.length_map]
 exact Nat.le_trans (List.length_filter_le _ _) sq
theorem k5 {n:Nat}:∀{l:List Int} {met:List Bool} {todo:List Int},Met n met todo→Met n (f3 met todo l).1 (f3 met todo l).2
 | [],_,_,h=>h
 | i::r,met,todo,h=>by
  unfold f3
  split
  ·rename_i hc;exact k5 (h.set hc.1 hc.2)
  ·exact k5 h
theorem lx {n:Nat}:∀{l:List SArm} {met:List Bool} {todo:List Int},(∀a∈l,0≤a.next)→Met n met todo→Met n (fW met todo l).1 (fW met todo l).2
 | [],_,_,_,h=>h
 | a::r,met,todo,hn,h=>by
  unfold fW
  split
  ·rename_i hc;exact lx (fun x hx=>hn x (List.mem_cons_of_mem _ hx)) (h.set (hn a sq) hc)
  ·exact lx (fun x hx=>hn x (List.mem_cons_of_mem _ hx)) h
theorem qy {n:Nat}{p:SProto}{role:Str}(hN:lB p){j:Int}{met:List Bool}{todo:List Int}(h:Met n met todo):Met n (e9 p role j met todo).1 (e9 p role j met todo).2:=by
 unfold e9
 split
 ·exact h
 ·rename_i x hx
  split
  ·exact h
  ·exact lx (fun a ha=>(hN x (List.mem_of_getElem? hx) a ha).1) h
theorem pR {n:Nat}{p:SProto}{role:Str}(hN:lB p):∀{f i:Nat} {met:List Bool} {todo:List Int},Met n met todo→Met n (eR p role f i met todo).1 (eR p role f i met todo).2
 | 0,_,_,_,h=>h
 | f+1,i,met,todo,h=>by
  unfold eR
  split
  ·exact h
  ·exact pR hN (qy hN h)
theorem k4 {p:SProto}{role:Str}(hN:lB p)(frm:List Int):Met p.points.length (eR p role p.points.length 0 (fO p role frm).1 (fO p role frm).2).1 (eR p role p.points.length 0 (fO p role frm).1 (fO p role frm).2).2:=pR hN (k5 (Met.zero _))
theorem kZ {p:SProto}{role:Str}(hN:lB p){frm:List Int}:∀j∈cx p role frm,0≤j∧j<p.points.length:=by
 intro j hj
 unfold cx vX at hj
 obtain⟨i,hi,rfl⟩:=List.mem_map.1 hj
 have h1:=List.mem_range.1 (List.mem_filter.1 hi).1
 rw [(k4 hN frm).len] at h1
 exact o2q
theorem iQ {p:SProto}{role:Str}(hN:lB p){frm:List Int}:(cx p role frm).length≤p.points.length:=by
 have:=pQ (eR p role p.points.length 0 (fO p role frm).1 (fO p role frm).2).1 (eR p role p.points.length 0 (fO p role frm).1 (fO p role frm).2).1.length
 rw [(k4 hN frm).len] at this
 unfold cx vX
 rw [(k4 hN frm).len]
 exact this
def inP (p:SProto)(role:Str)(i:Int):Bool:=match p.points[i.toNat]? with
 | some x=>dE x role
 | none=>false
def db (p:SProto)(role:Str)(l:List Int):List Int:=l.filter (inP p role)
theorem y8 {p:SProto}{role:Str}{l:List Int}{i:Int}{k:Int}(k0:0≤k)(hx:l[k.toNat]? =some i)(h:inP p role i=true):db p role (l.take (k+1).toNat)=db p role (l.take k.toNat)++[i]:=by
 rw [bB k0 hx];unfold db;rw [List.filter_append];simp [h]
theorem near_no {p:SProto}{role:Str}{l:List Int}{i:Int}{k:Int}(k0:0≤k)(hx:l[k.toNat]? =some i)(h:inP p role i=false):db p role (l.take (k+1).toNat)=db p role (l.take k.toNat):=by
 rw [bB k0 hx];unfold db;rw [List.filter_append];simp [h]
theorem lj {p:SProto}{role:Str}(l:List Int):(db p role l).length≤l.length:=List.length_filter_le _ _
def gx (p:SProto)(role:Str)(i:Int):Bool:=decide ((db p role (cx p role [i])).length=0)
structure GRow where
 l:List Int
 sp:Sp
def GRow.cells (r:GRow):List Value:=[.slice r.sp.1 r.l.length r.sp.2]
instance :Cells 1 GRow.cells:=⟨fun _=>rfl,by decide,fun _=>rfl⟩
def eF:List (List Int)→List Int→Option Nat
 | [],_=>none
 | y::r,x=>if y=x then some 0 else(eF r x).map (· +1)
theorem nn:∀{l:List (List Int)} {x:List Int} {k:Nat},l[k]? =some x→(∀j,j<k→l[j]? ≠some x)→eF l x=some k
 | [],_,_,h,_=>by simp at h
 | y::r,x,0,h,_=>by simp at h;unfold eF;rw [if_pos h]
 | y::r,x,k+1,h,hn=>by
  unfold eF
  rw [if_neg (fun e=>hn 0 om (by simp [e])),nn (k:=k) (by simpa using h) (fun j hj=>by have:=hn (j+1) om;simpa using this)]
  rfl
theorem no:∀{l:List (List Int)} {x:List Int},(∀j,j<l.length→l[j]? ≠some x)→eF l x=none
 | [],_,_=>rfl
 | y::r,x,hn=>by
  unfold eF
  rw [if_neg (fun e=>hn 0 sq (by simp [e])),no (fun j hj=>by have:=hn (j+1) (by simp;omega);simpa using this)]
  rfl
def bA (p:SProto)(role:Str)(sets:List (List Int))(frm:List Int):Int×Int×List (List Int):=
 if 0<(db p role (cx p role frm)).length∧(cx p role frm).any (gx p role)=true then(0,801,sets)
 else match eF sets (db p role (cx p role frm)) with
  | some i=>(i,0,sets)
  | none=>if sets.length=40 then(0,805,sets) else(sets.length,0,sets++[db p role (cx p role frm)])
def WK (p:SProto)(role:Str)(sv:Value):List Value:=[gs p.name,.slice p.rp.1 p.roles.length p.rp.2,.slice p.pp.1 p.points.length p.pp.2,gs role,sv]
def GRowsOk (H:Hp)(rows:List GRow):Prop:=∀r∈rows,RdSl H 1 I64.cells (.slice r.sp.1 r.l.length r.sp.2) r.l
theorem GRowsOk.le {H H':Hp}{rows:List GRow}(h:GRowsOk H rows)(hl:H.le H'):GRowsOk H' rows:=fun r hr=>(h r hr).le hl
section
variable {p:SProto}{role:Str}{sets:List (List Int)}{frm:List Int}
theorem xj {k:Int}{j:Int}(hx:(cx p role frm)[k.toNat]? =some j)(hl:gx p role j=true)(hn:0<(db p role (cx p role frm)).length):bA p role sets frm=(0,801,sets):=by
 unfold bA
 rw [if_pos ⟨hn,List.any_eq_true.2 ⟨j,List.mem_of_getElem? hx,hl⟩⟩]
theorem xi {k:Nat}(hno:¬(0<(db p role (cx p role frm)).length∧(cx p role frm).any (gx p role)=true))(hx:sets[k]? =some (db p role (cx p role frm)))(hn:∀j,j<k→sets[j]? ≠some (db p role (cx p role frm))):bA p role sets frm=((k:Int),0,sets):=by
 unfold bA
 rw [if_neg hno,nn hx hn]
theorem qb (hno:¬(0<(db p role (cx p role frm)).length∧(cx p role frm).any (gx p role)=true))(hn:∀j,j<sets.length→sets[j]? ≠some (db p role (cx p role frm))):bA p role sets frm=if sets.length=40 then((0:Int),(805:Int),sets) else((sets.length:Int),(0:Int),sets++[db p role (cx p role frm)]):=by
 unfold bA
 rw [if_neg hno,no hn]
end
theorem no_lost {p:SProto}{role:Str}{l:List Int}{n:Nat}{k:Int}(k0:0≤k)(h:∀j:Nat,j<k.toNat→∀i,l[j]? =some i→gx p role i=false)(hk:¬k<l.length∨¬0<n):¬(0<n∧l.any (gx p role)=true):=by
 rintro⟨h1,h2⟩
 obtain⟨i,hi,hl⟩:=List.any_eq_true.1 h2
 obtain⟨j,hj⟩:=List.getElem?_of_mem hi
 have hjl:=(List.getElem?_eq_some_iff.1 hj).1
 rcases hk with hk | hk
 ·rw [h j om i hj] at hl;cases hl
 ·exact hk h1
section
variable {P:Program}{n:Nat}{ops:Array Oper}{Q:Exit→Act→World→Prop}{E:Env}{M:List Nat}{w0:World}{H0 H:Hp}{L:aj}{rest:List Oper}{dst:Option Nat}{op:Op}{ty:TypeId}{pos:String}{aft:Array Edge}
def KFn (P:Program)(b:Nat)(cs:List Value)(f:FuncId)(args:List Value)(H:Hp)(R:Value→Hp→aj→Prop):Prop:=FnX P f args H [(b,cs)] (fun v H' L'=>∃ob,L'=(b,cs)::ob∧R v H' ob)
theorem kO {f:FuncId}{args:List Value}{X Y:aj}{b:Nat}{cs:List Value}{R:Value→Hp→aj→Prop}(hL:L=X++(b,cs)::Y)(hE:cB P E op f args)(hF:KFn P b cs f args H R)(hd:bR dst n=true)
  (h:∀v H' ob,H.le H'→(∀p∈ob,w0.heap.size≤p.1)→R v H' ob→TL P n ops Q rest (bN dst v E) (St M w0 H0 H' (X++(b,cs)::(Y++ob)))):
  TL P n ops Q ({dst:=dst,op:=op,type:=ty,pos:=pos,after:=aft,guard:=none}::rest) E (St M w0 H0 H L):=by
 subst hL
 refine aP (tr X _ Y) ?_
 intro a w he hw
 refine bW rfl (fun K hK=>?_)
 unfold Oper.wp
 rw [hE n a w _ rfl he]
 refine(hF w hw.pass1).mono ?_
 rintro e w' ⟨v,H',L1',rfl,hst,ob,rfl,hR⟩
 have hf:∀p∈ob,w0.heap.size≤p.1:=fun p hp=>by
  rcases hst.mine p (List.mem_cons_of_mem _ hp) with hm | hm
  ·have h2:=hst.nd
   simp only [List.map_cons,List.nodup_cons] at h2
   have h3:p.1=b:=by simpa [keys] using hm
   exact absurd (List.mem_map.2 ⟨p,hp,h3⟩) h2.1
  ·exact Nat.le_trans hw.size hm
 have h1:=(hw.pastX hst).perm (p6 X _ Y ob)
 exact hK _ _ (h v H' ob hst.fr.1 hf hR _ _ (he.put hd) h1)
end
def eh (p:SProto)(role:Str):Nat→Int→Str→List Int→Int×Str×Int
 | _,kind,peer,[]=>(kind,peer,0)
 | i,kind,peer,j::r=>match p.points[j.toNat]? with
  | none=>(kind,peer,0)
  | some x=>if 0<i∧¬((if x.to=role then 2 else 1)=kind∧(if x.to=role then x.frm else x.to)=peer) then(0,[],802)
   else eh p role (i+1) (if x.to=role then 2 else 1) (if x.to=role then x.frm else x.to) r
def cF (p:SProto)(role:Str)(set:List Int):Int×Str×Int:=eh p role 0 0 [] set
theorem gK {p:SProto}{role:Str}{kind:Int}{peer:Str}{l:List Int}{k:Nat}{j:Int}{x:SPoint}{i:Nat}(hx:l[k]? =some j)(hp:p.points[j.toNat]? =some x)(h:0<i∧¬((if x.to=role then 2 else 1)=kind∧(if x.to=role then x.frm else x.to)=peer)):eh p role i kind peer (l.drop k)=(0,[],802):=by
 rw [List.drop_eq_getElem?_toList_append,hx]
 simp only [Option.toList_some,List.singleton_append,eh,hp,if_pos h]
theorem f2 {p:SProto}{role:Str}{kind:Int}{peer:Str}{l:List Int}{k:Nat}{j:Int}{x:SPoint}{i:Nat}(hx:l[k]? =some j)(hp:p.points[j.toNat]? =some x)(h:¬(0<i∧¬((if x.to=role then 2 else 1)=kind∧(if x.to=role then x.frm else x.to)=peer))):eh p role i kind peer (l.drop k)=eh p role (i+1) (if x.to=role then 2 else 1) (if x.to=role then x.frm else x.to) (l.drop (k+1)):=by
 rw [List.drop_eq_getElem?_toList_append,hx]
 simp only [Option.toList_some,List.singleton_append,eh,hp,if_neg h]
def fZ (o:List Str)(l:List SArm):List Str:=l.foldl (fun o a=>o.foldl cA [a.label]) o
def jd (p:SProto)(o:List Str)(l:List Int):List Str:=l.foldl (fun o j=>match p.points[j.toNat]? with | some x=>fZ o x.arms | none=>o) o
def cX (p:SProto)(l:List Int):List Str:=jd p [] l
def ki (p:SProto)(n:Nat)(j:Int):Bool:=match p.points[j.toNat]? with
 | some x=>decide ((x.arms.length:Int)=n)
 | none=>true
def iI (p:SProto)(l:List Int):Bool:=l.all (ki p (cX p l).length)
theorem th:∀(l:List Str) (s:Str),(cA l s).length≤l.length+1
 | [],s=>by simp [cA]
 | x::r,s=>by
  have:=th r s
  unfold cA
  split
  ·simp;omega
  ·split<;>simp
theorem l8:∀(l o:List Str),(l.foldl cA o).length≤l.length+o.length
 | [],o=>by simp
 | x::r,o=>by
  have h1:=l8 r (cA o x)
  have h2:=th o x
  simp only [List.foldl_cons,List.length_cons]
  omega
theorem xo {o:List Str}{l:List SArm}{k:Int}{a:SArm}(k0:0≤k)(hx:l[k.toNat]? =some a):fZ o (l.take (k+1).toNat)=(fZ o (l.take k.toNat)).foldl cA [a.label]:=by
 rw [bB k0 hx];unfold fZ;rw [List.foldl_append];rfl
theorem n7:∀(o:List Str) (l:List SArm),(fZ o l).length≤o.length+l.length
 | o,[]=>by simp [fZ]
 | o,a::r=>by
  have h1:=n7 (o.foldl cA [a.label]) r
  have h2:=l8 o [a.label]
  have e:fZ o (a::r)=fZ (o.foldl cA [a.label]) r:=rfl
  rw [e]
  simp only [List.length_cons,List.length_nil] at *
  omega
theorem xn {p:SProto}{o:List Str}{l:List Int}{k:Int}{j:Int}{x:SPoint}(k0:0≤k)(hx:l[k.toNat]? =some j)(hp:p.points[j.toNat]? =some x):jd p o (l.take (k+1).toNat)=fZ (jd p o (l.take k.toNat)) x.arms:=by
 rw [bB k0 hx];unfold jd;rw [List.foldl_append];simp only [List.foldl_cons,List.foldl_nil,hp]
theorem tN {p:SProto}(h6:∀x∈p.points,x.arms.length≤6):∀(l:List Int) (o:List Str),(jd p o l).length≤o.length+6 * l.length
 | [],o=>by simp [jd]
 | j::r,o=>by
  have key:∀o',(jd p o' r).length≤o'.length+6 * r.length:=fun o'=>tN h6 r o'
  show(jd p (match p.points[j.toNat]? with | some x=>fZ o x.arms | none=>o) r).length≤_
  cases hj:p.points[j.toNat]? with
  | none=>have:=key o;simp only [List.length_cons];omega
  | some x=>
   have h1:=key (fZ o x.arms)
   have h2:=n7 o x.arms
   have h3:=h6 x (List.mem_of_getElem? hj)
   simp only [List.length_cons];omega
def gf (p:SProto)(s:Str):Int→Str→List Int→List Int→Int×Str×List Int×Bool
 | ck,cn,to,[]=>(ck,cn,to,true)
 | ck,cn,to,j::r=>match p.points[j.toNat]? with
  | none=>gf p s ck cn to r
  | some x=>if bz (x.arms.map (·.label)) s<0 then gf p s ck cn to r else match x.arms[(bz (x.arms.map (·.label)) s).toNat]? with
   | none=>gf p s ck cn to r
   | some a=>if 0<to.length∧¬(a.ck=ck∧a.cn=cn) then(ck,cn,[],false) else gf p s a.ck a.cn (to++[a.next]) r
def dg (p:SProto)(l:List Int)(s:Str):Int×Str×List Int×Bool:=gf p s 0 [] [] l
section
variable {p:SProto}{s:Str}{ck:Int}{cn:Str}{to l:List Int}{k:Nat}{j:Int}{x:SPoint}
theorem xE (hx:l[k]? =some j)(hp:p.points[j.toNat]? =some x)(h:bz (x.arms.map (·.label)) s<0):gf p s ck cn to (l.drop k)=gf p s ck cn to (l.drop (k+1)):=by
 rw [List.drop_eq_getElem?_toList_append,hx]
 simp only [Option.toList_some,List.singleton_append,gf,hp,if_pos h]
theorem zB {a:SArm}(hx:l[k]? =some j)(hp:p.points[j.toNat]? =some x)(h:¬bz (x.arms.map (·.label)) s<0)(ha:x.arms[(bz (x.arms.map (·.label)) s).toNat]? =some a)(hb:0<to.length∧¬(a.ck=ck∧a.cn=cn)):gf p s ck cn to (l.drop k)=(ck,cn,[],false):=by
 rw [List.drop_eq_getElem?_toList_append,hx]
 simp only [Option.toList_some,List.singleton_append,gf,hp,if_neg h,ha,if_pos hb]
theorem ql {a:SArm}(hx:l[k]? =some j)(hp:p.points[j.toNat]? =some x)(h:¬bz (x.arms.map (·.label)) s<0)(ha:x.arms[(bz (x.arms.map (·.label)) s).toNat]? =some a)(hb:¬(0<to.length∧¬(a.ck=ck∧a.cn=cn))):gf p s ck cn to (l.drop k)=gf p s a.ck a.cn (to++[a.next]) (l.drop (k+1)):=by
 rw [List.drop_eq_getElem?_toList_append,hx]
 simp only [Option.toList_some,List.singleton_append,gf,hp,if_neg h,ha,if_neg hb]
end
section
variable {P:Program}{n:Nat}{ops:Array Oper}{Q:Exit→Act→World→Prop}{E:Env}{M:List Nat}{w0:World}{H0 H:Hp}{L:aj}{rest:List Oper}{dst:Option Nat}{op:Op}{ty:TypeId}{pos:String}{aft:Array Edge}
theorem wh (X A Y:aj):(X++(A++Y)).Perm (A++(X++Y)):=by
 rw [← List.append_assoc,← List.append_assoc];exact(List.perm_append_comm).append_right Y
theorem lz {f:FuncId}{args:List Value}{X A Y:aj}{Φ:Value→Hp→aj→Prop}(hL:L=X++(A++Y))(hE:cB P E op f args)(hF:FnX P f args H A Φ)(hd:bR dst n=true)
  (h:∀v H' A',H.le H'→Φ v H' A'→TL P n ops Q rest (bN dst v E) (St M w0 H0 H' (X++(A'++Y)))):
  TL P n ops Q ({dst:=dst,op:=op,type:=ty,pos:=pos,after:=aft,guard:=none}::rest) E (St M w0 H0 H L):=by
 subst hL
 refine aP (wh X A Y) (di hE hF hd fun v H' A' hle hΦ=>?_)
 exact aP (wh X A' Y).symm (h v H' A' hle hΦ)
end
def turnA (p:SProto)(role:Str)(set:List Int):List Str→List (List Int)→List SArm→List SArm×Int×List (List Int)
 | [],sets,acc=>(acc,0,sets)
 | lb::r,sets,acc=>if(bA p role sets (dg p set lb).2.2.1).2.1≠0 then([],(bA p role sets (dg p set lb).2.2.1).2.1,(bA p role sets (dg p set lb).2.2.1).2.2)
  else turnA p role set r (bA p role sets (dg p set lb).2.2.1).2.2 (acc++[⟨lb,(dg p set lb).1,(dg p set lb).2.1,(bA p role sets (dg p set lb).2.2.1).1⟩])
def jJ (p:SProto)(set:List Int)(lb:Str):Bool:=(dg p set lb).2.2.2
def bp (p:SProto)(role:Str)(sets:List (List Int))(set:List Int):(Int×Str×List SArm)×Int×List (List Int):=
 if set.length=0 then((0,[],[]),0,sets)
 else if(cF p role set).2.2≠0 then((0,[],[]),(cF p role set).2.2,sets)
 else if(cF p role set).1=1∧iI p set=false then((0,[],[]),803,sets)
 else if 6<(cX p set).length then((0,[],[]),805,sets)
 else if(cX p set).all (jJ p set)=false then((0,[],[]),804,sets)
 else if(turnA p role set (cX p set) sets []).2.1≠0 then((0,[],[]),(turnA p role set (cX p set) sets []).2.1,(turnA p role set (cX p set) sets []).2.2)
 else(((cF p role set).1,(cF p role set).2.1,(turnA p role set (cX p set) sets []).1),0,(turnA p role set (cX p set) sets []).2.2)
section
variable {p:SProto}{role:Str}{set:List Int}{sets:List (List Int)}{acc:List SArm}{l:List Str}{k:Nat}{lb:Str}
theorem wN (hx:l[k]? =some lb)(h:(bA p role sets (dg p set lb).2.2.1).2.1≠0):turnA p role set (l.drop k) sets acc=([],(bA p role sets (dg p set lb).2.2.1).2.1,(bA p role sets (dg p set lb).2.2.1).2.2):=by
 rw [List.drop_eq_getElem?_toList_append,hx]
 simp only [Option.toList_some,List.singleton_append,turnA,if_pos h]
theorem ur (hx:l[k]? =some lb)(h:¬(bA p role sets (dg p set lb).2.2.1).2.1≠0):turnA p role set (l.drop k) sets acc=turnA p role set (l.drop (k+1)) (bA p role sets (dg p set lb).2.2.1).2.2 (acc++[⟨lb,(dg p set lb).1,(dg p set lb).2.1,(bA p role sets (dg p set lb).2.2.1).1⟩]):=by
 rw [List.drop_eq_getElem?_toList_append,hx]
 simp only [Option.toList_some,List.singleton_append,turnA,if_neg h]
end
structure TQ1 where
 k:Int
 h:Hp
 sv:Value
 ob:aj
 rows:List GRow
 v:Value
 oa:aj
 arms:List SArm
theorem iH {p:SProto}{s:Str}:∀(l:List Int) (ck:Int) (cn:Str) (to:List Int),(gf p s ck cn to l).2.2.1.length≤to.length+l.length
 | [],_,_,to=>by simp [gf]
 | j::r,ck,cn,to=>by
  unfold gf
  split
  ·have:=iH (p:=p) (s:=s) r ck cn to;simp only [List.length_cons];omega
  ·split
   ·have:=iH (p:=p) (s:=s) r ck cn to;simp only [List.length_cons];omega
   ·split
    ·have:=iH (p:=p) (s:=s) r ck cn to;simp only [List.length_cons];omega
    ·rename_i a _
     split
     ·simp
     ·have:=iH (p:=p) (s:=s) r a.ck a.cn (to++[a.next]);simp only [List.length_append,List.length_cons,List.length_nil] at *;omega
theorem zA {p:SProto}{s:Str}(l:List Int):(dg p l s).2.2.1.length≤l.length:=by
 have:=iH (p:=p) (s:=s) l 0 [] []
 simpa [dg] using this
end Go.Sx
