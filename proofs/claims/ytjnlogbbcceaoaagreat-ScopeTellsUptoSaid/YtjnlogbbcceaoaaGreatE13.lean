import Derived.Test.YtjnlogbbcceaoaaGreatE12
set_option linter.all false
set_option maxRecDepth 100000
set_option maxHeartbeats 32000000
namespace Go.Sx
open Go Go.Proofs
theorem BM {H:Hp}{bd:Nat}{dl:Value}{at_:Int}(hd:DiceOk H dl at_){tv:Value}{types:List Str}(hty:RdSl H 1 Str.cells tv types)(htn:∀s∈types,TyNm s)(htl:types.length≤100)(name:Str):
  DFn Tryz.prog bd dl at_ 168 [gs name,.int .i64 2,tv] H (fun v H1 ob=>ob=[]∧(H.le H1∧∃p:SProto,v= .agg p.cells.toArray∧ProtoOk H1 p∧p.name=name∧p.roles=rolesL.take 2)):=by
 have hrl:(rolesL.take (2:Int).toNat).length=2:=rfl
 refine FnX.enter Tryz.func168 Tryz.ntmps168 rfl rfl (fun w0=>?_)
 refine zm2 ?_
 refine TL.alloc rfl (fun b8=>?_)
 refine jo ?_
 refine TL.call (ab rfl rfl rfl rfl) (jg) rfl (fun v19 H19 hle19 hp19=>?_)
 replace hd:=hd.le hle19
 replace hty:=hty.le hle19
 have hro19:=hp19
 obtain⟨ra19,rc19,rfl⟩:=hro19.len
 have hcp:5≤rc19:=hro19.room _ _ _ rfl
 have hsl:=hro19.sliced (i:=0) (j:=(2:Int).toNat) om dq
 have hle0:=hle19
 refine zm0 ?_;refine Ah ?_
 refine TL.append (enc:=Str.cells) rfl rfl rfl (OwnSl.nil (enc:=Str.cells)) (Src.sl hsl) (by simp only [List.length_drop,List.length_nil];omega) rfl (.new _ rfl) rfl (fun a22 c22 ob22 hO22=>?_)
 refine dN ?_
 refine TL.alloc rfl (fun b9=>?_)
 refine Ag ?_
 refine eB (X:=[(b9,_),(b8,_),(bd,_)]) hO22 rfl (by simp [keys]) (fun HR leR hR=>?_)
 replace hd:=hd.le leR
 replace hty:=hty.le leR
 replace hle0:=hle0.trans leR
 have hrs0:RdSl HR 1 Str.cells (.slice a22 (rolesL.take (2:Int).toNat).length c22) (rolesL.take (2:Int).toNat):=hR
 have hty1:=hty
 have hleR:=hle0
 refine ai (vH (V:=fun(q:Q4)=>[(10,gs q.a),(11,gs q.b)]) (K:=[(0,_),(2,_),(3,_),(8,_),(9,_)]) ky (L:=fun(q:Q4)=>St (keys [(bd,[dl,.int .i64 at_])]) w0 H q.h [(b9,[gs name,.slice a22 (rolesL.take (2:Int).toNat).length c22,.slice none 0 0]),(b8,[gs [],.slice none 0 0,.slice none 0 0]),(bd,[dl,.int .i64 q.at_])]) (I:=fun(q:Q4)=>DiceOk q.h dl q.at_∧HR.le q.h) ?_ ?_)
 · exact GM
 intro q hI
 obtain⟨hI1,hI2⟩:=hI
 have hty:=hty1.le hI2
 have hrs:=hrs0.le hI2
 have hle:=hleR.trans hI2
 refine el ?_
 refine aI (X:=[(b9,_),(b8,_)]) (bd:=bd) rfl (ab rfl rfl rfl rfl) (bq 2 om hI1) rfl (fun v36 H36 at36 hle36 hd36 hp36=>?_)
 obtain⟨eH36,r36,rfl,hr36⟩:=hp36
 replace eH36:=eH36.symm;subst eH36
 have hra36:=hr36.1
 have hrb36:=hr36.2.1 om
 refine kS ?_;refine el ?_
 refine aI (X:=[(b9,_),(b8,_)]) (bd:=bd) rfl (ab rfl rfl rfl rfl) (iu hd36) rfl (fun v39 H39 at39 hle39 hd39 hp39=>?_)
 obtain⟨eH39,k39,rfl,hk39⟩:=hp39
 replace eH39:=eH39.symm;subst eH39
 refine TL.alloc rfl (fun b13=>?_)
 refine qX ?_;refine Hu ?_;refine zL ?_;refine wP ?_;refine wP ?_;refine zm6 ?_;refine D9 ?_;refine eo ?_;refine Af ?_
 refine aJ rfl rfl rfl rfl (fun b55=>?_)
 refine eo ?_
 refine aJ rfl rfl rfl rfl (fun b57=>?_)
 refine au rfl (TL.append (enc:=SPoint.cells) rfl rfl rfl (OwnSl.nil (enc:=SPoint.cells)) (Src.own [⟨_,_,[⟨[],0,[],0⟩,⟨[],0,[],0⟩],(some ⟨b55,0,none⟩,2)⟩] (.here _) rfl rfl) sq rfl (.new _ rfl) rfl (fun a58 c58 ob58 hO58=>?_))
 refine ax (S0 (S0 (S1 (S1 (S1 (S1 SN)))))) (Hp.le.refl _) (gV ?_);refine oI ?_;refine kY ?_;refine ra ?_;refine TC.rounds 1 (DS ?_);refine DR ?_;refine iB ?_;refine jK ?_
 refine af rfl ?_ ?_<;>intro c93
 ·
  refine dO ?_;refine zm451 ?_;refine k6 ?_;refine k6 ?_;refine zm6 ?_;refine az (iF rfl rfl om om) rfl (oo ?_);refine wO ?_;refine k6 ?_;refine oo ?_;refine wO ?_;refine zm6 ?_
  refine au rfl (aI (X:=[(b57,_),(b55,_),(b13,_),(b9,_),(b8,_)]) (bd:=bd) rfl (ab rfl rfl rfl rfl) (iu hd39) rfl (fun v107 H107 at107 hle107 hd107 hp107=>?_))
  obtain⟨eH107,k107,rfl,hk107⟩:=hp107
  replace eH107:=eH107.symm;subst eH107
  refine ax (S1 (S1 (S1 (S1 (S1 SN))))) (Hp.le.refl _) (eo ?_)
  refine aJ rfl rfl rfl rfl (fun b109=>?_)
  refine eo ?_
  refine aJ rfl rfl rfl rfl (fun b111=>?_)
  refine au rfl (TL.append (enc:=SPoint.cells) rfl rfl rfl hO58 (Src.own [⟨_,_,[⟨[],0,[],0⟩],(some ⟨b109,0,none⟩,1)⟩] (.here _) rfl rfl) sq rfl (.s7 (.skip _ .all)) rfl (fun a112 c112 ob112 hO112=>?_))
  refine ax (S0 (S0 (S1 (S1 (S1 (S1 (S1 SN))))))) (Hp.le.refl _) (gV ?_);refine Ae ?_;refine kY ?_;refine mY ?_;refine tq ?_;refine TL.run (bK rfl rfl hO112) rfl (rm ?_);refine tq ?_
  refine TL.run (bY rfl rfl hO112 sq sq) rfl (zm5 ?_)
  refine TL.run (PR.to (eK rfl hO112 (.s7 (.skip _ .all)) rfl rfl) (rfl:_=Value.slice (some ⟨b55,0,none⟩) 2 2)) rfl (Ad ?_);refine oI ?_
  refine qW ?_;refine TC.rounds 1 (DS ?_);refine DR ?_;refine tD ?_;refine tq ?_;refine dN ?_
  refine aA rfl rfl rfl rfl (fun b170=>?_)
  refine TL.append (enc:=SPoint.cells) rfl rfl rfl hO112 (Src.own [gG] (.here _) rfl rfl) sq rfl (.s8 (.skip _ .all)) rfl (fun a171 c171 ob171 hO171=>?_)
  refine zm5 ?_;refine br rfl rfl rfl (.h6) rfl rfl (gN ?_)
  refine TL.run (bA rfl (.h6) rfl) rfl (cT rfl rfl rfl rfl rfl (.h7) rfl rfl (TL.nil (ai ?_)))
  refine TC.ret (Ac ?_)
  refine cP (by simp [keys]) (fun H_b55 le_b55 rd_b55=>?_)
  replace hrs:=hrs.le le_b55
  replace hle:=hle.trans le_b55
  replace hd107:=hd107.le le_b55
  obtain⟨l_b55,n_b55,hA_b55,z_b55⟩:=mz rd_b55 (by first | simp | (have:=hc82.len htn;omega)) (by first | simp | (have:=hc82.len htn;omega))
  refine qV ?_
  refine cP (by simp [keys]) (fun H_b109 le_b109 rd_b109=>?_)
  replace hrs:=hrs.le le_b109
  replace hle:=hle.trans le_b109
  replace hd107:=hd107.le le_b109
  replace hA_b55:=hA_b55.le le_b109
  obtain⟨l_b109,n_b109,hA_b109,z_b109⟩:=eJ rd_b109 (by first | simp | (have:=hc82.len htn;omega))
  refine eB (X:=[(b170,_),(b111,_),(b57,_),(b13,_),(b9,_),(b8,_),(bd,_)]) hO171 rfl (by simp [keys]) (fun H2 hle2 hP=>?_)
  replace hrs:=hrs.le hle2
  replace hle:=hle.trans hle2
  replace hd107:=hd107.le hle2
  replace hA_b55:=hA_b55.le hle2
  replace hA_b109:=hA_b109.le hle2
  have hP2:=hP.recell (l':=[⟨[97],[98],l_b55,(some ⟨b55,0,none⟩,2)⟩,⟨[98],[97],l_b109,(some ⟨b109,0,none⟩,1)⟩,gG]) (by simp only [List.nil_append,List.cons_append,List.map_cons,List.map_nil,SPoint.cells,n_b55,n_b109];rfl)
  have hPK:∀x∈([⟨[97],[98],l_b55,(some ⟨b55,0,none⟩,2)⟩,⟨[98],[97],l_b109,(some ⟨b109,0,none⟩,1)⟩,gG]:List SPoint),PointOk H2 x:=by
   intro x hx;simp only [List.mem_cons,List.not_mem_nil,or_false] at hx
   rcases hx with rfl | rfl | rfl
   · exact⟨by show RdSl H2 4 SArm.cells (.slice (some ⟨b55,0,none⟩) l_b55.length _) l_b55;rw [n_b55];exact hA_b55,z_b55⟩
   · exact⟨by show RdSl H2 4 SArm.cells (.slice (some ⟨b109,0,none⟩) l_b109.length _) l_b109;rw [n_b109];exact hA_b109,z_b109⟩
   · exact kA
  exact aZ (.inr rfl) (ad rfl (RVal.cellA rfl (.h5) rfl)) (fun w hw=>hw.drop.drop.drop.drop.drop.drop) ⟨_,[],rfl,hd107,rfl,hle,⟨name,(rolesL.take (2:Int).toNat),(a22,c22),[⟨[97],[98],l_b55,(some ⟨b55,0,none⟩,2)⟩,⟨[98],[97],l_b109,(some ⟨b109,0,none⟩,1)⟩,gG],(a171,c171)⟩,rfl,⟨hrs,hP2,hPK⟩,rfl,rfl⟩
 refine mY ?_;refine nr ?_;refine TL.run (bK rfl rfl hO58) rfl (TL.run (iF rfl rfl sq sq) rfl (zm1 ?_));refine TC.region (zm5 ?_);refine nr ?_;refine zm0 ?_
 refine TL.run (bY rfl rfl hO58 sq sq) rfl (zm5 ?_);refine zm427 ?_;refine eD ?_;refine qY ?_;refine zm5 ?_;refine nr ?_;refine TL.run (bK rfl rfl hO58) rfl (rm ?_);refine nr ?_
 refine TL.run (bY rfl rfl hO58 sq sq) rfl (zm5 ?_);refine zm427 ?_;refine oz ?_;refine zN ?_;refine qW ?_;refine TC.rounds 1 (DS ?_);refine DR ?_;refine tD ?_;refine nr ?_
 refine dN ?_
 refine aA rfl rfl rfl rfl (fun b170=>?_)
 refine TL.append (enc:=SPoint.cells) rfl rfl rfl hO58 (Src.own [gG] (.here _) rfl rfl) sq rfl (.s6 (.skip _ .all)) rfl (fun a171 c171 ob171 hO171=>?_)
 refine zm5 ?_;refine br rfl rfl rfl (.h4) rfl rfl (gN ?_);refine TL.run (bA rfl (.h4) rfl) rfl (oH ?_)
 refine qV ?_
 refine cP (by simp [keys]) (fun H_b55 le_b55 rd_b55=>?_)
 replace hrs:=hrs.le le_b55
 replace hle:=hle.trans le_b55
 replace hd39:=hd39.le le_b55
 obtain⟨l_b55,n_b55,hA_b55,z_b55⟩:=mz rd_b55 (by first | simp | (have:=hc82.len htn;omega)) (by first | simp | (have:=hc82.len htn;omega))
 refine eB (X:=[(b170,_),(b57,_),(b13,_),(b9,_),(b8,_),(bd,_)]) hO171 rfl (by simp [keys]) (fun H2 hle2 hP=>?_)
 replace hrs:=hrs.le hle2
 replace hle:=hle.trans hle2
 replace hd39:=hd39.le hle2
 replace hA_b55:=hA_b55.le hle2
 have hP2:=hP.recell (l':=[⟨[97],[98],l_b55,(some ⟨b55,0,none⟩,2)⟩,gG]) (by simp only [List.nil_append,List.cons_append,List.map_cons,List.map_nil,SPoint.cells,n_b55];rfl)
 have hPK:∀x∈([⟨[97],[98],l_b55,(some ⟨b55,0,none⟩,2)⟩,gG]:List SPoint),PointOk H2 x:=by
  intro x hx;simp only [List.mem_cons,List.not_mem_nil,or_false] at hx
  rcases hx with rfl | rfl
  · exact⟨by show RdSl H2 4 SArm.cells (.slice (some ⟨b55,0,none⟩) l_b55.length _) l_b55;rw [n_b55];exact hA_b55,z_b55⟩
  · exact kA
 exact aZ (.inr rfl) (ad rfl (RVal.cellA rfl (.h4) rfl)) (fun w hw=>hw.drop.drop.drop.drop.drop) ⟨_,[],rfl,hd39,rfl,hle,⟨name,(rolesL.take (2:Int).toNat),(a22,c22),[⟨[97],[98],l_b55,(some ⟨b55,0,none⟩,2)⟩,gG],(a171,c171)⟩,rfl,⟨hrs,hP2,hPK⟩,rfl,rfl⟩
theorem BL {H:Hp}{bd:Nat}{dl:Value}{at_:Int}(hd:DiceOk H dl at_){tv:Value}{types:List Str}(hty:RdSl H 1 Str.cells tv types)(htn:∀s∈types,TyNm s)(htl:types.length≤100)(name:Str):
  DFn Tryz.prog bd dl at_ 168 [gs name,.int .i64 3,tv] H (fun v H1 ob=>ob=[]∧(H.le H1∧∃p:SProto,v= .agg p.cells.toArray∧ProtoOk H1 p∧p.name=name∧p.roles=rolesL.take 3)):=by
 have hrl:(rolesL.take (3:Int).toNat).length=3:=rfl
 refine FnX.enter Tryz.func168 Tryz.ntmps168 rfl rfl (fun w0=>?_)
 refine zm2 ?_
 refine TL.alloc rfl (fun b8=>?_)
 refine jo ?_
 refine TL.call (ab rfl rfl rfl rfl) (jg) rfl (fun v19 H19 hle19 hp19=>?_)
 replace hd:=hd.le hle19
 replace hty:=hty.le hle19
 have hro19:=hp19
 obtain⟨ra19,rc19,rfl⟩:=hro19.len
 have hcp:5≤rc19:=hro19.room _ _ _ rfl
 have hsl:=hro19.sliced (i:=0) (j:=(3:Int).toNat) om dq
 have hle0:=hle19
 refine zm0 ?_;refine Ah ?_
 refine TL.append (enc:=Str.cells) rfl rfl rfl (OwnSl.nil (enc:=Str.cells)) (Src.sl hsl) (by simp only [List.length_drop,List.length_nil];omega) rfl (.new _ rfl) rfl (fun a22 c22 ob22 hO22=>?_)
 refine dN ?_
 refine TL.alloc rfl (fun b9=>?_)
 refine Ag ?_
 refine eB (X:=[(b9,_),(b8,_),(bd,_)]) hO22 rfl (by simp [keys]) (fun HR leR hR=>?_)
 replace hd:=hd.le leR
 replace hty:=hty.le leR
 replace hle0:=hle0.trans leR
 have hrs0:RdSl HR 1 Str.cells (.slice a22 (rolesL.take (3:Int).toNat).length c22) (rolesL.take (3:Int).toNat):=hR
 have hty1:=hty
 have hleR:=hle0
 refine ai (vH (V:=fun(q:Q4)=>[(10,gs q.a),(11,gs q.b)]) (K:=[(0,_),(2,_),(3,_),(8,_),(9,_)]) ky (L:=fun(q:Q4)=>St (keys [(bd,[dl,.int .i64 at_])]) w0 H q.h [(b9,[gs name,.slice a22 (rolesL.take (3:Int).toNat).length c22,.slice none 0 0]),(b8,[gs [],.slice none 0 0,.slice none 0 0]),(bd,[dl,.int .i64 q.at_])]) (I:=fun(q:Q4)=>DiceOk q.h dl q.at_∧HR.le q.h) ?_ ?_)
 · exact GM
 intro q hI
 obtain⟨hI1,hI2⟩:=hI
 have hty:=hty1.le hI2
 have hrs:=hrs0.le hI2
 have hle:=hleR.trans hI2
 refine el ?_
 refine aI (X:=[(b9,_),(b8,_)]) (bd:=bd) rfl (ab rfl rfl rfl rfl) (bq 2 om hI1) rfl (fun v36 H36 at36 hle36 hd36 hp36=>?_)
 obtain⟨eH36,r36,rfl,hr36⟩:=hp36
 replace eH36:=eH36.symm;subst eH36
 have hra36:=hr36.1
 have hrb36:=hr36.2.1 om
 refine kS ?_;refine el ?_
 refine aI (X:=[(b9,_),(b8,_)]) (bd:=bd) rfl (ab rfl rfl rfl rfl) (iu hd36) rfl (fun v39 H39 at39 hle39 hd39 hp39=>?_)
 obtain⟨eH39,k39,rfl,hk39⟩:=hp39
 replace eH39:=eH39.symm;subst eH39
 refine TL.alloc rfl (fun b13=>?_)
 refine qX ?_;refine Hu ?_;refine zL ?_;refine wP ?_;refine wP ?_;refine zm6 ?_;refine D9 ?_;refine eo ?_;refine Af ?_
 refine aJ rfl rfl rfl rfl (fun b55=>?_)
 refine eo ?_
 refine aJ rfl rfl rfl rfl (fun b57=>?_)
 refine au rfl (TL.append (enc:=SPoint.cells) rfl rfl rfl (OwnSl.nil (enc:=SPoint.cells)) (Src.own [⟨_,_,[⟨[],0,[],0⟩,⟨[],0,[],0⟩],(some ⟨b55,0,none⟩,2)⟩] (.here _) rfl rfl) sq rfl (.new _ rfl) rfl (fun a58 c58 ob58 hO58=>?_))
 refine ax (S0 (S0 (S1 (S1 (S1 (S1 SN)))))) (Hp.le.refl _) (gV ?_);refine oI ?_;refine kY ?_;refine ra ?_;refine TC.rounds 2 (wN ?_);refine zm428 ?_;refine k6 ?_;refine k6 ?_;refine oC ?_
 refine wO ?_;refine k6 ?_;refine oB ?_;refine wO ?_;refine rb ?_;refine k6 ?_
 refine az (bK rfl rfl hO58) rfl (az (fK rfl rfl sq sq) rfl (au rfl (aI (X:=[(b57,_),(b55,_),(b13,_),(b9,_),(b8,_)]) (bd:=bd) rfl (ab rfl rfl rfl rfl) (gi hd39 hty htn htl) rfl (fun v82_0 H82_0 at82_0 hle82_0 hd82_0 hp82_0=>?_))))
 obtain⟨eH82_0,k82_0,nm82_0,rfl,hc82_0⟩:=hp82_0
 replace eH82_0:=eH82_0.symm;subst eH82_0
 refine ax (S1 (S1 (S1 (S1 (S1 SN))))) (Hp.le.refl _) (eo ?_)
 refine aJ rfl rfl rfl rfl (fun b88=>?_)
 refine eo ?_
 refine aJ rfl rfl rfl rfl (fun b90=>?_)
 refine au rfl (TL.append (enc:=SPoint.cells) rfl rfl rfl hO58 (Src.own [⟨_,_,[⟨[],0,[],0⟩],(some ⟨b88,0,none⟩,1)⟩] (.here _) rfl rfl) sq rfl (.s7 (.skip _ .all)) rfl (fun a91_0 c91_0 ob91_0 hO91_0=>?_))
 refine ax (S0 (S0 (S1 (S1 (S1 (S1 (S1 SN))))))) (Hp.le.refl _) (gV ?_);refine Ae ?_;refine wM ?_;refine iB ?_;refine jK ?_
 refine af rfl ?_ ?_<;>intro c93
 ·
  refine dO ?_;refine zm452 ?_;refine wL ?_;refine wL ?_;refine zm6 ?_;refine az (iF rfl rfl om om) rfl (oo ?_);refine D8 ?_;refine wL ?_;refine oo ?_;refine D8 ?_
  refine zm6 ?_;refine au rfl (aI (X:=[(b90,_),(b88,_),(b57,_),(b55,_),(b13,_),(b9,_),(b8,_)]) (bd:=bd) rfl (ab rfl rfl rfl rfl) (iu hd82_0) rfl (fun v107 H107 at107 hle107 hd107 hp107=>?_))
  obtain⟨eH107,k107,rfl,hk107⟩:=hp107
  replace eH107:=eH107.symm;subst eH107
  refine ax (S1 (S1 (S1 (S1 (S1 (S1 (S1 SN))))))) (Hp.le.refl _) (eo ?_)
  refine aJ rfl rfl rfl rfl (fun b109=>?_)
  refine eo ?_
  refine aJ rfl rfl rfl rfl (fun b111=>?_)
  refine au rfl (TL.append (enc:=SPoint.cells) rfl rfl rfl hO91_0 (Src.own [⟨_,_,[⟨[],0,[],0⟩],(some ⟨b109,0,none⟩,1)⟩] (.here _) rfl rfl) sq rfl (.s9 (.skip _ .all)) rfl (fun a112 c112 ob112 hO112=>?_))
  refine ax (S0 (S0 (S1 (S1 (S1 (S1 (S1 (S1 (S1 SN))))))))) (Hp.le.refl _) (gV ?_);refine D7 ?_;refine kY ?_;refine mY ?_;refine tj ?_;refine TL.run (bK rfl rfl hO112) rfl (rm ?_);refine tj ?_
  refine TL.run (bY rfl rfl hO112 sq sq) rfl (zm5 ?_)
  refine TL.run (PR.to (eK rfl hO112 (.s9 (.skip _ .all)) rfl rfl) (rfl:_=Value.slice (some ⟨b55,0,none⟩) 2 2)) rfl (Ad ?_)
  refine Ae ?_;refine qW ?_;refine TC.rounds 2 (wN ?_);refine zm429 ?_;refine wK ?_;refine wK ?_;refine oC ?_;refine D6 ?_;refine wK ?_;refine oB ?_;refine D6 ?_;refine kK ?_
  refine Hf ?_;refine az (bK rfl rfl hO112) rfl (wJ ?_)
  refine aJ rfl rfl rfl rfl (fun b162=>?_)
  refine eo ?_
  refine aJ rfl rfl rfl rfl (fun b164=>?_)
  refine au rfl (TL.append (enc:=SPoint.cells) rfl rfl rfl hO112 (Src.own [⟨_,_,[⟨[],0,[],0⟩],(some ⟨b162,0,none⟩,1)⟩] (.here _) rfl rfl) sq rfl (.s11 (.skip _ .all)) rfl (fun a165_0 c165_0 ob165_0 hO165_0=>?_))
  refine ax (S0 (S0 (S1 (S1 (S1 (S1 (S1 (S1 (S1 (S1 (S1 (S1 SN)))))))))))) (Hp.le.refl _) (gV ?_);refine Ht ?_;refine wM ?_;refine tD ?_;refine Hr ?_;refine dN ?_
  refine aA rfl rfl rfl rfl (fun b170=>?_)
  refine TL.append (enc:=SPoint.cells) rfl rfl rfl hO165_0 (Src.own [gG] (.here _) rfl rfl) sq rfl (.s12 (.skip _ .all)) rfl (fun a171 c171 ob171 hO171=>?_)
  refine zm5 ?_;refine br rfl rfl rfl (.h10) rfl rfl (gN ?_)
  refine TL.run (bA rfl (.h10) rfl) rfl (cT rfl rfl rfl rfl rfl (.h11) rfl rfl (TL.nil (ai ?_)))
  refine TC.ret (Hq ?_)
  refine cP (by simp [keys]) (fun H_b55 le_b55 rd_b55=>?_)
  replace hrs:=hrs.le le_b55
  replace hle:=hle.trans le_b55
  replace hd107:=hd107.le le_b55
  obtain⟨l_b55,n_b55,hA_b55,z_b55⟩:=mz rd_b55 (by first | simp | (have:=hc82.len htn;omega)) (by first | simp | (have:=hc82.len htn;omega))
  refine D5 ?_
  refine cP (by simp [keys]) (fun H_b88 le_b88 rd_b88=>?_)
  replace hrs:=hrs.le le_b88
  replace hle:=hle.trans le_b88
  replace hd107:=hd107.le le_b88
  replace hA_b55:=hA_b55.le le_b88
  obtain⟨l_b88,n_b88,hA_b88,z_b88⟩:=eJ rd_b88 (by first | simp | (have:=hc82_0.len htn;omega))
  refine Ac ?_
  refine cP (by simp [keys]) (fun H_b109 le_b109 rd_b109=>?_)
  replace hrs:=hrs.le le_b109
  replace hle:=hle.trans le_b109
  replace hd107:=hd107.le le_b109
  replace hA_b55:=hA_b55.le le_b109
  replace hA_b88:=hA_b88.le le_b109
  obtain⟨l_b109,n_b109,hA_b109,z_b109⟩:=eJ rd_b109 (by first | simp | (have:=hc82.len htn;omega))
  refine qV ?_
  refine cP (by simp [keys]) (fun H_b162 le_b162 rd_b162=>?_)
  replace hrs:=hrs.le le_b162
  replace hle:=hle.trans le_b162
  replace hd107:=hd107.le le_b162
  replace hA_b55:=hA_b55.le le_b162
  replace hA_b88:=hA_b88.le le_b162
  replace hA_b109:=hA_b109.le le_b162
  obtain⟨l_b162,n_b162,hA_b162,z_b162⟩:=eJ rd_b162 (by first | simp | (have:=hc82_0.len htn;omega))
  refine eB (X:=[(b170,_),(b164,_),(b111,_),(b90,_),(b57,_),(b13,_),(b9,_),(b8,_),(bd,_)]) hO171 rfl (by simp [keys]) (fun H2 hle2 hP=>?_)
  replace hrs:=hrs.le hle2
  replace hle:=hle.trans hle2
  replace hd107:=hd107.le hle2
  replace hA_b55:=hA_b55.le hle2
  replace hA_b88:=hA_b88.le hle2
  replace hA_b109:=hA_b109.le hle2
  replace hA_b162:=hA_b162.le hle2
  have hP2:=hP.recell (l':=[⟨[97],[98],l_b55,(some ⟨b55,0,none⟩,2)⟩,⟨[98],[99],l_b88,(some ⟨b88,0,none⟩,1)⟩,⟨[99],[97],l_b109,(some ⟨b109,0,none⟩,1)⟩,⟨[98],[99],l_b162,(some ⟨b162,0,none⟩,1)⟩,gG]) (by simp only [List.nil_append,List.cons_append,List.map_cons,List.map_nil,SPoint.cells,n_b55,n_b88,n_b109,n_b162];rfl)
  have hPK:∀x∈([⟨[97],[98],l_b55,(some ⟨b55,0,none⟩,2)⟩,⟨[98],[99],l_b88,(some ⟨b88,0,none⟩,1)⟩,⟨[99],[97],l_b109,(some ⟨b109,0,none⟩,1)⟩,⟨[98],[99],l_b162,(some ⟨b162,0,none⟩,1)⟩,gG]:List SPoint),PointOk H2 x:=by
   intro x hx;simp only [List.mem_cons,List.not_mem_nil,or_false] at hx
   rcases hx with rfl | rfl | rfl | rfl | rfl
   · exact⟨by show RdSl H2 4 SArm.cells (.slice (some ⟨b55,0,none⟩) l_b55.length _) l_b55;rw [n_b55];exact hA_b55,z_b55⟩
   · exact⟨by show RdSl H2 4 SArm.cells (.slice (some ⟨b88,0,none⟩) l_b88.length _) l_b88;rw [n_b88];exact hA_b88,z_b88⟩
   · exact⟨by show RdSl H2 4 SArm.cells (.slice (some ⟨b109,0,none⟩) l_b109.length _) l_b109;rw [n_b109];exact hA_b109,z_b109⟩
   · exact⟨by show RdSl H2 4 SArm.cells (.slice (some ⟨b162,0,none⟩) l_b162.length _) l_b162;rw [n_b162];exact hA_b162,z_b162⟩
   · exact kA
  exact aZ (.inr rfl) (ad rfl (RVal.cellA rfl (.h7) rfl)) (fun w hw=>hw.drop.drop.drop.drop.drop.drop.drop.drop) ⟨_,[],rfl,hd107,rfl,hle,⟨name,(rolesL.take (3:Int).toNat),(a22,c22),[⟨[97],[98],l_b55,(some ⟨b55,0,none⟩,2)⟩,⟨[98],[99],l_b88,(some ⟨b88,0,none⟩,1)⟩,⟨[99],[97],l_b109,(some ⟨b109,0,none⟩,1)⟩,⟨[98],[99],l_b162,(some ⟨b162,0,none⟩,1)⟩,gG],(a171,c171)⟩,rfl,⟨hrs,hP2,hPK⟩,rfl,rfl⟩
 refine mY ?_;refine tq ?_;refine TL.run (bK rfl rfl hO91_0) rfl (TL.run (iF rfl rfl sq sq) rfl (zm1 ?_));refine TC.region (zm5 ?_);refine tq ?_;refine zm0 ?_
 refine TL.run (bY rfl rfl hO91_0 sq sq) rfl (zm5 ?_)
 refine TL.run (PR.to (eK rfl hO91_0 (.s7 (.skip _ .all)) rfl rfl) (rfl:_=Value.slice (some ⟨b88,0,none⟩) 1 1)) rfl (eD ?_);refine qY ?_;refine zm5 ?_
 refine tq ?_;refine TL.run (bK rfl rfl hO91_0) rfl (rm ?_);refine tq ?_;refine TL.run (bY rfl rfl hO91_0 sq sq) rfl (zm5 ?_)
 refine TL.run (PR.to (eK rfl hO91_0 (.s7 (.skip _ .all)) rfl rfl) (rfl:_=Value.slice (some ⟨b55,0,none⟩) 2 2)) rfl (Ad ?_);refine oI ?_
 refine qW ?_;refine TC.rounds 2 (wN ?_);refine zm453 ?_;refine zm4 ?_;refine D4 ?_;refine zm4 ?_;refine D4 ?_;refine oC ?_
 refine aO (S1 (S1 (S1 (S1 (S1 (S1 (S1 (S1 SN)))))))) (Hp.le.refl _) (fun _ _=>aL hrs rfl rfl rfl) rfl (zm4 ?_);refine D4 ?_;refine oB ?_
 refine aO (S1 (S1 (S1 (S1 (S1 (S1 (S1 (S1 SN)))))))) (Hp.le.refl _) (fun _ _=>aL hrs rfl rfl rfl) rfl (kK ?_);refine D4 ?_;refine az (bK rfl rfl hO91_0) rfl (wJ ?_)
 refine aJ rfl rfl rfl rfl (fun b162=>?_)
 refine eo ?_
 refine aJ rfl rfl rfl rfl (fun b164=>?_)
 refine au rfl (TL.append (enc:=SPoint.cells) rfl rfl rfl hO91_0 (Src.own [⟨_,_,[⟨[],0,[],0⟩],(some ⟨b162,0,none⟩,1)⟩] (.here _) rfl rfl) sq rfl (.s9 (.skip _ .all)) rfl (fun a165_0 c165_0 ob165_0 hO165_0=>?_))
 refine ax (S0 (S0 (S1 (S1 (S1 (S1 (S1 (S1 (S1 (S1 SN)))))))))) (Hp.le.refl _) (gV ?_);refine D7 ?_;refine wM ?_;refine tD ?_;refine tj ?_;refine dN ?_
 refine aA rfl rfl rfl rfl (fun b170=>?_)
 refine TL.append (enc:=SPoint.cells) rfl rfl rfl hO165_0 (Src.own [gG] (.here _) rfl rfl) sq rfl (.s10 (.skip _ .all)) rfl (fun a171 c171 ob171 hO171=>?_)
 refine zm5 ?_;refine br rfl rfl rfl (.h8) rfl rfl (gN ?_)
 refine TL.run (bA rfl (.h8) rfl) rfl (cT rfl rfl rfl rfl rfl (.h9) rfl rfl (TL.nil (ai ?_)))
 refine TC.ret (D5 ?_)
 refine cP (by simp [keys]) (fun H_b55 le_b55 rd_b55=>?_)
 replace hrs:=hrs.le le_b55
 replace hle:=hle.trans le_b55
 replace hd82_0:=hd82_0.le le_b55
 obtain⟨l_b55,n_b55,hA_b55,z_b55⟩:=mz rd_b55 (by first | simp | (have:=hc82.len htn;omega)) (by first | simp | (have:=hc82.len htn;omega))
 refine Ac ?_
 refine cP (by simp [keys]) (fun H_b88 le_b88 rd_b88=>?_)
 replace hrs:=hrs.le le_b88
 replace hle:=hle.trans le_b88
 replace hd82_0:=hd82_0.le le_b88
 replace hA_b55:=hA_b55.le le_b88
 obtain⟨l_b88,n_b88,hA_b88,z_b88⟩:=eJ rd_b88 (by first | simp | (have:=hc82_0.len htn;omega))
 refine qV ?_
 refine cP (by simp [keys]) (fun H_b162 le_b162 rd_b162=>?_)
 replace hrs:=hrs.le le_b162
 replace hle:=hle.trans le_b162
 replace hd82_0:=hd82_0.le le_b162
 replace hA_b55:=hA_b55.le le_b162
 replace hA_b88:=hA_b88.le le_b162
 obtain⟨l_b162,n_b162,hA_b162,z_b162⟩:=eJ rd_b162 (by first | simp | (have:=hc82_0.len htn;omega))
 refine eB (X:=[(b170,_),(b164,_),(b90,_),(b57,_),(b13,_),(b9,_),(b8,_),(bd,_)]) hO171 rfl (by simp [keys]) (fun H2 hle2 hP=>?_)
 replace hrs:=hrs.le hle2
 replace hle:=hle.trans hle2
 replace hd82_0:=hd82_0.le hle2
 replace hA_b55:=hA_b55.le hle2
 replace hA_b88:=hA_b88.le hle2
 replace hA_b162:=hA_b162.le hle2
 have hP2:=hP.recell (l':=[⟨[97],[98],l_b55,(some ⟨b55,0,none⟩,2)⟩,⟨[98],[99],l_b88,(some ⟨b88,0,none⟩,1)⟩,⟨[98],[99],l_b162,(some ⟨b162,0,none⟩,1)⟩,gG]) (by simp only [List.nil_append,List.cons_append,List.map_cons,List.map_nil,SPoint.cells,n_b55,n_b88,n_b162];rfl)
 have hPK:∀x∈([⟨[97],[98],l_b55,(some ⟨b55,0,none⟩,2)⟩,⟨[98],[99],l_b88,(some ⟨b88,0,none⟩,1)⟩,⟨[98],[99],l_b162,(some ⟨b162,0,none⟩,1)⟩,gG]:List SPoint),PointOk H2 x:=by
  intro x hx;simp only [List.mem_cons,List.not_mem_nil,or_false] at hx
  rcases hx with rfl | rfl | rfl | rfl
  · exact⟨by show RdSl H2 4 SArm.cells (.slice (some ⟨b55,0,none⟩) l_b55.length _) l_b55;rw [n_b55];exact hA_b55,z_b55⟩
  · exact⟨by show RdSl H2 4 SArm.cells (.slice (some ⟨b88,0,none⟩) l_b88.length _) l_b88;rw [n_b88];exact hA_b88,z_b88⟩
  · exact⟨by show RdSl H2 4 SArm.cells (.slice (some ⟨b162,0,none⟩) l_b162.length _) l_b162;rw [n_b162];exact hA_b162,z_b162⟩
  · exact kA
 exact aZ (.inr rfl) (ad rfl (RVal.cellA rfl (.h6) rfl)) (fun w hw=>hw.drop.drop.drop.drop.drop.drop.drop) ⟨_,[],rfl,hd82_0,rfl,hle,⟨name,(rolesL.take (3:Int).toNat),(a22,c22),[⟨[97],[98],l_b55,(some ⟨b55,0,none⟩,2)⟩,⟨[98],[99],l_b88,(some ⟨b88,0,none⟩,1)⟩,⟨[98],[99],l_b162,(some ⟨b162,0,none⟩,1)⟩,gG],(a171,c171)⟩,rfl,⟨hrs,hP2,hPK⟩,rfl,rfl⟩
theorem BK {H:Hp}{bd:Nat}{dl:Value}{at_:Int}(hd:DiceOk H dl at_){tv:Value}{types:List Str}(hty:RdSl H 1 Str.cells tv types)(htn:∀s∈types,TyNm s)(htl:types.length≤100)(name:Str):
  DFn Tryz.prog bd dl at_ 168 [gs name,.int .i64 4,tv] H (fun v H1 ob=>ob=[]∧(H.le H1∧∃p:SProto,v= .agg p.cells.toArray∧ProtoOk H1 p∧p.name=name∧p.roles=rolesL.take 4)):=by
 have hrl:(rolesL.take (4:Int).toNat).length=4:=rfl
 refine FnX.enter Tryz.func168 Tryz.ntmps168 rfl rfl (fun w0=>?_)
 refine zm2 ?_
 refine TL.alloc rfl (fun b8=>?_)
 refine jo ?_
 refine TL.call (ab rfl rfl rfl rfl) (jg) rfl (fun v19 H19 hle19 hp19=>?_)
 replace hd:=hd.le hle19
 replace hty:=hty.le hle19
 have hro19:=hp19
 obtain⟨ra19,rc19,rfl⟩:=hro19.len
 have hcp:5≤rc19:=hro19.room _ _ _ rfl
 have hsl:=hro19.sliced (i:=0) (j:=(4:Int).toNat) om dq
 have hle0:=hle19
 refine zm0 ?_;refine Ah ?_
 refine TL.append (enc:=Str.cells) rfl rfl rfl (OwnSl.nil (enc:=Str.cells)) (Src.sl hsl) (by simp only [List.length_drop,List.length_nil];omega) rfl (.new _ rfl) rfl (fun a22 c22 ob22 hO22=>?_)
 refine dN ?_
 refine TL.alloc rfl (fun b9=>?_)
 refine Ag ?_
 refine eB (X:=[(b9,_),(b8,_),(bd,_)]) hO22 rfl (by simp [keys]) (fun HR leR hR=>?_)
 replace hd:=hd.le leR
 replace hty:=hty.le leR
 replace hle0:=hle0.trans leR
 have hrs0:RdSl HR 1 Str.cells (.slice a22 (rolesL.take (4:Int).toNat).length c22) (rolesL.take (4:Int).toNat):=hR
 have hty1:=hty
 have hleR:=hle0
 refine ai (vH (V:=fun(q:Q4)=>[(10,gs q.a),(11,gs q.b)]) (K:=[(0,_),(2,_),(3,_),(8,_),(9,_)]) ky (L:=fun(q:Q4)=>St (keys [(bd,[dl,.int .i64 at_])]) w0 H q.h [(b9,[gs name,.slice a22 (rolesL.take (4:Int).toNat).length c22,.slice none 0 0]),(b8,[gs [],.slice none 0 0,.slice none 0 0]),(bd,[dl,.int .i64 q.at_])]) (I:=fun(q:Q4)=>DiceOk q.h dl q.at_∧HR.le q.h) ?_ ?_)
 · exact GM
 intro q hI
 obtain⟨hI1,hI2⟩:=hI
 have hty:=hty1.le hI2
 have hrs:=hrs0.le hI2
 have hle:=hleR.trans hI2
 refine el ?_
 refine aI (X:=[(b9,_),(b8,_)]) (bd:=bd) rfl (ab rfl rfl rfl rfl) (bq 2 om hI1) rfl (fun v36 H36 at36 hle36 hd36 hp36=>?_)
 obtain⟨eH36,r36,rfl,hr36⟩:=hp36
 replace eH36:=eH36.symm;subst eH36
 have hra36:=hr36.1
 have hrb36:=hr36.2.1 om
 refine kS ?_;refine el ?_
 refine aI (X:=[(b9,_),(b8,_)]) (bd:=bd) rfl (ab rfl rfl rfl rfl) (iu hd36) rfl (fun v39 H39 at39 hle39 hd39 hp39=>?_)
 obtain⟨eH39,k39,rfl,hk39⟩:=hp39
 replace eH39:=eH39.symm;subst eH39
 refine TL.alloc rfl (fun b13=>?_)
 refine qX ?_;refine Hu ?_;refine zL ?_;refine wP ?_;refine wP ?_;refine zm6 ?_;refine D9 ?_;refine eo ?_;refine Af ?_
 refine aJ rfl rfl rfl rfl (fun b55=>?_)
 refine eo ?_
 refine aJ rfl rfl rfl rfl (fun b57=>?_)
 refine au rfl (TL.append (enc:=SPoint.cells) rfl rfl rfl (OwnSl.nil (enc:=SPoint.cells)) (Src.own [⟨_,_,[⟨[],0,[],0⟩,⟨[],0,[],0⟩],(some ⟨b55,0,none⟩,2)⟩] (.here _) rfl rfl) sq rfl (.new _ rfl) rfl (fun a58 c58 ob58 hO58=>?_))
 refine ax (S0 (S0 (S1 (S1 (S1 (S1 SN)))))) (Hp.le.refl _) (gV ?_);refine oI ?_;refine kY ?_;refine ra ?_;refine TC.rounds 3 (wN ?_);refine zm428 ?_;refine k6 ?_;refine k6 ?_;refine oC ?_
 refine wO ?_;refine k6 ?_;refine oB ?_;refine wO ?_;refine rb ?_;refine k6 ?_
 refine az (bK rfl rfl hO58) rfl (az (fK rfl rfl sq sq) rfl (au rfl (aI (X:=[(b57,_),(b55,_),(b13,_),(b9,_),(b8,_)]) (bd:=bd) rfl (ab rfl rfl rfl rfl) (gi hd39 hty htn htl) rfl (fun v82_0 H82_0 at82_0 hle82_0 hd82_0 hp82_0=>?_))))
 obtain⟨eH82_0,k82_0,nm82_0,rfl,hc82_0⟩:=hp82_0
 replace eH82_0:=eH82_0.symm;subst eH82_0
 refine ax (S1 (S1 (S1 (S1 (S1 SN))))) (Hp.le.refl _) (eo ?_)
 refine aJ rfl rfl rfl rfl (fun b88=>?_)
 refine eo ?_
 refine aJ rfl rfl rfl rfl (fun b90=>?_)
 refine au rfl (TL.append (enc:=SPoint.cells) rfl rfl rfl hO58 (Src.own [⟨_,_,[⟨[],0,[],0⟩],(some ⟨b88,0,none⟩,1)⟩] (.here _) rfl rfl) sq rfl (.s7 (.skip _ .all)) rfl (fun a91_0 c91_0 ob91_0 hO91_0=>?_))
 refine ax (S0 (S0 (S1 (S1 (S1 (S1 (S1 SN))))))) (Hp.le.refl _) (gV ?_);refine Ae ?_;refine DQ ?_;refine DP ?_;refine zm454 ?_;refine wL ?_;refine wL ?_;refine oC ?_;refine D8 ?_;refine wL ?_
 refine oB ?_;refine D8 ?_;refine iz ?_;refine kK ?_
 refine aO (S1 (S1 (S1 (S1 (S1 (S1 (S1 SN))))))) (Hp.le.refl _) (fun _ _=>aE rfl (.h5) rfl) rfl (az (bK rfl rfl hO91_0) rfl (az (fK rfl rfl sq sq) rfl (au rfl ?_)))
 refine aI (X:=[(b90,_),(b88,_),(b57,_),(b55,_),(b13,_),(b9,_),(b8,_)]) (bd:=bd) rfl (ab rfl rfl rfl rfl) (gi hd82_0 hty htn htl) rfl (fun v82_1 H82_1 at82_1 hle82_1 hd82_1 hp82_1=>?_)
 obtain⟨eH82_1,k82_1,nm82_1,rfl,hc82_1⟩:=hp82_1
 replace eH82_1:=eH82_1.symm;subst eH82_1
 refine ax (S1 (S1 (S1 (S1 (S1 (S1 (S1 SN))))))) (Hp.le.refl _) (eo ?_)
 refine aJ rfl rfl rfl rfl (fun b88x=>?_)
 refine eo ?_
 refine aJ rfl rfl rfl rfl (fun b90x=>?_)
 refine au rfl (TL.append (enc:=SPoint.cells) rfl rfl rfl hO91_0 (Src.own [⟨_,_,[⟨[],0,[],0⟩],(some ⟨b88x,0,none⟩,1)⟩] (.here _) rfl rfl) sq rfl (.s9 (.skip _ .all)) rfl (fun a91_1 c91_1 ob91_1 hO91_1=>?_))
 refine ax (S0 (S0 (S1 (S1 (S1 (S1 (S1 (S1 (S1 SN))))))))) (Hp.le.refl _) (gV ?_);refine D7 ?_;refine wM ?_;refine iB ?_;refine jK ?_
 refine af rfl ?_ ?_<;>intro c93
 ·
  refine dO ?_;refine zm455 ?_;refine zm4 ?_;refine Ho ?_;refine zm4 ?_;refine Ho ?_;refine zm6 ?_;refine az (iF rfl rfl om om) rfl (oo ?_)
  refine aO (S1 (S1 (S1 (S1 (S1 (S1 (S1 (S1 (S1 SN))))))))) (Hp.le.refl _) (fun _ _=>aL hrs rfl rfl rfl) rfl (zm4 ?_);refine Ho ?_;refine oo ?_
  refine aO (S1 (S1 (S1 (S1 (S1 (S1 (S1 (S1 (S1 SN))))))))) (Hp.le.refl _) (fun _ _=>aL hrs rfl rfl rfl) rfl (zm6 ?_)
  refine au rfl (aI (X:=[(b90x,_),(b88x,_),(b90,_),(b88,_),(b57,_),(b55,_),(b13,_),(b9,_),(b8,_)]) (bd:=bd) rfl (ab rfl rfl rfl rfl) (iu hd82_1) rfl (fun v107 H107 at107 hle107 hd107 hp107=>?_))
  obtain⟨eH107,k107,rfl,hk107⟩:=hp107
  replace eH107:=eH107.symm;subst eH107
  refine ax (S1 (S1 (S1 (S1 (S1 (S1 (S1 (S1 (S1 SN))))))))) (Hp.le.refl _) (eo ?_)
  refine aJ rfl rfl rfl rfl (fun b109=>?_)
  refine eo ?_
  refine aJ rfl rfl rfl rfl (fun b111=>?_)
  refine au rfl (TL.append (enc:=SPoint.cells) rfl rfl rfl hO91_1 (Src.own [⟨_,_,[⟨[],0,[],0⟩],(some ⟨b109,0,none⟩,1)⟩] (.here _) rfl rfl) sq rfl (.s11 (.skip _ .all)) rfl (fun a112 c112 ob112 hO112=>?_))
  refine ax (S0 (S0 (S1 (S1 (S1 (S1 (S1 (S1 (S1 (S1 (S1 SN))))))))))) (Hp.le.refl _) (gV ?_);refine Ht ?_;refine kY ?_;refine mY ?_;refine Hr ?_;refine TL.run (bK rfl rfl hO112) rfl (rm ?_)
  refine Hr ?_;refine TL.run (bY rfl rfl hO112 sq sq) rfl (zm5 ?_);refine zm456 ?_;refine Ad ?_;refine D7 ?_;refine qW ?_;refine TC.rounds 3 (wN ?_);refine zm431 ?_;refine wI ?_
  refine wI ?_;refine oC ?_;refine D3 ?_;refine wI ?_;refine oB ?_;refine D3 ?_;refine kK ?_;refine He ?_;refine az (bK rfl rfl hO112) rfl (wJ ?_)
  refine aJ rfl rfl rfl rfl (fun b162=>?_)
  refine eo ?_
  refine aJ rfl rfl rfl rfl (fun b164=>?_)
  refine au rfl (TL.append (enc:=SPoint.cells) rfl rfl rfl hO112 (Src.own [⟨_,_,[⟨[],0,[],0⟩],(some ⟨b162,0,none⟩,1)⟩] (.here _) rfl rfl) sq rfl (.s13 (.skip _ .all)) rfl (fun a165_0 c165_0 ob165_0 hO165_0=>?_))
  refine ax (S0 (S0 (S1 (S1 (S1 (S1 (S1 (S1 (S1 (S1 (S1 (S1 (S1 (S1 SN)))))))))))))) (Hp.le.refl _) (gV ?_);refine zm433 ?_;refine DQ ?_;refine DP ?_;refine zm457 ?_;refine zm4 ?_;refine D2 ?_;refine zm4 ?_
  refine D2 ?_;refine oC ?_;refine zm434 ?_;refine zm4 ?_;refine D2 ?_;refine oB ?_;refine zm434 ?_;refine kK ?_;refine D2 ?_;refine az (bK rfl rfl hO165_0) rfl (wJ ?_)
  refine aJ rfl rfl rfl rfl (fun b162x=>?_)
  refine eo ?_
  refine aJ rfl rfl rfl rfl (fun b164x=>?_)
  refine au rfl (TL.append (enc:=SPoint.cells) rfl rfl rfl hO165_0 (Src.own [⟨_,_,[⟨[],0,[],0⟩],(some ⟨b162x,0,none⟩,1)⟩] (.here _) rfl rfl) sq rfl (.s15 (.skip _ .all)) rfl (fun a165_1 c165_1 ob165_1 hO165_1=>?_))
  refine ax (S0 (S0 (S1 (S1 (S1 (S1 (S1 (S1 (S1 (S1 (S1 (S1 (S1 (S1 (S1 (S1 SN)))))))))))))))) (Hp.le.refl _) (gV ?_)
  refine br rfl rfl rfl (.h13) rfl rfl (wM ?_);refine tD ?_
  refine TL.run (aE rfl (.h13) rfl) rfl (dN ?_)
  refine aA rfl rfl rfl rfl (fun b170=>?_)
  refine TL.append (enc:=SPoint.cells) rfl rfl rfl hO165_1 (Src.own [gG] (.here _) rfl rfl) sq rfl (.s16 (.skip _ .all)) rfl (fun a171 c171 ob171 hO171=>?_)
  refine zm5 ?_;refine br rfl rfl rfl (.h14) rfl rfl (gN ?_)
  refine TL.run (bA rfl (.h14) rfl) rfl (zm458 ?_)
  refine TL.nil (ai (TC.ret (iv (.h12) ?_)))
  refine cP (by simp [keys]) (fun H_b55 le_b55 rd_b55=>?_)
  replace hrs:=hrs.le le_b55
  replace hle:=hle.trans le_b55
  replace hd107:=hd107.le le_b55
  obtain⟨l_b55,n_b55,hA_b55,z_b55⟩:=mz rd_b55 (by first | simp | (have:=hc82.len htn;omega)) (by first | simp | (have:=hc82.len htn;omega))
  refine zm435 ?_
  refine cP (by simp [keys]) (fun H_b88 le_b88 rd_b88=>?_)
  replace hrs:=hrs.le le_b88
  replace hle:=hle.trans le_b88
  replace hd107:=hd107.le le_b88
  replace hA_b55:=hA_b55.le le_b88
  obtain⟨l_b88,n_b88,hA_b88,z_b88⟩:=eJ rd_b88 (by first | simp | (have:=hc82_0.len htn;omega))
  refine Hq ?_
  refine cP (by simp [keys]) (fun H_b88x le_b88x rd_b88x=>?_)
  replace hrs:=hrs.le le_b88x
  replace hle:=hle.trans le_b88x
  replace hd107:=hd107.le le_b88x
  replace hA_b55:=hA_b55.le le_b88x
  replace hA_b88:=hA_b88.le le_b88x
  obtain⟨l_b88x,n_b88x,hA_b88x,z_b88x⟩:=eJ rd_b88x (by first | simp | (have:=hc82_1.len htn;omega))
  refine D5 ?_
  refine cP (by simp [keys]) (fun H_b109 le_b109 rd_b109=>?_)
  replace hrs:=hrs.le le_b109
  replace hle:=hle.trans le_b109
  replace hd107:=hd107.le le_b109
  replace hA_b55:=hA_b55.le le_b109
  replace hA_b88:=hA_b88.le le_b109
  replace hA_b88x:=hA_b88x.le le_b109
  obtain⟨l_b109,n_b109,hA_b109,z_b109⟩:=eJ rd_b109 (by first | simp | (have:=hc82.len htn;omega))
  refine Ac ?_
  refine cP (by simp [keys]) (fun H_b162 le_b162 rd_b162=>?_)
  replace hrs:=hrs.le le_b162
  replace hle:=hle.trans le_b162
  replace hd107:=hd107.le le_b162
  replace hA_b55:=hA_b55.le le_b162
  replace hA_b88:=hA_b88.le le_b162
  replace hA_b88x:=hA_b88x.le le_b162
  replace hA_b109:=hA_b109.le le_b162
  obtain⟨l_b162,n_b162,hA_b162,z_b162⟩:=eJ rd_b162 (by first | simp | (have:=hc82_0.len htn;omega))
  refine qV ?_
  refine cP (by simp [keys]) (fun H_b162x le_b162x rd_b162x=>?_)
  replace hrs:=hrs.le le_b162x
  replace hle:=hle.trans le_b162x
  replace hd107:=hd107.le le_b162x
  replace hA_b55:=hA_b55.le le_b162x
  replace hA_b88:=hA_b88.le le_b162x
  replace hA_b88x:=hA_b88x.le le_b162x
  replace hA_b109:=hA_b109.le le_b162x
  replace hA_b162:=hA_b162.le le_b162x
  obtain⟨l_b162x,n_b162x,hA_b162x,z_b162x⟩:=eJ rd_b162x (by first | simp | (have:=hc82_1.len htn;omega))
  refine eB (X:=[(b170,_),(b164x,_),(b164,_),(b111,_),(b90x,_),(b90,_),(b57,_),(b13,_),(b9,_),(b8,_),(bd,_)]) hO171 rfl (by simp [keys]) (fun H2 hle2 hP=>?_)
  replace hrs:=hrs.le hle2
  replace hle:=hle.trans hle2
  replace hd107:=hd107.le hle2
  replace hA_b55:=hA_b55.le hle2
  replace hA_b88:=hA_b88.le hle2
  replace hA_b88x:=hA_b88x.le hle2
  replace hA_b109:=hA_b109.le hle2
  replace hA_b162:=hA_b162.le hle2
  replace hA_b162x:=hA_b162x.le hle2
  have hP2:=hP.recell (l':=[⟨[97],[98],l_b55,(some ⟨b55,0,none⟩,2)⟩,⟨[98],[99],l_b88,(some ⟨b88,0,none⟩,1)⟩,⟨[99],[100],l_b88x,(some ⟨b88x,0,none⟩,1)⟩,⟨[100],[97],l_b109,(some ⟨b109,0,none⟩,1)⟩,⟨[98],[99],l_b162,(some ⟨b162,0,none⟩,1)⟩,⟨[99],[100],l_b162x,(some ⟨b162x,0,none⟩,1)⟩,gG]) (by simp only [List.nil_append,List.cons_append,List.map_cons,List.map_nil,SPoint.cells,n_b55,n_b88,n_b88x,n_b109,n_b162,n_b162x];rfl)
  have hPK:∀x∈([⟨[97],[98],l_b55,(some ⟨b55,0,none⟩,2)⟩,⟨[98],[99],l_b88,(some ⟨b88,0,none⟩,1)⟩,⟨[99],[100],l_b88x,(some ⟨b88x,0,none⟩,1)⟩,⟨[100],[97],l_b109,(some ⟨b109,0,none⟩,1)⟩,⟨[98],[99],l_b162,(some ⟨b162,0,none⟩,1)⟩,⟨[99],[100],l_b162x,(some ⟨b162x,0,none⟩,1)⟩,gG]:List SPoint),PointOk H2 x:=by
   intro x hx;simp only [List.mem_cons,List.not_mem_nil,or_false] at hx
   rcases hx with rfl | rfl | rfl | rfl | rfl | rfl | rfl
   · exact⟨by show RdSl H2 4 SArm.cells (.slice (some ⟨b55,0,none⟩) l_b55.length _) l_b55;rw [n_b55];exact hA_b55,z_b55⟩
   · exact⟨by show RdSl H2 4 SArm.cells (.slice (some ⟨b88,0,none⟩) l_b88.length _) l_b88;rw [n_b88];exact hA_b88,z_b88⟩
   · exact⟨by show RdSl H2 4 SArm.cells (.slice (some ⟨b88x,0,none⟩) l_b88x.length _) l_b88x;rw [n_b88x];exact hA_b88x,z_b88x⟩
   · exact⟨by show RdSl H2 4 SArm.cells (.slice (some ⟨b109,0,none⟩) l_b109.length _) l_b109;rw [n_b109];exact hA_b109,z_b109⟩
   · exact⟨by show RdSl H2 4 SArm.cells (.slice (some ⟨b162,0,none⟩) l_b162.length _) l_b162;rw [n_b162];exact hA_b162,z_b162⟩
   · exact⟨by show RdSl H2 4 SArm.cells (.slice (some ⟨b162x,0,none⟩) l_b162x.length _) l_b162x;rw [n_b162x];exact hA_b162x,z_b162x⟩
   · exact kA
  exact aZ (.inr rfl) (ad rfl (RVal.cellA rfl (.h9) rfl)) (fun w hw=>hw.drop.drop.drop.drop.drop.drop.drop.drop.drop.drop) ⟨_,[],rfl,hd107,rfl,hle,⟨name,(rolesL.take (4:Int).toNat),(a22,c22),[⟨[97],[98],l_b55,(some ⟨b55,0,none⟩,2)⟩,⟨[98],[99],l_b88,(some ⟨b88,0,none⟩,1)⟩,⟨[99],[100],l_b88x,(some ⟨b88x,0,none⟩,1)⟩,⟨[100],[97],l_b109,(some ⟨b109,0,none⟩,1)⟩,⟨[98],[99],l_b162,(some ⟨b162,0,none⟩,1)⟩,⟨[99],[100],l_b162x,(some ⟨b162x,0,none⟩,1)⟩,gG],(a171,c171)⟩,rfl,⟨hrs,hP2,hPK⟩,rfl,rfl⟩
 refine mY ?_;refine tj ?_;refine TL.run (bK rfl rfl hO91_1) rfl (TL.run (iF rfl rfl sq sq) rfl (zm1 ?_));refine TC.region (zm5 ?_);refine tj ?_;refine zm0 ?_
 refine TL.run (bY rfl rfl hO91_1 sq sq) rfl (zm5 ?_)
 refine TL.run (PR.to (eK rfl hO91_1 (.s9 (.skip _ .all)) rfl rfl) (rfl:_=Value.slice (some ⟨b88x,0,none⟩) 1 1)) rfl (eD ?_)
 refine qY ?_;refine zm5 ?_;refine tj ?_;refine TL.run (bK rfl rfl hO91_1) rfl (rm ?_);refine tj ?_;refine TL.run (bY rfl rfl hO91_1 sq sq) rfl (zm5 ?_)
 refine TL.run (PR.to (eK rfl hO91_1 (.s9 (.skip _ .all)) rfl rfl) (rfl:_=Value.slice (some ⟨b55,0,none⟩) 2 2)) rfl (Ad ?_)
 refine Ae ?_;refine qW ?_;refine TC.rounds 3 (wN ?_);refine zm429 ?_;refine wK ?_;refine wK ?_;refine oC ?_;refine D6 ?_;refine wK ?_;refine oB ?_;refine D6 ?_;refine kK ?_
 refine Hf ?_;refine az (bK rfl rfl hO91_1) rfl (wJ ?_)
 refine aJ rfl rfl rfl rfl (fun b162=>?_)
 refine eo ?_
 refine aJ rfl rfl rfl rfl (fun b164=>?_)
 refine au rfl (TL.append (enc:=SPoint.cells) rfl rfl rfl hO91_1 (Src.own [⟨_,_,[⟨[],0,[],0⟩],(some ⟨b162,0,none⟩,1)⟩] (.here _) rfl rfl) sq rfl (.s11 (.skip _ .all)) rfl (fun a165_0 c165_0 ob165_0 hO165_0=>?_))
 refine ax (S0 (S0 (S1 (S1 (S1 (S1 (S1 (S1 (S1 (S1 (S1 (S1 SN)))))))))))) (Hp.le.refl _) (gV ?_);refine Ht ?_;refine DQ ?_;refine DP ?_;refine zm431 ?_;refine wI ?_;refine wI ?_;refine oC ?_
 refine D3 ?_;refine wI ?_;refine oB ?_;refine D3 ?_;refine kK ?_;refine He ?_;refine az (bK rfl rfl hO165_0) rfl (wJ ?_)
 refine aJ rfl rfl rfl rfl (fun b162x=>?_)
 refine eo ?_
 refine aJ rfl rfl rfl rfl (fun b164x=>?_)
 refine au rfl (TL.append (enc:=SPoint.cells) rfl rfl rfl hO165_0 (Src.own [⟨_,_,[⟨[],0,[],0⟩],(some ⟨b162x,0,none⟩,1)⟩] (.here _) rfl rfl) sq rfl (.s13 (.skip _ .all)) rfl (fun a165_1 c165_1 ob165_1 hO165_1=>?_))
 refine ax (S0 (S0 (S1 (S1 (S1 (S1 (S1 (S1 (S1 (S1 (S1 (S1 (S1 (S1 SN)))))))))))))) (Hp.le.refl _) (gV ?_);refine zm433 ?_;refine wM ?_;refine tD ?_
 refine TL.run (aE rfl (.h11) rfl) rfl (dN ?_)
 refine aA rfl rfl rfl rfl (fun b170=>?_)
 refine TL.append (enc:=SPoint.cells) rfl rfl rfl hO165_1 (Src.own [gG] (.here _) rfl rfl) sq rfl (.s14 (.skip _ .all)) rfl (fun a171 c171 ob171 hO171=>?_)
 refine zm5 ?_;refine br rfl rfl rfl (.h12) rfl rfl (gN ?_)
 refine TL.run (bA rfl (.h12) rfl) rfl (cT rfl rfl rfl rfl rfl (.h13) rfl rfl (TL.nil (ai ?_)))
 refine TC.ret (zm435 ?_)
 refine cP (by simp [keys]) (fun H_b55 le_b55 rd_b55=>?_)
 replace hrs:=hrs.le le_b55
 replace hle:=hle.trans le_b55
 replace hd82_1:=hd82_1.le le_b55
 obtain⟨l_b55,n_b55,hA_b55,z_b55⟩:=mz rd_b55 (by first | simp | (have:=hc82.len htn;omega)) (by first | simp | (have:=hc82.len htn;omega))
 refine Hq ?_
 refine cP (by simp [keys]) (fun H_b88 le_b88 rd_b88=>?_)
 replace hrs:=hrs.le le_b88
 replace hle:=hle.trans le_b88
 replace hd82_1:=hd82_1.le le_b88
 replace hA_b55:=hA_b55.le le_b88
 obtain⟨l_b88,n_b88,hA_b88,z_b88⟩:=eJ rd_b88 (by first | simp | (have:=hc82_0.len htn;omega))
 refine D5 ?_
 refine cP (by simp [keys]) (fun H_b88x le_b88x rd_b88x=>?_)
 replace hrs:=hrs.le le_b88x
 replace hle:=hle.trans le_b88x
 replace hd82_1:=hd82_1.le le_b88x
 replace hA_b55:=hA_b55.le le_b88x
 replace hA_b88:=hA_b88.le le_b88x
 obtain⟨l_b88x,n_b88x,hA_b88x,z_b88x⟩:=eJ rd_b88x (by first | simp | (have:=hc82_1.len htn;omega))
 refine Ac ?_
 refine cP (by simp [keys]) (fun H_b162 le_b162 rd_b162=>?_)
 replace hrs:=hrs.le le_b162
 replace hle:=hle.trans le_b162
 replace hd82_1:=hd82_1.le le_b162
 replace hA_b55:=hA_b55.le le_b162
 replace hA_b88:=hA_b88.le le_b162
 replace hA_b88x:=hA_b88x.le le_b162
 obtain⟨l_b162,n_b162,hA_b162,z_b162⟩:=eJ rd_b162 (by first | simp | (have:=hc82_0.len htn;omega))
 refine qV ?_
 refine cP (by simp [keys]) (fun H_b162x le_b162x rd_b162x=>?_)
 replace hrs:=hrs.le le_b162x
 replace hle:=hle.trans le_b162x
 replace hd82_1:=hd82_1.le le_b162x
 replace hA_b55:=hA_b55.le le_b162x
 replace hA_b88:=hA_b88.le le_b162x
 replace hA_b88x:=hA_b88x.le le_b162x
 replace hA_b162:=hA_b162.le le_b162x
 obtain⟨l_b162x,n_b162x,hA_b162x,z_b162x⟩:=eJ rd_b162x (by first | simp | (have:=hc82_1.len htn;omega))
 refine eB (X:=[(b170,_),(b164x,_),(b164,_),(b90x,_),(b90,_),(b57,_),(b13,_),(b9,_),(b8,_),(bd,_)]) hO171 rfl (by simp [keys]) (fun H2 hle2 hP=>?_)
 replace hrs:=hrs.le hle2
 replace hle:=hle.trans hle2
 replace hd82_1:=hd82_1.le hle2
 replace hA_b55:=hA_b55.le hle2
 replace hA_b88:=hA_b88.le hle2
 replace hA_b88x:=hA_b88x.le hle2
 replace hA_b162:=hA_b162.le hle2
 replace hA_b162x:=hA_b162x.le hle2
 have hP2:=hP.recell (l':=[⟨[97],[98],l_b55,(some ⟨b55,0,none⟩,2)⟩,⟨[98],[99],l_b88,(some ⟨b88,0,none⟩,1)⟩,⟨[99],[100],l_b88x,(some ⟨b88x,0,none⟩,1)⟩,⟨[98],[99],l_b162,(some ⟨b162,0,none⟩,1)⟩,⟨[99],[100],l_b162x,(some ⟨b162x,0,none⟩,1)⟩,gG]) (by simp only [List.nil_append,List.cons_append,List.map_cons,List.map_nil,SPoint.cells,n_b55,n_b88,n_b88x,n_b162,n_b162x];rfl)
 have hPK:∀x∈([⟨[97],[98],l_b55,(some ⟨b55,0,none⟩,2)⟩,⟨[98],[99],l_b88,(some ⟨b88,0,none⟩,1)⟩,⟨[99],[100],l_b88x,(some ⟨b88x,0,none⟩,1)⟩,⟨[98],[99],l_b162,(some ⟨b162,0,none⟩,1)⟩,⟨[99],[100],l_b162x,(some ⟨b162x,0,none⟩,1)⟩,gG]:List SPoint),PointOk H2 x:=by
  intro x hx;simp only [List.mem_cons,List.not_mem_nil,or_false] at hx
  rcases hx with rfl | rfl | rfl | rfl | rfl | rfl
  · exact⟨by show RdSl H2 4 SArm.cells (.slice (some ⟨b55,0,none⟩) l_b55.length _) l_b55;rw [n_b55];exact hA_b55,z_b55⟩
  · exact⟨by show RdSl H2 4 SArm.cells (.slice (some ⟨b88,0,none⟩) l_b88.length _) l_b88;rw [n_b88];exact hA_b88,z_b88⟩
  · exact⟨by show RdSl H2 4 SArm.cells (.slice (some ⟨b88x,0,none⟩) l_b88x.length _) l_b88x;rw [n_b88x];exact hA_b88x,z_b88x⟩
  · exact⟨by show RdSl H2 4 SArm.cells (.slice (some ⟨b162,0,none⟩) l_b162.length _) l_b162;rw [n_b162];exact hA_b162,z_b162⟩
  · exact⟨by show RdSl H2 4 SArm.cells (.slice (some ⟨b162x,0,none⟩) l_b162x.length _) l_b162x;rw [n_b162x];exact hA_b162x,z_b162x⟩
  · exact kA
 exact aZ (.inr rfl) (ad rfl (RVal.cellA rfl (.h8) rfl)) (fun w hw=>hw.drop.drop.drop.drop.drop.drop.drop.drop.drop) ⟨_,[],rfl,hd82_1,rfl,hle,⟨name,(rolesL.take (4:Int).toNat),(a22,c22),[⟨[97],[98],l_b55,(some ⟨b55,0,none⟩,2)⟩,⟨[98],[99],l_b88,(some ⟨b88,0,none⟩,1)⟩,⟨[99],[100],l_b88x,(some ⟨b88x,0,none⟩,1)⟩,⟨[98],[99],l_b162,(some ⟨b162,0,none⟩,1)⟩,⟨[99],[100],l_b162x,(some ⟨b162x,0,none⟩,1)⟩,gG],(a171,c171)⟩,rfl,⟨hrs,hP2,hPK⟩,rfl,rfl⟩
theorem uU {H:Hp}{bd:Nat}{dl:Value}{at_:Int}(hd:DiceOk H dl at_){tv:Value}{types:List Str}(hty:RdSl H 1 Str.cells tv types)(htn:∀s∈types,TyNm s)(htl:types.length≤100)(name:Str)(many:Int)(h2:2≤many)(h4:many≤4):
  DFn Tryz.prog bd dl at_ 168 [gs name,.int .i64 many,tv] H (fun v H1 ob=>ob=[]∧(H.le H1∧∃p:SProto,v= .agg p.cells.toArray∧ProtoOk H1 p∧p.name=name∧∃n,2≤n∧n≤5∧p.roles=rolesL.take n)):=by
 have key:∀{n:Nat},2≤n→n≤5→DFn Tryz.prog bd dl at_ 168 [gs name,.int .i64 many,tv] H (fun v H1 ob=>ob=[]∧(H.le H1∧∃p:SProto,v= .agg p.cells.toArray∧ProtoOk H1 p∧p.name=name∧p.roles=rolesL.take n))→DFn Tryz.prog bd dl at_ 168 [gs name,.int .i64 many,tv] H (fun v H1 ob=>ob=[]∧(H.le H1∧∃p:SProto,v= .agg p.cells.toArray∧ProtoOk H1 p∧p.name=name∧∃n,2≤n∧n≤5∧p.roles=rolesL.take n)):=
  fun h1 h2 h=>FnX.mono h (by
   rintro v H' L' ⟨at',ob,e1,e2,e3,e4,p,e5,e6,e7,e8⟩
   exact⟨at',ob,e1,e2,e3,e4,p,e5,e6,e7,_,h1,h2,e8⟩)
 rcases(by omega:many=2∨many=3∨many=4) with rfl | rfl | rfl
 · exact key om om (BM hd hty htn htl name)
 · exact key om om (BL hd hty htn htl name)
 exact key om om (BK hd hty htn htl name)
end Go.Sx
namespace Go.Sx
open Go Go.Proofs
theorem zm {H:Hp}{bd:Nat}{dl:Value}{at_:Int}(hd:DiceOk H dl at_){tv:Value}{types:List Str}(hty:RdSl H 1 Str.cells tv types)(htn:∀s∈types,TyNm s)(htl:types.length≤100)(name:Str):
  DFn Tryz.prog bd dl at_ 123 [gs name,tv] H (fun v H1 ob=>ob=[]∧(H.le H1∧∃p:SProto,v= .agg p.cells.toArray∧ProtoOk H1 p∧p.name=name∧∃n,2≤n∧n≤5∧p.roles=rolesL.take n)):=by
 refine FnX.enter Tryz.func123 Tryz.ntmps123 rfl rfl (fun w0=>?_)
 refine zm2 ?_
 refine TL.alloc rfl (fun b6=>?_)
 refine TL.nil (ai (ip ?_))
 refine aI (X:=[(b6,_)]) (bd:=bd) rfl (ab rfl rfl rfl rfl) (bq 4 om hd) rfl (fun v8 H8 at8 hle8 hd8 hp8=>?_)
 obtain⟨eH8,r8,rfl,hr8⟩:=hp8
 replace eH8:=eH8.symm;subst eH8
 have hra8:=hr8.1
 have hrb8:=hr8.2.1 om
 refine xk ?_
 refine af rfl ?_ ?_<;>intro c9
 ·
  refine fO ?_
  refine aI (X:=[(b6,_)]) (bd:=bd) rfl (ab rfl rfl rfl rfl) (zn hd8 hty htn htl name 2 om om) rfl (fun v14 H14 at14 hle14 hd14 hp14=>?_)
  obtain⟨hle14_,p,rfl,hP,hNm,hRo,hA⟩:=hp14
  refine iV ?_;exact bh (aF (aZ (.inr rfl) (ad rfl (RVal.cellA rfl (.here _) rfl)) (fun w hw=>hw.drop) ⟨_,[],rfl,hd14,rfl,hle14_,p,rfl,hP,hNm,_,by decide,by decide,hRo⟩))
 refine eE ?_
 refine af rfl ?_ ?_<;>intro c15
 ·
  refine fO ?_
  refine aI (X:=[(b6,_)]) (bd:=bd) rfl (ab rfl rfl rfl rfl) (bq 3 om hd8) rfl (fun v20 H20 at20 hle20 hd20 hp20=>?_)
  obtain⟨eH20,r20,rfl,hr20⟩:=hp20
  replace eH20:=eH20.symm;subst eH20
  have hra20:=hr20.1
  have hrb20:=hr20.2.1 om
  refine kQ ?_;refine zm0 ?_
  refine aI (X:=[(b6,_)]) (bd:=bd) rfl (ab rfl rfl rfl rfl) (uU hd20 hty htn htl name (2+r20) om om) rfl (fun v23 H23 at23 hle23 hd23 hp23=>?_)
  obtain⟨hle23_,p,rfl,hP,hNm,n,hn2,hn5,hRo⟩:=hp23
  refine iV ?_;exact bh (aF (aZ (.inr rfl) (ad rfl (RVal.cellA rfl (.here _) rfl)) (fun w hw=>hw.drop) ⟨_,[],rfl,hd23,rfl,hle23_,p,rfl,hP,hNm,n,hn2,hn5,hRo⟩))
 refine eE ?_
 refine af rfl ?_ ?_<;>intro c24
 ·
  refine fO ?_
  refine aI (X:=[(b6,_)]) (bd:=bd) rfl (ab rfl rfl rfl rfl) (zn hd8 hty htn htl name 3 om om) rfl (fun v29 H29 at29 hle29 hd29 hp29=>?_)
  obtain⟨hle29_,p,rfl,hP,hNm,hRo,hA⟩:=hp29
  refine iV ?_;exact bh (aF (aZ (.inr rfl) (ad rfl (RVal.cellA rfl (.here _) rfl)) (fun w hw=>hw.drop) ⟨_,[],rfl,hd29,rfl,hle29_,p,rfl,hP,hNm,_,by decide,by decide,hRo⟩))
 refine TC.skip (bn (ai (fO ?_)))
 refine aI (X:=[(b6,_)]) (bd:=bd) rfl (ab rfl rfl rfl rfl) (uU hd8 hty htn htl name 3 om om) rfl (fun v33 H33 at33 hle33 hd33 hp33=>?_)
 obtain⟨hle33_,p,rfl,hP,hNm,n,hn2,hn5,hRo⟩:=hp33
 refine iV ?_
 exact aZ (.inr rfl) (ad rfl (RVal.cellA rfl (.here _) rfl)) (fun w hw=>hw.drop) ⟨_,[],rfl,hd33,rfl,hle33_,p,rfl,hP,hNm,n,hn2,hn5,hRo⟩
theorem vU {H:Hp}(p:SProto)(hp:ProtoOk H p)(h1:p.name.length≤1000)(h2:p.roles.length≤100)(h3:∀r∈p.roles,r.length≤1000):
  Fn Tryz.prog 66 [.agg p.cells.toArray] H (fun v H1=>RdSl H1 1 Str.cells v (p.roles.map (fun r=>(p.name++[46])++r))):=by
 have hro:=hp.r
 have hmx:=hro.max
 refine Fn.enter Tryz.func66 Tryz.ntmps66 rfl rfl (fun w0=>?_)
 refine zm2 ?_
 refine TL.box rfl rfl (fun b1=>?_)
 refine ti ?_
 refine aK (V:=fun k v ob H1=>[(3,v),(4,.int .i64 k)]) (K:=[(1,_),(2,_)]) (L:=fun k v ob H1=>St [] w0 H H ((b1,p.cells)::ob)) (I:=fun k v ob H1=>(0≤k∧k≤p.roles.length)∧OwnSl 1 Str.cells v ((p.roles.take k.toNat).map (fun r=>(p.name++[46])++r)) ob) (μ:=fun k=>(p.roles.length - k).toNat) 0 (.slice none 0 0) [] H ky ⟨o2q,OwnSl.nil⟩ (fun w hw=>hw) (fun k v ob H1 hI=>?_)
 obtain⟨⟨k0,k1⟩,hO⟩:=hI
 refine jO ?_;refine TL.run (ah rfl rfl hro) rfl (zm1 ?_)
 refine af rfl ?_ ?_<;>intro c9
 ·
  obtain⟨x,hx⟩:=aj (l:=p.roles) k0 c9
  have hxl:=h3 x (List.mem_of_getElem? hx)
  refine qK ?_;refine cy [(0,1),(1,1),(2,2),(3,1),(4,1),(5,2),(6,1),(7,1),(8,2),(9,1),(10,3),(11,0),(12,1)] kr kr (zm6 ?_);refine ou ?_
  refine az (eR rfl rfl (by simp only [List.length_append,List.length_cons,List.length_nil];omega)) rfl (zK ?_);refine Ab ?_
  refine bg (aL hro hx rfl rfl) rfl (az (eR rfl rfl (by simp only [List.length_append,List.length_cons,List.length_nil];omega)) rfl (aJ rfl rfl rfl rfl (fun b22=>?_)))
  refine bB (TL.append (enc:=Str.cells) rfl rfl rfl hO (Src.own [(p.name++[46])++x] (.here _) rfl rfl) (by simp;omega) rfl (.skip _ (.skip _ .all)) rfl (fun a23 c23 ob23 hO23=>?_))
  refine TF.back (zm6 ?_);refine wH ?_
  exact ay (k+1) _ ob23 H ⟨o2q,by rw [bv k0 hx];exact hO23⟩ ky (fun w hw=>hw.drop) om
 refine jA ?_
 refine TX.pubO hO (.skip _ .all) sq (fun H2 hle2 hR=>?_)
 rw [aX c9 k0] at hR
 exact aR (.inr rfl) (ad rfl (RVal.tmp rfl)) hR
end Go.Sx
namespace Go.Sx
open Go
def fX (x:SPoint)(r:Str):Bool:=decide (x.frm=r)||decide (x.to=r)
def jU:List Bool→List Int→List Int→List Bool×List Int
 | met,todo,[]=>(met,todo)
 | met,todo,i::r=>if 0≤i∧met[i.toNat]? =some false then jU (met.set i.toNat true) (todo++[i]) r else jU met todo r
def jk:List Bool→List Int→List SArm→List Bool×List Int
 | met,todo,[]=>(met,todo)
 | met,todo,a::r=>if met[a.next.toNat]? =some false then jk (met.set a.next.toNat true) (todo++[a.next]) r else jk met todo r
def jS (p:SProto)(role:Str)(j:Int)(met:List Bool)(todo:List Int):List Bool×List Int:=match p.points[j.toNat]? with
 | none=>(met,todo)
 | some x=>if fX x role=true then(met,todo) else jk met todo x.arms
def iJ (p:SProto)(role:Str):Nat→Nat→List Bool→List Int→List Bool×List Int
 | 0,_,met,todo=>(met,todo)
 | f+1,i,met,todo=>match todo[i]? with
  | none=>(met,todo)
  | some j=>iJ p role f (i+1) (jS p role j met todo).1 (jS p role j met todo).2
def HS (met:List Bool):List Int:=((List.range met.length).filter (fun i=>met[i]? ==some true)).map (fun i:Nat=>(i:Int))
def jT (p:SProto)(role:Str)(frm:List Int):List Bool×List Int:=jU (List.replicate p.points.length false) [] frm
def dC (p:SProto)(role:Str)(frm:List Int):List Int:=HS (iJ p role p.points.length 0 (jT p role frm).1 (jT p role frm).2).1
structure Met (n:Nat)(met:List Bool)(todo:List Int):Prop where
 len:met.length=n
 cnt:todo.length=met.count true
 rng:∀j∈todo,0≤j∧j<n
theorem Met.le {n:Nat}{met:List Bool}{todo:List Int}(h:Met n met todo):todo.length≤n:=by
 rw [h.cnt,← h.len];exact List.count_le_length
theorem Met.zero (n:Nat):Met n (List.replicate n false) []:=⟨by simp,by simp [List.count_replicate],by simp⟩
theorem Gv {l:List Bool}{i:Nat}(h:l[i]? =some false):(l.set i true).count true=l.count true+1:=by
 induction l generalizing i with
 | nil=>simp at h
 | cons b l ih=>
  cases i with
  | zero=>simp at h;subst h;simp
  | succ i=>
   simp only [List.getElem?_cons_succ] at h
   have:=ih h
   simp only [List.set_cons_succ,List.count_cons,this]
   omega
theorem Met.set {n:Nat}{met:List Bool}{todo:List Int}(h:Met n met todo){j:Int}(h0:0≤j)(hj:met[j.toNat]? =some false):Met n (met.set j.toNat true) (todo++[j]):=by
 refine⟨by simp [h.len],by rw [Gv hj,List.length_append,h.cnt];rfl,fun x hx=>?_⟩
 rcases List.mem_append.1 hx with hx | hx
 ·exact h.rng x hx
 ·rw [List.mem_singleton.1 hx]
  have:=(List.getElem?_eq_some_iff.1 hj).1
  rw [h.len] at this
  exact⟨h0,by omega⟩
theorem ue {met:List Bool}{todo:List Int}{l:List Int}{i:Int}{k:Nat}(hx:l[k]? =some i)(h:¬(0≤i∧met[i.toNat]? =some false)):jU met todo (l.drop k)=jU met todo (l.drop (k+1)):=by
 rw [List.drop_eq_getElem?_toList_append,hx]
 simp only [Option.toList_some,List.singleton_append,jU,if_neg h]
theorem Fv {met:List Bool}{todo:List Int}{l:List Int}{i:Int}{k:Nat}(hx:l[k]? =some i)(h:0≤i∧met[i.toNat]? =some false):jU met todo (l.drop k)=jU (met.set i.toNat true) (todo++[i]) (l.drop (k+1)):=by
 rw [List.drop_eq_getElem?_toList_append,hx]
 simp only [Option.toList_some,List.singleton_append,jU,if_pos h]
theorem Jx {met:List Bool}{todo:List Int}{l:List SArm}{a:SArm}{k:Nat}(hx:l[k]? =some a)(h:¬met[a.next.toNat]? =some false):jk met todo (l.drop k)=jk met todo (l.drop (k+1)):=by
 rw [List.drop_eq_getElem?_toList_append,hx]
 simp only [Option.toList_some,List.singleton_append,jk,if_neg h]
theorem GD {met:List Bool}{todo:List Int}{l:List SArm}{a:SArm}{k:Nat}(hx:l[k]? =some a)(h:met[a.next.toNat]? =some false):jk met todo (l.drop k)=jk (met.set a.next.toNat true) (todo++[a.next]) (l.drop (k+1)):=by
 rw [List.drop_eq_getElem?_toList_append,hx]
 simp only [Option.toList_some,List.singleton_append,jk,if_pos h]
theorem Dm {met:List Bool}{i:Int}(h0:0≤i)(h1:i<met.length):∃b,met[i.toNat]? =some b∧(met.map Value.bool)[0+i.toNat * 1]? =some (.bool b):=by
 have h2:i.toNat<met.length:=by omega
 refine⟨met[i.toNat],List.getElem?_eq_getElem h2,?_⟩
 rw [Nat.zero_add,Nat.mul_one,List.getElem?_map,List.getElem?_eq_getElem h2];rfl
theorem xD (met:List Bool)(k:Nat)(b:Bool)(h:met[k]? =some b):(((List.range (k+1)).filter (fun i=>met[i]? ==some true)).map (fun i:Nat=>(i:Int)))=((List.range k).filter (fun i=>met[i]? ==some true)).map (fun i:Nat=>(i:Int))++(if b=true then [(k:Int)] else []):=by
 rw [List.range_succ,List.filter_append,List.map_append]
 congr 1
 cases b<;>simp [h]
def qJ (p:SProto):Prop:=∀x∈p.points,∀a∈x.arms,0≤a.next∧a.next<p.points.length
theorem qg {a b:List Int}(h:¬(a.length:Int)=b.length):decide (a=b)=false:=by
 simp only [decide_eq_false_iff_not];rintro rfl;exact h rfl
theorem uk {a b:List Int}{k:Int}{x y:Int}(hx:a[k.toNat]? =some x)(hy:b[k.toNat]? =some y)(h:¬x=y):decide (a=b)=false:=by
 simp only [decide_eq_false_iff_not];rintro rfl;rw [hx] at hy;exact h (Option.some.inj hy)
theorem qh {a b:List Int}{k:Int}(hl:a.length=b.length)(k0:0≤k)(hk:¬k<a.length)(h:a.take k.toNat=b.take k.toNat):decide (a=b)=true:=by
 simp only [decide_eq_true_iff]
 rwa [List.take_of_length_le om,List.take_of_length_le om] at h
theorem reps_b (n:Nat):iE n [.bool false]=(List.replicate n false).map Value.bool:=by
 induction n with
 | zero=>rfl
 | succ n ih=>rw [List.replicate_succ,List.map_cons,← ih];rfl
theorem mset {M:List Nat}{w0 w:World}{H0 H:Hp}{b:Nat}{met:List Bool}{i:Nat}{R:aq}(h:St M w0 H0 H ((b,(met.map Value.bool).set (0+i * 1) (.bool true))::R) w):St M w0 H0 H ((b,(met.set i true).map Value.bool)::R) w:=by
 rw [List.map_set]
 simpa using h
theorem mset1 {M:List Nat}{w0 w:World}{H0 H:Hp}{b:Nat}{met:List Bool}{i:Nat}{y:Nat×List Value}{R:aq}(h:St M w0 H0 H (y::(b,(met.map Value.bool).set (0+i * 1) (.bool true))::R) w):St M w0 H0 H (y::(b,(met.set i true).map Value.bool)::R) w:=by
 rw [List.map_set]
 simpa using h
theorem St.dropT {M:List Nat}{w0 w:World}{H0 H:Hp}{A B:aq}(h:St M w0 H0 H (A++B) w):St M w0 H0 H A w:=(h.perm List.perm_append_comm).dropN
theorem ud {p:SProto}{role:Str}{f i:Nat}{met:List Bool}{todo:List Int}{j:Int}{x:SPoint}{r:List Bool×List Int}(hj:todo[i]? =some j)(hx:p.points[j.toNat]? =some x)(hr:(if fX x role=true then(met,todo) else jk met todo x.arms)=r):iJ p role (f+1) i met todo=iJ p role f (i+1) r.1 r.2:=by
 rw [iJ,hj]
 simp only [jS,hx,hr]
theorem Fu {p:SProto}{role:Str}{f i:Nat}{met:List Bool}{todo:List Int}(h:todo.length≤i):iJ p role f i met todo=(met,todo):=by
 cases f with
 | zero=>rfl
 | succ f=>rw [iJ,List.getElem?_eq_none h]
def lG (met:List Bool)(k:Nat):List Int:=((List.range k).filter (fun i=>met[i]? ==some true)).map (fun i:Nat=>(i:Int))
theorem Fm {met:List Bool}{k:Int}(k0:0≤k)(h:met[k.toNat]? =some true):lG met (k+1).toNat=lG met k.toNat++[k]:=by
 unfold lG
 rw [show(k+1).toNat=k.toNat+1 by omega,xD met k.toNat true h]
 simp;omega
theorem HT {met:List Bool}{k:Int}(k0:0≤k)(h:met[k.toNat]? =some false):lG met (k+1).toNat=lG met k.toNat:=by
 unfold lG
 rw [show(k+1).toNat=k.toNat+1 by omega,xD met k.toNat false h]
 simp
theorem xE (met:List Bool)(k:Nat):(lG met k).length≤k:=by
 unfold lG
 rw [List.length_map]
 exact Nat.le_trans (List.length_filter_le _ _) sq
theorem qf {n:Nat}:∀{l:List Int} {met:List Bool} {todo:List Int},Met n met todo→Met n (jU met todo l).1 (jU met todo l).2
 | [],_,_,h=>h
 | i::r,met,todo,h=>by
  unfold jU
  split
  ·rename_i hc;exact qf (h.set hc.1 hc.2)
  ·exact qf h
theorem qE {n:Nat}:∀{l:List SArm} {met:List Bool} {todo:List Int},(∀a∈l,0≤a.next)→Met n met todo→Met n (jk met todo l).1 (jk met todo l).2
 | [],_,_,_,h=>h
 | a::r,met,todo,hn,h=>by
  unfold jk
  split
  ·rename_i hc;exact qE (fun x hx=>hn x (List.mem_cons_of_mem _ hx)) (h.set (hn a sq) hc)
  ·exact qE (fun x hx=>hn x (List.mem_cons_of_mem _ hx)) h
theorem yL {n:Nat}{p:SProto}{role:Str}(hN:qJ p){j:Int}{met:List Bool}{todo:List Int}(h:Met n met todo):Met n (jS p role j met todo).1 (jS p role j met todo).2:=by
 unfold jS
 split
 ·exact h
 ·rename_i x hx
  split
  ·exact h
  ·exact qE (fun a ha=>(hN x (List.mem_of_getElem? hx) a ha).1) h
theorem xL {n:Nat}{p:SProto}{role:Str}(hN:qJ p):∀{f i:Nat} {met:List Bool} {todo:List Int},Met n met todo→Met n (iJ p role f i met todo).1 (iJ p role f i met todo).2
 | 0,_,_,_,h=>h
 | f+1,i,met,todo,h=>by
  unfold iJ
  split
  ·exact h
  ·exact xL hN (yL hN h)
theorem qe {p:SProto}{role:Str}(hN:qJ p)(frm:List Int):Met p.points.length (iJ p role p.points.length 0 (jT p role frm).1 (jT p role frm).2).1 (iJ p role p.points.length 0 (jT p role frm).1 (jT p role frm).2).2:=xL hN (qf (Met.zero _))
theorem qd {p:SProto}{role:Str}(hN:qJ p){frm:List Int}:∀j∈dC p role frm,0≤j∧j<p.points.length:=by
 intro j hj
 unfold dC HS at hj
 obtain⟨i,hi,rfl⟩:=List.mem_map.1 hj
 have h1:=List.mem_range.1 (List.mem_filter.1 hi).1
 rw [(qe hN frm).len] at h1
 exact o2q
theorem mx {p:SProto}{role:Str}(hN:qJ p){frm:List Int}:(dC p role frm).length≤p.points.length:=by
 have:=xE (iJ p role p.points.length 0 (jT p role frm).1 (jT p role frm).2).1 (iJ p role p.points.length 0 (jT p role frm).1 (jT p role frm).2).1.length
 rw [(qe hN frm).len] at this
 unfold dC HS
 rw [(qe hN frm).len]
 exact this
def inP (p:SProto)(role:Str)(i:Int):Bool:=match p.points[i.toNat]? with
 | some x=>fX x role
 | none=>false
def eO (p:SProto)(role:Str)(l:List Int):List Int:=l.filter (inP p role)
theorem IS {p:SProto}{role:Str}{l:List Int}{i:Int}{k:Int}(k0:0≤k)(hx:l[k.toNat]? =some i)(h:inP p role i=true):eO p role (l.take (k+1).toNat)=eO p role (l.take k.toNat)++[i]:=by
 rw [bi k0 hx];unfold eO;rw [List.filter_append];simp [h]
theorem near_no {p:SProto}{role:Str}{l:List Int}{i:Int}{k:Int}(k0:0≤k)(hx:l[k.toNat]? =some i)(h:inP p role i=false):eO p role (l.take (k+1).toNat)=eO p role (l.take k.toNat):=by
 rw [bi k0 hx];unfold eO;rw [List.filter_append];simp [h]
theorem qr {p:SProto}{role:Str}(l:List Int):(eO p role l).length≤l.length:=List.length_filter_le _ _
def nF (p:SProto)(role:Str)(i:Int):Bool:=decide ((eO p role (dC p role [i])).length=0)
structure GRow where
 l:List Int
 sp:Sp
def GRow.cells (r:GRow):List Value:=[.slice r.sp.1 r.l.length r.sp.2]
instance :Cells 1 GRow.cells:=⟨fun _=>rfl,by decide,fun _=>rfl⟩
def jB:List (List Int)→List Int→Option Nat
 | [],_=>none
 | y::r,x=>if y=x then some 0 else(jB r x).map (· +1)
theorem tP:∀{l:List (List Int)} {x:List Int} {k:Nat},l[k]? =some x→(∀j,j<k→l[j]? ≠some x)→jB l x=some k
 | [],_,_,h,_=>by simp at h
 | y::r,x,0,h,_=>by simp at h;unfold jB;rw [if_pos h]
 | y::r,x,k+1,h,hn=>by
  unfold jB
  rw [if_neg (fun e=>hn 0 om (by simp [e])),tP (k:=k) (by simpa using h) (fun j hj=>by have:=hn (j+1) om;simpa using this)]
  rfl
theorem tQ:∀{l:List (List Int)} {x:List Int},(∀j,j<l.length→l[j]? ≠some x)→jB l x=none
 | [],_,_=>rfl
 | y::r,x,hn=>by
  unfold jB
  rw [if_neg (fun e=>hn 0 sq (by simp [e])),tQ (fun j hj=>by have:=hn (j+1) (by simp;omega);simpa using this)]
  rfl
def bZ (p:SProto)(role:Str)(sets:List (List Int))(frm:List Int):Int×Int×List (List Int):=
 if 0<(eO p role (dC p role frm)).length∧(dC p role frm).any (nF p role)=true then(0,801,sets)
 else match jB sets (eO p role (dC p role frm)) with
  | some i=>(i,0,sets)
  | none=>if sets.length=40 then(0,805,sets) else(sets.length,0,sets++[eO p role (dC p role frm)])
def WK (p:SProto)(role:Str)(sv:Value):List Value:=[gs p.name,.slice p.rp.1 p.roles.length p.rp.2,.slice p.pp.1 p.points.length p.pp.2,gs role,sv]
def GRowsOk (H:Hp)(rows:List GRow):Prop:=∀r∈rows,RdSl H 1 I64.cells (.slice r.sp.1 r.l.length r.sp.2) r.l
theorem GRowsOk.le {H H':Hp}{rows:List GRow}(h:GRowsOk H rows)(hl:H.le H'):GRowsOk H' rows:=fun r hr=>(h r hr).le hl
section
variable {p:SProto}{role:Str}{sets:List (List Int)}{frm:List Int}
theorem Ge {k:Int}{j:Int}(hx:(dC p role frm)[k.toNat]? =some j)(hl:nF p role j=true)(hn:0<(eO p role (dC p role frm)).length):bZ p role sets frm=(0,801,sets):=by
 unfold bZ
 rw [if_pos ⟨hn,List.any_eq_true.2 ⟨j,List.mem_of_getElem? hx,hl⟩⟩]
theorem Gd {k:Nat}(hno:¬(0<(eO p role (dC p role frm)).length∧(dC p role frm).any (nF p role)=true))(hx:sets[k]? =some (eO p role (dC p role frm)))(hn:∀j,j<k→sets[j]? ≠some (eO p role (dC p role frm))):bZ p role sets frm=((k:Int),0,sets):=by
 unfold bZ
 rw [if_neg hno,tP hx hn]
theorem yi (hno:¬(0<(eO p role (dC p role frm)).length∧(dC p role frm).any (nF p role)=true))(hn:∀j,j<sets.length→sets[j]? ≠some (eO p role (dC p role frm))):bZ p role sets frm=if sets.length=40 then((0:Int),(805:Int),sets) else((sets.length:Int),(0:Int),sets++[eO p role (dC p role frm)]):=by
 unfold bZ
 rw [if_neg hno,tQ hn]
end
theorem no_lost {p:SProto}{role:Str}{l:List Int}{n:Nat}{k:Int}(k0:0≤k)(h:∀j:Nat,j<k.toNat→∀i,l[j]? =some i→nF p role i=false)(hk:¬k<l.length∨¬0<n):¬(0<n∧l.any (nF p role)=true):=by
 rintro⟨h1,h2⟩
 obtain⟨i,hi,hl⟩:=List.any_eq_true.1 h2
 obtain⟨j,hj⟩:=List.getElem?_of_mem hi
 have hjl:=(List.getElem?_eq_some_iff.1 hj).1
 rcases hk with hk | hk
 ·rw [h j om i hj] at hl;cases hl
 ·exact hk h1
section
variable {P:Program}{n:Nat}{ops:Array Oper}{Q:Exit→Act→World→Prop}{E:Env}{M:List Nat}{w0:World}{H0 H:Hp}{L:aq}{rest:List Oper}{dst:Option Nat}{op:Op}{ty:TypeId}{pos:String}{aft:Array Edge}
def KFn (P:Program)(b:Nat)(cs:List Value)(f:FuncId)(args:List Value)(H:Hp)(R:Value→Hp→aq→Prop):Prop:=FnX P f args H [(b,cs)] (fun v H' L'=>∃ob,L'=(b,cs)::ob∧R v H' ob)
theorem pO {f:FuncId}{args:List Value}{X Y:aq}{b:Nat}{cs:List Value}{R:Value→Hp→aq→Prop}(hL:L=X++(b,cs)::Y)(hE:cZ P E op f args)(hF:KFn P b cs f args H R)(hd:cD dst n=true)
  (h:∀v H' ob,H.le H'→(∀p∈ob,w0.heap.size≤p.1)→R v H' ob→TL P n ops Q rest (cz dst v E) (St M w0 H0 H' (X++(b,cs)::(Y++ob)))):
  TL P n ops Q ({dst:=dst,op:=op,type:=ty,pos:=pos,after:=aft,guard:=none}::rest) E (St M w0 H0 H L):=by
 subst hL
 refine aS (Br X _ Y) ?_
 intro a w he hw
 refine cJ rfl (fun K hK=>?_)
 unfold Oper.wp
 rw [hE n a w _ rfl he]
 refine(hF w hw.pass1).mono ?_
 rintro e w' ⟨v,H',L1',rfl,hst,ob,rfl,hR⟩
 have hf:∀p∈ob,w0.heap.size≤p.1:=fun p hp=>by
  rcases hst.mine p (List.mem_cons_of_mem _ hp) with hm | hm
  ·have h2:=hst.nd
   simp only [List.map_cons,List.nodup_cons] at h2
   have h3:p.1=b:=by simpa [keys] using hm
   exact absurd (List.mem_map.2 ⟨p,hp,h3⟩) h2.1
  ·exact Nat.le_trans hw.size hm
 have h1:=(hw.pastX hst).perm (yc X _ Y ob)
 exact hK _ _ (h v H' ob hst.fr.1 hf hR _ _ (he.put hd) h1)
end
def gu (p:SProto)(role:Str):Nat→Int→Str→List Int→Int×Str×Int
 | _,kind,peer,[]=>(kind,peer,0)
 | i,kind,peer,j::r=>match p.points[j.toNat]? with
  | none=>(kind,peer,0)
  | some x=>if 0<i∧¬((if x.to=role then 2 else 1)=kind∧(if x.to=role then x.frm else x.to)=peer) then(0,[],802)
   else gu p role (i+1) (if x.to=role then 2 else 1) (if x.to=role then x.frm else x.to) r
def dP (p:SProto)(role:Str)(set:List Int):Int×Str×Int:=gu p role 0 0 [] set
theorem km {p:SProto}{role:Str}{kind:Int}{peer:Str}{l:List Int}{k:Nat}{j:Int}{x:SPoint}{i:Nat}(hx:l[k]? =some j)(hp:p.points[j.toNat]? =some x)(h:0<i∧¬((if x.to=role then 2 else 1)=kind∧(if x.to=role then x.frm else x.to)=peer)):gu p role i kind peer (l.drop k)=(0,[],802):=by
 rw [List.drop_eq_getElem?_toList_append,hx]
 simp only [Option.toList_some,List.singleton_append,gu,hp,if_pos h]
theorem jr {p:SProto}{role:Str}{kind:Int}{peer:Str}{l:List Int}{k:Nat}{j:Int}{x:SPoint}{i:Nat}(hx:l[k]? =some j)(hp:p.points[j.toNat]? =some x)(h:¬(0<i∧¬((if x.to=role then 2 else 1)=kind∧(if x.to=role then x.frm else x.to)=peer))):gu p role i kind peer (l.drop k)=gu p role (i+1) (if x.to=role then 2 else 1) (if x.to=role then x.frm else x.to) (l.drop (k+1)):=by
 rw [List.drop_eq_getElem?_toList_append,hx]
 simp only [Option.toList_some,List.singleton_append,gu,hp,if_neg h]
def lZ (o:List Str)(l:List SArm):List Str:=l.foldl (fun o a=>o.foldl cj [a.label]) o
def py (p:SProto)(o:List Str)(l:List Int):List Str:=l.foldl (fun o j=>match p.points[j.toNat]? with | some x=>lZ o x.arms | none=>o) o
def fu (p:SProto)(l:List Int):List Str:=py p [] l
def rM (p:SProto)(n:Nat)(j:Int):Bool:=match p.points[j.toNat]? with
 | some x=>decide ((x.arms.length:Int)=n)
 | none=>true
def qF (p:SProto)(l:List Int):Bool:=l.all (rM p (fu p l).length)
theorem Bk:∀(l:List Str) (s:Str),(cj l s).length≤l.length+1
 | [],s=>by simp [cj]
 | x::r,s=>by
  have:=Bk r s
  unfold cj
  split
  ·simp;omega
  ·split<;>simp
theorem rX:∀(l o:List Str),(l.foldl cj o).length≤l.length+o.length
 | [],o=>by simp
 | x::r,o=>by
  have h1:=rX r (cj o x)
  have h2:=Bk o x
  simp only [List.foldl_cons,List.length_cons]
  omega
theorem Gi {o:List Str}{l:List SArm}{k:Int}{a:SArm}(k0:0≤k)(hx:l[k.toNat]? =some a):lZ o (l.take (k+1).toNat)=(lZ o (l.take k.toNat)).foldl cj [a.label]:=by
 rw [bi k0 hx];unfold lZ;rw [List.foldl_append];rfl
theorem u4:∀(o:List Str) (l:List SArm),(lZ o l).length≤o.length+l.length
 | o,[]=>by simp [lZ]
 | o,a::r=>by
  have h1:=u4 (o.foldl cj [a.label]) r
  have h2:=rX o [a.label]
  have e:lZ o (a::r)=lZ (o.foldl cj [a.label]) r:=rfl
  rw [e]
  simp only [List.length_cons,List.length_nil] at *
  omega
theorem Gh {p:SProto}{o:List Str}{l:List Int}{k:Int}{j:Int}{x:SPoint}(k0:0≤k)(hx:l[k.toNat]? =some j)(hp:p.points[j.toNat]? =some x):py p o (l.take (k+1).toNat)=lZ (py p o (l.take k.toNat)) x.arms:=by
 rw [bi k0 hx];unfold py;rw [List.foldl_append];simp only [List.foldl_cons,List.foldl_nil,hp]
theorem BQ {p:SProto}(h6:∀x∈p.points,x.arms.length≤6):∀(l:List Int) (o:List Str),(py p o l).length≤o.length+6 * l.length
 | [],o=>by simp [py]
 | j::r,o=>by
  have key:∀o',(py p o' r).length≤o'.length+6 * r.length:=fun o'=>BQ h6 r o'
  show(py p (match p.points[j.toNat]? with | some x=>lZ o x.arms | none=>o) r).length≤_
  cases hj:p.points[j.toNat]? with
  | none=>have:=key o;simp only [List.length_cons];omega
  | some x=>
   have h1:=key (lZ o x.arms)
   have h2:=u4 o x.arms
   have h3:=h6 x (List.mem_of_getElem? hj)
   simp only [List.length_cons];omega
def kC (p:SProto)(s:Str):Int→Str→List Int→List Int→Int×Str×List Int×Bool
 | ck,cn,to,[]=>(ck,cn,to,true)
 | ck,cn,to,j::r=>match p.points[j.toNat]? with
  | none=>kC p s ck cn to r
  | some x=>if bS (x.arms.map (·.label)) s<0 then kC p s ck cn to r else match x.arms[(bS (x.arms.map (·.label)) s).toNat]? with
   | none=>kC p s ck cn to r
   | some a=>if 0<to.length∧¬(a.ck=ck∧a.cn=cn) then(ck,cn,[],false) else kC p s a.ck a.cn (to++[a.next]) r
def eQ (p:SProto)(l:List Int)(s:Str):Int×Str×List Int×Bool:=kC p s 0 [] [] l
section
variable {p:SProto}{s:Str}{ck:Int}{cn:Str}{to l:List Int}{k:Nat}{j:Int}{x:SPoint}
theorem Gy (hx:l[k]? =some j)(hp:p.points[j.toNat]? =some x)(h:bS (x.arms.map (·.label)) s<0):kC p s ck cn to (l.drop k)=kC p s ck cn to (l.drop (k+1)):=by
 rw [List.drop_eq_getElem?_toList_append,hx]
 simp only [Option.toList_some,List.singleton_append,kC,hp,if_pos h]
theorem Jm {a:SArm}(hx:l[k]? =some j)(hp:p.points[j.toNat]? =some x)(h:¬bS (x.arms.map (·.label)) s<0)(ha:x.arms[(bS (x.arms.map (·.label)) s).toNat]? =some a)(hb:0<to.length∧¬(a.ck=ck∧a.cn=cn)):kC p s ck cn to (l.drop k)=(ck,cn,[],false):=by
 rw [List.drop_eq_getElem?_toList_append,hx]
 simp only [Option.toList_some,List.singleton_append,kC,hp,if_neg h,ha,if_pos hb]
theorem yw {a:SArm}(hx:l[k]? =some j)(hp:p.points[j.toNat]? =some x)(h:¬bS (x.arms.map (·.label)) s<0)(ha:x.arms[(bS (x.arms.map (·.label)) s).toNat]? =some a)(hb:¬(0<to.length∧¬(a.ck=ck∧a.cn=cn))):kC p s ck cn to (l.drop k)=kC p s a.ck a.cn (to++[a.next]) (l.drop (k+1)):=by
 rw [List.drop_eq_getElem?_toList_append,hx]
 simp only [Option.toList_some,List.singleton_append,kC,hp,if_neg h,ha,if_neg hb]
end
section
variable {P:Program}{n:Nat}{ops:Array Oper}{Q:Exit→Act→World→Prop}{E:Env}{M:List Nat}{w0:World}{H0 H:Hp}{L:aq}{rest:List Oper}{dst:Option Nat}{op:Op}{ty:TypeId}{pos:String}{aft:Array Edge}
theorem EI (X A Y:aq):(X++(A++Y)).Perm (A++(X++Y)):=by
 rw [← List.append_assoc,← List.append_assoc];exact(List.perm_append_comm).append_right Y
theorem qH {f:FuncId}{args:List Value}{X A Y:aq}{Φ:Value→Hp→aq→Prop}(hL:L=X++(A++Y))(hE:cZ P E op f args)(hF:FnX P f args H A Φ)(hd:cD dst n=true)
  (h:∀v H' A',H.le H'→Φ v H' A'→TL P n ops Q rest (cz dst v E) (St M w0 H0 H' (X++(A'++Y)))):
  TL P n ops Q ({dst:=dst,op:=op,type:=ty,pos:=pos,after:=aft,guard:=none}::rest) E (St M w0 H0 H L):=by
 subst hL
 refine aS (EI X A Y) (ec hE hF hd fun v H' A' hle hΦ=>?_)
 exact aS (EI X A' Y).symm (h v H' A' hle hΦ)
end
def dI (p:SProto)(role:Str)(set:List Int):List Str→List (List Int)→List SArm→List SArm×Int×List (List Int)
 | [],sets,acc=>(acc,0,sets)
 | lb::r,sets,acc=>if(bZ p role sets (eQ p set lb).2.2.1).2.1≠0 then([],(bZ p role sets (eQ p set lb).2.2.1).2.1,(bZ p role sets (eQ p set lb).2.2.1).2.2)
  else dI p role set r (bZ p role sets (eQ p set lb).2.2.1).2.2 (acc++[⟨lb,(eQ p set lb).1,(eQ p set lb).2.1,(bZ p role sets (eQ p set lb).2.2.1).1⟩])
def qC (p:SProto)(set:List Int)(lb:Str):Bool:=(eQ p set lb).2.2.2
def bQ (p:SProto)(role:Str)(sets:List (List Int))(set:List Int):(Int×Str×List SArm)×Int×List (List Int):=
 if set.length=0 then((0,[],[]),0,sets)
 else if(dP p role set).2.2≠0 then((0,[],[]),(dP p role set).2.2,sets)
 else if(dP p role set).1=1∧qF p set=false then((0,[],[]),803,sets)
 else if 6<(fu p set).length then((0,[],[]),805,sets)
 else if(fu p set).all (qC p set)=false then((0,[],[]),804,sets)
 else if(dI p role set (fu p set) sets []).2.1≠0 then((0,[],[]),(dI p role set (fu p set) sets []).2.1,(dI p role set (fu p set) sets []).2.2)
 else(((dP p role set).1,(dP p role set).2.1,(dI p role set (fu p set) sets []).1),0,(dI p role set (fu p set) sets []).2.2)
section
variable {p:SProto}{role:Str}{set:List Int}{sets:List (List Int)}{acc:List SArm}{l:List Str}{k:Nat}{lb:Str}
theorem Fl (hx:l[k]? =some lb)(h:(bZ p role sets (eQ p set lb).2.2.1).2.1≠0):dI p role set (l.drop k) sets acc=([],(bZ p role sets (eQ p set lb).2.2.1).2.1,(bZ p role sets (eQ p set lb).2.2.1).2.2):=by
 rw [List.drop_eq_getElem?_toList_append,hx]
 simp only [Option.toList_some,List.singleton_append,dI,if_pos h]
theorem CR (hx:l[k]? =some lb)(h:¬(bZ p role sets (eQ p set lb).2.2.1).2.1≠0):dI p role set (l.drop k) sets acc=dI p role set (l.drop (k+1)) (bZ p role sets (eQ p set lb).2.2.1).2.2 (acc++[⟨lb,(eQ p set lb).1,(eQ p set lb).2.1,(bZ p role sets (eQ p set lb).2.2.1).1⟩]):=by
 rw [List.drop_eq_getElem?_toList_append,hx]
 simp only [Option.toList_some,List.singleton_append,dI,if_neg h]
end
structure TQ1 where
 k:Int
 h:Hp
 sv:Value
 ob:aq
 rows:List GRow
 v:Value
 oa:aq
 arms:List SArm
theorem mg {p:SProto}{s:Str}:∀(l:List Int) (ck:Int) (cn:Str) (to:List Int),(kC p s ck cn to l).2.2.1.length≤to.length+l.length
 | [],_,_,to=>by simp [kC]
 | j::r,ck,cn,to=>by
  unfold kC
  split
  ·have:=mg (p:=p) (s:=s) r ck cn to;simp only [List.length_cons];omega
  ·split
   ·have:=mg (p:=p) (s:=s) r ck cn to;simp only [List.length_cons];omega
   ·split
    ·have:=mg (p:=p) (s:=s) r ck cn to;simp only [List.length_cons];omega
    ·rename_i a _
     split
     ·simp
     ·have:=mg (p:=p) (s:=s) r a.ck a.cn (to++[a.next]);simp only [List.length_append,List.length_cons,List.length_nil] at *;omega
theorem Jl {p:SProto}{s:Str}(l:List Int):(eQ p l s).2.2.1.length≤l.length:=by
 have:=mg (p:=p) (s:=s) l 0 [] []
 simpa [eQ] using this
end Go.Sx
