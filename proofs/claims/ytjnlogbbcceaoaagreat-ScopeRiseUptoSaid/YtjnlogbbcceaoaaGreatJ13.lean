import Derived.Test.YtjnlogbbcceaoaaGreatJ12
import Derived.Lib.ItoaNum
set_option linter.all false
set_option maxRecDepth 100000
set_option maxHeartbeats 32000000
namespace Go.Sx
open Go Go.Proofs
theorem pm {H:Hp}{pg:SProg}(hP:ProgOk H pg)(hM:MaxG H):
  Fn Tryz.prog 15 [.agg pg.cells.toArray] H (fun v H9=>∃pg2:SProg,v= .agg pg2.cells.toArray∧ProgOk H9 pg2∧pg2.bare=dn pg):=by
 have hmr:=hP.r.max
 have hml:=hP.l.max
 have hmq:=hP.q.max
 refine Fn.enter Tryz.func15 Tryz.ntmps15 rfl rfl (fun w0=>?_)
 refine zm2 ?_
 refine TL.box rfl rfl (fun b1=>?_)
 refine TL.alloc rfl (fun b2=>?_)
 refine TL.nil (ag (TC.seq (zm2 ?_)));refine eL (.h1) (dI sq (fun H_b1 le_b1 rd_b1=>?_))
 replace hP:=hP.le le_b1
 replace hM:=hM.le le_b1
 have hb:PgAt H_b1 b1 pg:=rd_b1
 refine TL.run (j8 rfl rfl hb.add) rfl (TL.call (ab rfl rfl rfl rfl) (jd hP hM) rfl (fun v17 H17 hle17 hp17=>?_))
 replace hP:=hP.le hle17
 replace hb:=hb.le hle17
 subst hp17
 refine TL.run (nz (off:=0) rfl kr rfl) rfl (zm1 ?_)
 refine aP rfl ?_ ?_<;>intro c19
 · refine k6 ?_;refine jm ?_;exact aD (aR (.inr rfl) (ad rfl (RVal.cellA rfl (.here _) rfl)) ⟨nilPg,rfl,Eg _,mz c19⟩)
 have hck:=Cx c19
 have hn1:=hck.r.1
 have hn2:=hck.l.1
 have hn3:=hck.q.1
 refine de ?_;refine zm2 ?_
 refine TL.alloc rfl (fun b3=>?_)
 refine TL.nil (ag (TC.seq (gp ?_)));refine TL.run (bD rfl (hb 0 _ rfl)) rfl (TL.run (ai rfl rfl hP.r) rfl (zm8 ?_))
 refine aY (V:=fun(p:Int×List SProto) v1 ob1 H1=>[(24,.int .i64 p.1)]) (K:=[(1,_),(2,_),(3,_),(22,_),(23,_)]) (L:=fun(p:Int×List SProto) v1 ob1 H1=>St [] w0 H H1 ((b3,[v1,.slice none 0 0,.slice none 0 0])::(b2,[.slice none 0 0,.slice none 0 0,.slice none 0 0])::ob1)) (I:=fun(p:Int×List SProto) v1 ob1 H1=>(0≤p.1∧p.1≤pg.protos.length)∧H17.le H1∧OwnSl 3 SProto.cells v1 p.2 ob1∧p.2.length=p.1∧PrAll H1 p.2∧p.2.map SProto.bare=(pg.protos.take p.1.toNat).map SProto.bare) (μ:=fun(p:Int×List SProto)=>(pg.protos.length - p.1).toNat) ((0:Int),[]) (.slice none 0 0) [] H17 ky ⟨o2q,Hp.le.refl _,OwnSl.nil,rfl,(fun _ h=>by cases h),rfl⟩ (fun w hw=>hw) (fun p v1 ob1 H1 hI=>?_)
 obtain⟨⟨k01,k11⟩,hle1,hO1,hPl1,hPA1,hPm1⟩:=hI
 obtain⟨k1,P1⟩:=p
 dsimp only at *
 obtain⟨va1,vc1,rfl⟩:=hO1.form
 replace hP:=hP.le hle1
 replace hb:=hb.le hle1
 refine zm6 ?_
 refine af rfl ?_ ?_<;>intro c25
 ·
  obtain⟨x,hk1⟩:=al (l:=pg.protos) k01 c25
  have hxP:=hP.rs x (List.mem_of_getElem? hk1)
  have hxz:=DX (hck.r.2 x (List.mem_of_getElem? hk1))
  refine dx ?_;refine TL.run (ae rfl hP.r rfl omq omq) rfl (TL.run (bg hP.r hk1 rfl rfl) rfl (TL.alloc rfl (fun b5=>?_)))
  refine wM ?_
  refine aB rfl rfl rfl rfl (fun b28=>?_)
  refine jl ?_
  refine TL.append (enc:=Str.cells) rfl rfl rfl (OwnSl.blk (enc:=Str.cells) [] rfl rfl dq) (Src.sl hxP.r) (by simp;omega) rfl (.take (.here _) rfl) rfl (fun a31 c31 ob31 hO31=>?_)
  refine tw ?_
  refine TX.pubO hO31 (.s3 (.past _ .all)) sq (fun HPob31 lePob31 hRr=>?_)
  replace hle1:=hle1.trans lePob31
  replace hxP:=hxP.le lePob31
  replace hPA1:=hPA1.le lePob31
  replace hRr:=hRr.cast (List.nil_append _)
  refine rU (L':=(b5,_)::((b3,_)::((b2,_)::(ob1)))) (i2 [(b5,_),(b3,_),(b2,_)] (A:=ob1)) (ag (pP ?_));refine gp ?_;refine Aq ?_;refine k4 ?_
  refine TL.run (ai rfl rfl hxP.pt) rfl (zm8 ?_)
  refine aY (V:=fun(p:Int×List SPoint) v11 ob11 H11=>[(38,.int .i64 p.1)]) (K:=[(1,_),(2,_),(3,_),(5,_),(6,_),(22,_),(23,_),(24,_),(25,_),(26,_),(27,_),(28,_),(29,_),(30,_),(31,_),(32,_),(33,_),(34,_),(35,_),(36,_),(37,_)]) (L:=fun(p:Int×List SPoint) v11 ob11 H11=>St [] w0 H H11 ((b5,[gs x.name,.slice a31 ([]++x.roles).length c31,v11])::(b3,_)::(b2,_)::(ob1++ob11))) (I:=fun(p:Int×List SPoint) v11 ob11 H11=>(0≤p.1∧p.1≤x.points.length)∧HPob31.le H11∧OwnSl 3 SPoint.cells v11 p.2 ob11∧p.2.length=p.1∧PtAll H11 p.2∧p.2.map SPoint.bare=(x.points.take p.1.toNat).map SPoint.bare) (μ:=fun(p:Int×List SPoint)=>(x.points.length - p.1).toNat) ((0:Int),[]) (.slice none 0 0) [] HPob31 ky ⟨o2q,Hp.le.refl _,OwnSl.nil,rfl,(fun _ h=>by cases h),rfl⟩ (fun w hw=>by rw [List.append_nil];exact hw) (fun p v11 ob11 H11 hI=>?_)
  obtain⟨⟨k011,k111⟩,hle11,hO11,hPl11,hPA11,hPm11⟩:=hI
  obtain⟨k11,P11⟩:=p
  dsimp only at *
  obtain⟨va11,vc11,rfl⟩:=hO11.form
  replace hle1:=hle1.trans hle11
  replace hxP:=hxP.le hle11
  replace hPA1:=hPA1.le hle11
  replace hRr:=hRr.le hle11
  refine zm6 ?_
  refine af rfl ?_ ?_<;>intro c39
  ·
   obtain⟨y,hk11⟩:=al (l:=x.points) k011 c39
   have hyO:=hxP.ps y (List.mem_of_getElem? hk11)
   have hyz:=hxz.2.2 y (List.mem_of_getElem? hk11)
   refine dx ?_;refine TL.run (ae rfl hxP.pt rfl omq omq) rfl (TL.run (bg hxP.pt hk11 rfl rfl) rfl (TL.alloc rfl (fun b8=>?_)))
   refine qo ?_
   refine cV (ab rfl rfl rfl rfl) (Bb hyO.a omq) rfl (fun v44 H44 ob44 hle44 hp44=>?_)
   obtain⟨eH44,hO44⟩:=hp44
   subst H44
   obtain⟨a44,c44,rfl⟩:=hO44.form
   refine TL.pubO hO44 (.s4 (.past _ .all)) sq (fun HP44 leP44 hR44=>?_)
   refine aV (L':=(b8,_)::((b5,_)::((b3,_)::((b2,_)::(ob1++(ob11)))))) (i2 [(b8,_),(b5,_),(b3,_),(b2,_)] (A:=ob1++ob11)) ?_
   replace hle11:=hle11.trans leP44
   replace hPA11:=hPA11.le leP44
   replace hyO:=hyO.le leP44
   refine sg ?_;refine qf ?_;refine gP ?_
   refine aB rfl rfl rfl rfl (fun b49=>?_)
   refine TL.append (enc:=SPoint.cells) rfl rfl rfl hO11 (Src.own [⟨y.frm,y.to,y.arms,(a44,c44)⟩] (.here _) rfl rfl) (by simp;omega) rfl (.s5 (.past _ .all)) rfl (fun a50 c50 ob50 hO50=>?_)
   refine wF ?_;refine pS ?_
   exact aI (i:=(k11,P11)) (k11+1,P11++[⟨y.frm,y.to,y.arms,(a44,c44)⟩]) _ ob50 HP44 ⟨o2q,hle11,hO50,by simp only [List.length_append,List.length_cons,List.length_nil];omega,gM hPA11 ⟨hR44,hyO.z⟩,i6 k011 hk11 hPm11 rfl⟩ ky (fun w hw=>hw.drop.drop) omq
  refine gn ?_;refine TC.region ?_
  have hQe:=hPm11
  rw [bA c39 k011] at hQe
  have hQl:P11.length=x.points.length:=by have:=congrArg List.length hQe;simpa using this
  refine TL.pubO hO11 (.s3 (.past _ .all)) sq (fun HPob11 lePob11 hRp=>?_)
  replace hle1:=hle1.trans lePob11
  replace hPA1:=hPA1.le lePob11
  replace hRr:=hRr.le lePob11
  replace hPA11:=hPA11.le lePob11
  refine aV (L':=(b5,_)::((b3,_)::((b2,_)::(ob1)))) (i2 [(b5,_),(b3,_),(b2,_)] (A:=ob1)) (jl ?_);refine gP ?_
  refine aB rfl rfl rfl rfl (fun b56=>?_)
  refine TL.append (enc:=SProto.cells) rfl rfl rfl hO1 (Src.own [⟨x.name,x.roles,(a31,c31),P11,(va11,vc11)⟩] (.here _) rfl rfl) (by simp;omega) rfl (.s3 (.skip _ .all)) rfl (fun a57 c57 ob57 hO57=>?_)
  refine wF ?_;refine pS ?_
  exact aI (i:=(k1,P1)) (k1+1,P1++[(⟨x.name,x.roles,(a31,c31),P11,(va11,vc11)⟩:SProto)]) _ ob57 HPob11 ⟨o2q,hle1,hO57,by simp only [List.length_append,List.length_cons,List.length_nil];omega,gM hPA1 ⟨hRr,hRp,hPA11⟩,i6 k01 hk1 hPm1 (by unfold SProto.bare;simp only [hQe])⟩ ky (fun w hw=>hw.drop.drop) omq
 refine gC ?_;refine zm2 ?_
 have hE1:=hPm1
 rw [bA c25 k01] at hE1
 refine TL.pubO hO1 (.skip _ (.skip _ .all)) sq (fun HPob1 lePob1 hRP=>?_)
 replace hP:=hP.le lePob1
 replace hb:=hb.le lePob1
 replace hPA1:=hPA1.le lePob1
 refine aV (L':=(b3,_)::((b2,_)::[])) (List.Perm.refl _) (zm5 ?_);refine TL.run (bD rfl (hb 1 _ rfl)) rfl (TL.run (ai rfl rfl hP.l) rfl (zm8 ?_))
 refine aY (V:=fun(p:Int×List SLocal) v2 ob2 H2=>[(63,.int .i64 p.1)]) (K:=[(1,_),(2,_),(3,_),(61,_),(62,_)]) (L:=fun(p:Int×List SLocal) v2 ob2 H2=>St [] w0 H H2 ((b3,[.slice va1 P1.length vc1,v2,.slice none 0 0])::(b2,[.slice none 0 0,.slice none 0 0,.slice none 0 0])::ob2)) (I:=fun(p:Int×List SLocal) v2 ob2 H2=>(0≤p.1∧p.1≤pg.locals.length)∧HPob1.le H2∧OwnSl 2 SLocal.cells v2 p.2 ob2∧p.2.length=p.1∧LoAll H2 p.2∧p.2.map SLocal.bare=(pg.locals.take p.1.toNat).map SLocal.bare) (μ:=fun(p:Int×List SLocal)=>(pg.locals.length - p.1).toNat) ((0:Int),[]) (.slice none 0 0) [] HPob1 ky ⟨o2q,Hp.le.refl _,OwnSl.nil,rfl,(fun _ h=>by cases h),rfl⟩ (fun w hw=>hw) (fun p v2 ob2 H2 hI=>?_)
 obtain⟨⟨k02,k12⟩,hle2,hO2,hPl2,hPA2,hPm2⟩:=hI
 obtain⟨k2,P2⟩:=p
 dsimp only at *
 obtain⟨va2,vc2,rfl⟩:=hO2.form
 replace hP:=hP.le hle2
 replace hb:=hb.le hle2
 replace hPA1:=hPA1.le hle2
 replace hRP:=hRP.le hle2
 refine zm6 ?_
 refine af rfl ?_ ?_<;>intro c64
 ·
  obtain⟨x,hk2⟩:=al (l:=pg.locals) k02 c64
  have hxL:=hP.ls x (List.mem_of_getElem? hk2)
  have hxz:=yj (hck.l.2 x (List.mem_of_getElem? hk2)).1
  refine dx ?_;refine TL.run (ae rfl hP.l rfl omq omq) rfl (TL.run (bg hP.l hk2 rfl rfl) rfl (TL.alloc rfl (fun b10=>?_)))
  refine oA ?_;refine gp ?_;refine Aq ?_;refine k4 ?_;refine TL.run (ai rfl rfl hxL.t) rfl (zm8 ?_)
  refine aY (V:=fun(p:Int×List STurn) v12 ob12 H12=>[(72,.int .i64 p.1)]) (K:=[(1,_),(2,_),(3,_),(10,_),(11,_),(61,_),(62,_),(63,_),(64,_),(65,_),(66,_),(67,_),(68,_),(69,_),(70,_),(71,_)]) (L:=fun(p:Int×List STurn) v12 ob12 H12=>St [] w0 H H12 ((b10,[gs x.name,v12])::(b3,_)::(b2,_)::(ob2++ob12))) (I:=fun(p:Int×List STurn) v12 ob12 H12=>(0≤p.1∧p.1≤x.turns.length)∧H2.le H12∧OwnSl 3 STurn.cells v12 p.2 ob12∧p.2.length=p.1∧TuAll H12 p.2∧p.2.map SArms.bare=(x.turns.take p.1.toNat).map SArms.bare) (μ:=fun(p:Int×List STurn)=>(x.turns.length - p.1).toNat) ((0:Int),[]) (.slice none 0 0) [] H2 ky ⟨o2q,Hp.le.refl _,OwnSl.nil,rfl,(fun _ h=>by cases h),rfl⟩ (fun w hw=>by rw [List.append_nil];exact hw) (fun p v12 ob12 H12 hI=>?_)
  obtain⟨⟨k012,k112⟩,hle12,hO12,hPl12,hPA12,hPm12⟩:=hI
  obtain⟨k12,P12⟩:=p
  dsimp only at *
  obtain⟨va12,vc12,rfl⟩:=hO12.form
  replace hle2:=hle2.trans hle12
  replace hxL:=hxL.le hle12
  replace hPA2:=hPA2.le hle12
  refine zm6 ?_
  refine af rfl ?_ ?_<;>intro c73
  ·
   obtain⟨y,hk12⟩:=al (l:=x.turns) k012 c73
   have hyO:=hxL.ts y (List.mem_of_getElem? hk12)
   have hyz:=hxz.2 y (List.mem_of_getElem? hk12)
   refine dx ?_;refine TL.run (ae rfl hxL.t rfl omq omq) rfl (TL.run (bg hxL.t hk12 rfl rfl) rfl (TL.alloc rfl (fun b13=>?_)))
   refine qo ?_
   refine cV (ab rfl rfl rfl rfl) (Bb hyO.a omq) rfl (fun v78 H78 ob78 hle78 hp78=>?_)
   obtain⟨eH78,hO78⟩:=hp78
   subst H78
   obtain⟨a78,c78,rfl⟩:=hO78.form
   refine TL.pubO hO78 (.s4 (.past _ .all)) sq (fun HP78 leP78 hR78=>?_)
   refine aV (L':=(b13,_)::((b10,_)::((b3,_)::((b2,_)::(ob2++(ob12)))))) (i2 [(b13,_),(b10,_),(b3,_),(b2,_)] (A:=ob2++ob12)) ?_
   replace hle12:=hle12.trans leP78
   replace hPA12:=hPA12.le leP78
   replace hyO:=hyO.le leP78
   refine sg ?_;refine qf ?_;refine gP ?_
   refine aB rfl rfl rfl rfl (fun b83=>?_)
   refine TL.append (enc:=STurn.cells) rfl rfl rfl hO12 (Src.own [⟨y.kind,y.peer,y.arms,(a78,c78)⟩] (.here _) rfl rfl) (by simp;omega) rfl (.s5 (.past _ .all)) rfl (fun a84 c84 ob84 hO84=>?_)
   refine wF ?_;refine pS ?_
   exact aI (i:=(k12,P12)) (k12+1,P12++[⟨y.kind,y.peer,y.arms,(a78,c78)⟩]) _ ob84 HP78 ⟨o2q,hle12,hO84,by simp only [List.length_append,List.length_cons,List.length_nil];omega,gM hPA12 ⟨hR78,hyO.z⟩,i6 k012 hk12 hPm12 rfl⟩ ky (fun w hw=>hw.drop.drop) omq
  refine gn ?_;refine TC.region ?_
  have hQe:=hPm12
  rw [bA c73 k012] at hQe
  have hQl:P12.length=x.turns.length:=by have:=congrArg List.length hQe;simpa using this
  refine TL.pubO hO12 (.s3 (.past _ .all)) sq (fun HPob12 lePob12 hRp=>?_)
  replace hle2:=hle2.trans lePob12
  replace hPA2:=hPA2.le lePob12
  replace hPA12:=hPA12.le lePob12
  refine aV (L':=(b10,_)::((b3,_)::((b2,_)::(ob2)))) (i2 [(b10,_),(b3,_),(b2,_)] (A:=ob2)) (jl ?_);refine gP ?_
  refine aB rfl rfl rfl rfl (fun b90=>?_)
  refine TL.append (enc:=SLocal.cells) rfl rfl rfl hO2 (Src.own [⟨x.name,P12,(va12,vc12)⟩] (.here _) rfl rfl) (by simp;omega) rfl (.s3 (.skip _ .all)) rfl (fun a91 c91 ob91 hO91=>?_)
  refine wF ?_;refine pS ?_
  exact aI (i:=(k2,P2)) (k2+1,P2++[(⟨x.name,P12,(va12,vc12)⟩:SLocal)]) _ ob91 HPob12 ⟨o2q,hle2,hO91,by simp only [List.length_append,List.length_cons,List.length_nil];omega,gM hPA2 ⟨hRp,hPA12⟩,i6 k02 hk2 hPm2 (by unfold SLocal.bare;simp only [hQe])⟩ ky (fun w hw=>hw.drop.drop) omq
 refine gC ?_;refine zm2 ?_
 have hE2:=hPm2
 rw [bA c64 k02] at hE2
 refine TL.pubO hO2 (.skip _ (.skip _ .all)) sq (fun HPob2 lePob2 hRL=>?_)
 replace hP:=hP.le lePob2
 replace hb:=hb.le lePob2
 replace hPA1:=hPA1.le lePob2
 replace hRP:=hRP.le lePob2
 replace hPA2:=hPA2.le lePob2
 refine aV (L':=(b3,_)::((b2,_)::[])) (List.Perm.refl _) (zm5 ?_);refine TL.run (bD rfl (hb 2 _ rfl)) rfl (TL.run (ai rfl rfl hP.q) rfl (zm8 ?_))
 refine aY (V:=fun(p:Int×List SProc) v3 ob3 H3=>[(97,.int .i64 p.1)]) (K:=[(2,_),(3,_),(95,_),(96,_)]) (L:=fun(p:Int×List SProc) v3 ob3 H3=>St [] w0 H H3 ((b3,[.slice va1 P1.length vc1,.slice va2 P2.length vc2,v3])::(b2,[.slice none 0 0,.slice none 0 0,.slice none 0 0])::ob3)) (I:=fun(p:Int×List SProc) v3 ob3 H3=>(0≤p.1∧p.1≤pg.procs.length)∧HPob2.le H3∧OwnSl 4 SProc.cells v3 p.2 ob3∧p.2.length=p.1∧PcAll H3 p.2∧p.2.map SProc.bare=(pg.procs.take p.1.toNat).map bU) (μ:=fun(p:Int×List SProc)=>(pg.procs.length - p.1).toNat) ((0:Int),[]) (.slice none 0 0) [] HPob2 ky ⟨o2q,Hp.le.refl _,OwnSl.nil,rfl,(fun _ h=>by cases h),rfl⟩ (fun w hw=>hw) (fun p v3 ob3 H3 hI=>?_)
 obtain⟨⟨k03,k13⟩,hle3,hO3,hPl3,hPA3,hPm3⟩:=hI
 obtain⟨k3,P3⟩:=p
 dsimp only at *
 obtain⟨va3,vc3,rfl⟩:=hO3.form
 replace hP:=hP.le hle3
 replace hPA1:=hPA1.le hle3
 replace hRP:=hRP.le hle3
 replace hPA2:=hPA2.le hle3
 replace hRL:=hRL.le hle3
 refine zm6 ?_
 refine af rfl ?_ ?_<;>intro c98
 ·
  obtain⟨q,hk3⟩:=al (l:=pg.procs) k03 c98
  have hqO:=hP.qs q (List.mem_of_getElem? hk3)
  have hxR:=hck.q.2 q (List.mem_of_getElem? hk3)
  refine dx ?_;refine TL.run (ae rfl hP.q rfl omq omq) rfl (TL.run (bg hP.q hk3 rfl rfl) rfl (TL.alloc rfl (fun b15=>?_)))
  refine fC ?_;refine eY ?_
  refine TD.part 1 3 rfl rfl rfl ?_ ?_
  ·
   refine cI [(0,1),(1,2),(2,2),(3,0),(4,3),(5,0),(6,1),(7,0)] kr kr (pR ?_)
   refine aW (a7 rfl (.here _) rfl) rfl (bz (TL.call (ab rfl rfl rfl rfl) (ub hqO hxR) rfl (fun v104 H104 hle104 hp104=>?_)))
   obtain⟨q104,rfl,hq104,hb104⟩:=hp104
   replace hle3:=hle3.trans hle104
   replace hPA3:=hPA3.le hle104
   refine TF.back (aC rfl rfl rfl rfl (fun b105=>?_))
   refine bz (TL.append (enc:=SProc.cells) rfl rfl rfl hO3 (Src.own [q104] (.here _) rfl rfl) (by simp;omega) rfl (.s3 (.skip _ .all)) rfl (fun a106 c106 ob106 hO106=>?_))
   refine TF.back (Ap ?_);refine mf ?_
   exact aI (i:=(k3,P3)) (k3+1,P3++[q104]) _ ob106 H104 ⟨o2q,hle3,hO106,by simp only [List.length_append,List.length_cons,List.length_nil];omega,gM hPA3 hq104,i6 k03 hk3 hPm3 hb104⟩ ky (fun w hw=>hw.drop.drop) omq
  refine cI [(0,1),(2,2),(3,0),(1,2),(4,3),(5,0),(6,1),(7,0)] kr kr (zm4 ?_)
  refine aW (a7 rfl (.here _) rfl) rfl (bz (TL.call (ab rfl rfl rfl rfl) (ub hqO hxR) rfl (fun v104 H104 hle104 hp104=>?_)))
  obtain⟨q104,rfl,hq104,hb104⟩:=hp104
  replace hle3:=hle3.trans hle104
  replace hPA3:=hPA3.le hle104
  refine TF.back (aW (aE rfl (.h1) rfl) rfl (aC rfl rfl rfl rfl (fun b105=>?_)))
  refine bz (TL.append (enc:=SProc.cells) rfl rfl rfl hO3 (Src.own [q104] (.here _) rfl rfl) (by simp;omega) rfl (.s3 (.skip _ .all)) rfl (fun a106 c106 ob106 hO106=>?_))
  refine TF.back (Ap ?_);refine mf ?_
  exact aI (i:=(k3,P3)) (k3+1,P3++[q104]) _ ob106 H104 ⟨o2q,hle3,hO106,by simp only [List.length_append,List.length_cons,List.length_nil];omega,gM hPA3 hq104,i6 k03 hk3 hPm3 hb104⟩ ky (fun w hw=>hw.drop.drop) omq
 refine qi ?_
 have hE3:=hPm3
 rw [bA c98 k03] at hE3
 refine TL.pubO hO3 (.skip _ (.skip _ .all)) sq (fun HPob3 lePob3 hRQ=>?_)
 replace hPA1:=hPA1.le lePob3
 replace hRP:=hRP.le lePob3
 replace hPA2:=hPA2.le lePob3
 replace hRL:=hRL.le lePob3
 replace hPA3:=hPA3.le lePob3
 refine aV (L':=(b3,_)::((b2,_)::[])) (List.Perm.refl _) (gP ?_);refine l4 ?_
 exact aR (.inr rfl) (ad rfl (RVal.cellA rfl (.h1) rfl)) ⟨⟨P1,(va1,vc1),P2,(va2,vc2),P3,(va3,vc3)⟩,rfl,⟨hRP,hPA1,hRL,hPA2,hRQ,hPA3⟩,by rw [dS c19];unfold SProg.bare;simp only [hE1,hE2,hE3]⟩
end Go.Sx
namespace Go.Sx
open Go
abbrev nS:Sp:=(none,0)
def Ct:SStep:=⟨0,[],[],[],[], -1,[],nS,[],nS,[],nS, -1⟩
def ll (sp qp:Sp):SProg:=⟨[],nS,[],nS,[⟨da,[],nS,[],nS,[Ct],sp⟩],qp⟩
theorem qF (sp qp:Sp):bJ (ll sp qp)=okF:=by rfl
theorem BU:bJ nilPg=⟨1504, -1, -1⟩:=by rfl
theorem iS (sp qp:Sp):cf (ll sp qp).procs da=0:=by rfl
theorem mr (sp qp:Sp):cf (ll sp qp).procs [120]= -1:=by rfl
theorem Br {sp qp:Sp}{pg:SProg}(h:pg.bare=dn (ll sp qp)):pg.procs.length=1:=by
 have h1:pg.bare.procs.length=(dn (ll sp qp)).procs.length:=by rw [h]
 rw [dS (by rw [qF];rfl)] at h1
 simpa [SProg.bare,ll] using h1
theorem end_ok (H:Hp):StepOk H Ct:=⟨RdSl.nil,RdSl.nil,(fun _ h=>by cases h),RdSl.nil⟩
theorem Bs {H:Hp}{sp qp:Sp}(h1:RdSl H 10 SStep.cells (.slice sp.1 1 sp.2) [Ct])(h2:RdSl H 4 SProc.cells (.slice qp.1 1 qp.2) [⟨da,[],nS,[],nS,[Ct],sp⟩]):ProgOk H (ll sp qp):=
 ⟨RdSl.nil,(fun _ h=>by cases h),RdSl.nil,(fun _ h=>by cases h),h2,fun q hq=>by
  simp [ll] at hq;subst hq
  exact⟨RdSl.nil,(fun _ h=>by cases h),by simp,RdSl.nil,(fun _ h=>by cases h),h1,fun s hs=>by simp at hs;subst hs;exact end_ok H⟩⟩
section
variable {name:Str}
variable (sf tp sp qp ap cp:Sp)
section
variable (n:Str)(t x:Int)(k:Int)(d:List Int)(pr:Str)(args:List Int)
end
end
end Go.Sx
namespace Go.Sx
open Go Go.Proofs
theorem pj {H:Hp}:
  Fn Tryz.prog 25 [] H (fun v H2=>∃sp qp,v= .agg (ll sp qp).cells.toArray∧ProgOk H2 (ll sp qp)):=by
 refine Fn.enter Tryz.func25 Tryz.ntmps25 rfl rfl (fun w0=>?_)
 refine zm2 ?_
 refine TL.alloc rfl (fun b0=>?_)
 refine gD ?_;refine dt ?_
 refine aB rfl rfl rfl rfl (fun b2=>?_)
 refine dt ?_
 refine aB rfl rfl rfl rfl (fun b4=>?_)
 refine dt ?_;refine cH rfl rfl rfl rfl rfl (.h2) rfl rfl (TL.nil (gl (.h1) (vJ sq (fun H_b2 le_b2 rd_b2=>?_))))
 have hS:RdSl H_b2 10 SStep.cells _ ([Ct]):=RdSl.blk (cap:=1) rd_b2 (by intro x hx;rfl) kr (by show 1≤9223372036854775807;decide)
 refine vJ sq (fun H_b4 le_b4 rd_b4=>?_)
 replace hS:=hS.le le_b4
 have hQ:RdSl H_b4 4 SProc.cells _ ([⟨da,[],nS,[],nS,[Ct],(some ⟨b2,0,none⟩,1)⟩]):=RdSl.blk (cap:=1) rd_b4 (by intro x hx;rfl) kr (by show 1≤9223372036854775807;decide)
 exact ag (TC.ret (aR (.inr rfl) (ad rfl (RVal.cellA rfl (.here _) rfl)) ⟨(some ⟨b2,0,none⟩,1),(some ⟨b4,0,none⟩,1),rfl,Bs hS hQ⟩))
theorem Cy {H:Hp}(hM:MaxG H):Fn Tryz.prog 13 [.agg #[.slice none 0 0,.slice none 0 0,.slice none 0 0]] H (fun v H2=>v= .agg (SFault.cells ⟨1504, -1, -1⟩).toArray):=by
 have:=jd (Eg H) hM
 rw [BU] at this
 exact this
theorem zy {H:Hp}(hM:MaxG H):
  Fn Tryz.prog 9 [] H (fun v H2=>v= .bool true):=by
 refine Fn.enter Tryz.func9 Tryz.ntmps9 rfl rfl (fun w0=>?_)
 refine xd ?_
 refine TL.call (ab rfl rfl rfl rfl) (pj) rfl (fun v1 H1 hle1 hp1=>?_)
 obtain⟨sp1,qp1,rfl,hP1⟩:=hp1
 replace hM:=hM.le hle1
 refine TL.call (ab rfl rfl rfl rfl) (jd hP1 hM) rfl (fun v2 H2 hle2 hp2=>?_)
 replace hM:=hM.le hle2
 rw [qF] at hp2
 subst hp2
 refine dt ?_;refine TL.run (D3 (r:=true) rfl rfl kr kr kr) rfl (zm0 ?_)
 refine aj (s:=5) rfl ?_ ?_<;>intro g5
 ·
  refine az rfl rfl (mD rfl rfl) rfl (gm rfl rfl (ab rfl rfl rfl rfl) (Cy hM) rfl (fun v7 H7 hle7 hp7=>?_))
  replace hM:=hM.le hle7
  subst hp7
  refine az rfl rfl (mD rfl rfl) rfl (az rfl rfl (D3 (r:=true) rfl rfl kr kr kr) rfl (zm3 ?_))
  refine aj (s:=11) rfl ?_ ?_<;>intro g11
  ·
   refine gm rfl rfl (ab rfl rfl rfl rfl) (pj) rfl (fun v12 H12 hle12 hp12=>?_)
   obtain⟨sp12,qp12,rfl,hP12⟩:=hp12
   replace hM:=hM.le hle12
   refine aM rfl rfl (ab rfl rfl rfl rfl) (iX da hP12) rfl (dg ?_)
   refine aj (s:=16) rfl ?_ ?_<;>intro g16
   ·
    have q16:=of_decide_eq_true g16
    refine gm rfl rfl (ab rfl rfl rfl rfl) (pj) rfl (fun v17 H17 hle17 hp17=>?_)
    obtain⟨sp17,qp17,rfl,hP17⟩:=hp17
    replace hM:=hM.le hle17
    refine aM rfl rfl (ab rfl rfl rfl rfl) (iX [120] hP17) rfl (dg ?_)
    refine aj (s:=21) rfl ?_ ?_<;>intro g21
    ·
     have q21:=of_decide_eq_true g21
     refine gm rfl rfl (ab rfl rfl rfl rfl) (pj) rfl (fun v22 H22 hle22 hp22=>?_)
     obtain⟨sp22,qp22,rfl,hP22⟩:=hp22
     replace hM:=hM.le hle22
     refine gm rfl rfl (ab rfl rfl rfl rfl) (pm hP22 hM) rfl (fun v23 H23 hle23 hp23=>?_)
     obtain⟨pg23,rfl,hP23,hB23⟩:=hp23
     have hN23:=Br hB23
     refine az rfl rfl (nz (off:=2) rfl kr rfl) rfl (az rfl rfl (ai rfl rfl hP23.q) rfl (wV ?_))
     exact aR (.inr rfl) (ad rfl (RVal.tmp rfl)) (congrArg Value.bool (by first | rfl | (rw [hN23];rfl) | exact absurd (iS _ _) q16 | exact absurd (mr _ _) q21 | exact absurd g11 dq | exact absurd g5 dq))
    have q21:=of_decide_eq_false g21
    refine si ?_;refine fQ ?_
    exact aR (.inr rfl) (ad rfl (RVal.tmp rfl)) (congrArg Value.bool (by first | rfl | (rw [hN23];rfl) | exact absurd (iS _ _) q16 | exact absurd (mr _ _) q21 | exact absurd g11 dq | exact absurd g5 dq))
   have q16:=of_decide_eq_false g16
   refine lf ?_;refine cE ?_;refine fQ ?_
   exact aR (.inr rfl) (ad rfl (RVal.tmp rfl)) (congrArg Value.bool (by first | rfl | (rw [hN23];rfl) | exact absurd (iS _ _) q16 | exact absurd (mr _ _) q21 | exact absurd g11 dq | exact absurd g5 dq))
  refine jn ?_;refine lf ?_;refine cE ?_;refine fQ ?_
  exact aR (.inr rfl) (ad rfl (RVal.tmp rfl)) (congrArg Value.bool (by first | rfl | (rw [hN23];rfl) | exact absurd (iS _ _) q16 | exact absurd (mr _ _) q21 | exact absurd g11 dq | exact absurd g5 dq))
 refine eq ?_;refine zm3 ?_;refine jn ?_;refine lf ?_;refine cE ?_;refine fQ ?_
 exact aR (.inr rfl) (ad rfl (RVal.tmp rfl)) (congrArg Value.bool (by first | rfl | (rw [hN23];rfl) | exact absurd (iS _ _) q16 | exact absurd (mr _ _) q21 | exact absurd g11 dq | exact absurd g5 dq))
end Go.Sx
namespace Go.Sx
open Go
theorem yz {u:Nat}(h:10≤u):Lib.decDigits u=Lib.decDigits (u / 10)++[UInt8.ofNat (48+u % 10)]:=by
 rw [Lib.decDigits,dif_neg omq]
theorem dec_len (k : Nat) : ∀ u : Nat, u < 10 ^ k → (Lib.decDigits u).length ≤ max k 1 := by
  induction k with
  | zero => intro u h; have : u = 0 := by simpa using h
            subst this; rw [Lib.decDigits_one dq]; simp
  | succ k ih =>
    intro u h
    by_cases h10 : u < 10
    · rw [Lib.decDigits_one h10]; simp
    · rw [yz omq]
      have := ih (u / 10) (by rw [Nat.pow_succ] at h; omega)
      simp only [List.length_append, List.length_cons, List.length_nil]
      have h2 : 1 ≤ (Lib.decDigits (u / 10)).length := by
        rw [Lib.decDigits]; split <;> simp
      rcases Nat.eq_zero_or_pos k with rfl | hk
      · simp at h; omega
      · omega
def DigI (m u z:Nat)(o:List UInt8):Prop:=m≤9223372036854775808∧((o=[]∧u=m∧z=1)∨(o≠[]∧z=0∧u≤m∧(if u=0 then o else Lib.decDigits u++o)=Lib.decDigits m))
section
variable {m u z:Nat}{o:List UInt8}{n:Int}
theorem DigI.zero (h0: -9223372036854775808≤n)(h1:n≤9223372036854775807):DigI n.natAbs n.natAbs 1 []:=⟨by omega,.inl ⟨rfl,rfl,rfl⟩⟩
theorem DigI.lt (h:DigI m u z o):u<18446744073709551616:=by
 obtain⟨h0,⟨_,h,_⟩ | ⟨_,_,h,_⟩⟩:=h<;>omega
theorem DigI.len (h : DigI m u z o) : o.length ≤ 20 := by
  obtain ⟨h0, ⟨h, _⟩ | ⟨_, _, _, h⟩⟩ := h
  · rw [h]; simp
  · have h2 := dec_len 20 m (by have : (10 : Nat) ^ 20 = 100000000000000000000 := by decide
                                omega)
    have h3 := congrArg List.length h
    split at h3
    · omega
    · simp only [List.length_append] at h3; omega
theorem DigI.next (h:DigI m u z o)(hg:0<u∨o.length=0):DigI m (u / 10) 0 ([UInt8.ofNat (48+u % 10)]++o):=by
 obtain⟨h0,h⟩:=h
 refine⟨h0,.inr ⟨by simp,rfl,?_,?_⟩⟩
 ·rcases h with ⟨_,rfl,_⟩ | ⟨_,_,h,_⟩<;>omega
 ·have key:0<u→(if u / 10=0 then [UInt8.ofNat (48+u % 10)]++o else Lib.decDigits (u / 10)++([UInt8.ofNat (48+u % 10)]++o))=Lib.decDigits u++o:=by
   intro hu
   split
   ·rw [Lib.decDigits_one omq,show u % 10=u by omega]
   ·rw [yz (u:=u) omq];simp
  rcases h with ⟨rfl,rfl,_⟩ | ⟨hne,_,_,h⟩
  ·rcases Nat.eq_zero_or_pos u with rfl | hu
   ·rw [Lib.decDigits_one dq];rfl
   ·rw [key hu];simp
  ·have hu:0<u:=by
    rcases hg with h | h
    ·exact h
    ·exact absurd (List.length_eq_zero_iff.1 h) hne
   rw [key hu,← h,if_neg omq]
theorem DigI.down (h:DigI m u z o)(hg:0<u∨o.length=0):u / 10+0<u+z:=by
 obtain⟨h0,⟨_,_,rfl⟩ | ⟨hne,rfl,_,_⟩⟩:=h
 ·omega
 ·rcases hg with h | h
  ·omega
  ·exact absurd (List.length_eq_zero_iff.1 h) hne
theorem dgo_1 (h:decide ((0:Int)<(u:Int))=true):true=(decide (0<u)||decide (o.length=0)):=by
 have:0<u:=by have:=of_decide_eq_true h;omega
 simp [this]
theorem dgo_2 (h:decide ((0:Int)<(u:Int))=false):decide ((o.length:Int)=0)=(decide (0<u)||decide (o.length=0)):=by
 have:¬0<u:=by have:=of_decide_eq_false h;omega
 have e:((o.length:Int)=0)↔o.length=0:=by omega
 simp only [this,decide_false,Bool.false_or]
 exact decide_eq_decide.2 e
theorem dgo_T (h:(decide (0<u)||decide (o.length=0))=true):0<u∨o.length=0:=by simpa only [Bool.or_eq_true,decide_eq_true_eq] using h
theorem dgo_F (h:(decide (0<u)||decide (o.length=0))=false):¬0<u∧¬o.length=0:=by simpa only [Bool.or_eq_false_iff,decide_eq_false_iff_not] using h
theorem DigI.out (h:DigI m u z o)(hu:¬0<u)(ho:¬o.length=0):o=Lib.decDigits m:=by
 obtain⟨h0,⟨rfl,_⟩ | ⟨_,_,_,h⟩⟩:=h
 ·exact absurd rfl ho
 ·rwa [if_pos omq] at h
theorem yy (hD:DigI n.natAbs u z o)(hend:¬0<u∧¬o.length=0)(h:n<0):[45]++o=Lib.itoa n:=by
 rw [hD.out hend.1 hend.2];unfold Lib.itoa;rw [if_pos h];rfl
theorem yx (hD:DigI n.natAbs u z o)(hend:¬0<u∧¬o.length=0)(h:¬n<0):o=Lib.itoa n:=by
 rw [hD.out hend.1 hend.2];unfold Lib.itoa;rw [if_neg h];congr 1;omega
theorem dig_quo (h:u<18446744073709551616):IntKind.u64.wrap ((u:Int).tdiv 10)=((u / 10:Nat):Int):=by
 rw [Int.tdiv_eq_ediv_of_nonneg omq]
 simp only [IntKind.wrap,IntKind.signed,IntKind.bits]
 simp
 omega
theorem EK (u:Nat):IntKind.u8.wrap (IntKind.u64.wrap (48+(u:Int).tmod 10))=((UInt8.ofNat (48+u % 10)).toNat:Int):=by
 rw [Int.tmod_eq_emod_of_nonneg omq]
 simp only [IntKind.wrap,IntKind.signed,IntKind.bits]
 simp
theorem dig_pos (h0: -9223372036854775808≤n)(h1:n≤9223372036854775807)(h:¬n<0):IntKind.u64.wrap n=(n.natAbs:Int):=by
 simp only [IntKind.wrap,IntKind.signed,IntKind.bits]
 simp
 omega
theorem dig_neg (h0: -9223372036854775808≤n)(h1:n≤9223372036854775807)(h:n<0):IntKind.u64.wrap (0 - IntKind.u64.wrap n)=(n.natAbs:Int):=by
 simp only [IntKind.wrap,IntKind.signed,IntKind.bits]
 simp
 omega
end
end Go.Sx
namespace Go.Sx
open Go Go.Proofs
theorem zD {H:Hp}(n:Int)(h0: -9223372036854775808≤n)(h1:n≤9223372036854775807)(hn:¬n<0):
  FnS Tryz.prog 181 [.int .i64 n] H (gs (Lib.itoa n)):=by
 refine FnS.enter Tryz.func181 Tryz.ntmps181 rfl rfl (fun w0=>?_)
 refine l9 ?_;refine TL.run (PR.to (dC rfl) (congrArg (Value.int .u64) (dig_pos h0 h1 hn))) rfl (oz ?_)
 refine af rfl ?_ ?_<;>intro c8
 · exact absurd c8 hn
 exact TC.skip (zq312)
theorem zC {H:Hp}(n:Int)(h0: -9223372036854775808≤n)(h1:n≤9223372036854775807)(hn:n<0):
  FnS Tryz.prog 181 [.int .i64 n] H (gs (Lib.itoa n)):=by
 refine FnS.enter Tryz.func181 Tryz.ntmps181 rfl rfl (fun w0=>?_)
 refine l9 ?_;refine TL.run (dC rfl) rfl (oz ?_)
 refine af rfl ?_ ?_<;>intro c8
 ·
  refine jk ?_;refine TL.run (PR.to (aF rfl) (congrArg (Value.int .u64) (dig_neg h0 h1 hn))) rfl (dP ?_)
  exact zq312
 exact absurd hn c8
theorem uG {H:Hp}(n:Int)(h0: -9223372036854775808≤n)(h1:n≤9223372036854775807):FnS Tryz.prog 181 [.int .i64 n] H (gs (Lib.itoa n)):=by
 by_cases hn:n<0
 · exact zC n h0 h1 hn
 · exact zD n h0 h1 hn
end Go.Sx
namespace Go.Sx
open Go Go.Proofs
theorem bn {H:Hp}{bd:Nat}{dl:Value}{at_:Int}(n:Int)(hn:n≤1000000000)(hd:DiceOk H dl at_):
  DFn Tryz.prog bd dl at_ 65 [.int .i64 n] H (fun v H1 ob=>ob=[]∧(H1=H∧∃r,v= .int .i64 r∧PickR n r)):=by
 obtain⟨l,hl,ha0,ha1⟩:=hd.l
 have hmax:=hl.max
 refine FnX.enter Tryz.func65 Tryz.ntmps65 rfl rfl (fun w0=>?_)
 refine zm6 ?_;refine n6 ?_;refine lV ?_;refine TQ.run (aF rfl) rfl (eK (s:=7) rfl (fun g7=>?_) (fun g7=>?_))
 ·
  have q7:=of_decide_eq_true g7
  refine Db ?_;refine Db ?_;refine jH rfl rfl rfl rfl (jH rfl rfl rfl rfl (kV ?_));refine cW rfl (lA ?_)
  exact aU (.inr rfl) (ad rfl (RVal.tmp rfl)) (fun w hw=>hw) ⟨_,[],rfl,⟨l,hl,ha0,ha1⟩,rfl,rfl,_,rfl,⟨by omega,fun h=>by omega,fun _=>rfl⟩⟩
 have q7:=of_decide_eq_false g7
 refine bi rfl rfl (aF rfl) rfl (bi rfl rfl (cg rfl) rfl (wE ?_));refine bi rfl rfl (aF rfl) rfl (bi rfl rfl (cg rfl) rfl (wE ?_));refine bi rfl rfl (ai rfl rfl hl) rfl (wD ?_)
 refine af rfl ?_ ?_<;>intro c18
 ·
  refine lA ?_
  exact aU (.inr rfl) (ad rfl (RVal.tmp rfl)) (fun w hw=>hw) ⟨_,[],rfl,⟨l,hl,ha0,ha1⟩,rfl,rfl,_,rfl,⟨by omega,fun h=>by omega,fun _=>rfl⟩⟩
 have hn1:1≤n∧at_<l.length:=by omega
 obtain⟨x,hx⟩:=al (l:=l) (i:=at_+1 - 1) omq omq
 refine oB ?_;refine qd ?_;refine lw ?_;refine eZ ?_;refine Aq ?_;refine n6 ?_;refine tj ?_;refine ov ?_;refine TQ.run (cg rfl) rfl (fP ?_)
 refine TQ.run (aE rfl (.here _) rfl) rfl (TQ.run ((by first | exact gu rfl rfl omq omq | exact aF rfl)) rfl (TQ.run (ae rfl hl rfl omq omq) rfl (TQ.run (aN hl hx rfl rfl) rfl ?_)))
 refine TQ.run (dC rfl) rfl (TQ.run (aF rfl) rfl (TQ.run (dC rfl) rfl (TQ.run (fX rfl rfl (by rw [jU omq omq];omega)) rfl ?_)));refine TQ.run (dC rfl) rfl (kV ?_)
 exact TC.ret (aU (.inr rfl) (ad rfl (RVal.tmp rfl)) (fun w hw=>hw) ⟨_,[],rfl,⟨l,hl,by omega,by omega⟩,rfl,rfl,_,rfl,⟨(kb x (n:=n) omq hn).1,fun _=>(kb x (n:=n) omq hn).2,fun h=>absurd h omq⟩⟩)
theorem cU {H:Hp}(k:Int):
  FnS Tryz.prog 71 [.int .i64 k] H (.agg (TStep.cells ⟨k,[],[],[],[], -1,none,0,0,none,0,0,none,0,0, -1⟩).toArray):=by
 refine FnS.enter Tryz.func71 Tryz.ntmps71 rfl rfl (fun w0=>?_)
 refine zm2 ?_
 refine TL.alloc rfl (fun b2=>?_)
 refine gE ?_;refine dt ?_;refine jm ?_
 exact ar (.inr rfl) (ad rfl (RVal.cellA rfl (.here _) rfl)) rfl
theorem gR {F:Fx}{V:WV}(t:Term)(h1:VarNm t.name)(h2:AnyNm t.text):
  WFn Tryz.prog F V 133 [.agg t.cells.toArray] 1 (fun v V1=>∃i,v= .int .i64 i):=by
 refine WFn.enter Tryz.func133 Tryz.ntmps133 rfl rfl (fun m w0 hW hm=>?_)
 refine zm2 ?_
 refine TL.box rfl rfl (fun b3=>?_)
 refine wC ?_;refine zm343 ?_;refine l8 ?_;refine tG ?_;refine aJ (S1 (S1 (S1 SN))) (Hp.le.refl _) (fun _ _=>a7 rfl (.here _) rfl) rfl (aC rfl rfl rfl rfl (fun b12=>?_))
 refine ao rfl (iM (enc:=Term.cells) (t:=0) rfl rfl rfl hW.bag hW.t (Src.own [t] (.here _) rfl rfl) rfl (by intro y hy;rw [List.mem_singleton.1 hy];exact Dz h1 h2) zt0 (by have:=hW.me;(try dsimp only at this ⊢);simp only [List.length_cons,List.length_nil];omega) rfl (.s3 (.skip _ .all)) rfl (fun S13 a13 c13 B13 hS13 hN13 hT13 hB13=>?_))
 change _=_+1 at hN13
 refine aq (S0 (S1 (S1 (S1 SN)))) (Hp.le.refl _) (aw (cg rfl) rfl (zm4 ?_));refine Ap ?_;refine jS ?_;refine tF ?_;refine se ?_;refine TL.run (dj rfl rfl) rfl (qt ?_);refine eh ?_
 exact bv (V':={V with S:=S13,B:=B13,ta:=a13,tn:=V.tn+1,tc:=c13}) (X:=[(b12,_),(b3,_)]) (.inr rfl) (ad rfl (RVal.tmp rfl)) rfl rfl (⟨hW.fx,hB13,hT13,hW.s.le hS13,hW.n0,hW.r0,hW.r1,hW.d,by have:=hW.me;dsimp only;omega,by have:=hW.nb;dsimp only;omega,by have:=hW.n10;dsimp only;omega⟩) hS13 (by(try dsimp only);omega) (by(try dsimp only);omega) ⟨_,rfl⟩
theorem cF {F:Fx}{V:WV}(s:Str)(hs:VarNm s):
  WFn Tryz.prog F V 72 [gs s] 1 (fun v V1=>∃i,v= .int .i64 i):=by
 refine WFn.enter Tryz.func72 Tryz.ntmps72 rfl rfl (fun m w0 hW hm=>?_)
 refine tB ?_;refine dt ?_
 refine ay (F:=F) (V:=V) (m:=m) [] rfl rfl (ab rfl rfl rfl rfl) (gR ⟨0,s,0,[], -1, -1⟩ hs .nil) hW omq rfl (fun v8 V8 hle8 hW8 hS8 hs8 ht8 hp8=>?_)
 obtain⟨i8,rfl⟩:=hp8
 refine eh ?_
 exact bv (V':=V8) (X:=[]) (.inr rfl) (ad rfl (RVal.tmp rfl)) rfl rfl (hW8.more omq) hS8 (by(try dsimp only);omega) (by(try dsimp only);omega) ⟨_,rfl⟩
theorem eO {F:Fx}{V:WV}(n:Int):
  WFn Tryz.prog F V 73 [.int .i64 n] 1 (fun v V1=>∃i,v= .int .i64 i):=by
 refine WFn.enter Tryz.func73 Tryz.ntmps73 rfl rfl (fun m w0 hW hm=>?_)
 refine tB ?_;refine dt ?_
 refine ay (F:=F) (V:=V) (m:=m) [] rfl rfl (ab rfl rfl rfl rfl) (gR ⟨1,[],n,[], -1, -1⟩ .nil .nil) hW omq rfl (fun v8 V8 hle8 hW8 hS8 hs8 ht8 hp8=>?_)
 obtain⟨i8,rfl⟩:=hp8
 refine eh ?_
 exact bv (V':=V8) (X:=[]) (.inr rfl) (ad rfl (RVal.tmp rfl)) rfl rfl (hW8.more omq) hS8 (by(try dsimp only);omega) (by(try dsimp only);omega) ⟨_,rfl⟩
theorem fb {F:Fx}{V:WV}(k l r:Int):
  WFn Tryz.prog F V 130 [.int .i64 k,.int .i64 l,.int .i64 r] 1 (fun v V1=>∃i,v= .int .i64 i):=by
 refine WFn.enter Tryz.func130 Tryz.ntmps130 rfl rfl (fun m w0 hW hm=>?_)
 refine tB ?_;refine zm3 ?_;refine dt ?_
 refine ay (F:=F) (V:=V) (m:=m) [] rfl rfl (ab rfl rfl rfl rfl) (gR ⟨k,[],0,[],l,r⟩ .nil .nil) hW omq rfl (fun v14 V14 hle14 hW14 hS14 hs14 ht14 hp14=>?_)
 obtain⟨i14,rfl⟩:=hp14
 refine eh ?_
 exact bv (V':=V14) (X:=[]) (.inr rfl) (ad rfl (RVal.tmp rfl)) rfl rfl (hW14.more omq) hS14 (by(try dsimp only);omega) (by(try dsimp only);omega) ⟨_,rfl⟩
theorem Dm {F:Fx}{V:WV}:
  WFn Tryz.prog F V 177 [] 3 (fun v V1=>∃i,v= .int .i64 i):=by
 refine WFn.enter Tryz.func177 Tryz.ntmps177 rfl rfl (fun m w0 hW hm=>?_)
 refine tB ?_
 refine ay (F:=F) (V:=V) (m:=m) [] rfl rfl (ab rfl rfl rfl rfl) (cF [110] (.inr (.inr (.inl rfl)))) hW omq rfl (fun v5 V5 hle5 hW5 hS5 hs5 ht5 hp5=>?_)
 obtain⟨i5,rfl⟩:=hp5
 refine zm0 ?_
 refine ay (F:=F) (V:=V5) (m:=m+1) [] rfl rfl (ab rfl rfl rfl rfl) (eO 1) hW5 omq rfl (fun v7 V7 hle7 hW7 hS7 hs7 ht7 hp7=>?_)
 obtain⟨i7,rfl⟩:=hp7
 refine ay (F:=F) (V:=V7) (m:=m+1+1) [] rfl rfl (ab rfl rfl rfl rfl) (fb 7 i5 i7) hW7 omq rfl (fun v8 V8 hle8 hW8 hS8 hs8 ht8 hp8=>?_)
 obtain⟨i8,rfl⟩:=hp8
 refine eh ?_
 exact bv (V':=V8) (X:=[]) (.inr rfl) (ad rfl (RVal.tmp rfl)) rfl rfl (hW8.more omq) (hS5.trans (hS7.trans (hS8))) (by(try dsimp only);omega) (by(try dsimp only);omega) ⟨_,rfl⟩
theorem tL {F:Fx}{V:WV}:
  WFn Tryz.prog F V 132 [] 1 (fun v V1=>∃s,v=gs s∧VarNm s):=by
 refine WFn.enter Tryz.func132 Tryz.ntmps132 rfl rfl (fun m w0 hW hm=>?_)
 have hn0:=hW.n0
 have hme:=hW.me
 refine l9 ?_;refine qd ?_;refine lw ?_;refine eZ ?_;refine aX rfl rfl rfl (.here _) rfl rfl (gE ?_);refine qd ?_
 refine au (ab rfl rfl rfl rfl) (uG (V.names+1) omq omq) rfl (TL.run (eo rfl rfl (by have:=(mQ (n:=V.names+1) omq omq).1;simp only [List.length_cons,List.length_nil];omega)) rfl (eh ?_))
 exact bv (V':={V with names:=V.names+1}) (X:=[]) (.inr rfl) (ad rfl (RVal.tmp rfl)) rfl rfl (⟨hW.fx,hW.bag,hW.t,hW.s,by dsimp only;omega,hW.r0,hW.r1,hW.d,by dsimp only;omega,by have:=hW.nb;dsimp only;omega,hW.n10⟩) (.refl _) (by(try dsimp only);omega) (by(try dsimp only);omega) ⟨_,rfl,vname omq omq⟩
theorem Dn {F:Fx}{V:WV}(k:Int):
  WFn Tryz.prog F V 180 [.int .i64 k] 3 (fun v V1=>∃i,v= .int .i64 i):=by
 refine WFn.enter Tryz.func180 Tryz.ntmps180 rfl rfl (fun m w0 hW hm=>?_)
 refine jR ?_;refine dN ?_
 refine af rfl ?_ ?_<;>intro c7
 ·
  refine k4 ?_;refine qd ?_
  refine aA (X:=[(F.bw,_)]) (bd:=F.bd) rfl (ab rfl rfl rfl rfl) (bn 5 omq hW.d) rfl (fun v13 H13 at13 hle13 hd13 hp13=>?_)
  obtain⟨rfl,r13,rfl,hr13⟩:=hp13
  refine tD ?_
  refine af rfl ?_ ?_<;>intro c14
  ·
   refine eN ?_
   refine ay (F:=F) (V:={V with at_:=at13}) (m:=m) [] rfl rfl (ab rfl rfl rfl rfl) (eO 12) (hW.dice (.refl _) hd13) omq rfl (fun v18 V18 hle18 hW18 hS18 hs18 ht18 hp18=>?_)
   dsimp only at hle18 hS18 hs18 ht18 hp18
   obtain⟨i18,rfl⟩:=hp18
   refine zm0 ?_
   refine ay (F:=F) (V:=V18) (m:=m+1) [] rfl rfl (ab rfl rfl rfl rfl) (cF [110] (.inr (.inr (.inl rfl)))) hW18 omq rfl (fun v20 V20 hle20 hW20 hS20 hs20 ht20 hp20=>?_)
   obtain⟨i20,rfl⟩:=hp20
   refine ay (F:=F) (V:=V20) (m:=m+1+1) [] rfl rfl (ab rfl rfl rfl rfl) (fb 9 i18 i20) hW20 omq rfl (fun v21 V21 hle21 hW21 hS21 hs21 ht21 hp21=>?_)
   obtain⟨i21,rfl⟩:=hp21
   refine eh ?_;refine bp (aD (bp (aD ?_)))
   exact bv (V':=V21) (X:=[]) (.inr rfl) (ad rfl (RVal.tmp rfl)) rfl rfl (hW21.more omq) (hS18.trans (hS20.trans (hS21))) (by(try dsimp only);omega) (by(try dsimp only);omega) ⟨_,rfl⟩
  refine dN ?_
  refine af rfl ?_ ?_<;>intro c22
  ·
   refine eN ?_;refine qd ?_
   refine aA (X:=[(F.bw,_)]) (bd:=F.bd) rfl (ab rfl rfl rfl rfl) (bn 9 omq (hW.dice (.refl _) hd13).d) rfl (fun v29 H29 at29 hle29 hd29 hp29=>?_)
   obtain⟨rfl,r29,rfl,hr29⟩:=hp29
   refine qt ?_
   refine ay (F:=F) (V:={{V with at_:=at13} with at_:=at29}) (m:=m) [] rfl rfl (ab rfl rfl rfl rfl) (eO _) ((hW.dice (.refl _) hd13).dice (.refl _) hd29) omq rfl (fun v31 V31 hle31 hW31 hS31 hs31 ht31 hp31=>?_)
   dsimp only at hle31 hS31 hs31 ht31 hp31
   obtain⟨i31,rfl⟩:=hp31
   refine eh ?_;refine bp (aD (bp (aD ?_)))
   exact bv (V':=V31) (X:=[]) (.inr rfl) (ad rfl (RVal.tmp rfl)) rfl rfl (hW31.more omq) hS31 (by(try dsimp only);omega) (by(try dsimp only);omega) ⟨_,rfl⟩
  refine TC.skip (bq (ag (lz ?_)))
  refine TD.part 7 2 rfl rfl rfl ?_ ?_
  ·
   refine zm344 ?_;refine sK ?_;refine n8 ?_
   refine ao rfl (ay (F:=F) (V:={V with at_:=at13}) (m:=m) [] rfl rfl (ab rfl rfl rfl rfl) (cF [110] (.inr (.inr (.inl rfl)))) (hW.dice (.refl _) hd13) omq rfl (fun v34 V34 hle34 hW34 hS34 hs34 ht34 hp34=>?_))
   dsimp only at hle34 hS34 hs34 ht34 hp34
   obtain⟨i34,rfl⟩:=hp34
   refine aq SN hle34 (ao rfl (aA (X:=[(F.bw,_)]) (bd:=F.bd) rfl (ab rfl rfl rfl rfl) (bn 5 omq hW34.d) rfl (fun v40 H40 at40 hle40 hd40 hp40=>?_)))
   obtain⟨rfl,r40,rfl,hr40⟩:=hp40
   refine aq SN hle34 (ao rfl (ay (F:=F) (V:={V34 with at_:=at40}) (m:=m+1) [] rfl rfl (ab rfl rfl rfl rfl) (eO _) (hW34.dice (.refl _) hd40) omq rfl (fun v41 V41 hle41 hW41 hS41 hs41 ht41 hp41=>?_)))
   dsimp only at hle41 hS41 hs41 ht41 hp41
   obtain⟨i41,rfl⟩:=hp41
   refine aq SN (hle34.trans (hle41)) (ao rfl (ay (F:=F) (V:=V41) (m:=m+1+1) [] rfl rfl (ab rfl rfl rfl rfl) (fb 6 i34 i41) hW41 omq rfl (fun v42 V42 hle42 hW42 hS42 hs42 ht42 hp42=>?_)))
   obtain⟨i42,rfl⟩:=hp42
   refine aq SN (hle34.trans (hle41.trans (hle42))) (ti ?_)
   exact bp (aD (bv (V':=V42) (X:=[]) (.inr rfl) (ad rfl (RVal.tmp rfl)) rfl rfl (hW42.more omq) (hS34.trans (hS41.trans (hS42))) (by(try dsimp only);omega) (by(try dsimp only);omega) ⟨_,rfl⟩))
  refine zm345 ?_;refine wB ?_
  refine ay (F:=F) (V:={V with at_:=at13}) (m:=m) [] rfl rfl (ab rfl rfl rfl rfl) (cF [110] (.inr (.inr (.inl rfl)))) (hW.dice (.refl _) hd13) omq rfl (fun v34 V34 hle34 hW34 hS34 hs34 ht34 hp34=>?_)
  dsimp only at hle34 hS34 hs34 ht34 hp34
  obtain⟨i34,rfl⟩:=hp34
  refine aq SN hle34 (n8 ?_);refine ao rfl (aA (X:=[(F.bw,_)]) (bd:=F.bd) rfl (ab rfl rfl rfl rfl) (bn 5 omq hW34.d) rfl (fun v40 H40 at40 hle40 hd40 hp40=>?_))
  obtain⟨rfl,r40,rfl,hr40⟩:=hp40
  refine aq SN hle34 (ao rfl (ay (F:=F) (V:={V34 with at_:=at40}) (m:=m+1) [] rfl rfl (ab rfl rfl rfl rfl) (eO _) (hW34.dice (.refl _) hd40) omq rfl (fun v41 V41 hle41 hW41 hS41 hs41 ht41 hp41=>?_)))
  dsimp only at hle41 hS41 hs41 ht41 hp41
  obtain⟨i41,rfl⟩:=hp41
  refine aq SN (hle34.trans (hle41)) (ao rfl (ay (F:=F) (V:=V41) (m:=m+1+1) [] rfl rfl (ab rfl rfl rfl rfl) (fb 6 i34 i41) hW41 omq rfl (fun v42 V42 hle42 hW42 hS42 hs42 ht42 hp42=>?_)))
  obtain⟨i42,rfl⟩:=hp42
  refine aq SN (hle34.trans (hle41.trans (hle42))) (ti ?_)
  exact bp (aD (bv (V':=V42) (X:=[]) (.inr rfl) (ad rfl (RVal.tmp rfl)) rfl rfl (hW42.more omq) (hS34.trans (hS41.trans (hS42))) (by(try dsimp only);omega) (by(try dsimp only);omega) ⟨_,rfl⟩))
 refine dN ?_
 refine af rfl ?_ ?_<;>intro c43
 ·
  refine lz ?_
  refine TD.part 7 2 rfl rfl rfl ?_ ?_
  ·
   refine zm344 ?_;refine sK ?_;refine n8 ?_
   refine ao rfl (ay (F:=F) (V:=V) (m:=m) [] rfl rfl (ab rfl rfl rfl rfl) (cF [110] (.inr (.inr (.inl rfl)))) hW omq rfl (fun v47 V47 hle47 hW47 hS47 hs47 ht47 hp47=>?_))
   obtain⟨i47,rfl⟩:=hp47
   refine aq SN hle47 (ao rfl (aA (X:=[(F.bw,_)]) (bd:=F.bd) rfl (ab rfl rfl rfl rfl) (bn 4 omq hW47.d) rfl (fun v53 H53 at53 hle53 hd53 hp53=>?_)))
   obtain⟨rfl,r53,rfl,hr53⟩:=hp53
   refine aq SN hle47 (ao rfl (ay (F:=F) (V:={V47 with at_:=at53}) (m:=m+1) [] rfl rfl (ab rfl rfl rfl rfl) (eO _) (hW47.dice (.refl _) hd53) omq rfl (fun v54 V54 hle54 hW54 hS54 hs54 ht54 hp54=>?_)))
   dsimp only at hle54 hS54 hs54 ht54 hp54
   obtain⟨i54,rfl⟩:=hp54
   refine aq SN (hle47.trans (hle54)) (ao rfl (ay (F:=F) (V:=V54) (m:=m+1+1) [] rfl rfl (ab rfl rfl rfl rfl) (fb 12 i47 i54) hW54 omq rfl (fun v55 V55 hle55 hW55 hS55 hs55 ht55 hp55=>?_)))
   obtain⟨i55,rfl⟩:=hp55
   refine aq SN (hle47.trans (hle54.trans (hle55))) (ti ?_)
   exact bp (aD (bv (V':=V55) (X:=[]) (.inr rfl) (ad rfl (RVal.tmp rfl)) rfl rfl (hW55.more omq) (hS47.trans (hS54.trans (hS55))) (by(try dsimp only);omega) (by(try dsimp only);omega) ⟨_,rfl⟩))
  refine zm345 ?_;refine wB ?_
  refine ay (F:=F) (V:=V) (m:=m) [] rfl rfl (ab rfl rfl rfl rfl) (cF [110] (.inr (.inr (.inl rfl)))) hW omq rfl (fun v47 V47 hle47 hW47 hS47 hs47 ht47 hp47=>?_)
  obtain⟨i47,rfl⟩:=hp47
  refine aq SN hle47 (n8 ?_);refine ao rfl (aA (X:=[(F.bw,_)]) (bd:=F.bd) rfl (ab rfl rfl rfl rfl) (bn 4 omq hW47.d) rfl (fun v53 H53 at53 hle53 hd53 hp53=>?_))
  obtain⟨rfl,r53,rfl,hr53⟩:=hp53
  refine aq SN hle47 (ao rfl (ay (F:=F) (V:={V47 with at_:=at53}) (m:=m+1) [] rfl rfl (ab rfl rfl rfl rfl) (eO _) (hW47.dice (.refl _) hd53) omq rfl (fun v54 V54 hle54 hW54 hS54 hs54 ht54 hp54=>?_)))
  dsimp only at hle54 hS54 hs54 ht54 hp54
  obtain⟨i54,rfl⟩:=hp54
  refine aq SN (hle47.trans (hle54)) (ao rfl (ay (F:=F) (V:=V54) (m:=m+1+1) [] rfl rfl (ab rfl rfl rfl rfl) (fb 12 i47 i54) hW54 omq rfl (fun v55 V55 hle55 hW55 hS55 hs55 ht55 hp55=>?_)))
  obtain⟨i55,rfl⟩:=hp55
  refine aq SN (hle47.trans (hle54.trans (hle55))) (ti ?_)
  exact bp (aD (bv (V':=V55) (X:=[]) (.inr rfl) (ad rfl (RVal.tmp rfl)) rfl rfl (hW55.more omq) (hS47.trans (hS54.trans (hS55))) (by(try dsimp only);omega) (by(try dsimp only);omega) ⟨_,rfl⟩))
 refine dN ?_
 refine af rfl ?_ ?_<;>intro c56
 ·
  refine eN ?_;refine qd ?_
  refine aA (X:=[(F.bw,_)]) (bd:=F.bd) rfl (ab rfl rfl rfl rfl) (bn 9 omq hW.d) rfl (fun v63 H63 at63 hle63 hd63 hp63=>?_)
  obtain⟨rfl,r63,rfl,hr63⟩:=hp63
  refine au (ab rfl rfl rfl rfl) (uG r63 (by have:=hr63.1;omega) (by have:=hr63.2.1 omq;omega)) rfl (TL.run (eo rfl rfl (by have:=(mQ (n:=r63) (by have:=hr63.1;omega) (by have:=hr63.2.1 omq;omega)).1;simp only [List.length_cons,List.length_nil];omega)) rfl (dt ?_))
  refine ay (F:=F) (V:={V with at_:=at63}) (m:=m) [] rfl rfl (ab rfl rfl rfl rfl) (gR ⟨3,[],0,[116]++Lib.itoa r63, -1, -1⟩ .nil (tname (by have:=hr63.1;omega) (by have:=hr63.2.1 omq;omega))) (hW.dice (.refl _) hd63) omq rfl (fun v67 V67 hle67 hW67 hS67 hs67 ht67 hp67=>?_)
  dsimp only at hle67 hS67 hs67 ht67 hp67
  obtain⟨i67,rfl⟩:=hp67
  refine zm1 ?_;refine im ?_;refine dt ?_
  refine ay (F:=F) (V:=V67) (m:=m+1) [] rfl rfl (ab rfl rfl rfl rfl) (gR ⟨3,[],0,[117], -1, -1⟩ .nil (by simp [AnyNm])) hW67 omq rfl (fun v72 V72 hle72 hW72 hS72 hs72 ht72 hp72=>?_)
  obtain⟨i72,rfl⟩:=hp72
  refine ay (F:=F) (V:=V72) (m:=m+1+1) [] rfl rfl (ab rfl rfl rfl rfl) (fb 19 i67 i72) hW72 omq rfl (fun v73 V73 hle73 hW73 hS73 hs73 ht73 hp73=>?_)
  obtain⟨i73,rfl⟩:=hp73
  refine eh ?_
  exact bp (aD (bv (V':=V73) (X:=[]) (.inr rfl) (ad rfl (RVal.tmp rfl)) rfl rfl (hW73.more omq) (hS67.trans (hS72.trans (hS73))) (by(try dsimp only);omega) (by(try dsimp only);omega) ⟨_,rfl⟩))
 refine TC.skip (bq (ag (eN ?_)));refine dt ?_
 refine ay (F:=F) (V:=V) (m:=m) [] rfl rfl (ab rfl rfl rfl rfl) (gR ⟨4,[],0,[], -1, -1⟩ .nil .nil) hW omq rfl (fun v77 V77 hle77 hW77 hS77 hs77 ht77 hp77=>?_)
 obtain⟨i77,rfl⟩:=hp77
 refine zm0 ?_
 refine ay (F:=F) (V:=V77) (m:=m+1) [] rfl rfl (ab rfl rfl rfl rfl) (cF [110] (.inr (.inr (.inl rfl)))) hW77 omq rfl (fun v79 V79 hle79 hW79 hS79 hs79 ht79 hp79=>?_)
 obtain⟨i79,rfl⟩:=hp79
 refine ay (F:=F) (V:=V79) (m:=m+1+1) [] rfl rfl (ab rfl rfl rfl rfl) (fb 18 i77 i79) hW79 omq rfl (fun v80 V80 hle80 hW80 hS80 hs80 ht80 hp80=>?_)
 obtain⟨i80,rfl⟩:=hp80
 refine eh ?_
 exact bv (V':=V80) (X:=[]) (.inr rfl) (ad rfl (RVal.tmp rfl)) rfl rfl (hW80.more omq) (hS77.trans (hS79.trans (hS80))) (by(try dsimp only);omega) (by(try dsimp only);omega) ⟨_,rfl⟩
theorem fF {F:Fx}{V:WV}(s:TStep)(hs:s.Ok V.S):
  WFn Tryz.prog F V 74 [.agg s.cells.toArray] 1 (fun v V1=>v= .int .i64 (V.sn:Int)∧V1.sn=V.sn+1):=by
 refine WFn.enter Tryz.func74 Tryz.ntmps74 rfl rfl (fun m w0 hW hm=>?_)
 have hr0:=hW.r0
 have hr1:=hW.r1
 have hme:=hW.me
 refine TC.seq (TC.region ?_)
 refine TL.box rfl rfl (fun b3=>?_)
 refine TL.run (aF rfl) rfl (TL.nil (ag (TC.seq (TC.region (TL.run (cT rfl) rfl ?_)))))
 refine aX rfl rfl rfl (.here _) rfl rfl ?_
 refine TL.nil (ag (TC.seq ?_))
 refine TC.drawn kr kr ?_
 refine aT [true,true,true] [(0,1),(1,1),(2,1),(3,1),(4,1),(5,4),(6,4),(7,3),(8,5),(9,1),(10,1),(11,1),(12,0)] kr kr ?_
 refine aw (aF rfl) rfl (aw (aF rfl) rfl (aw (cg rfl) rfl (aw (cT rfl) rfl (aw (cT rfl) rfl ?_))))
 refine aJ (S1 (S1 (S1 SN))) (Hp.le.refl _) (fun _ _=>aE rfl (.h1) rfl) rfl ?_
 refine aJ (S1 (S1 (S1 SN))) (Hp.le.refl _) (fun _ _=>a7 rfl (.here _) rfl) rfl ?_
 refine aC rfl rfl rfl rfl (fun b13=>?_)
 refine ao rfl ?_
 refine iM (enc:=TStep.cells) (t:=3) rfl rfl rfl hW.bag hW.s (Src.own [{s with next:= -1}] (.here _) rfl rfl) rfl (by intro y hy;rw [List.mem_singleton.1 hy];exact TStep.Ok.all (s:={s with next:= -1}) ⟨hs.name,hs.peer,hs.label,hs.proc,hs.a,hs.c,hs.w,hs.an,hs.cn,hs.wn⟩) zt3 (by have:=hW.me;(try dsimp only at this ⊢);simp only [List.length_cons,List.length_nil];omega) rfl (.s3 (.skip _ .all)) rfl (fun S14 a14 c14 B14 hS14 hN14 hT14 hB14=>?_)
 change _=_+1 at hN14
 refine aq (S0 (S1 (S1 (S1 SN)))) (Hp.le.refl _) ?_
 refine aw (cg rfl) rfl (aw (cT rfl) rfl (aw (cT rfl) rfl (bz ?_)))
 refine aX rfl rfl rfl (.h2) rfl rfl ?_
 refine TF.back (TF.nil (ag (TC.seq (TC.region (TL.run (aF rfl) rfl (TL.run (cg rfl) rfl (TL.run (cT rfl) rfl ?_)))))))
 refine TL.run (aE rfl (.h2) rfl) rfl (TL.run ((by first | exact gu rfl rfl omq omq | exact aF rfl)) rfl (TL.run (cg rfl) rfl (TL.run (cT rfl) rfl ?_)))
 refine aX rfl rfl rfl (.h2) rfl rfl ?_
 refine TL.nil (ag (TC.seq (TC.region (TL.run (aF rfl) rfl (TL.run (cg rfl) rfl (TL.run (cT rfl) rfl (TL.run (cT rfl) rfl ?_)))))))
 refine TL.run (aE rfl (.h2) rfl) rfl (TL.run (dj rfl rfl) rfl (TL.run (PR.to (gu rfl rfl (by simp only [List.length_cons,List.length_nil];omega) (by simp only [List.length_cons,List.length_nil];omega)) (congrArg (Value.int .i64) (by simp only [List.length_cons,List.length_nil];omega))) rfl (TL.run (aF rfl) rfl (TL.nil (ag (TC.ret (bv (V':={V with S:=S14,B:=B14,sa:=a14,sn:=V.sn+1,sc:=c14,room:=V.room - 1}) (X:=[(b13,_),(b3,_)]) (.inr rfl) (ad rfl (RVal.tmp rfl)) rfl rfl (⟨hW.fx,hB14,hW.t.le hS14,hT14,hW.n0,by dsimp only;omega,by dsimp only;omega,hW.d,by dsimp only;omega,by have:=hW.nb;dsimp only;omega,by have:=hW.n10;dsimp only;omega⟩) hS14 (by(try dsimp only);omega) (by(try dsimp only);omega) ⟨rfl,rfl⟩)))))))
end Go.Sx
namespace Go.Sx
open Go Go.Proofs
theorem New_ok {H:Hp}{v:Value}{l:List Int}(hl:RdSl H 1 I64.cells v l)(hm:l.length≤1000000000000):
  FnO Tryz.prog 28 [v] H (fun v H1 ob=>∃bd dl,v= .pointer (some ⟨bd,0,none⟩)∧ob=[(bd,[dl,.int .i64 0])]∧DiceOk H1 dl 0):=by
 refine FnO.enter Tryz.func28 Tryz.ntmps28 rfl rfl (fun w0=>?_)
 refine l9 ?_
 refine TL.append (enc:=I64.cells) rfl rfl rfl (OwnSl.nil (enc:=I64.cells)) (Src.sl hl) (by simp;omega) rfl (.new _ rfl) rfl (fun a4 c4 ob4 hO4=>?_)
 refine dt ?_
 refine TL.box rfl rfl (fun b6=>?_)
 refine dP ?_
 refine TX.pubO hO4 (.skip _ .all) sq (fun H1 hle1 hR=>?_)
 exact ag (TC.ret (ez (.inr rfl) (ad rfl (RVal.tmp rfl)) .all ⟨_,_,rfl,rfl,⟨_,hR,by omega,by simp⟩⟩))
theorem ia {H:Hp}:
  Fn Tryz.prog 26 [] H (fun v H1=>RdSl H1 1 Str.cells v rolesL):=by
 refine Fn.enter Tryz.func26 Tryz.ntmps26 rfl rfl (fun w0=>?_)
 refine xd ?_
 refine aB rfl rfl rfl rfl (fun b1=>?_)
 refine dP ?_
 refine vJ sq (fun H_b1 le_b1 rd_b1=>?_)
 have hR:RdSl H_b1 1 Str.cells _ (rolesL):=RdSl.blk (cap:=5) rd_b1 (by intro x hx;rfl) kr (by show 5≤9223372036854775807;decide)
 exact ag (TC.ret (aR (.inr rfl) (ad rfl (RVal.tmp rfl)) hR))
theorem dY {H:Hp}:
  Fn Tryz.prog 27 [] H (fun v H1=>RdSl H1 1 Str.cells v labelsL):=by
 refine Fn.enter Tryz.func27 Tryz.ntmps27 rfl rfl (fun w0=>?_)
 refine xd ?_
 refine aB rfl rfl rfl rfl (fun b1=>?_)
 refine dP ?_
 refine vJ sq (fun H_b1 le_b1 rd_b1=>?_)
 have hR:RdSl H_b1 1 Str.cells _ (labelsL):=RdSl.blk (cap:=4) rd_b1 (by intro x hx;rfl) kr (by show 4≤9223372036854775807;decide)
 exact ag (TC.ret (aR (.inr rfl) (ad rfl (RVal.tmp rfl)) hR))
theorem gi {H:Hp}{bd:Nat}{dl:Value}{at_:Int}(hd:DiceOk H dl at_):
  DFn Tryz.prog bd dl at_ 192 [] H (fun v H1 ob=>ob=[]∧(H1=H∧∃k,v= .agg #[.int .i64 k,gs []]∧0≤k∧k≤4)):=by
 refine FnX.enter Tryz.func192 Tryz.ntmps192 rfl rfl (fun w0=>?_)
 refine zm2 ?_
 refine TL.alloc rfl (fun b2=>?_)
 refine gD ?_
 refine aB rfl rfl rfl rfl (fun b3=>?_)
 refine zm0 ?_
 refine aA (X:=[(b3,_),(b2,_)]) (bd:=bd) rfl (ab rfl rfl rfl rfl) (bn 6 omq hd) rfl (fun v5 H5 at5 hle5 hd5 hp5=>?_)
 obtain⟨eH5,r5,rfl,hr5⟩:=hp5
 replace eH5:=eH5.symm;subst eH5
 have hra5:=hr5.1
 have hrb5:=hr5.2.1 omq
 obtain⟨k,hk,hxk⟩:=data_at hra5 hrb5
 refine fi ?_;refine TL.run (aE rfl (.here _) hxk) rfl (dt ?_);refine l4 ?_
 exact aU (.inr rfl) (ad rfl (RVal.cellA rfl (.h1) rfl)) (fun w hw=>hw.drop.drop) ⟨_,[],rfl,hd5,rfl,rfl,_,rfl,hk⟩
theorem fz {H:Hp}{bd:Nat}{dl:Value}{at_:Int}(hd:DiceOk H dl at_){tv:Value}{types:List Str}(hty:RdSl H 1 Str.cells tv types)(htn:∀s∈types,TyNm s)(htl:types.length≤100):
  DFn Tryz.prog bd dl at_ 193 [tv] H (fun v H1 ob=>ob=[]∧(H1=H∧∃k nm,v= .agg #[.int .i64 k,gs nm]∧CarOk types k nm)):=by
 refine FnX.enter Tryz.func193 Tryz.ntmps193 rfl rfl (fun w0=>?_)
 refine zm2 ?_
 refine TL.alloc rfl (fun b4=>?_)
 refine TL.nil (ag (k4 ?_));refine TL.run (ai rfl rfl hty) rfl (zm3 ?_)
 refine aj (s:=8) rfl ?_ ?_<;>intro g8
 ·
  have q8:=of_decide_eq_true g8
  refine cQ ?_;refine TL.gd rfl rfl (aA (X:=[(b4,_)]) (bd:=bd) rfl (ab rfl rfl rfl rfl) (bn 4 omq hd) rfl (fun v10 H10 at10 hle10 hd10 hp10=>?_))
  obtain⟨eH10,r10,rfl,hr10⟩:=hp10
  replace eH10:=eH10.symm;subst eH10
  have hra10:=hr10.1
  have hrb10:=hr10.2.1 omq
  refine gb ?_
  refine af rfl ?_ ?_<;>intro c12
  ·
   refine im ?_;refine TL.run (ai rfl rfl hty) rfl (aA (X:=[(b4,_)]) (bd:=bd) rfl (ab rfl rfl rfl rfl) (bn (types.length:Int) omq hd10) rfl (fun v17 H17 at17 hle17 hd17 hp17=>?_))
   obtain⟨eH17,r17,rfl,hr17⟩:=hp17
   replace eH17:=eH17.symm;subst eH17
   have hra17:=hr17.1
   have hrb17:=hr17.2.1 omq
   obtain⟨s,hx⟩:=al (l:=types) hra17 hrb17
   refine TL.run (ae rfl hty rfl omq omq) rfl (TL.run (aN hty hx rfl rfl) rfl (dt ?_));refine jm ?_
   exact aD (aU (.inr rfl) (ad rfl (RVal.cellA rfl (.here _) rfl)) (fun w hw=>hw.drop) ⟨_,[],rfl,hd17,rfl,rfl,_,_,rfl,.inr ⟨rfl,List.mem_of_getElem? hx⟩⟩)
  refine oB ?_
  refine aA (X:=[(b4,_)]) (bd:=bd) rfl (ab rfl rfl rfl rfl) (gi hd10) rfl (fun v22 H22 at22 hle22 hd22 hp22=>?_)
  obtain⟨eH22,k22,rfl,hk22⟩:=hp22
  replace eH22:=eH22.symm;subst eH22
  refine jm ?_
  exact aU (.inr rfl) (ad rfl (RVal.cellA rfl (.here _) rfl)) (fun w hw=>hw.drop) ⟨_,[],rfl,hd22,rfl,rfl,_,_,rfl,.inl ⟨hk22.1,hk22.2,rfl⟩⟩
 have q8:=of_decide_eq_false g8
 refine jj ?_;refine o9 ?_;refine oB ?_
 refine aA (X:=[(b4,_)]) (bd:=bd) rfl (ab rfl rfl rfl rfl) (gi hd) rfl (fun v22 H22 at22 hle22 hd22 hp22=>?_)
 obtain⟨eH22,k22,rfl,hk22⟩:=hp22
 replace eH22:=eH22.symm;subst eH22
 refine jm ?_
 exact aU (.inr rfl) (ad rfl (RVal.cellA rfl (.here _) rfl)) (fun w hw=>hw.drop) ⟨_,[],rfl,hd22,rfl,rfl,_,_,rfl,.inl ⟨hk22.1,hk22.2,rfl⟩⟩
theorem Et {H:Hp}{bd:Nat}{dl:Value}{at_:Int}(hd:DiceOk H dl at_){tv:Value}{types:List Str}(hty:RdSl H 1 Str.cells tv types)(htn:∀s∈types,TyNm s)(htl:types.length≤100)(places:Int)(h1:1≤places)(h2:places≤1000):
  DFn Tryz.prog bd dl at_ 169 [tv,.int .i64 places] H (fun v H1 ob=>ob=[]∧(H.le H1∧∃l:List SArm,RdSl H1 4 SArm.cells v l∧ArmsG types places l)):=by
 have hty0:=hty
 refine FnX.enter Tryz.func169 Tryz.ntmps169 rfl rfl (fun w0=>?_)
 refine kS ?_;refine l9 ?_
 refine aA (X:=[]) (bd:=bd) rfl (ab rfl rfl rfl rfl) (bn 3 omq hd) rfl (fun v12 H12 at12 hle12 hd12 hp12=>?_)
 obtain⟨eH12,r12,rfl,hr12⟩:=hp12
 replace eH12:=eH12.symm;subst eH12
 have hra12:=hr12.1
 have hrb12:=hr12.2.1 omq
 refine lw ?_;refine lB ?_
 refine aA (X:=[]) (bd:=bd) rfl (ab rfl rfl rfl rfl) (bn 4 omq hd12) rfl (fun v15 H15 at15 hle15 hd15 hp15=>?_)
 obtain⟨eH15,r15,rfl,hr15⟩:=hp15
 replace eH15:=eH15.symm;subst eH15
 have hra15:=hr15.1
 have hrb15:=hr15.2.1 omq
 refine gB ?_;refine jI ?_
 refine aY (V:=fun(p:Int×Int) v ob H1=>[(7,v),(10,.int .i64 p.1)]) (K:=[(0,_),(1,_),(2,_),(6,_),(8,_),(9,_)]) (L:=fun(p:Int×Int) v ob H1=>St (keys [(bd,[dl,.int .i64 at_])]) w0 H H1 ((bd,[dl,.int .i64 p.2])::ob)) (I:=fun(p:Int×Int) v ob H1=>(0≤p.1∧p.1≤1+r12)∧DiceOk H1 dl p.2∧H.le H1∧∃l:List SArm,OwnSl 4 SArm.cells v l ob∧(l.length:Int)=p.1∧ArmsI types places r15.toNat l) (μ:=fun(p:Int×Int)=>(1+r12 - p.1).toNat) (0,at15) (.slice none 0 0) [] H ky ⟨o2q,hd15,.refl _,[],OwnSl.nil,rfl,.nil⟩ (fun w hw=>hw) (fun p v ob H1 hI=>?_)
 obtain⟨⟨k0,k1⟩,hI2,hI3,l,hO,hI5,hI6⟩:=hI
 replace hty:=hty0.le hI3
 refine f8 ?_;refine zm1 ?_
 refine af rfl ?_ ?_<;>intro c18
 ·
  obtain⟨lb,hlx,hlb⟩:=Ew (f:=r15) (k:=p.1) hra15 k0
  have hm4:=tmod4 (x:=r15+p.1) omq
  have hl4:labelsL.length=4:=rfl
  refine zU ?_
  refine TD.part 7 10 rfl rfl rfl ?_ ?_
  ·
   refine aT [false] [(0,1),(2,1),(3,1),(4,1),(5,1),(8,1),(9,1),(11,1),(12,1),(1,3),(6,1),(7,2),(10,5),(13,5),(14,1),(15,3),(16,5),(17,1)] kr kr (ou ?_)
   refine wA ?_;refine aw (fX rfl rfl dq) rfl (wH ?_)
   refine TF.call (ab rfl rfl rfl rfl) (dY) rfl (fun v22 H22 hle22 hp22=>?_)
   replace hty:=hty.le hle22
   replace hI2:=hI2.le hle22
   have hll22:=hp22
   refine aw (ae rfl hll22 rfl omq omq) rfl (aW (aN hll22 hlx rfl rfl) rfl (ao rfl (aA (X:=[]) (bd:=bd) rfl (ab rfl rfl rfl rfl) (fz hI2 hty htn htl) rfl (fun v31 H31 at31 hle31 hd31 hp31=>?_))))
   obtain⟨eH31,k31,nm31,rfl,hc31⟩:=hp31
   replace eH31:=eH31.symm;subst eH31
   refine aq SN hle22 (ao rfl (aA (X:=[]) (bd:=bd) rfl (ab rfl rfl rfl rfl) (bn places omq hd31) rfl (fun v34 H34 at34 hle34 hd34 hp34=>?_)))
   obtain⟨eH34,r34,rfl,hr34⟩:=hp34
   replace eH34:=eH34.symm;subst eH34
   have hra34:=hr34.1
   have hrb34:=hr34.2.1 omq
   exact aq SN hle22 (CK)
  refine TD.part 7 13 rfl rfl rfl ?_ ?_
  ·
   refine aT [false] [(0,1),(2,1),(3,1),(4,1),(5,1),(8,1),(9,1),(11,1),(12,1),(1,3),(6,1),(10,5),(7,2),(13,5),(14,1),(15,3),(16,5),(17,1)] kr kr (ou ?_)
   refine wA ?_;refine aw (fX rfl rfl dq) rfl (wH ?_)
   refine TF.call (ab rfl rfl rfl rfl) (dY) rfl (fun v22 H22 hle22 hp22=>?_)
   replace hty:=hty.le hle22
   replace hI2:=hI2.le hle22
   have hll22:=hp22
   refine aw (ae rfl hll22 rfl omq omq) rfl (ao rfl (aA (X:=[]) (bd:=bd) rfl (ab rfl rfl rfl rfl) (fz hI2 hty htn htl) rfl (fun v31 H31 at31 hle31 hd31 hp31=>?_)))
   obtain⟨eH31,k31,nm31,rfl,hc31⟩:=hp31
   replace eH31:=eH31.symm;subst eH31
   refine aq SN hle22 (aW (aN hll22 hlx rfl rfl) rfl (ao rfl (aA (X:=[]) (bd:=bd) rfl (ab rfl rfl rfl rfl) (bn places omq hd31) rfl (fun v34 H34 at34 hle34 hd34 hp34=>?_))))
   obtain⟨eH34,r34,rfl,hr34⟩:=hp34
   replace eH34:=eH34.symm;subst eH34
   have hra34:=hr34.1
   have hrb34:=hr34.2.1 omq
   exact aq SN hle22 (CK)
  refine aT [false] [(0,1),(2,1),(3,1),(4,1),(5,1),(8,1),(9,1),(11,1),(12,1),(1,3),(6,1),(10,5),(13,5),(7,2),(14,1),(15,3),(16,5),(17,1)] kr kr (ou ?_)
  refine wA ?_;refine aw (fX rfl rfl dq) rfl (wH ?_)
  refine TF.call (ab rfl rfl rfl rfl) (dY) rfl (fun v22 H22 hle22 hp22=>?_)
  replace hty:=hty.le hle22
  replace hI2:=hI2.le hle22
  have hll22:=hp22
  refine aw (ae rfl hll22 rfl omq omq) rfl (ao rfl (aA (X:=[]) (bd:=bd) rfl (ab rfl rfl rfl rfl) (fz hI2 hty htn htl) rfl (fun v31 H31 at31 hle31 hd31 hp31=>?_)))
  obtain⟨eH31,k31,nm31,rfl,hc31⟩:=hp31
  replace eH31:=eH31.symm;subst eH31
  refine aq SN hle22 (ao rfl (aA (X:=[]) (bd:=bd) rfl (ab rfl rfl rfl rfl) (bn places omq hd31) rfl (fun v34 H34 at34 hle34 hd34 hp34=>?_)))
  obtain⟨eH34,r34,rfl,hr34⟩:=hp34
  replace eH34:=eH34.symm;subst eH34
  have hra34:=hr34.1
  have hrb34:=hr34.2.1 omq
  exact aq SN hle22 (aW (aN hll22 hlx rfl rfl) rfl (CK))
 refine sj ?_
 refine dV (X:=[(bd,_)]) hO rfl (by simp [keys]) (fun H2 hle2 hR=>?_)
 exact aU (.inr rfl) (ad rfl (RVal.tmp rfl)) (fun w hw=>hw) ⟨_,[],rfl,(hI2.le hle2),rfl,hI3.trans hle2,_,hR,hI6.fin omq omq⟩
end Go.Sx
namespace Go.Sx
open Go Go.Proofs
theorem vw {H:Hp}{bd:Nat}{dl:Value}{at_:Int}(hd:DiceOk H dl at_){tv:Value}{types:List Str}(hty:RdSl H 1 Str.cells tv types)(htn:∀s∈types,TyNm s)(htl:types.length≤100)(name:Str)(many:Int)(h2:2≤many)(h5:many≤5):
  DFn Tryz.prog bd dl at_ 124 [gs name,.int .i64 many,tv] H (fun v H1 ob=>ob=[]∧(H.le H1∧∃p:SProto,v= .agg p.cells.toArray∧ProtoOk H1 p∧p.name=name∧p.roles=rolesL.take many.toNat∧AnyP types p)):=by
 have hrl:(rolesL.take many.toNat).length=many.toNat:=y4 omq omq
 refine FnX.enter Tryz.func124 Tryz.ntmps124 rfl rfl (fun w0=>?_)
 refine zm2 ?_
 refine TL.alloc rfl (fun b8=>?_)
 refine gE ?_
 refine aA (X:=[(b8,_)]) (bd:=bd) rfl (ab rfl rfl rfl rfl) (bn 6 omq hd) rfl (fun v15 H15 at15 hle15 hd15 hp15=>?_)
 obtain⟨eH15,r15,rfl,hr15⟩:=hp15
 replace eH15:=eH15.symm;subst eH15
 have hra15:=hr15.1
 have hrb15:=hr15.2.1 omq
 refine lw ?_;refine lB ?_
 refine TL.call (ab rfl rfl rfl rfl) (ia) rfl (fun v18 H18 hle18 hp18=>?_)
 replace hty:=hty.le hle18
 replace hd15:=hd15.le hle18
 have hro18:=hp18
 obtain⟨ra18,rc18,rfl⟩:=hro18.len
 have hcp:5≤rc18:=hro18.room _ _ _ rfl
 have hsl:=hro18.sliced (i:=0) (j:=many.toNat) omq (by show many.toNat≤5;omega)
 have hle0:=hle18
 refine zm0 ?_;refine wz ?_
 refine TL.append (enc:=Str.cells) rfl rfl rfl (OwnSl.nil (enc:=Str.cells)) (Src.sl hsl) (by simp only [List.length_drop,List.length_nil];omega) rfl (.new _ rfl) rfl (fun a21 c21 ob21 hO21=>?_)
 refine dt ?_
 refine TL.alloc rfl (fun b10=>?_)
 refine ww ?_
 refine dV (X:=[(b10,_),(b8,_),(bd,_)]) hO21 rfl (by simp [keys]) (fun HR leR hR=>?_)
 replace hty:=hty.le leR
 replace hd15:=hd15.le leR
 replace hle0:=hle0.trans leR
 have hrs:RdSl HR 1 Str.cells (.slice a21 (rolesL.take many.toNat).length c21) (rolesL.take many.toNat):=hR
 have hty1:=hty
 refine ag (jT ?_)
 refine aY (V:=fun(p:Int×Int) v ob H1=>[(11,.int .i64 p.1)]) (K:=[(0,_),(2,_),(3,_),(8,_),(9,_),(10,_)]) (L:=fun(p:Int×Int) v ob H1=>St (keys [(bd,[dl,.int .i64 at_])]) w0 H H1 ((b10,[gs name,.slice a21 (rolesL.take many.toNat).length c21,v])::(b8,[gs [],.slice none 0 0,.slice none 0 0])::(bd,[dl,.int .i64 p.2])::ob)) (I:=fun(p:Int×Int) v ob H1=>(0≤p.1∧p.1≤1+r15)∧DiceOk H1 dl p.2∧HR.le H1∧∃l:List SPoint,OwnSl 3 SPoint.cells v l ob∧(l.length:Int)=p.1∧AnyPts types (rolesL.take many.toNat) (1+r15+1) l∧∀x∈l,PointOk H1 x) (μ:=fun(p:Int×Int)=>(1+r15 - p.1).toNat) (0,at15) (.slice none 0 0) [] HR ky ⟨o2q,hd15,.refl _,[],OwnSl.nil,rfl,.nil,by simp⟩ (fun w hw=>hw) (fun p v ob H1 hI=>?_)
 obtain⟨⟨k0,k1⟩,hI2,hI3,l,hO,hI5,hI6,hI7⟩:=hI
 replace hty:=hty1.le hI3
 obtain⟨va,vc,rfl⟩:=hO.form
 have hrs1:=hrs.le hI3
 refine f8 ?_;refine zm1 ?_
 refine af rfl ?_ ?_<;>intro c25
 ·
  refine qc ?_
  refine aA (X:=[(b10,_),(b8,_)]) (bd:=bd) rfl (ab rfl rfl rfl rfl) (bn many omq hI2) rfl (fun v30 H30 at30 hle30 hd30 hp30=>?_)
  obtain⟨eH30,r30,rfl,hr30⟩:=hp30
  replace eH30:=eH30.symm;subst eH30
  have hra30:=hr30.1
  have hrb30:=hr30.2.1 omq
  refine lB ?_;refine lw ?_;refine zm3 ?_;refine qt ?_
  refine aA (X:=[(b10,_),(b8,_)]) (bd:=bd) rfl (ab rfl rfl rfl rfl) (bn (many - 1) omq hd30) rfl (fun v36 H36 at36 hle36 hd36 hp36=>?_)
  obtain⟨eH36,r36,rfl,hr36⟩:=hp36
  replace eH36:=eH36.symm;subst eH36
  have hra36:=hr36.1
  have hrb36:=hr36.2.1 omq
  refine lw ?_;refine zm0 ?_;refine TL.run (fX rfl rfl omq) rfl (dP ?_)
  have hne:=any_ne hra30 hrb30 hra36 hrb36
  obtain⟨q1,hr1⟩:=al (l:=(rolesL.take many.toNat)) (i:=r30) omq omq
  obtain⟨q2,hr2⟩:=al (l:=(rolesL.take many.toNat)) hne.1.1 omq
  refine ag (eY ?_);refine zm366 ?_;refine ot ?_;refine ot ?_;refine zm7 ?_
  refine aw (ae rfl hrs1 rfl omq omq) rfl (aJ (S1 (S1 SN)) (Hp.le.refl _) (fun _ _=>aN hrs1 hr1 rfl rfl) rfl (ot ?_));refine zm7 ?_
  refine aw (ae rfl hrs1 rfl omq omq) rfl (aJ (S1 (S1 SN)) (Hp.le.refl _) (fun _ _=>aN hrs1 hr2 rfl rfl) rfl (ou ?_));refine wA ?_
  refine ao rfl (aA (X:=[(b10,_),(b8,_)]) (bd:=bd) rfl (ab rfl rfl rfl rfl) (Et hd36 hty htn htl (1+r15+1) omq omq) rfl (fun v56 H56 at56 hle56 hd56 hp56=>?_))
  obtain⟨hle56_,l56,hl56,hA56⟩:=hp56
  obtain⟨a56,c56,rfl⟩:=hl56.len
  refine aq (S1 (S1 SN)) hle56 (dQ ?_)
  refine aC rfl rfl rfl rfl (fun b58=>?_)
  refine ao rfl (TL.append (enc:=SPoint.cells) rfl rfl rfl hO (Src.own [⟨q1,q2,l56,(a56,c56)⟩] (.here _) rfl rfl) (by have:=hI5;simp only [List.length_cons,List.length_nil];omega) rfl (.s3 (.skip _ .all)) rfl (fun a59 c59 ob59 hO59=>?_))
  refine aq (S0 (S1 (S1 SN))) hle56 (wv ?_);refine TF.back (TF.nil (jP ?_))
  exact aI (p.1+1,at56) _ ob59 H56 ⟨o2q,hd56,hI3.trans hle56,_,hO59,by simp only [List.length_append,List.length_cons,List.length_nil];omega,hI6.snoc ⟨List.mem_of_getElem? hr1,List.mem_of_getElem? hr2⟩ (DL hr1 hr2 (Ne.symm hne.2)) hA56,fN (fun x hx=>(hI7 x hx).le hle56) ⟨hl56,hA56.len htn⟩⟩ ky (fun w hw=>hw.drop) omq
 refine gn ?_;refine fE ?_;refine dt ?_
 refine aB rfl rfl rfl rfl (fun b64=>?_)
 refine TL.append (enc:=SPoint.cells) rfl rfl rfl hO (Src.own [fL] (.here _) rfl rfl) (by have:=hI5;simp only [List.length_cons,List.length_nil];omega) rfl (.s3 (.skip _ .all)) rfl (fun a65 c65 ob65 hO65=>?_)
 refine w3 ?_;refine gD ?_;refine TL.run (a7 rfl (.h1) rfl) rfl (wG ?_)
 refine dV (X:=[(b64,_),(b10,_),(b8,_),(bd,_)]) hO65 rfl (by simp [keys]) (fun H2 hle2 hP=>?_)
 exact aU (.inr rfl) (ad rfl (RVal.cellA rfl (.h2) rfl)) (fun w hw=>hw.drop.drop.drop) ⟨_,[],rfl,(hI2.le hle2),rfl,hle0.trans (hI3.trans hle2),⟨name,(rolesL.take many.toNat),(a21,c21),l++[fL],(a65,c65)⟩,rfl,⟨hrs.le (hI3.trans hle2),hP,fN (fun x hx=>(hI7 x hx).le hle2) jB⟩,rfl,rfl,⟨l,rfl,by rw [show((l.length:Int)+1)=1+r15+1 by omega];exact hI6,by omega,by omega⟩⟩
end Go.Sx
