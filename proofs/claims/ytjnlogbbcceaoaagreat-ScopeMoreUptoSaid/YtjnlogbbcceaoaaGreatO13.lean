import Derived.Test.YtjnlogbbcceaoaaGreatO12
import Derived.Test.YtjnlogbbcceaoaaGreatRows
import Derived.ProofKit
import Derived.Shelf.Vars
import Derived.Deep.DeepHandedRow
import Derived.OpenShut
set_option linter.all false
set_option maxRecDepth 100000
set_option maxHeartbeats 32000000
namespace Go.Sx
open Go Go.Proofs
theorem rise_ok {H:Hp}{pg:SProg}(hP:ProgOk H pg)(hM:MaxG H):
  Fn Tryz.prog 15 [.agg pg.cells.toArray] H (fun v H9=>∃pg2:SProg,v= .agg pg2.cells.toArray∧ProgOk H9 pg2∧pg2.bare=nI pg):=by
 have hmr:=hP.r.max
 have hml:=hP.l.max
 have hmq:=hP.q.max
 refine Fn.enter Tryz.func15 Tryz.ntmps15 rfl rfl (fun w0=>?_)
 refine zm2 ?_
 refine TL.box rfl rfl (fun b1=>?_)
 refine TL.alloc rfl (fun b2=>?_)
 refine TL.nil (ae (TC.seq (zm2 ?_)));refine dQ (.h1) (cT sq (fun H_b1 le_b1 rd_b1=>?_))
 replace hP:=hP.le le_b1
 replace hM:=hM.le le_b1
 have hb:PgAt H_b1 b1 pg:=rd_b1
 refine TL.run (iz rfl rfl hb.add) rfl (TL.call (ab rfl rfl rfl rfl) (fj hP hM) rfl (fun v17 H17 hle17 hp17=>?_))
 replace hP:=hP.le hle17
 replace hb:=hb.le hle17
 subst hp17
 refine TL.run (lh (off:=0) rfl kr rfl) rfl (zm1 ?_)
 refine aW rfl ?_ ?_<;>intro c19
 · refine im ?_;refine gH ?_;exact aC (aN (.inr rfl) (ad rfl (RVal.cellA rfl (.here _) rfl)) ⟨nilPg,rfl,y7 _,yR c19⟩)
 have hck:=xy c19
 have hn1:=hck.r.1
 have hn2:=hck.l.1
 have hn3:=hck.q.1
 refine qt ?_
 refine TL.alloc rfl (fun b3=>?_)
 refine TL.nil (ae (TC.seq (fm ?_)));refine TL.run (bq rfl (hb 0 _ rfl)) rfl (TL.run (ai rfl rfl hP.r) rfl (zm7 ?_))
 refine aR (V:=fun(p:Int×List SProto) v1 ob1 H1=>[(24,.int .i64 p.1)]) (K:=[(1,_),(2,_),(3,_),(22,_),(23,_)]) (L:=fun(p:Int×List SProto) v1 ob1 H1=>St [] w0 H H1 ((b3,[v1,.slice none 0 0,.slice none 0 0])::(b2,[.slice none 0 0,.slice none 0 0,.slice none 0 0])::ob1)) (I:=fun(p:Int×List SProto) v1 ob1 H1=>(0≤p.1∧p.1≤pg.protos.length)∧H17.le H1∧OwnSl 3 SProto.cells v1 p.2 ob1∧p.2.length=p.1∧PrAll H1 p.2∧p.2.map SProto.bare=(pg.protos.take p.1.toNat).map SProto.bare) (μ:=fun(p:Int×List SProto)=>(pg.protos.length - p.1).toNat) ((0:Int),[]) (.slice none 0 0) [] H17 ky ⟨o2q,Hp.le.refl _,OwnSl.nil,rfl,(fun _ h=>by cases h),rfl⟩ (fun w hw=>hw) (fun p v1 ob1 H1 hI=>?_)
 obtain⟨⟨k01,k11⟩,hle1,hO1,hPl1,hPA1,hPm1⟩:=hI
 obtain⟨k1,P1⟩:=p
 dsimp only at *
 obtain⟨va1,vc1,rfl⟩:=hO1.form
 replace hP:=hP.le hle1
 replace hb:=hb.le hle1
 refine zm5 ?_
 refine ag rfl ?_ ?_<;>intro c25
 ·
  obtain⟨x,hk1⟩:=ao (l:=pg.protos) k01 c25
  have hxP:=hP.rs x (List.mem_of_getElem? hk1)
  have hxz:=yY (hck.r.2 x (List.mem_of_getElem? hk1))
  refine cQ ?_;refine TL.run (af rfl hP.r rfl om om) rfl (TL.run (bg hP.r hk1 rfl rfl) rfl (TL.alloc rfl (fun b5=>?_)))
  refine lK ?_
  refine ax rfl rfl rfl rfl (fun b28=>?_)
  refine f7 ?_
  refine TL.append (enc:=Str.cells) rfl rfl rfl (OwnSl.blk (enc:=Str.cells) [] rfl rfl dq) (Src.sl hxP.r) (by simp;omega) rfl (.take (.here _) rfl) rfl (fun a31 c31 ob31 hO31=>?_)
  refine o4 ?_
  refine TX.pubO hO31 (.s3 (.past _ .all)) sq (fun HPob31 lePob31 hRr=>?_)
  replace hle1:=hle1.trans lePob31
  replace hxP:=hxP.le lePob31
  replace hPA1:=hPA1.le lePob31
  replace hRr:=hRr.cast (List.nil_append _)
  refine oz (L':=(b5,_)::((b3,_)::((b2,_)::(ob1)))) (gr [(b5,_),(b3,_),(b2,_)] (A:=ob1)) (ae (mH ?_));refine fm ?_;refine mg ?_;refine TL.nil (ae (il ?_))
  refine TL.run (ai rfl rfl hxP.pt) rfl (zm7 ?_)
  refine aR (V:=fun(p:Int×List SPoint) v11 ob11 H11=>[(38,.int .i64 p.1)]) (K:=[(1,_),(2,_),(3,_),(5,_),(6,_),(22,_),(23,_),(24,_),(25,_),(26,_),(27,_),(28,_),(29,_),(30,_),(31,_),(32,_),(33,_),(34,_),(35,_),(36,_),(37,_)]) (L:=fun(p:Int×List SPoint) v11 ob11 H11=>St [] w0 H H11 ((b5,[gs x.name,.slice a31 ([]++x.roles).length c31,v11])::(b3,_)::(b2,_)::(ob1++ob11))) (I:=fun(p:Int×List SPoint) v11 ob11 H11=>(0≤p.1∧p.1≤x.points.length)∧HPob31.le H11∧OwnSl 3 SPoint.cells v11 p.2 ob11∧p.2.length=p.1∧PtAll H11 p.2∧p.2.map SPoint.bare=(x.points.take p.1.toNat).map SPoint.bare) (μ:=fun(p:Int×List SPoint)=>(x.points.length - p.1).toNat) ((0:Int),[]) (.slice none 0 0) [] HPob31 ky ⟨o2q,Hp.le.refl _,OwnSl.nil,rfl,(fun _ h=>by cases h),rfl⟩ (fun w hw=>by rw [List.append_nil];exact hw) (fun p v11 ob11 H11 hI=>?_)
  obtain⟨⟨k011,k111⟩,hle11,hO11,hPl11,hPA11,hPm11⟩:=hI
  obtain⟨k11,P11⟩:=p
  dsimp only at *
  obtain⟨va11,vc11,rfl⟩:=hO11.form
  replace hle1:=hle1.trans hle11
  replace hxP:=hxP.le hle11
  replace hPA1:=hPA1.le hle11
  replace hRr:=hRr.le hle11
  refine zm5 ?_
  refine ag rfl ?_ ?_<;>intro c39
  ·
   obtain⟨y,hk11⟩:=ao (l:=x.points) k011 c39
   have hyO:=hxP.ps y (List.mem_of_getElem? hk11)
   have hyz:=hxz.2.2 y (List.mem_of_getElem? hk11)
   refine cQ ?_;refine TL.run (af rfl hxP.pt rfl om om) rfl (TL.run (bg hxP.pt hk11 rfl rfl) rfl (TL.alloc rfl (fun b8=>?_)))
   refine ni ?_
   refine cv (ab rfl rfl rfl rfl) (wC hyO.a om) rfl (fun v44 H44 ob44 hle44 hp44=>?_)
   obtain⟨eH44,hO44⟩:=hp44
   subst H44
   obtain⟨a44,c44,rfl⟩:=hO44.form
   refine TL.pubO hO44 (.s4 (.past _ .all)) sq (fun HP44 leP44 hR44=>?_)
   refine aP (L':=(b8,_)::((b5,_)::((b3,_)::((b2,_)::(ob1++(ob11)))))) (gr [(b8,_),(b5,_),(b3,_),(b2,_)] (A:=ob1++ob11)) ?_
   replace hle11:=hle11.trans leP44
   replace hPA11:=hPA11.le leP44
   replace hyO:=hyO.le leP44
   refine jW ?_;refine mY ?_;refine eE ?_
   refine ax rfl rfl rfl rfl (fun b49=>?_)
   refine TL.append (enc:=SPoint.cells) rfl rfl rfl hO11 (Src.own [⟨y.frm,y.to,y.arms,(a44,c44)⟩] (.here _) rfl rfl) (by simp;omega) rfl (.s5 (.past _ .all)) rfl (fun a50 c50 ob50 hO50=>?_)
   refine rG ?_;refine mJ ?_
   exact aE (i:=(k11,P11)) (k11+1,P11++[⟨y.frm,y.to,y.arms,(a44,c44)⟩]) _ ob50 HP44 ⟨o2q,hle11,hO50,by simp only [List.length_append,List.length_cons,List.length_nil];omega,fG hPA11 ⟨hR44,hyO.z⟩,gw k011 hk11 hPm11 rfl⟩ ky (fun w hw=>hw.drop.drop) om
  refine fX ?_;refine TC.region ?_
  have hQe:=hPm11
  rw [bh c39 k011] at hQe
  have hQl:P11.length=x.points.length:=by have:=congrArg List.length hQe;simpa using this
  refine TL.pubO hO11 (.s3 (.past _ .all)) sq (fun HPob11 lePob11 hRp=>?_)
  replace hle1:=hle1.trans lePob11
  replace hPA1:=hPA1.le lePob11
  replace hRr:=hRr.le lePob11
  replace hPA11:=hPA11.le lePob11
  refine aP (L':=(b5,_)::((b3,_)::((b2,_)::(ob1)))) (gr [(b5,_),(b3,_),(b2,_)] (A:=ob1)) (f7 ?_);refine eE ?_
  refine ax rfl rfl rfl rfl (fun b56=>?_)
  refine TL.append (enc:=SProto.cells) rfl rfl rfl hO1 (Src.own [⟨x.name,x.roles,(a31,c31),P11,(va11,vc11)⟩] (.here _) rfl rfl) (by simp;omega) rfl (.s3 (.skip _ .all)) rfl (fun a57 c57 ob57 hO57=>?_)
  refine rG ?_;refine mJ ?_
  exact aE (i:=(k1,P1)) (k1+1,P1++[(⟨x.name,x.roles,(a31,c31),P11,(va11,vc11)⟩:SProto)]) _ ob57 HPob11 ⟨o2q,hle1,hO57,by simp only [List.length_append,List.length_cons,List.length_nil];omega,fG hPA1 ⟨hRr,hRp,hPA11⟩,gw k01 hk1 hPm1 (by unfold SProto.bare;simp only [hQe])⟩ ky (fun w hw=>hw.drop.drop) om
 refine rN ?_
 have hE1:=hPm1
 rw [bh c25 k01] at hE1
 refine TL.pubO hO1 (.skip _ (.skip _ .all)) sq (fun HPob1 lePob1 hRP=>?_)
 replace hP:=hP.le lePob1
 replace hb:=hb.le lePob1
 replace hPA1:=hPA1.le lePob1
 refine aP (L':=(b3,_)::((b2,_)::[])) (List.Perm.refl _) (zm8 ?_);refine TL.run (bq rfl (hb 1 _ rfl)) rfl (TL.run (ai rfl rfl hP.l) rfl (zm7 ?_))
 refine aR (V:=fun(p:Int×List SLocal) v2 ob2 H2=>[(63,.int .i64 p.1)]) (K:=[(1,_),(2,_),(3,_),(61,_),(62,_)]) (L:=fun(p:Int×List SLocal) v2 ob2 H2=>St [] w0 H H2 ((b3,[.slice va1 P1.length vc1,v2,.slice none 0 0])::(b2,[.slice none 0 0,.slice none 0 0,.slice none 0 0])::ob2)) (I:=fun(p:Int×List SLocal) v2 ob2 H2=>(0≤p.1∧p.1≤pg.locals.length)∧HPob1.le H2∧OwnSl 2 SLocal.cells v2 p.2 ob2∧p.2.length=p.1∧LoAll H2 p.2∧p.2.map SLocal.bare=(pg.locals.take p.1.toNat).map SLocal.bare) (μ:=fun(p:Int×List SLocal)=>(pg.locals.length - p.1).toNat) ((0:Int),[]) (.slice none 0 0) [] HPob1 ky ⟨o2q,Hp.le.refl _,OwnSl.nil,rfl,(fun _ h=>by cases h),rfl⟩ (fun w hw=>hw) (fun p v2 ob2 H2 hI=>?_)
 obtain⟨⟨k02,k12⟩,hle2,hO2,hPl2,hPA2,hPm2⟩:=hI
 obtain⟨k2,P2⟩:=p
 dsimp only at *
 obtain⟨va2,vc2,rfl⟩:=hO2.form
 replace hP:=hP.le hle2
 replace hb:=hb.le hle2
 replace hPA1:=hPA1.le hle2
 replace hRP:=hRP.le hle2
 refine zm5 ?_
 refine ag rfl ?_ ?_<;>intro c64
 ·
  obtain⟨x,hk2⟩:=ao (l:=pg.locals) k02 c64
  have hxL:=hP.ls x (List.mem_of_getElem? hk2)
  have hxz:=tL (hck.l.2 x (List.mem_of_getElem? hk2)).1
  refine cQ ?_;refine TL.run (af rfl hP.l rfl om om) rfl (TL.run (bg hP.l hk2 rfl rfl) rfl (TL.alloc rfl (fun b10=>?_)))
  refine lG ?_;refine fm ?_;refine mg ?_;refine TL.nil (ae (il ?_));refine TL.run (ai rfl rfl hxL.t) rfl (zm7 ?_)
  refine aR (V:=fun(p:Int×List STurn) v12 ob12 H12=>[(72,.int .i64 p.1)]) (K:=[(1,_),(2,_),(3,_),(10,_),(11,_),(61,_),(62,_),(63,_),(64,_),(65,_),(66,_),(67,_),(68,_),(69,_),(70,_),(71,_)]) (L:=fun(p:Int×List STurn) v12 ob12 H12=>St [] w0 H H12 ((b10,[gs x.name,v12])::(b3,_)::(b2,_)::(ob2++ob12))) (I:=fun(p:Int×List STurn) v12 ob12 H12=>(0≤p.1∧p.1≤x.turns.length)∧H2.le H12∧OwnSl 3 STurn.cells v12 p.2 ob12∧p.2.length=p.1∧TuAll H12 p.2∧p.2.map SArms.bare=(x.turns.take p.1.toNat).map SArms.bare) (μ:=fun(p:Int×List STurn)=>(x.turns.length - p.1).toNat) ((0:Int),[]) (.slice none 0 0) [] H2 ky ⟨o2q,Hp.le.refl _,OwnSl.nil,rfl,(fun _ h=>by cases h),rfl⟩ (fun w hw=>by rw [List.append_nil];exact hw) (fun p v12 ob12 H12 hI=>?_)
  obtain⟨⟨k012,k112⟩,hle12,hO12,hPl12,hPA12,hPm12⟩:=hI
  obtain⟨k12,P12⟩:=p
  dsimp only at *
  obtain⟨va12,vc12,rfl⟩:=hO12.form
  replace hle2:=hle2.trans hle12
  replace hxL:=hxL.le hle12
  replace hPA2:=hPA2.le hle12
  refine zm5 ?_
  refine ag rfl ?_ ?_<;>intro c73
  ·
   obtain⟨y,hk12⟩:=ao (l:=x.turns) k012 c73
   have hyO:=hxL.ts y (List.mem_of_getElem? hk12)
   have hyz:=hxz.2 y (List.mem_of_getElem? hk12)
   refine cQ ?_;refine TL.run (af rfl hxL.t rfl om om) rfl (TL.run (bg hxL.t hk12 rfl rfl) rfl (TL.alloc rfl (fun b13=>?_)))
   refine ni ?_
   refine cv (ab rfl rfl rfl rfl) (wC hyO.a om) rfl (fun v78 H78 ob78 hle78 hp78=>?_)
   obtain⟨eH78,hO78⟩:=hp78
   subst H78
   obtain⟨a78,c78,rfl⟩:=hO78.form
   refine TL.pubO hO78 (.s4 (.past _ .all)) sq (fun HP78 leP78 hR78=>?_)
   refine aP (L':=(b13,_)::((b10,_)::((b3,_)::((b2,_)::(ob2++(ob12)))))) (gr [(b13,_),(b10,_),(b3,_),(b2,_)] (A:=ob2++ob12)) ?_
   replace hle12:=hle12.trans leP78
   replace hPA12:=hPA12.le leP78
   replace hyO:=hyO.le leP78
   refine jW ?_;refine mY ?_;refine eE ?_
   refine ax rfl rfl rfl rfl (fun b83=>?_)
   refine TL.append (enc:=STurn.cells) rfl rfl rfl hO12 (Src.own [⟨y.kind,y.peer,y.arms,(a78,c78)⟩] (.here _) rfl rfl) (by simp;omega) rfl (.s5 (.past _ .all)) rfl (fun a84 c84 ob84 hO84=>?_)
   refine rG ?_;refine mJ ?_
   exact aE (i:=(k12,P12)) (k12+1,P12++[⟨y.kind,y.peer,y.arms,(a78,c78)⟩]) _ ob84 HP78 ⟨o2q,hle12,hO84,by simp only [List.length_append,List.length_cons,List.length_nil];omega,fG hPA12 ⟨hR78,hyO.z⟩,gw k012 hk12 hPm12 rfl⟩ ky (fun w hw=>hw.drop.drop) om
  refine fX ?_;refine TC.region ?_
  have hQe:=hPm12
  rw [bh c73 k012] at hQe
  have hQl:P12.length=x.turns.length:=by have:=congrArg List.length hQe;simpa using this
  refine TL.pubO hO12 (.s3 (.past _ .all)) sq (fun HPob12 lePob12 hRp=>?_)
  replace hle2:=hle2.trans lePob12
  replace hPA2:=hPA2.le lePob12
  replace hPA12:=hPA12.le lePob12
  refine aP (L':=(b10,_)::((b3,_)::((b2,_)::(ob2)))) (gr [(b10,_),(b3,_),(b2,_)] (A:=ob2)) (f7 ?_);refine eE ?_
  refine ax rfl rfl rfl rfl (fun b90=>?_)
  refine TL.append (enc:=SLocal.cells) rfl rfl rfl hO2 (Src.own [⟨x.name,P12,(va12,vc12)⟩] (.here _) rfl rfl) (by simp;omega) rfl (.s3 (.skip _ .all)) rfl (fun a91 c91 ob91 hO91=>?_)
  refine rG ?_;refine mJ ?_
  exact aE (i:=(k2,P2)) (k2+1,P2++[(⟨x.name,P12,(va12,vc12)⟩:SLocal)]) _ ob91 HPob12 ⟨o2q,hle2,hO91,by simp only [List.length_append,List.length_cons,List.length_nil];omega,fG hPA2 ⟨hRp,hPA12⟩,gw k02 hk2 hPm2 (by unfold SLocal.bare;simp only [hQe])⟩ ky (fun w hw=>hw.drop.drop) om
 refine rN ?_
 have hE2:=hPm2
 rw [bh c64 k02] at hE2
 refine TL.pubO hO2 (.skip _ (.skip _ .all)) sq (fun HPob2 lePob2 hRL=>?_)
 replace hP:=hP.le lePob2
 replace hb:=hb.le lePob2
 replace hPA1:=hPA1.le lePob2
 replace hRP:=hRP.le lePob2
 replace hPA2:=hPA2.le lePob2
 refine aP (L':=(b3,_)::((b2,_)::[])) (List.Perm.refl _) (zm8 ?_);refine TL.run (bq rfl (hb 2 _ rfl)) rfl (TL.run (ai rfl rfl hP.q) rfl (zm7 ?_))
 refine aR (V:=fun(p:Int×List SProc) v3 ob3 H3=>[(97,.int .i64 p.1)]) (K:=[(2,_),(3,_),(95,_),(96,_)]) (L:=fun(p:Int×List SProc) v3 ob3 H3=>St [] w0 H H3 ((b3,[.slice va1 P1.length vc1,.slice va2 P2.length vc2,v3])::(b2,[.slice none 0 0,.slice none 0 0,.slice none 0 0])::ob3)) (I:=fun(p:Int×List SProc) v3 ob3 H3=>(0≤p.1∧p.1≤pg.procs.length)∧HPob2.le H3∧OwnSl 4 SProc.cells v3 p.2 ob3∧p.2.length=p.1∧PcAll H3 p.2∧p.2.map SProc.bare=(pg.procs.take p.1.toNat).map ko) (μ:=fun(p:Int×List SProc)=>(pg.procs.length - p.1).toNat) ((0:Int),[]) (.slice none 0 0) [] HPob2 ky ⟨o2q,Hp.le.refl _,OwnSl.nil,rfl,(fun _ h=>by cases h),rfl⟩ (fun w hw=>hw) (fun p v3 ob3 H3 hI=>?_)
 obtain⟨⟨k03,k13⟩,hle3,hO3,hPl3,hPA3,hPm3⟩:=hI
 obtain⟨k3,P3⟩:=p
 dsimp only at *
 obtain⟨va3,vc3,rfl⟩:=hO3.form
 replace hP:=hP.le hle3
 replace hPA1:=hPA1.le hle3
 replace hRP:=hRP.le hle3
 replace hPA2:=hPA2.le hle3
 replace hRL:=hRL.le hle3
 refine zm5 ?_
 refine ag rfl ?_ ?_<;>intro c98
 ·
  obtain⟨q,hk3⟩:=ao (l:=pg.procs) k03 c98
  have hqO:=hP.qs q (List.mem_of_getElem? hk3)
  have hxR:=hck.q.2 q (List.mem_of_getElem? hk3)
  refine cQ ?_;refine TL.run (af rfl hP.q rfl om om) rfl (TL.run (bg hP.q hk3 rfl rfl) rfl (TL.alloc rfl (fun b15=>?_)))
  refine fl ?_;refine d3 ?_
  refine TD.part 1 3 rfl rfl rfl ?_ ?_
  ·
   refine cJ [(0,1),(1,2),(2,2),(3,0),(4,3),(5,0),(6,1),(7,0)] kr kr (mK ?_)
   refine aQ (aU rfl (.here _) rfl) rfl (bn (TL.call (ab rfl rfl rfl rfl) (pW hqO hxR) rfl (fun v104 H104 hle104 hp104=>?_)))
   obtain⟨q104,rfl,hq104,hb104⟩:=hp104
   replace hle3:=hle3.trans hle104
   replace hPA3:=hPA3.le hle104
   refine TF.back (aA rfl rfl rfl rfl (fun b105=>?_))
   refine bn (TL.append (enc:=SProc.cells) rfl rfl rfl hO3 (Src.own [q104] (.here _) rfl rfl) (by simp;omega) rfl (.s3 (.skip _ .all)) rfl (fun a106 c106 ob106 hO106=>?_))
   refine TF.back (vQ ?_);refine jU ?_
   exact aE (i:=(k3,P3)) (k3+1,P3++[q104]) _ ob106 H104 ⟨o2q,hle3,hO106,by simp only [List.length_append,List.length_cons,List.length_nil];omega,fG hPA3 hq104,gw k03 hk3 hPm3 hb104⟩ ky (fun w hw=>hw.drop.drop) om
  refine cJ [(0,1),(2,2),(3,0),(1,2),(4,3),(5,0),(6,1),(7,0)] kr kr (zm3 ?_)
  refine aQ (aU rfl (.here _) rfl) rfl (bn (TL.call (ab rfl rfl rfl rfl) (pW hqO hxR) rfl (fun v104 H104 hle104 hp104=>?_)))
  obtain⟨q104,rfl,hq104,hb104⟩:=hp104
  replace hle3:=hle3.trans hle104
  replace hPA3:=hPA3.le hle104
  refine TF.back (aQ (ay rfl (.h1) rfl) rfl (aA rfl rfl rfl rfl (fun b105=>?_)))
  refine bn (TL.append (enc:=SProc.cells) rfl rfl rfl hO3 (Src.own [q104] (.here _) rfl rfl) (by simp;omega) rfl (.s3 (.skip _ .all)) rfl (fun a106 c106 ob106 hO106=>?_))
  refine TF.back (vQ ?_);refine jU ?_
  exact aE (i:=(k3,P3)) (k3+1,P3++[q104]) _ ob106 H104 ⟨o2q,hle3,hO106,by simp only [List.length_append,List.length_cons,List.length_nil];omega,fG hPA3 hq104,gw k03 hk3 hPm3 hb104⟩ ky (fun w hw=>hw.drop.drop) om
 refine mX ?_
 have hE3:=hPm3
 rw [bh c98 k03] at hE3
 refine TL.pubO hO3 (.skip _ (.skip _ .all)) sq (fun HPob3 lePob3 hRQ=>?_)
 replace hPA1:=hPA1.le lePob3
 replace hRP:=hRP.le lePob3
 replace hPA2:=hPA2.le lePob3
 replace hRL:=hRL.le lePob3
 replace hPA3:=hPA3.le lePob3
 refine aP (L':=(b3,_)::((b2,_)::[])) (List.Perm.refl _) (eE ?_);refine mj ?_
 exact aN (.inr rfl) (ad rfl (RVal.cellA rfl (.h1) rfl)) ⟨⟨P1,(va1,vc1),P2,(va2,vc2),P3,(va3,vc3)⟩,rfl,⟨hRP,hPA1,hRL,hPA2,hRQ,hPA3⟩,by rw [pU c19];unfold SProg.bare;simp only [hE1,hE2,hE3]⟩
end Go.Sx
namespace Go.Sx
open Go Go.Proofs
theorem mn {H:Hp}:
  Fn Tryz.prog 25 [] H (fun v H2=>∃sp qp,v= .agg (jk sp qp).cells.toArray∧ProgOk H2 (jk sp qp)):=by
 refine Fn.enter Tryz.func25 Tryz.ntmps25 rfl rfl (fun w0=>?_)
 refine zm2 ?_
 refine TL.alloc rfl (fun b0=>?_)
 refine fz ?_;refine cE ?_
 refine ax rfl rfl rfl rfl (fun b2=>?_)
 refine cE ?_
 refine ax rfl rfl rfl rfl (fun b4=>?_)
 refine cE ?_;refine cf rfl rfl rfl rfl rfl (.h2) rfl rfl (TL.nil (d9 (.h1) (iJ sq (fun H_b2 le_b2 rd_b2=>?_))))
 have hS:RdSl H_b2 10 SStep.cells _ ([xw]):=RdSl.blk (cap:=1) rd_b2 (by intro x hx;rfl) kr (by show 1≤9223372036854775807;decide)
 refine iJ sq (fun H_b4 le_b4 rd_b4=>?_)
 replace hS:=hS.le le_b4
 have hQ:RdSl H_b4 4 SProc.cells _ ([⟨bT,[],nS,[],nS,[xw],(some ⟨b2,0,none⟩,1)⟩]):=RdSl.blk (cap:=1) rd_b4 (by intro x hx;rfl) kr (by show 1≤9223372036854775807;decide)
 exact ae (TC.ret (aN (.inr rfl) (ad rfl (RVal.cellA rfl (.here _) rfl)) ⟨(some ⟨b2,0,none⟩,1),(some ⟨b4,0,none⟩,1),rfl,wQ hS hQ⟩))
theorem xz {H:Hp}(hM:MaxG H):Fn Tryz.prog 13 [.agg #[.slice none 0 0,.slice none 0 0,.slice none 0 0]] H (fun v H2=>v= .agg (SFault.cells ⟨1504, -1, -1⟩).toArray):=by
 have:=fj (y7 H) hM
 rw [w9] at this
 exact this
theorem uZ {H:Hp}(hM:MaxG H):
  Fn Tryz.prog 9 [] H (fun v H2=>v= .bool true):=by
 refine Fn.enter Tryz.func9 Tryz.ntmps9 rfl rfl (fun w0=>?_)
 refine sA ?_
 refine TL.call (ab rfl rfl rfl rfl) (mn) rfl (fun v1 H1 hle1 hp1=>?_)
 obtain⟨sp1,qp1,rfl,hP1⟩:=hp1
 replace hM:=hM.le hle1
 refine TL.call (ab rfl rfl rfl rfl) (fj hP1 hM) rfl (fun v2 H2 hle2 hp2=>?_)
 replace hM:=hM.le hle2
 rw [ny] at hp2
 subst hp2
 refine cE ?_;refine TL.run (qF (r:=true) rfl rfl kr kr kr) rfl (zm0 ?_)
 refine ah (s:=5) rfl ?_ ?_<;>intro g5
 ·
  refine aB rfl rfl (kt rfl rfl) rfl (gA rfl rfl (ab rfl rfl rfl rfl) (xz hM) rfl (fun v7 H7 hle7 hp7=>?_))
  replace hM:=hM.le hle7
  subst hp7
  refine aB rfl rfl (kt rfl rfl) rfl (aB rfl rfl (qF (r:=true) rfl rfl kr kr kr) rfl (zm4 ?_))
  refine ah (s:=11) rfl ?_ ?_<;>intro g11
  ·
   refine gA rfl rfl (ab rfl rfl rfl rfl) (mn) rfl (fun v12 H12 hle12 hp12=>?_)
   obtain⟨sp12,qp12,rfl,hP12⟩:=hp12
   replace hM:=hM.le hle12
   refine aL rfl rfl (ab rfl rfl rfl rfl) (fb bT hP12) rfl (da ?_)
   refine ah (s:=16) rfl ?_ ?_<;>intro g16
   ·
    have q16:=of_decide_eq_true g16
    refine gA rfl rfl (ab rfl rfl rfl rfl) (mn) rfl (fun v17 H17 hle17 hp17=>?_)
    obtain⟨sp17,qp17,rfl,hP17⟩:=hp17
    replace hM:=hM.le hle17
    refine aL rfl rfl (ab rfl rfl rfl rfl) (fb [120] hP17) rfl (da ?_)
    refine ah (s:=21) rfl ?_ ?_<;>intro g21
    ·
     have q21:=of_decide_eq_true g21
     refine gA rfl rfl (ab rfl rfl rfl rfl) (mn) rfl (fun v22 H22 hle22 hp22=>?_)
     obtain⟨sp22,qp22,rfl,hP22⟩:=hp22
     replace hM:=hM.le hle22
     refine gA rfl rfl (ab rfl rfl rfl rfl) (rise_ok hP22 hM) rfl (fun v23 H23 hle23 hp23=>?_)
     obtain⟨pg23,rfl,hP23,hB23⟩:=hp23
     have hN23:=wP hB23
     refine aB rfl rfl (lh (off:=2) rfl kr rfl) rfl (aB rfl rfl (ai rfl rfl hP23.q) rfl (cg ?_));refine eD ?_
     exact aN (.inr rfl) (ad rfl (RVal.tmp rfl)) (congrArg Value.bool (by first | rfl | (rw [hN23];rfl) | exact absurd (gl _ _) q16 | exact absurd (kf _ _) q21 | exact absurd g11 dq | exact absurd g5 dq))
    have q21:=of_decide_eq_false g21
    refine oH ?_;refine eD ?_
    exact aN (.inr rfl) (ad rfl (RVal.tmp rfl)) (congrArg Value.bool (by first | rfl | (rw [hN23];rfl) | exact absurd (gl _ _) q16 | exact absurd (kf _ _) q21 | exact absurd g11 dq | exact absurd g5 dq))
   have q16:=of_decide_eq_false g16
   refine oG ?_;refine zm9 ?_;refine eD ?_
   exact aN (.inr rfl) (ad rfl (RVal.tmp rfl)) (congrArg Value.bool (by first | rfl | (rw [hN23];rfl) | exact absurd (gl _ _) q16 | exact absurd (kf _ _) q21 | exact absurd g11 dq | exact absurd g5 dq))
  refine gI ?_;refine oG ?_;refine zm9 ?_;refine eD ?_
  exact aN (.inr rfl) (ad rfl (RVal.tmp rfl)) (congrArg Value.bool (by first | rfl | (rw [hN23];rfl) | exact absurd (gl _ _) q16 | exact absurd (kf _ _) q21 | exact absurd g11 dq | exact absurd g5 dq))
 refine dB ?_;refine zm4 ?_;refine gI ?_;refine oG ?_;refine zm9 ?_;refine eD ?_
 exact aN (.inr rfl) (ad rfl (RVal.tmp rfl)) (congrArg Value.bool (by first | rfl | (rw [hN23];rfl) | exact absurd (gl _ _) q16 | exact absurd (kf _ _) q21 | exact absurd g11 dq | exact absurd g5 dq))
end Go.Sx
namespace Go.Sx
open Go Go.Proofs
theorem eqFa {f g:SFault}{r:Bool}(h:((f.e==g.e)&&((f.part==g.part)&&((f.at_==g.at_)&&true)))=r):jG Tryz.prog 4 35 f.cells g.cells=some r:=by
 rw [← h]
 obtain⟨a,b,c⟩:=f
 obtain⟨a',b',c'⟩:=g
 exact(show jG Tryz.prog 4 35 [.int .i64 a,.int .i64 b,.int .i64 c] [.int .i64 a',.int .i64 b',.int .i64 c']=some ((a==a')&&((b==b')&&((c==c')&&true))) by kernel_rfl)
theorem qg (f:SFault):jG Tryz.prog 4 35 f.cells f.cells=some true:=eqFa sq
theorem rb {H:Hp}{lv:Value}{l:List Int}(hl:RdSl H 1 I64.cells lv l)(hm:l.length≤1000000000000){lv2:Value}{l2:List Int}(hl2:RdSl H 1 I64.cells lv2 l2)(hm2:l2.length≤1000000000000)(hM:MaxG H):
  Fn Tryz.prog 4 [lv,lv2] H (fun v H1=>v= .bool true):=by
 refine Fn.enter Tryz.func4 Tryz.ntmps4 rfl rfl (fun w0=>?_)
 refine zm5 ?_;refine zm2 ?_
 refine TL.call (ab rfl rfl rfl rfl) (uZ hM) rfl (fun v11 H11 hle11 hp11=>?_)
 replace hM:=hM.le hle11
 replace hl:=hl.le hle11
 replace hl2:=hl2.le hle11
 subst hp11
 refine zm1 ?_
 refine TC.cond rfl ?_ ?_<;>intro c12
 · exact absurd c12 dq
 refine j7 ?_
 refine cv (ab rfl rfl rfl rfl) (kC hl hm) rfl (fun v14 H14 ob14 hle14 hp14=>?_)
 obtain⟨psA,qsA,SA,pvA,psvA,ob1,B,rfl,rfl,hps,hPs,hO,hB,hq,hN,hn1,hn11,hpaA⟩:=hp14
 obtain⟨psaA,pscA,rfl⟩:=hps.len
 obtain⟨pvaA,pvcA,rfl⟩:=hO.form
 replace hM:=hM.le hle14
 replace hl2:=hl2.le hle14
 refine TL.pubO hO (.app _) sq (fun HQA leQ hR=>?_)
 refine TL.pubB (hB.leH leQ) .all sq (fun HBA leB hBH=>?_)
 have leQB:=leQ.trans leB
 obtain⟨pgA,hpgA,hPA,hgA,_,hnA⟩:=tU hBH (hR.le leB) (fun x hx=>(hq x hx).le leQB (.refl _)) (hps.le leQB) ((hPs.le leQB).pk) hN om om
 rw [← hnA] at hpaA
 replace hM:=hM.le leQB
 replace hl2:=hl2.le leQB
 clear hps hPs hO hB hq hN hn1 hn11 hR hBH leQ leB leQB
 rw [hpgA]
 refine zm0 ?_
 refine cv (ab rfl rfl rfl rfl) (kC hl2 hm2) rfl (fun v16 H16 ob16 hle16 hp16=>?_)
 obtain⟨psB,qsB,SB,pvB,psvB,ob1,B,rfl,rfl,hps,hPs,hO,hB,hq,hN,hn1,hn11,hpaB⟩:=hp16
 obtain⟨psaB,pscB,rfl⟩:=hps.len
 obtain⟨pvaB,pvcB,rfl⟩:=hO.form
 replace hM:=hM.le hle16
 replace hPA:=hPA.le hle16
 refine TL.pubO hO (.app _) sq (fun HQB leQ hR=>?_)
 refine TL.pubB (hB.leH leQ) .all sq (fun HBB leB hBH=>?_)
 have leQB:=leQ.trans leB
 obtain⟨pgB,hpgB,hPB,hgB,_,hnB⟩:=tU hBH (hR.le leB) (fun x hx=>(hq x hx).le leQB (.refl _)) (hps.le leQB) ((hPs.le leQB).pk) hN om om
 rw [← hnB] at hpaB
 replace hM:=hM.le leQB
 replace hPA:=hPA.le leQB
 clear hps hPs hO hB hq hN hn1 hn11 hR hBH leQ leB leQB
 rw [hpgB]
 refine TL.alloc rfl (fun b5=>?_)
 refine TL.alloc rfl (fun b6=>?_)
 refine mS ?_;refine fl ?_;refine im ?_;refine cE ?_
 refine ax rfl rfl rfl rfl (fun b19=>?_)
 refine cE ?_
 refine ax rfl rfl rfl rfl (fun b21=>?_)
 refine ax rfl rfl rfl rfl (fun b22=>?_)
 refine cE ?_
 refine ax rfl rfl rfl rfl (fun b24=>?_)
 refine cE ?_
 refine TL.alloc rfl (fun b7=>?_)
 refine lK ?_;refine TL.run (aU rfl (.h6) rfl) rfl (TL.alloc rfl (fun b8=>?_))
 refine lP ?_
 refine TD.part 2 4 rfl rfl rfl ?_ ?_
 ·
  refine aI [true,true,true,true,true,true,true,true] [(0,1),(1,4),(3,4),(2,5),(4,3),(5,5),(6,1),(7,0)] kr kr (zm3 ?_);refine zm338 ?_;refine zm339 ?_
  refine ak rfl (TL.append (enc:=SProc.cells) rfl rfl rfl (OwnSl.nil (enc:=SProc.cells)) (Src.sl hPA.q) (by have:=hgA.n11;simp;omega) rfl (.new _ rfl) rfl (fun a29 c29 ob29 hO29=>?_))
  refine al (S1 (S1 (S1 (S1 (S1 (S1 (S1 (S1 SN)))))))) (Hp.le.refl _) (aA rfl rfl rfl rfl (fun b31=>?_))
  exact zq963
 refine aI [true,true,true,true,true,true,true,true] [(0,1),(1,4),(3,4),(4,3),(2,5),(5,5),(6,1),(7,0)] kr kr (zm3 ?_);refine zm338 ?_;refine zm339 ?_
 refine aA rfl rfl rfl rfl (fun b31=>?_)
 refine ak rfl (TL.append (enc:=SProc.cells) rfl rfl rfl (OwnSl.nil (enc:=SProc.cells)) (Src.sl hPA.q) (by have:=hgA.n11;simp;omega) rfl (.new _ rfl) rfl (fun a29 c29 ob29 hO29=>?_))
 exact al (S0 (S1 (S1 (S1 (S1 (S1 (S1 (S1 (S1 SN))))))))) (Hp.le.refl _) (zq963)
end Go.Sx
namespace Go.Proofs.YtjnlogbbcceaoaaGreat.ScopeMoreUpto
open Go Go.Sx Go.ChangeShapes Go.WideShapes Go.ChangeAt Go.RowKit
theorem own:ownKnob Tryz.prog.godebug=none:=by kernel_rfl
theorem laidOut:laidOutB Tryz.prog=true:=by kernel_rfl
theorem hread:∀t∈Tryz.f4.params.toList,Tryz.prog.readableRec t=true∧t<Tryz.prog.types.size:=by
 intro t ht
 have:=List.all_eq_true.1 (show(Tryz.f4.params.toList.all fun t=>Tryz.prog.readableRec t&&decide (t<Tryz.prog.types.size))=true by kernel_rfl) t ht
 simp only [Bool.and_eq_true,decide_eq_true_eq] at this
 exact this
theorem contract (H:Type)(enc:TypeId×Value→H)(W:World)(base:Nat)(args:Array Value)(ds gs0:List (DataW H))(before:List MemPlace)
  (hval0:∀(j:Nat) t v,Tryz.f4.params[j]? =some t→args[j]? =some v→Value.okWide Tryz.prog W .any base t v)
  (hW:DataW.Whole enc Tryz.prog Tryz.f4.params.toList Rows.scopeMoreSpec.vars false W args.toList ds gs0 before) (hsh:W.ShapedOpen Tryz.prog) (hk:Rows.uptoSmall H (ds++gs0)=true):
  Calls Tryz.prog 4 args W fun e W'=>∃v,e= .returned v∧Rows.scopeMoreSpec.post enc Tryz.prog Tryz.f4 false true false false W args v W':=by
 have hMx:MaxG (uU W):=Go.Proofs.cell_of_shapedOpen_int (zero:= #[.int .i64 0]) (t:=3) hsh (of_decide_eq_true (by kernel_rfl)) (by kernel_rfl) rfl (by kernel_rfl) (by kernel_rfl) Tryz.underlying3
 have hval:∀(j:Nat) t v,Tryz.f4.params[j]? =some t→args[j]? =some v→Value.okWide Tryz.prog W .any base t v:=hval0
 have hW':=hW
 obtain⟨p,q,hA0,hV,hpq,hfz,hnd⟩:=hW
 have hA:DataW.TrodAll enc Tryz.prog W 0 (fun _=>true) true Tryz.f4.params.toList args.toList ds p:=hA0
 rw [Tryz.params4] at hA hval
 obtain⟨v0,vs0,d0,ds0,p0,q0,hargs,rfl,rfl,h0,r0⟩:=trodAll_cons hA
 obtain⟨v1,vs1,d1,ds1,p1,q1,rfl,rfl,rfl,h1,r1⟩:=trodAll_cons r0
 obtain⟨rfl,rfl,rfl⟩:=trodAll_nil r1
 obtain rfl:args= #[v0,v1]:=by cases args;simp_all
 obtain⟨rfl,rfl⟩:=trodVars_none hV
 obtain⟨a_l,len_l,cap_l,ev_l⟩:=okWide_slice Tryz.underlying22 (hval 0 22 v0 rfl rfl)
 obtain⟨⟨u_l,l⟩,e_l,R_l,K_l⟩:=(kw Tryz.underlying22 (k:=1) (by kernel_rfl) (by decide) (p9 (p8 Tryz.underlying3))).one h0 (wA (i:=0) hk rfl)
 obtain rfl:v0= .slice u_l.1 l.length u_l.2:=by rw [ev_l] at e_l ⊢;simpa [Value.cells] using e_l
 simp only at R_l K_l
 obtain⟨a_l2,len_l2,cap_l2,ev_l2⟩:=okWide_slice Tryz.underlying22 (hval 1 22 v1 rfl rfl)
 obtain⟨⟨u_l2,l2⟩,e_l2,R_l2,K_l2⟩:=(kw Tryz.underlying22 (k:=1) (by kernel_rfl) (by decide) (p9 (p8 Tryz.underlying3))).one h1 (wA (i:=1) hk rfl)
 obtain rfl:v1= .slice u_l2.1 l2.length u_l2.2:=by rw [ev_l2] at e_l2 ⊢;simpa [Value.cells] using e_l2
 simp only at R_l2 K_l2
 refine(Fn.callsT (W:=W) (rb R_l (Nat.le_trans K_l.1 (by decide)) R_l2 (Nat.le_trans K_l2.1 (by decide)) hMx)).mono ?_
 rintro e W1 ⟨rfl,hB⟩
 have done:Rows.scopeMoreSpec.post enc Tryz.prog Tryz.f4 false true false false W #[.slice u_l.1 l.length u_l.2,.slice u_l2.1 l2.length u_l2.2] (.bool true) W1:=zg (P:=Tryz.prog) (tb:=4) hW' rfl rfl rfl rfl (by kernel_rfl) (by kernel_rfl) laidOut hread hB
 exact⟨_,rfl,done⟩
noncomputable def laidWorld (os:Os):World:=World.holding Tryz.prog os ⟨#[], #[],[]⟩
theorem laid_met (os:Os):laidMet Tryz.prog Rows.scopeMoreUptoRow.laid ((laidWorld os).forCall (fun _ _=>0) ⟨#[], #[.slice none 0 0,.slice none 0 0],[]⟩).memory:=
 laidMet_of_run' 8 (by kernel_rfl) (by kernel_rfl)
theorem reads (os:Os){H:Type}(enc:TypeId×Value→H):∃places,DataW.whole enc Tryz.prog ((laidWorld os).forCall (fun _ _=>0) ⟨#[], #[.slice none 0 0,.slice none 0 0],[]⟩).memory Tryz.f4.params.toList Rows.scopeMoreSpec.vars false #[(.slice none 0 0:Value),(.slice none 0 0:Value)].toList 8=some ([.nil,.nil],[],places):=
 ⟨[],by kernel_rfl⟩
theorem lifted (os:Os)(started:os.Started)(H:Type)(enc:TypeId×Value→H)(F:Stop.Interp):
  ReturnsInHanded {} Tryz.checked os 4 .any ((Rows.OpenSpec.upto Rows.scopeMoreSpec).preRow enc Tryz.prog Tryz.f4 Rows.scopeMoreUptoRow.domain false Rows.scopeMoreUptoRow.laid) (((Rows.OpenSpec.upto Rows.scopeMoreSpec).at F).post enc Tryz.prog Tryz.f4 false true false false):=by
 obtain⟨places,hx⟩:=reads os enc
 refine returnsInHanded_of_row (C:=Tryz.checked) (s:=(Rows.OpenSpec.upto Rows.scopeMoreSpec)) own started (by kernel_rfl) Tryz.func4
  (witness_row_at (enc:=enc) (C:=Tryz.checked) false (laidWorld os) #[.slice none 0 0,.slice none 0 0] rfl (by kernel_rfl) (by kernel_rfl) (by kernel_rfl)
   (OpenSpec.preRow_of_cond 8 hx (by kernel_rfl) (fun k hk=>by cases hk;kernel_rfl) (by kernel_rfl) (laid_met os))) ?_
 intro W base args ds gs before hval hW _ hcond _ _ hsh _
 exact contract H enc W base args ds gs before hval hW hsh (hcond _ rfl)
theorem holds:Rows.ScopeMoreUptoSaid:=
 OpenClaim.holds_of_cond 4 Tryz.f4 rfl rfl rfl rfl rfl rfl rfl ⟨rfl,rfl,rfl,rfl,rfl⟩ rfl rfl rfl rfl rfl (by kernel_rfl) Tryz.func4 (by kernel_rfl)
  (of_decide_eq_true (by kernel_rfl)) (by unfold Func.isWrapper;first | (rw [if_pos (by decide+kernel)];kernel_rfl) | (rw [if_neg (by decide+kernel)];exact⟨rfl,rfl⟩))
  (fun os started H enc _ F=>by rw [OpenClaim.pre_eq_preRow];exact lifted os started H enc F)
end Go.Proofs.YtjnlogbbcceaoaaGreat.ScopeMoreUpto
