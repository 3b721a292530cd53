import Derived.Test.YtjnlogbbcceaoaaGreatR16
import Derived.Test.YtjnlogbbcceaoaaGreatRows
import Derived.ProofKit
import Derived.Shelf.Vars
import Derived.Deep.DeepHandedRow
import Derived.OpenShut
set_option linter.all false
set_option maxRecDepth 100000
set_option maxHeartbeats 32000000
namespace Go.Sx
open Go Go.Proofs
theorem gK {H:Hp}{pg:SProg}(hP:ProgOk H pg)(hM:MaxG H):
  Fn Tryz.prog 15 [.agg pg.cells.toArray] H (fun v H9=>∃pg2:SProg,v= .agg pg2.cells.toArray∧ProgOk H9 pg2∧pg2.bare=fX pg):=by
 have hmr:=hP.r.max
 have hml:=hP.l.max
 have hmq:=hP.q.max
 refine Fn.enter Tryz.func15 Tryz.ntmps15 rfl rfl (fun w0=>?_)
 refine zm2 ?_
 refine TL.box rfl rfl (fun b1=>?_)
 refine TL.alloc rfl (fun b2=>?_)
 refine TL.nil (af (TC.seq (zm2 ?_)));refine eQ (.h1) (TL.pub sq (fun H_b1 le_b1 rd_b1=>?_))
 replace hP:=hP.le le_b1
 replace hM:=hM.le le_b1
 have hb:PgAt H_b1 b1 pg:=rd_b1
 refine TL.run (kn rfl rfl hb.add) rfl (TL.call (ab rfl rfl rfl rfl) (eP hP hM) rfl (fun v17 H17 hle17 hp17=>?_))
 replace hP:=hP.le hle17
 replace hb:=hb.le hle17
 subst hp17
 refine TL.run (n7 (off:=0) rfl kr rfl) rfl (zm1 ?_)
 refine aX rfl ?_ ?_<;>intro c19
 · refine lh ?_;refine jq ?_;exact aI (aR (.inr rfl) (ad rfl (RVal.cellA rfl (.here _) rfl)) ⟨nilPg,rfl,EI _,Ei c19⟩)
 have hck:=CO c19
 have hn1:=hck.r.1
 have hn2:=hck.l.1
 have hn3:=hck.q.1
 refine cV ?_;refine zm2 ?_
 refine TL.alloc rfl (fun b3=>?_)
 refine TL.nil (af (TC.seq (gW ?_)));refine TL.run (bI rfl (hb 0 _ rfl)) rfl (TL.run (ah rfl rfl hP.r) rfl (zm8 ?_))
 refine aW (V:=fun(p:Int×List SProto) v1 ob1 H1=>[(24,.int .i64 p.1)]) (K:=[(1,_),(2,_),(3,_),(22,_),(23,_)]) (L:=fun(p:Int×List SProto) v1 ob1 H1=>St [] w0 H H1 ((b3,[v1,.slice none 0 0,.slice none 0 0])::(b2,[.slice none 0 0,.slice none 0 0,.slice none 0 0])::ob1)) (I:=fun(p:Int×List SProto) v1 ob1 H1=>(0≤p.1∧p.1≤pg.protos.length)∧H17.le H1∧OwnSl 3 SProto.cells v1 p.2 ob1∧p.2.length=p.1∧PrAll H1 p.2∧p.2.map SProto.bare=(pg.protos.take p.1.toNat).map SProto.bare) (μ:=fun(p:Int×List SProto)=>(pg.protos.length - p.1).toNat) ((0:Int),[]) (.slice none 0 0) [] H17 ky ⟨o2q,Hp.le.refl _,OwnSl.nil,rfl,(fun _ h=>by cases h),rfl⟩ (fun w hw=>hw) (fun p v1 ob1 H1 hI=>?_)
 obtain⟨⟨k01,k11⟩,hle1,hO1,hPl1,hPA1,hPm1⟩:=hI
 obtain⟨k1,P1⟩:=p
 dsimp only at *
 obtain⟨va1,vc1,rfl⟩:=hO1.form
 replace hP:=hP.le hle1
 replace hb:=hb.le hle1
 refine zm7 ?_
 refine ag rfl ?_ ?_<;>intro c25
 ·
  obtain⟨x,hk1⟩:=ao (l:=pg.protos) k01 c25
  have hxP:=hP.rs x (List.mem_of_getElem? hk1)
  have hxz:=Et (hck.r.2 x (List.mem_of_getElem? hk1))
  refine dz ?_;refine TL.run (ae rfl hP.r rfl om om) rfl (TL.run (bg hP.r hk1 rfl rfl) rfl (TL.alloc rfl (fun b5=>?_)))
  refine xf ?_
  refine aD rfl rfl rfl rfl (fun b28=>?_)
  refine iN ?_
  refine TL.append (enc:=Str.cells) rfl rfl rfl (OwnSl.blk (enc:=Str.cells) [] rfl rfl dq) (Src.sl hxP.r) (by simp;omega) rfl (.take (.here _) rfl) rfl (fun a31 c31 ob31 hO31=>?_)
  refine o6 ?_
  refine TX.pubO hO31 (.s3 (.past ob1 .all)) sq (fun HPob31 lePob31 hRr=>?_)
  replace hle1:=hle1.trans lePob31
  replace hxP:=hxP.le lePob31
  replace hPA1:=hPA1.le lePob31
  replace hRr:=hRr.cast (List.nil_append _)
  refine dE (L':=(b5,_)::((b3,_)::((b2,_)::(ob1)))) (fE [(b5,_),(b3,_),(b2,_)] (A:=ob1)) (af (qm ?_));refine gW ?_;refine li ?_;refine TL.nil (af (jR ?_))
  refine TL.run (ah rfl rfl hxP.pt) rfl (zm8 ?_)
  refine aW (V:=fun(p:Int×List SPoint) v11 ob11 H11=>[(38,.int .i64 p.1)]) (K:=[(1,_),(2,_),(3,_),(5,_),(6,_),(22,_),(23,_),(24,_),(25,_),(26,_),(27,_),(28,_),(29,_),(30,_),(31,_),(32,_),(33,_),(34,_),(35,_),(36,_),(37,_)]) (L:=fun(p:Int×List SPoint) v11 ob11 H11=>St [] w0 H H11 ((b5,[gs x.name,.slice a31 ([]++x.roles).length c31,v11])::(b3,_)::(b2,_)::(ob1++ob11))) (I:=fun(p:Int×List SPoint) v11 ob11 H11=>(0≤p.1∧p.1≤x.points.length)∧HPob31.le H11∧OwnSl 3 SPoint.cells v11 p.2 ob11∧p.2.length=p.1∧PtAll H11 p.2∧p.2.map SPoint.bare=(x.points.take p.1.toNat).map SPoint.bare) (μ:=fun(p:Int×List SPoint)=>(x.points.length - p.1).toNat) ((0:Int),[]) (.slice none 0 0) [] HPob31 ky ⟨o2q,Hp.le.refl _,OwnSl.nil,rfl,(fun _ h=>by cases h),rfl⟩ (fun w hw=>by rw [List.append_nil];exact hw) (fun p v11 ob11 H11 hI=>?_)
  obtain⟨⟨k011,k111⟩,hle11,hO11,hPl11,hPA11,hPm11⟩:=hI
  obtain⟨k11,P11⟩:=p
  dsimp only at *
  obtain⟨va11,vc11,rfl⟩:=hO11.form
  replace hle1:=hle1.trans hle11
  replace hxP:=hxP.le hle11
  replace hPA1:=hPA1.le hle11
  replace hRr:=hRr.le hle11
  refine zm7 ?_
  refine ag rfl ?_ ?_<;>intro c39
  ·
   obtain⟨y,hk11⟩:=ao (l:=x.points) k011 c39
   have hyO:=hxP.ps y (List.mem_of_getElem? hk11)
   have hyz:=hxz.2.2 y (List.mem_of_getElem? hk11)
   refine dz ?_;refine TL.run (ae rfl hxP.pt rfl om om) rfl (TL.run (bg hxP.pt hk11 rfl rfl) rfl (TL.alloc rfl (fun b8=>?_)))
   refine qY ?_
   refine da (ab rfl rfl rfl rfl) (BO hyO.a om) rfl (fun v44 H44 ob44 hle44 hp44=>?_)
   obtain⟨eH44,hO44⟩:=hp44
   subst H44
   obtain⟨a44,c44,rfl⟩:=hO44.form
   refine TL.pubO hO44 (.s4 (.past _ .all)) sq (fun HP44 leP44 hR44=>?_)
   refine aM (L':=(b8,_)::((b5,_)::((b3,_)::((b2,_)::(ob1++(ob11)))))) (fE [(b8,_),(b5,_),(b3,_),(b2,_)] (A:=ob1++ob11)) ?_
   replace hle11:=hle11.trans leP44
   replace hPA11:=hPA11.le leP44
   replace hyO:=hyO.le leP44
   refine qo ?_;refine qF ?_;refine fo ?_
   refine aD rfl rfl rfl rfl (fun b49=>?_)
   refine TL.append (enc:=SPoint.cells) rfl rfl rfl hO11 (Src.own [⟨y.frm,y.to,y.arms,(a44,c44)⟩] (.here _) rfl rfl) (by simp;omega) rfl (.s5 (.past ob1 .all)) rfl (fun a50 c50 ob50 hO50=>?_)
   refine xk ?_;refine qr ?_
   exact aH (i:=(k11,P11)) (k11+1,P11++[⟨y.frm,y.to,y.arms,(a44,c44)⟩]) _ ob50 HP44 ⟨o2q,hle11,hO50,by simp only [List.length_append,List.length_cons,List.length_nil];omega,gV hPA11 ⟨hR44,hyO.z⟩,jf k011 hk11 hPm11 rfl⟩ ky (fun w hw=>hw.drop.drop) om
  refine ir ?_;refine TC.region ?_
  have hQe:=hPm11
  rw [bC c39 k011] at hQe
  have hQl:P11.length=x.points.length:=by have:=congrArg List.length hQe;simpa using this
  refine TL.pubO hO11 (.s3 (.past ob1 .all)) sq (fun HPob11 lePob11 hRp=>?_)
  replace hle1:=hle1.trans lePob11
  replace hPA1:=hPA1.le lePob11
  replace hRr:=hRr.le lePob11
  replace hPA11:=hPA11.le lePob11
  refine aM (L':=(b5,_)::((b3,_)::((b2,_)::(ob1)))) (fE [(b5,_),(b3,_),(b2,_)] (A:=ob1)) (iN ?_);refine fo ?_
  refine aD rfl rfl rfl rfl (fun b56=>?_)
  refine TL.append (enc:=SProto.cells) rfl rfl rfl hO1 (Src.own [⟨x.name,x.roles,(a31,c31),P11,(va11,vc11)⟩] (.here _) rfl rfl) (by simp;omega) rfl (.s3 (.skip _ .all)) rfl (fun a57 c57 ob57 hO57=>?_)
  refine xk ?_;refine qr ?_
  exact aH (i:=(k1,P1)) (k1+1,P1++[(⟨x.name,x.roles,(a31,c31),P11,(va11,vc11)⟩:SProto)]) _ ob57 HPob11 ⟨o2q,hle1,hO57,by simp only [List.length_append,List.length_cons,List.length_nil];omega,gV hPA1 ⟨hRr,hRp,hPA11⟩,jf k01 hk1 hPm1 (by unfold SProto.bare;simp only [hQe])⟩ ky (fun w hw=>hw.drop.drop) om
 refine gh ?_;refine zm2 ?_
 have hE1:=hPm1
 rw [bC c25 k01] at hE1
 refine TL.pubO hO1 (.skip _ (.skip _ .all)) sq (fun HPob1 lePob1 hRP=>?_)
 replace hP:=hP.le lePob1
 replace hb:=hb.le lePob1
 replace hPA1:=hPA1.le lePob1
 refine aM (L':=(b3,_)::((b2,_)::[])) (List.Perm.refl _) (zm6 ?_);refine TL.run (bI rfl (hb 1 _ rfl)) rfl (TL.run (ah rfl rfl hP.l) rfl (zm8 ?_))
 refine aW (V:=fun(p:Int×List SLocal) v2 ob2 H2=>[(63,.int .i64 p.1)]) (K:=[(1,_),(2,_),(3,_),(61,_),(62,_)]) (L:=fun(p:Int×List SLocal) v2 ob2 H2=>St [] w0 H H2 ((b3,[.slice va1 P1.length vc1,v2,.slice none 0 0])::(b2,[.slice none 0 0,.slice none 0 0,.slice none 0 0])::ob2)) (I:=fun(p:Int×List SLocal) v2 ob2 H2=>(0≤p.1∧p.1≤pg.locals.length)∧HPob1.le H2∧OwnSl 2 SLocal.cells v2 p.2 ob2∧p.2.length=p.1∧LoAll H2 p.2∧p.2.map SLocal.bare=(pg.locals.take p.1.toNat).map SLocal.bare) (μ:=fun(p:Int×List SLocal)=>(pg.locals.length - p.1).toNat) ((0:Int),[]) (.slice none 0 0) [] HPob1 ky ⟨o2q,Hp.le.refl _,OwnSl.nil,rfl,(fun _ h=>by cases h),rfl⟩ (fun w hw=>hw) (fun p v2 ob2 H2 hI=>?_)
 obtain⟨⟨k02,k12⟩,hle2,hO2,hPl2,hPA2,hPm2⟩:=hI
 obtain⟨k2,P2⟩:=p
 dsimp only at *
 obtain⟨va2,vc2,rfl⟩:=hO2.form
 replace hP:=hP.le hle2
 replace hb:=hb.le hle2
 replace hPA1:=hPA1.le hle2
 replace hRP:=hRP.le hle2
 refine zm7 ?_
 refine ag rfl ?_ ?_<;>intro c64
 ·
  obtain⟨x,hk2⟩:=ao (l:=pg.locals) k02 c64
  have hxL:=hP.ls x (List.mem_of_getElem? hk2)
  have hxz:=ze (hck.l.2 x (List.mem_of_getElem? hk2)).1
  refine dz ?_;refine TL.run (ae rfl hP.l rfl om om) rfl (TL.run (bg hP.l hk2 rfl rfl) rfl (TL.alloc rfl (fun b10=>?_)))
  refine oP ?_;refine gW ?_;refine li ?_;refine TL.nil (af (jR ?_));refine TL.run (ah rfl rfl hxL.t) rfl (zm8 ?_)
  refine aW (V:=fun(p:Int×List STurn) v12 ob12 H12=>[(72,.int .i64 p.1)]) (K:=[(1,_),(2,_),(3,_),(10,_),(11,_),(61,_),(62,_),(63,_),(64,_),(65,_),(66,_),(67,_),(68,_),(69,_),(70,_),(71,_)]) (L:=fun(p:Int×List STurn) v12 ob12 H12=>St [] w0 H H12 ((b10,[gs x.name,v12])::(b3,_)::(b2,_)::(ob2++ob12))) (I:=fun(p:Int×List STurn) v12 ob12 H12=>(0≤p.1∧p.1≤x.turns.length)∧H2.le H12∧OwnSl 3 STurn.cells v12 p.2 ob12∧p.2.length=p.1∧TuAll H12 p.2∧p.2.map SArms.bare=(x.turns.take p.1.toNat).map SArms.bare) (μ:=fun(p:Int×List STurn)=>(x.turns.length - p.1).toNat) ((0:Int),[]) (.slice none 0 0) [] H2 ky ⟨o2q,Hp.le.refl _,OwnSl.nil,rfl,(fun _ h=>by cases h),rfl⟩ (fun w hw=>by rw [List.append_nil];exact hw) (fun p v12 ob12 H12 hI=>?_)
  obtain⟨⟨k012,k112⟩,hle12,hO12,hPl12,hPA12,hPm12⟩:=hI
  obtain⟨k12,P12⟩:=p
  dsimp only at *
  obtain⟨va12,vc12,rfl⟩:=hO12.form
  replace hle2:=hle2.trans hle12
  replace hxL:=hxL.le hle12
  replace hPA2:=hPA2.le hle12
  refine zm7 ?_
  refine ag rfl ?_ ?_<;>intro c73
  ·
   obtain⟨y,hk12⟩:=ao (l:=x.turns) k012 c73
   have hyO:=hxL.ts y (List.mem_of_getElem? hk12)
   have hyz:=hxz.2 y (List.mem_of_getElem? hk12)
   refine dz ?_;refine TL.run (ae rfl hxL.t rfl om om) rfl (TL.run (bg hxL.t hk12 rfl rfl) rfl (TL.alloc rfl (fun b13=>?_)))
   refine qY ?_
   refine da (ab rfl rfl rfl rfl) (BO hyO.a om) rfl (fun v78 H78 ob78 hle78 hp78=>?_)
   obtain⟨eH78,hO78⟩:=hp78
   subst H78
   obtain⟨a78,c78,rfl⟩:=hO78.form
   refine TL.pubO hO78 (.s4 (.past _ .all)) sq (fun HP78 leP78 hR78=>?_)
   refine aM (L':=(b13,_)::((b10,_)::((b3,_)::((b2,_)::(ob2++(ob12)))))) (fE [(b13,_),(b10,_),(b3,_),(b2,_)] (A:=ob2++ob12)) ?_
   replace hle12:=hle12.trans leP78
   replace hPA12:=hPA12.le leP78
   replace hyO:=hyO.le leP78
   refine qo ?_;refine qF ?_;refine fo ?_
   refine aD rfl rfl rfl rfl (fun b83=>?_)
   refine TL.append (enc:=STurn.cells) rfl rfl rfl hO12 (Src.own [⟨y.kind,y.peer,y.arms,(a78,c78)⟩] (.here _) rfl rfl) (by simp;omega) rfl (.s5 (.past ob2 .all)) rfl (fun a84 c84 ob84 hO84=>?_)
   refine xk ?_;refine qr ?_
   exact aH (i:=(k12,P12)) (k12+1,P12++[⟨y.kind,y.peer,y.arms,(a78,c78)⟩]) _ ob84 HP78 ⟨o2q,hle12,hO84,by simp only [List.length_append,List.length_cons,List.length_nil];omega,gV hPA12 ⟨hR78,hyO.z⟩,jf k012 hk12 hPm12 rfl⟩ ky (fun w hw=>hw.drop.drop) om
  refine ir ?_;refine TC.region ?_
  have hQe:=hPm12
  rw [bC c73 k012] at hQe
  have hQl:P12.length=x.turns.length:=by have:=congrArg List.length hQe;simpa using this
  refine TL.pubO hO12 (.s3 (.past ob2 .all)) sq (fun HPob12 lePob12 hRp=>?_)
  replace hle2:=hle2.trans lePob12
  replace hPA2:=hPA2.le lePob12
  replace hPA12:=hPA12.le lePob12
  refine aM (L':=(b10,_)::((b3,_)::((b2,_)::(ob2)))) (fE [(b10,_),(b3,_),(b2,_)] (A:=ob2)) (iN ?_);refine fo ?_
  refine aD rfl rfl rfl rfl (fun b90=>?_)
  refine TL.append (enc:=SLocal.cells) rfl rfl rfl hO2 (Src.own [⟨x.name,P12,(va12,vc12)⟩] (.here _) rfl rfl) (by simp;omega) rfl (.s3 (.skip _ .all)) rfl (fun a91 c91 ob91 hO91=>?_)
  refine xk ?_;refine qr ?_
  exact aH (i:=(k2,P2)) (k2+1,P2++[(⟨x.name,P12,(va12,vc12)⟩:SLocal)]) _ ob91 HPob12 ⟨o2q,hle2,hO91,by simp only [List.length_append,List.length_cons,List.length_nil];omega,gV hPA2 ⟨hRp,hPA12⟩,jf k02 hk2 hPm2 (by unfold SLocal.bare;simp only [hQe])⟩ ky (fun w hw=>hw.drop.drop) om
 refine gh ?_;refine zm2 ?_
 have hE2:=hPm2
 rw [bC c64 k02] at hE2
 refine TL.pubO hO2 (.skip _ (.skip _ .all)) sq (fun HPob2 lePob2 hRL=>?_)
 replace hP:=hP.le lePob2
 replace hb:=hb.le lePob2
 replace hPA1:=hPA1.le lePob2
 replace hRP:=hRP.le lePob2
 replace hPA2:=hPA2.le lePob2
 refine aM (L':=(b3,_)::((b2,_)::[])) (List.Perm.refl _) (zm6 ?_);refine TL.run (bI rfl (hb 2 _ rfl)) rfl (TL.run (ah rfl rfl hP.q) rfl (zm8 ?_))
 refine aW (V:=fun(p:Int×List SProc) v3 ob3 H3=>[(97,.int .i64 p.1)]) (K:=[(2,_),(3,_),(95,_),(96,_)]) (L:=fun(p:Int×List SProc) v3 ob3 H3=>St [] w0 H H3 ((b3,[.slice va1 P1.length vc1,.slice va2 P2.length vc2,v3])::(b2,[.slice none 0 0,.slice none 0 0,.slice none 0 0])::ob3)) (I:=fun(p:Int×List SProc) v3 ob3 H3=>(0≤p.1∧p.1≤pg.procs.length)∧HPob2.le H3∧OwnSl 4 SProc.cells v3 p.2 ob3∧p.2.length=p.1∧PcAll H3 p.2∧p.2.map SProc.bare=(pg.procs.take p.1.toNat).map iG) (μ:=fun(p:Int×List SProc)=>(pg.procs.length - p.1).toNat) ((0:Int),[]) (.slice none 0 0) [] HPob2 ky ⟨o2q,Hp.le.refl _,OwnSl.nil,rfl,(fun _ h=>by cases h),rfl⟩ (fun w hw=>hw) (fun p v3 ob3 H3 hI=>?_)
 obtain⟨⟨k03,k13⟩,hle3,hO3,hPl3,hPA3,hPm3⟩:=hI
 obtain⟨k3,P3⟩:=p
 dsimp only at *
 obtain⟨va3,vc3,rfl⟩:=hO3.form
 replace hP:=hP.le hle3
 replace hPA1:=hPA1.le hle3
 replace hRP:=hRP.le hle3
 replace hPA2:=hPA2.le hle3
 replace hRL:=hRL.le hle3
 refine zm7 ?_
 refine ag rfl ?_ ?_<;>intro c98
 ·
  obtain⟨q,hk3⟩:=ao (l:=pg.procs) k03 c98
  have hqO:=hP.qs q (List.mem_of_getElem? hk3)
  have hxR:=hck.q.2 q (List.mem_of_getElem? hk3)
  refine dz ?_;refine TL.run (ae rfl hP.q rfl om om) rfl (TL.run (bg hP.q hk3 rfl rfl) rfl (TL.alloc rfl (fun b15=>?_)))
  refine fb ?_;refine eH ?_
  refine TD.part 1 3 rfl rfl rfl ?_ ?_
  ·
   refine TD.leaf [(0,1),(1,2),(2,2),(3,0),(4,3),(5,0),(6,1),(7,0)] kr kr (qn ?_);refine tR ?_
   refine TL.call (ab rfl rfl rfl rfl) (vg hqO hxR) rfl (fun v104 H104 hle104 hp104=>?_)
   obtain⟨q104,rfl,hq104,hb104⟩:=hp104
   replace hle3:=hle3.trans hle104
   replace hPA3:=hPA3.le hle104
   refine bj (aF rfl rfl rfl rfl (fun b105=>?_))
   refine bf (TL.append (enc:=SProc.cells) rfl rfl rfl hO3 (Src.own [q104] (.here _) rfl rfl) (by simp;omega) rfl (.s3 (.skip _ .all)) rfl (fun a106 c106 ob106 hO106=>?_))
   refine bj (Bd ?_);refine mc ?_
   exact aH (i:=(k3,P3)) (k3+1,P3++[q104]) _ ob106 H104 ⟨o2q,hle3,hO106,by simp only [List.length_append,List.length_cons,List.length_nil];omega,gV hPA3 hq104,jf k03 hk3 hPm3 hb104⟩ ky (fun w hw=>hw.drop.drop) om
  refine TD.leaf [(0,1),(2,2),(3,0),(1,2),(4,3),(5,0),(6,1),(7,0)] kr kr (zm4 ?_);refine tR ?_
  refine TL.call (ab rfl rfl rfl rfl) (vg hqO hxR) rfl (fun v104 H104 hle104 hp104=>?_)
  obtain⟨q104,rfl,hq104,hb104⟩:=hp104
  replace hle3:=hle3.trans hle104
  replace hPA3:=hPA3.le hle104
  refine bj (aK (aB rfl (.h1) rfl) rfl (aF rfl rfl rfl rfl (fun b105=>?_)))
  refine bf (TL.append (enc:=SProc.cells) rfl rfl rfl hO3 (Src.own [q104] (.here _) rfl rfl) (by simp;omega) rfl (.s3 (.skip _ .all)) rfl (fun a106 c106 ob106 hO106=>?_))
  refine bj (Bd ?_);refine mc ?_
  exact aH (i:=(k3,P3)) (k3+1,P3++[q104]) _ ob106 H104 ⟨o2q,hle3,hO106,by simp only [List.length_append,List.length_cons,List.length_nil];omega,gV hPA3 hq104,jf k03 hk3 hPm3 hb104⟩ ky (fun w hw=>hw.drop.drop) om
 refine qE ?_
 have hE3:=hPm3
 rw [bC c98 k03] at hE3
 refine TL.pubO hO3 (.skip _ (.skip _ .all)) sq (fun HPob3 lePob3 hRQ=>?_)
 replace hPA1:=hPA1.le lePob3
 replace hRP:=hRP.le lePob3
 replace hPA2:=hPA2.le lePob3
 replace hRL:=hRL.le lePob3
 replace hPA3:=hPA3.le lePob3
 refine aM (L':=(b3,_)::((b2,_)::[])) (List.Perm.refl _) (fo ?_);refine mb ?_
 exact aR (.inr rfl) (ad rfl (RVal.cellA rfl (.h1) rfl)) ⟨⟨P1,(va1,vc1),P2,(va2,vc2),P3,(va3,vc3)⟩,rfl,⟨hRP,hPA1,hRL,hPA2,hRQ,hPA3⟩,by rw [vd c19];unfold SProg.bare;simp only [hE1,hE2,hE3]⟩
end Go.Sx
namespace Go.Sx
open Go Go.Proofs
theorem pT {H:Hp}:
  Fn Tryz.prog 25 [] H (fun v H2=>∃sp qp,v= .agg (lx sp qp).cells.toArray∧ProgOk H2 (lx sp qp)):=by
 refine Fn.enter Tryz.func25 Tryz.ntmps25 rfl rfl (fun w0=>?_)
 refine zm2 ?_
 refine TL.alloc rfl (fun b0=>?_)
 refine gF ?_;refine dw ?_
 refine aD rfl rfl rfl rfl (fun b2=>?_)
 refine dw ?_
 refine aD rfl rfl rfl rfl (fun b4=>?_)
 refine dw ?_;refine cH rfl rfl rfl rfl rfl (.h2) rfl rfl (TL.nil (gt (.h1) (TX.pub sq (fun H_b2 le_b2 rd_b2=>?_))))
 have hS:RdSl H_b2 10 SStep.cells _ ([CK]):=RdSl.blk (cap:=1) rd_b2 (by intro x hx;rfl) kr (by show 1≤9223372036854775807;decide)
 refine TX.pub sq (fun H_b4 le_b4 rd_b4=>?_)
 replace hS:=hS.le le_b4
 have hQ:RdSl H_b4 4 SProc.cells _ ([⟨cy,[],nS,[],nS,[CK],(some ⟨b2,0,none⟩,1)⟩]):=RdSl.blk (cap:=1) rd_b4 (by intro x hx;rfl) kr (by show 1≤9223372036854775807;decide)
 exact af (TC.ret (aR (.inr rfl) (ad rfl (RVal.cellA rfl (.here _) rfl)) ⟨(some ⟨b2,0,none⟩,1),(some ⟨b4,0,none⟩,1),rfl,B5 hS hQ⟩))
theorem CP {H:Hp}(hM:MaxG H):Fn Tryz.prog 13 [.agg #[.slice none 0 0,.slice none 0 0,.slice none 0 0]] H (fun v H2=>v= .agg (SFault.cells ⟨1504, -1, -1⟩).toArray):=by
 have:=eP (EI H) hM
 rw [Cp] at this
 exact this
theorem Aw {H:Hp}(hM:MaxG H):
  Fn Tryz.prog 9 [] H (fun v H2=>v= .bool true):=by
 refine Fn.enter Tryz.func9 Tryz.ntmps9 rfl rfl (fun w0=>?_)
 refine ye ?_
 refine TL.call (ab rfl rfl rfl rfl) (pT) rfl (fun v1 H1 hle1 hp1=>?_)
 obtain⟨sp1,qp1,rfl,hP1⟩:=hp1
 replace hM:=hM.le hle1
 refine TL.call (ab rfl rfl rfl rfl) (eP hP1 hM) rfl (fun v2 H2 hle2 hp2=>?_)
 replace hM:=hM.le hle2
 rw [rC] at hp2
 subst hp2
 refine dw ?_;refine TL.run (Ez (r:=true) rfl rfl kr kr kr) rfl (zm0 ?_)
 refine ai (s:=5) rfl ?_ ?_<;>intro g5
 ·
  refine aC rfl rfl (mO rfl rfl) rfl (dF rfl rfl (ab rfl rfl rfl rfl) (CP hM) rfl (fun v7 H7 hle7 hp7=>?_))
  replace hM:=hM.le hle7
  subst hp7
  refine aC rfl rfl (mO rfl rfl) rfl (aC rfl rfl (Ez (r:=true) rfl rfl kr kr kr) rfl (zm3 ?_))
  refine ai (s:=11) rfl ?_ ?_<;>intro g11
  ·
   refine dF rfl rfl (ab rfl rfl rfl rfl) (pT) rfl (fun v12 H12 hle12 hp12=>?_)
   obtain⟨sp12,qp12,rfl,hP12⟩:=hp12
   replace hM:=hM.le hle12
   refine aO rfl rfl (ab rfl rfl rfl rfl) (kf cy hP12) rfl (db ?_)
   refine ai (s:=16) rfl ?_ ?_<;>intro g16
   ·
    have q16:=of_decide_eq_true g16
    refine dF rfl rfl (ab rfl rfl rfl rfl) (pT) rfl (fun v17 H17 hle17 hp17=>?_)
    obtain⟨sp17,qp17,rfl,hP17⟩:=hp17
    replace hM:=hM.le hle17
    refine aO rfl rfl (ab rfl rfl rfl rfl) (kf [120] hP17) rfl (db ?_)
    refine ai (s:=21) rfl ?_ ?_<;>intro g21
    ·
     have q21:=of_decide_eq_true g21
     refine dF rfl rfl (ab rfl rfl rfl rfl) (pT) rfl (fun v22 H22 hle22 hp22=>?_)
     obtain⟨sp22,qp22,rfl,hP22⟩:=hp22
     replace hM:=hM.le hle22
     refine dF rfl rfl (ab rfl rfl rfl rfl) (gK hP22 hM) rfl (fun v23 H23 hle23 hp23=>?_)
     obtain⟨pg23,rfl,hP23,hB23⟩:=hp23
     have hN23:=B4 hB23
     refine aC rfl rfl (n7 (off:=2) rfl kr rfl) rfl (aC rfl rfl (ah rfl rfl hP23.q) rfl (cK ?_));refine fq ?_
     exact aR (.inr rfl) (ad rfl (RVal.tmp rfl)) (congrArg Value.bool (by first | rfl | (rw [hN23];rfl) | exact absurd (i7 _ _) q16 | exact absurd (mB _ _) q21 | exact absurd g11 dq | exact absurd g5 dq))
    have q21:=of_decide_eq_false g21
    refine pQ ?_;refine fq ?_
    exact aR (.inr rfl) (ad rfl (RVal.tmp rfl)) (congrArg Value.bool (by first | rfl | (rw [hN23];rfl) | exact absurd (i7 _ _) q16 | exact absurd (mB _ _) q21 | exact absurd g11 dq | exact absurd g5 dq))
   have q16:=of_decide_eq_false g16
   refine lo ?_;refine dh ?_;refine fq ?_
   exact aR (.inr rfl) (ad rfl (RVal.tmp rfl)) (congrArg Value.bool (by first | rfl | (rw [hN23];rfl) | exact absurd (i7 _ _) q16 | exact absurd (mB _ _) q21 | exact absurd g11 dq | exact absurd g5 dq))
  refine jr ?_;refine lo ?_;refine dh ?_;refine fq ?_
  exact aR (.inr rfl) (ad rfl (RVal.tmp rfl)) (congrArg Value.bool (by first | rfl | (rw [hN23];rfl) | exact absurd (i7 _ _) q16 | exact absurd (mB _ _) q21 | exact absurd g11 dq | exact absurd g5 dq))
 refine eg ?_;refine zm3 ?_;refine jr ?_;refine lo ?_;refine dh ?_;refine fq ?_
 exact aR (.inr rfl) (ad rfl (RVal.tmp rfl)) (congrArg Value.bool (by first | rfl | (rw [hN23];rfl) | exact absurd (i7 _ _) q16 | exact absurd (mB _ _) q21 | exact absurd g11 dq | exact absurd g5 dq))
end Go.Sx
namespace Go.Sx
open Go
theorem f8 {α β:Type}{f:α→β}{a b:List α}{k:Int}{x:α}(h:a.map f=b.map f)(hx:a[k.toNat]? =some x):∃y,b[k.toNat]? =some y∧f x=f y:=by
 have h1:(b.map f)[k.toNat]? =some (f x):=by rw [← h,List.getElem?_map,hx];rfl
 rw [List.getElem?_map] at h1
 cases hb:b[k.toNat]? with
 | none=>rw [hb] at h1;simp at h1
 | some y=>rw [hb] at h1;simp at h1;exact⟨y,rfl,h1.symm⟩
theorem fA {α β:Type}{f:α→β}{a b:List α}(h:a.map f=b.map f):(a.length:Int)=b.length:=by
 have:=congrArg List.length h;simp at this;omega
theorem cast_eq {x y:SCast}(h:x.bare=y.bare):x.role=y.role∧x.proc=y.proc∧x.args=y.args:=by
 unfold SCast.bare at h;simp at h;exact h
theorem step_eq {a b:SStep}(h:a.bare=b.bare):a.kind=b.kind∧a.name=b.name∧a.peer=b.peer∧a.label=b.label∧a.proc=b.proc∧a.term=b.term∧a.next=b.next∧a.args=b.args∧a.casts.map SCast.bare=b.casts.map SCast.bare∧a.ways=b.ways:=by
 unfold SStep.bare at h
 obtain⟨_,_,_,_,_,_,_,_,_,_,_,_,_⟩:=a
 obtain⟨_,_,_,_,_,_,_,_,_,_,_,_,_⟩:=b
 simp at h ⊢
 simp_all
theorem proc_eq {a b:SProc}(h:a.bare=b.bare):a.name=b.name∧a.params=b.params∧a.terms=b.terms∧a.steps.map SStep.bare=b.steps.map SStep.bare:=by
 unfold SProc.bare at h
 obtain⟨_,_,_,_,_,_,_⟩:=a
 obtain⟨_,_,_,_,_,_,_⟩:=b
 simp at h ⊢
 simp_all
theorem turn_eq {a b:STurn}(h:SArms.bare a=SArms.bare b):a.kind=b.kind∧a.peer=b.peer∧a.arms=b.arms:=by
 unfold SArms.bare at h
 obtain⟨_,_,_,_⟩:=a
 obtain⟨_,_,_,_⟩:=b
 simp at h ⊢
 simp_all
theorem ET {a b:SLocal}(h:a.bare=b.bare):a.name=b.name∧a.turns.map SArms.bare=b.turns.map SArms.bare:=by
 unfold SLocal.bare at h
 obtain⟨_,_,_⟩:=a
 obtain⟨_,_,_⟩:=b
 simp at h ⊢
 simp_all
theorem Cj {a b:SPoint}(h:a.bare=b.bare):a.frm=b.frm∧a.to=b.to∧a.arms=b.arms:=by
 unfold SPoint.bare at h
 obtain⟨_,_,_,_⟩:=a
 obtain⟨_,_,_,_⟩:=b
 simp at h ⊢
 simp_all
theorem Eu {a b:SProto}(h:a.bare=b.bare):a.name=b.name∧a.roles=b.roles∧a.points.map SPoint.bare=b.points.map SPoint.bare:=by
 unfold SProto.bare at h
 obtain⟨_,_,_,_,_⟩:=a
 obtain⟨_,_,_,_,_⟩:=b
 simp at h ⊢
 simp_all
end Go.Sx
namespace Go.Sx
open Go Go.Proofs
theorem eqTerm (t:Term):jj Tryz.prog 4 45 t.cells t.cells=some true:=by
 have h:jj Tryz.prog 4 45 t.cells t.cells=some ((t.kind==t.kind)&&(((ByteArray.mk t.name.toArray).toList==(ByteArray.mk t.name.toArray).toList)&&((t.n==t.n)&&(((ByteArray.mk t.text.toArray).toList==(ByteArray.mk t.text.toArray).toList)&&((t.l==t.l)&&((t.r==t.r)&&true)))))):=by kernel_rfl
 rw [h];simp
theorem eqWay (t:SWay):jj Tryz.prog 4 66 t.cells t.cells=some true:=by
 have h:jj Tryz.prog 4 66 t.cells t.cells=some (((ByteArray.mk t.label.toArray).toList==(ByteArray.mk t.label.toArray).toList)&&(((ByteArray.mk t.name.toArray).toList==(ByteArray.mk t.name.toArray).toList)&&((t.next==t.next)&&true))):=by kernel_rfl
 rw [h];simp
theorem eqArm (t:SArm):jj Tryz.prog 4 175 t.cells t.cells=some true:=by
 have h:jj Tryz.prog 4 175 t.cells t.cells=some (((ByteArray.mk t.label.toArray).toList==(ByteArray.mk t.label.toArray).toList)&&(((t.ck==t.ck)&&(((ByteArray.mk t.cn.toArray).toList==(ByteArray.mk t.cn.toArray).toList)&&true))&&((t.next==t.next)&&true))):=by kernel_rfl
 rw [h];simp
theorem eqParam (t:SParam):jj Tryz.prog 4 42 t.cells t.cells=some true:=by
 have h:jj Tryz.prog 4 42 t.cells t.cells=some (((ByteArray.mk t.name.toArray).toList==(ByteArray.mk t.name.toArray).toList)&&(((t.ck==t.ck)&&(((ByteArray.mk t.cn.toArray).toList==(ByteArray.mk t.cn.toArray).toList)&&true))&&true)):=by kernel_rfl
 rw [h];simp
theorem lA {H:Hp}{l:List Int}{va vb:Value}(ha:RdSl H 1 I64.cells va l)(hb:RdSl H 1 I64.cells vb l):
  FnS Tryz.prog 144 [va,vb] H (.bool true):=by
 have hma:=ha.max
 obtain⟨aa,ac,rfl⟩:=ha.len
 obtain⟨ba,bc,rfl⟩:=hb.len
 refine FnS.enter Tryz.func144 Tryz.ntmps144 rfl rfl (fun w0=>?_)
 refine oY ?_
 refine aX rfl ?_ ?_<;>intro c10
 · exact absurd rfl c10
 refine nC ?_
 refine TC.loop (V:=fun k=>[(5,.int .i64 k)]) (K:=[(0,_),(1,_),(4,_)]) (L:=fun k=>_) (I:=fun k=>0≤k∧k≤l.length) (μ:=fun k=>(l.length - k).toNat) (i:=(0:Int)) ky o2q (fun w hw=>hw) (fun k hI=>?_)
 refine oX ?_
 refine ag rfl ?_ ?_<;>intro c14
 ·
  obtain⟨x,hx⟩:=ao (l:=l) hI.1 c14
  refine oW ?_;refine TQ.run (aQ ha hx rfl rfl) rfl (oV ?_);refine TQ.run (aQ hb hx rfl rfl) rfl (lE ?_)
  refine aX rfl ?_ ?_<;>intro c25
  · exact absurd rfl c25
  exact f2
 refine gv ?_
 exact ax (.inr rfl) (ad rfl (RVal.tmp rfl)) rfl
theorem pS {H:Hp}{l:List Str}{va vb:Value}(ha:RdSl H 1 Str.cells va l)(hb:RdSl H 1 Str.cells vb l):
  FnS Tryz.prog 88 [va,vb] H (.bool true):=by
 have hma:=ha.max
 obtain⟨aa,ac,rfl⟩:=ha.len
 obtain⟨ba,bc,rfl⟩:=hb.len
 refine FnS.enter Tryz.func88 Tryz.ntmps88 rfl rfl (fun w0=>?_)
 refine oY ?_
 refine aX rfl ?_ ?_<;>intro c10
 · exact absurd rfl c10
 refine nC ?_
 refine TC.loop (V:=fun k=>[(5,.int .i64 k)]) (K:=[(0,_),(1,_),(4,_)]) (L:=fun k=>_) (I:=fun k=>0≤k∧k≤l.length) (μ:=fun k=>(l.length - k).toNat) (i:=(0:Int)) ky o2q (fun w hw=>hw) (fun k hI=>?_)
 refine oX ?_
 refine ag rfl ?_ ?_<;>intro c14
 ·
  obtain⟨x,hx⟩:=ao (l:=l) hI.1 c14
  refine oW ?_;refine TQ.run (aQ ha hx rfl rfl) rfl (oV ?_);refine TQ.run (aQ hb hx rfl rfl) rfl (TQ.run (bW rfl rfl rfl) rfl (TQ.nil (af ?_)))
  refine aX rfl ?_ ?_<;>intro c25
  · exact absurd rfl c25
  exact f2
 refine gv ?_
 exact ax (.inr rfl) (ad rfl (RVal.tmp rfl)) rfl
theorem ki {H:Hp}{l:List SArm}{va vb:Value}(ha:RdSl H 4 SArm.cells va l)(hb:RdSl H 4 SArm.cells vb l):
  FnS Tryz.prog 89 [va,vb] H (.bool true):=by
 have hma:=ha.max
 obtain⟨aa,ac,rfl⟩:=ha.len
 obtain⟨ba,bc,rfl⟩:=hb.len
 refine FnS.enter Tryz.func89 Tryz.ntmps89 rfl rfl (fun w0=>?_)
 refine oY ?_
 refine aX rfl ?_ ?_<;>intro c10
 · exact absurd rfl c10
 refine nC ?_
 refine TC.loop (V:=fun k=>[(5,.int .i64 k)]) (K:=[(0,_),(1,_),(4,_)]) (L:=fun k=>_) (I:=fun k=>0≤k∧k≤l.length) (μ:=fun k=>(l.length - k).toNat) (i:=(0:Int)) ky o2q (fun w hw=>hw) (fun k hI=>?_)
 refine oX ?_
 refine ag rfl ?_ ?_<;>intro c14
 ·
  obtain⟨x,hx⟩:=ao (l:=l) hI.1 c14
  refine oW ?_;refine TQ.run (bg ha hx rfl rfl) rfl (oV ?_);refine TQ.run (bg hb hx rfl rfl) rfl (TQ.run (rS (r:=true) rfl rfl kr kr (eqArm x)) rfl (TQ.nil (af ?_)))
  refine TC.cond rfl ?_ ?_<;>intro c25
  · exact absurd c25 dq
  exact f2
 refine gv ?_
 exact ax (.inr rfl) (ad rfl (RVal.tmp rfl)) rfl
theorem sF {H:Hp}{l:List Term}{va vb:Value}(ha:RdSl H 6 Term.cells va l)(hb:RdSl H 6 Term.cells vb l):
  FnS Tryz.prog 90 [va,vb] H (.bool true):=by
 have hma:=ha.max
 obtain⟨aa,ac,rfl⟩:=ha.len
 obtain⟨ba,bc,rfl⟩:=hb.len
 refine FnS.enter Tryz.func90 Tryz.ntmps90 rfl rfl (fun w0=>?_)
 refine oY ?_
 refine aX rfl ?_ ?_<;>intro c10
 · exact absurd rfl c10
 refine nC ?_
 refine TC.loop (V:=fun k=>[(5,.int .i64 k)]) (K:=[(0,_),(1,_),(4,_)]) (L:=fun k=>_) (I:=fun k=>0≤k∧k≤l.length) (μ:=fun k=>(l.length - k).toNat) (i:=(0:Int)) ky o2q (fun w hw=>hw) (fun k hI=>?_)
 refine oX ?_
 refine ag rfl ?_ ?_<;>intro c14
 ·
  obtain⟨x,hx⟩:=ao (l:=l) hI.1 c14
  refine oW ?_;refine TQ.run (bg ha hx rfl rfl) rfl (oV ?_);refine TQ.run (bg hb hx rfl rfl) rfl (TQ.run (rS (r:=true) rfl rfl kr kr (eqTerm x)) rfl (TQ.nil (af ?_)))
  refine TC.cond rfl ?_ ?_<;>intro c25
  · exact absurd c25 dq
  exact f2
 refine gv ?_
 exact ax (.inr rfl) (ad rfl (RVal.tmp rfl)) rfl
theorem tH {H:Hp}{l:List SWay}{va vb:Value}(ha:RdSl H 3 SWay.cells va l)(hb:RdSl H 3 SWay.cells vb l):
  FnS Tryz.prog 146 [va,vb] H (.bool true):=by
 have hma:=ha.max
 obtain⟨aa,ac,rfl⟩:=ha.len
 obtain⟨ba,bc,rfl⟩:=hb.len
 refine FnS.enter Tryz.func146 Tryz.ntmps146 rfl rfl (fun w0=>?_)
 refine oY ?_
 refine aX rfl ?_ ?_<;>intro c10
 · exact absurd rfl c10
 refine nC ?_
 refine TC.loop (V:=fun k=>[(5,.int .i64 k)]) (K:=[(0,_),(1,_),(4,_)]) (L:=fun k=>_) (I:=fun k=>0≤k∧k≤l.length) (μ:=fun k=>(l.length - k).toNat) (i:=(0:Int)) ky o2q (fun w hw=>hw) (fun k hI=>?_)
 refine oX ?_
 refine ag rfl ?_ ?_<;>intro c14
 ·
  obtain⟨x,hx⟩:=ao (l:=l) hI.1 c14
  refine oW ?_;refine TQ.run (bg ha hx rfl rfl) rfl (oV ?_);refine TQ.run (bg hb hx rfl rfl) rfl (TQ.run (rS (r:=true) rfl rfl kr kr (eqWay x)) rfl (TQ.nil (af ?_)))
  refine TC.cond rfl ?_ ?_<;>intro c25
  · exact absurd c25 dq
  exact f2
 refine gv ?_
 exact ax (.inr rfl) (ad rfl (RVal.tmp rfl)) rfl
theorem sE {H:Hp}{a b:List SCast}{va vb:Value}(ha:RdSl H 3 SCast.cells va a)(hb:RdSl H 3 SCast.cells vb b)(hA:CsAll H a)(hB:CsAll H b)(he:a.map SCast.bare=b.map SCast.bare):
  FnS Tryz.prog 145 [va,vb] H (.bool true):=by
 have hma:=ha.max
 have hel:=fA he
 obtain⟨aa,ac,rfl⟩:=ha.len
 obtain⟨ba,bc,rfl⟩:=hb.len
 refine FnS.enter Tryz.func145 Tryz.ntmps145 rfl rfl (fun w0=>?_)
 refine oY ?_
 refine aX rfl ?_ ?_<;>intro c10
 · exact absurd hel c10
 refine nC ?_
 refine TC.loop (V:=fun k=>[(5,.int .i64 k)]) (K:=[(0,_),(1,_),(4,_)]) (L:=fun k=>_) (I:=fun k=>0≤k∧k≤a.length) (μ:=fun k=>(a.length - k).toNat) (i:=(0:Int)) ky o2q (fun w hw=>hw) (fun k hI=>?_)
 refine oX ?_
 refine ag rfl ?_ ?_<;>intro c14
 ·
  obtain⟨x,hx⟩:=ao (l:=a) hI.1 c14
  obtain⟨y,hy,hxy⟩:=f8 he hx
  have hf:=cast_eq hxy
  have hlb:=iS hy
  have hax:=hA x (List.mem_of_getElem? hx)
  have hby:=(hB y (List.mem_of_getElem? hy)).cast hf.2.2.symm
  refine oW ?_;refine gE ?_;refine TQ.run (br ha hx rfl rfl) rfl (oV ?_);refine gE ?_
  refine TQ.run (br hb hy rfl rfl) rfl (TQ.run (bW rfl rfl rfl) rfl (TQ.run (aJ rfl) rfl (fT (s:=28) rfl (fun g28=>?_) (fun g28=>?_))))
  ·
   have q28:=aU g28
   exact absurd hf.1 q28
  have q28:=aP g28
  refine mf ?_;refine AS ?_;refine jp ?_;refine bA rfl rfl (br ha hx rfl rfl) rfl (mf ?_);refine AR ?_;refine jp ?_
  refine bA rfl rfl (br hb hy rfl rfl) rfl (bA rfl rfl (bW rfl rfl rfl) rfl (iZ ?_))
  refine fT (s:=41) rfl ?_ ?_<;>intro g41
  ·
   have q41:=aU g41
   exact absurd hf.2.1 q41
  have q41:=aP g41
  refine mf ?_;refine AS ?_;refine jp ?_;refine bA rfl rfl (br ha hx rfl rfl) rfl (mf ?_);refine AR ?_;refine jp ?_
  refine bA rfl rfl (br hb hy rfl rfl) rfl (kX rfl rfl (ab rfl rfl rfl rfl) (lA hax hby) rfl (xH ?_))
  refine TC.cond rfl ?_ ?_<;>intro c54
  · exact absurd c54 dq
  exact f2
 refine gv ?_
 exact ax (.inr rfl) (ad rfl (RVal.tmp rfl)) rfl
theorem pR {H:Hp}{a b:List STurn}{va vb:Value}(ha:RdSl H 3 STurn.cells va a)(hb:RdSl H 3 STurn.cells vb b)(hA:TuAll H a)(hB:TuAll H b)(he:a.map SArms.bare=b.map SArms.bare):
  FnS Tryz.prog 44 [va,vb] H (.bool true):=by
 have hma:=ha.max
 have hel:=fA he
 obtain⟨aa,ac,rfl⟩:=ha.len
 obtain⟨ba,bc,rfl⟩:=hb.len
 refine FnS.enter Tryz.func44 Tryz.ntmps44 rfl rfl (fun w0=>?_)
 refine oY ?_
 refine aX rfl ?_ ?_<;>intro c10
 · exact absurd hel c10
 refine nC ?_
 refine TC.loop (V:=fun k=>[(5,.int .i64 k)]) (K:=[(0,_),(1,_),(4,_)]) (L:=fun k=>_) (I:=fun k=>0≤k∧k≤a.length) (μ:=fun k=>(a.length - k).toNat) (i:=(0:Int)) ky o2q (fun w hw=>hw) (fun k hI=>?_)
 refine oX ?_
 refine ag rfl ?_ ?_<;>intro c14
 ·
  obtain⟨x,hx⟩:=ao (l:=a) hI.1 c14
  obtain⟨y,hy,hxy⟩:=f8 he hx
  have hf:=turn_eq hxy
  have hlb:=iS hy
  have hax:=(hA x (List.mem_of_getElem? hx)).a
  have hby:=((hB y (List.mem_of_getElem? hy)).a).cast hf.2.2.symm
  refine oW ?_;refine gE ?_;refine TQ.run (br ha hx rfl rfl) rfl (oV ?_);refine gE ?_;refine TQ.run (br hb hy rfl rfl) rfl (iZ ?_)
  refine fT (s:=28) rfl ?_ ?_<;>intro g28
  ·
   have q28:=aU g28
   exact absurd hf.1 q28
  have q28:=aP g28
  refine mf ?_;refine AS ?_;refine jp ?_;refine bA rfl rfl (br ha hx rfl rfl) rfl (mf ?_);refine AR ?_;refine jp ?_
  refine bA rfl rfl (br hb hy rfl rfl) rfl (bA rfl rfl (bW rfl rfl rfl) rfl (iZ ?_))
  refine fT (s:=41) rfl ?_ ?_<;>intro g41
  ·
   have q41:=aU g41
   exact absurd hf.2.1 q41
  have q41:=aP g41
  refine mf ?_;refine AS ?_;refine jp ?_;refine bA rfl rfl (br ha hx rfl rfl) rfl (mf ?_);refine AR ?_;refine jp ?_
  refine bA rfl rfl (br hb hy rfl rfl) rfl (kX rfl rfl (ab rfl rfl rfl rfl) (ki hax hby) rfl (xH ?_))
  refine TC.cond rfl ?_ ?_<;>intro c54
  · exact absurd c54 dq
  exact f2
 refine gv ?_
 exact ax (.inr rfl) (ad rfl (RVal.tmp rfl)) rfl
end Go.Sx
namespace Go.Sx
open Go Go.Proofs
theorem tI {H:Hp}{a b:SStep}(hA:StepOk H a)(hB:StepOk H b)(he:a.bare=b.bare):
  FnS Tryz.prog 91 [.agg a.cells.toArray,.agg b.cells.toArray] H (.bool true):=by
 have hf:=step_eq he
 refine FnS.enter Tryz.func91 Tryz.ntmps91 rfl rfl (fun w0=>?_)
 refine zm2 ?_
 refine TL.box rfl rfl (fun b2=>?_)
 refine TL.box rfl rfl (fun b3=>?_)
 refine zm1 ?_;refine gX ?_;refine fV ?_;refine zm3 ?_
 refine ai (s:=10) rfl ?_ ?_<;>intro g10
 ·
  have q10:=of_decide_eq_true g10
  refine fM ?_;refine qu ?_
  refine ai (s:=17) rfl ?_ ?_<;>intro g17
  ·
   have q17:=of_decide_eq_true g17
   refine fM ?_;refine qu ?_
   refine ai (s:=24) rfl ?_ ?_<;>intro g24
   ·
    have q24:=of_decide_eq_true g24
    refine fM ?_;refine qu ?_
    refine ai (s:=31) rfl ?_ ?_<;>intro g31
    ·
     have q31:=of_decide_eq_true g31
     refine fM ?_;refine qu ?_
     refine ai (s:=38) rfl ?_ ?_<;>intro g38
     ·
      have q38:=of_decide_eq_true g38
      refine lu ?_;refine db ?_
      refine ai (s:=45) rfl ?_ ?_<;>intro g45
      ·
       have q45:=of_decide_eq_true g45
       refine lu ?_;refine db ?_
       refine ai (s:=52) rfl ?_ ?_<;>intro g52
       ·
        have q52:=of_decide_eq_true g52
        refine lu ?_;refine aO rfl rfl (ab rfl rfl rfl rfl) (lA hA.a (hB.a.cast hf.2.2.2.2.2.2.2.1.symm)) rfl (zm3 ?_)
        refine ai (s:=59) rfl ?_ ?_<;>intro g59
        ·
         refine lu ?_;refine aO rfl rfl (ab rfl rfl rfl rfl) (sE hA.c hB.c hA.cs hB.cs hf.2.2.2.2.2.2.2.2.1) rfl (zm3 ?_)
         refine ai (s:=66) rfl ?_ ?_<;>intro g66
         ·
          refine lu ?_;refine aO rfl rfl (ab rfl rfl rfl rfl) (tH hA.w (hB.w.cast hf.2.2.2.2.2.2.2.2.2.symm)) rfl (fq ?_)
          exact ax (.inr rfl) (ad rfl (RVal.tmp rfl)) rfl
         exact absurd g66 dq
        exact absurd g59 dq
       have q52:=of_decide_eq_false g52
       exact absurd hf.2.2.2.2.2.2.1 q52
      have q45:=of_decide_eq_false g45
      exact absurd hf.2.2.2.2.2.1 q45
     have q38:=of_decide_eq_false g38
     exact absurd hf.2.2.2.2.1 q38
    have q31:=of_decide_eq_false g31
    exact absurd hf.2.2.2.1 q31
   have q24:=of_decide_eq_false g24
   exact absurd hf.2.2.1 q24
  have q17:=of_decide_eq_false g17
  exact absurd hf.2.1 q17
 have q10:=of_decide_eq_false g10
 exact absurd hf.1 q10
theorem tJ {H:Hp}{a b:SProc}(hA:ProcOk H a)(hB:ProcOk H b)(he:a.bare=b.bare):
  FnS Tryz.prog 45 [.agg a.cells.toArray,.agg b.cells.toArray] H (.bool true):=by
 have hf:=proc_eq he
 have hel:=fA hf.2.2.2
 have hepl:(a.params.length:Int)=b.params.length:=by rw [hf.2.1]
 have hm1:=hA.pa.max
 have hm2:=hA.s.max
 refine FnS.enter Tryz.func45 Tryz.ntmps45 rfl rfl (fun w0=>?_)
 refine zm2 ?_
 refine TL.box rfl rfl (fun b2=>?_)
 refine TL.box rfl rfl (fun b3=>?_)
 refine qU ?_;refine fV ?_;refine ma ?_
 refine ai (s:=12) rfl ?_ ?_<;>intro g12
 ·
  have q12:=aU g12
  exact absurd hf.1 q12
 have q12:=aP g12
 refine fM ?_;refine aC rfl rfl (ah rfl rfl hA.pa) rfl (zm9 ?_);refine aC rfl rfl (ah rfl rfl hB.pa) rfl (db ?_)
 refine ai (s:=21) rfl ?_ ?_<;>intro g21
 ·
  have q21:=aU g21
  exact absurd hepl q21
 have q21:=aP g21
 refine fM ?_;refine aC rfl rfl (ah rfl rfl hA.s) rfl (zm9 ?_);refine aC rfl rfl (ah rfl rfl hB.s) rfl (db ?_)
 refine ai (s:=30) rfl ?_ ?_<;>intro g30
 ·
  have q30:=aU g30
  exact absurd hel q30
 have q30:=aP g30
 refine lu ?_;refine aO rfl rfl (ab rfl rfl rfl rfl) (sF hA.t (hB.t.cast hf.2.2.1.symm)) rfl (gi ?_)
 refine TC.cond rfl ?_ ?_<;>intro c37
 · exact absurd c37 dq
 refine nC ?_
 refine TC.loop (V:=fun k=>[(5,.int .i64 k)]) (K:=[(2,_),(3,_),(4,_)]) (L:=fun k=>_) (I:=fun k=>0≤k∧k≤a.params.length) (μ:=fun k=>(a.params.length - k).toNat) (i:=(0:Int)) ky o2q (fun w hw=>hw) (fun k hI=>?_)
 refine oU ?_;refine TL.run (ah rfl rfl hA.pa) rfl (zm1 ?_)
 refine ag rfl ?_ ?_<;>intro c42
 ·
  obtain⟨x,hx⟩:=ao (l:=a.params) hI.1 c42
  have hy:b.params[k.toNat]? =some x:=hf.2.1▸hx
  refine tQ ?_;refine TQ.run (ae rfl hA.pa rfl om om) rfl (TQ.run (bg hA.pa hx rfl rfl) rfl (o4 ?_))
  refine TQ.run (ae rfl hB.pa rfl om om) rfl (TQ.run (bg hB.pa hy rfl rfl) rfl (TQ.run (rS (r:=true) rfl rfl kr kr (eqParam x)) rfl (TQ.nil ?_)))
  refine af (TC.cond rfl (fun c55=>?_) (fun c55=>?_))
  · exact absurd c55 dq
  exact f2
 refine xL ?_
 refine TC.loop (V:=fun k=>[(6,.int .i64 k)]) (K:=[(2,_),(3,_),(4,_)]) (L:=fun k=>_) (I:=fun k=>0≤k∧k≤a.steps.length) (μ:=fun k=>(a.steps.length - k).toNat) (i:=(0:Int)) ky o2q (fun w hw=>hw) (fun k hI=>?_)
 refine oU ?_;refine TL.run (ah rfl rfl hA.s) rfl (zm1 ?_)
 refine ag rfl ?_ ?_<;>intro c60
 ·
  obtain⟨x,hx⟩:=ao (l:=a.steps) hI.1 c60
  obtain⟨y,hy,hxy⟩:=f8 hf.2.2.2 hx
  refine tQ ?_;refine TQ.run (ae rfl hA.s rfl om om) rfl (TQ.run (bg hA.s hx rfl rfl) rfl (o4 ?_))
  refine TQ.run (ae rfl hB.s rfl om om) rfl (TQ.run (bg hB.s hy rfl rfl) rfl (ip (ab rfl rfl rfl rfl) (tI (hA.ss x (List.mem_of_getElem? hx)) (hB.ss y (List.mem_of_getElem? hy)) hxy) rfl (lE ?_)))
  refine TC.cond rfl ?_ ?_<;>intro c74
  · exact absurd c74 dq
  exact f2
 refine gv ?_
 exact ax (.inr rfl) (ad rfl (RVal.tmp rfl)) rfl
theorem sG {H:Hp}{a b:SProto}(hA:ProtoOk H a)(hB:ProtoOk H b)(he:a.bare=b.bare):
  FnS Tryz.prog 43 [.agg a.cells.toArray,.agg b.cells.toArray] H (.bool true):=by
 have hf:=Eu he
 have hel:=fA hf.2.2
 have hm1:=hA.pt.max
 refine FnS.enter Tryz.func43 Tryz.ntmps43 rfl rfl (fun w0=>?_)
 refine zm2 ?_
 refine TL.box rfl rfl (fun b2=>?_)
 refine TL.box rfl rfl (fun b3=>?_)
 refine qU ?_;refine fV ?_;refine ma ?_
 refine ai (s:=11) rfl ?_ ?_<;>intro g11
 ·
  have q11:=aU g11
  exact absurd hf.1 q11
 have q11:=aP g11
 refine lu ?_;refine aO rfl rfl (ab rfl rfl rfl rfl) (pS hA.r (hB.r.cast hf.2.1.symm)) rfl (db ?_)
 refine ai (s:=19) rfl ?_ ?_<;>intro g19
 · exact absurd g19 dq
 refine fM ?_;refine aC rfl rfl (ah rfl rfl hA.pt) rfl (zm9 ?_);refine aC rfl rfl (ah rfl rfl hB.pt) rfl (gi ?_)
 refine aX rfl ?_ ?_<;>intro c27
 · exact absurd hel c27
 refine nC ?_
 refine TC.loop (V:=fun k=>[(5,.int .i64 k)]) (K:=[(2,_),(3,_),(4,_)]) (L:=fun k=>_) (I:=fun k=>0≤k∧k≤a.points.length) (μ:=fun k=>(a.points.length - k).toNat) (i:=(0:Int)) ky o2q (fun w hw=>hw) (fun k hI=>?_)
 refine oU ?_;refine TL.run (ah rfl rfl hA.pt) rfl (zm1 ?_)
 refine ag rfl ?_ ?_<;>intro c32
 ·
  obtain⟨x,hx⟩:=ao (l:=a.points) hI.1 c32
  obtain⟨y,hy,hxy⟩:=f8 hf.2.2 hx
  have hg:=Cj hxy
  have hxa:=(hA.ps x (List.mem_of_getElem? hx)).a
  have hya:=(hB.ps y (List.mem_of_getElem? hy)).a.cast hg.2.2.symm
  have hlb:=iS hy
  refine tQ ?_;refine TQ.run (ae rfl hA.pt rfl om om) rfl (gE ?_);refine TQ.run (br hA.pt hx rfl rfl) rfl (o4 ?_);refine TQ.run (ae rfl hB.pt rfl om om) rfl (gE ?_)
  refine TQ.run (br hB.pt hy rfl rfl) rfl (TQ.run (bW rfl rfl rfl) rfl (TQ.run (aJ rfl) rfl (fT (s:=48) rfl (fun g48=>?_) (fun g48=>?_))))
  ·
   have q48:=aU g48
   exact absurd hg.1 q48
  have q48:=aP g48
  refine jp ?_;refine bA rfl rfl (aB rfl (.h1) rfl) rfl (bA rfl rfl (aJ rfl) rfl (bA rfl rfl (ae rfl hA.pt rfl om om) rfl (jp ?_)))
  refine bA rfl rfl (br hA.pt hx rfl rfl) rfl (xI ?_);refine bA rfl rfl (aJ rfl) rfl (bA rfl rfl (ae rfl hB.pt rfl om om) rfl (jp ?_))
  refine bA rfl rfl (br hB.pt hy rfl rfl) rfl (bA rfl rfl (bW rfl rfl rfl) rfl (iZ ?_))
  refine fT (s:=63) rfl ?_ ?_<;>intro g63
  ·
   have q63:=aU g63
   exact absurd hg.2.1 q63
  have q63:=aP g63
  refine jp ?_;refine bA rfl rfl (aB rfl (.h1) rfl) rfl (bA rfl rfl (aJ rfl) rfl (bA rfl rfl (ae rfl hA.pt rfl om om) rfl (jp ?_)))
  refine bA rfl rfl (br hA.pt hx rfl rfl) rfl (xI ?_);refine bA rfl rfl (aJ rfl) rfl (bA rfl rfl (ae rfl hB.pt rfl om om) rfl (jp ?_))
  refine bA rfl rfl (br hB.pt hy rfl rfl) rfl (kX rfl rfl (ab rfl rfl rfl rfl) (ki hxa hya) rfl (xH ?_))
  refine TC.cond rfl ?_ ?_<;>intro c78
  · exact absurd c78 dq
  exact f2
 refine gv ?_
 exact ax (.inr rfl) (ad rfl (RVal.tmp rfl)) rfl
theorem oz {H:Hp}{a b:SProg}(hA:ProgOk H a)(hB:ProgOk H b)(he:a.bare=b.bare):
  FnS Tryz.prog 14 [.agg a.cells.toArray,.agg b.cells.toArray] H (.bool true):=by
 have hf:=prog_eq he
 have hl1:=fA hf.1
 have hl2:=fA hf.2.1
 have hl3:=fA hf.2.2
 have hm1:=hA.r.max
 have hm2:=hA.l.max
 have hm3:=hA.q.max
 refine FnS.enter Tryz.func14 Tryz.ntmps14 rfl rfl (fun w0=>?_)
 refine zm2 ?_
 refine TL.box rfl rfl (fun b2=>?_)
 refine TL.box rfl rfl (fun b3=>?_)
 refine qU ?_;refine TL.run (ah rfl rfl hA.r) rfl (fV ?_);refine TL.run (ah rfl rfl hB.r) rfl (zm3 ?_)
 refine ai (s:=15) rfl ?_ ?_<;>intro g15
 ·
  have q15:=aU g15
  exact absurd hl1 q15
 have q15:=aP g15
 refine fM ?_;refine aC rfl rfl (ah rfl rfl hA.l) rfl (zm9 ?_);refine aC rfl rfl (ah rfl rfl hB.l) rfl (db ?_)
 refine ai (s:=24) rfl ?_ ?_<;>intro g24
 ·
  have q24:=aU g24
  exact absurd hl2 q24
 have q24:=aP g24
 refine fM ?_;refine aC rfl rfl (ah rfl rfl hA.q) rfl (zm9 ?_);refine aC rfl rfl (ah rfl rfl hB.q) rfl (gi ?_)
 refine aX rfl ?_ ?_<;>intro c32
 · exact absurd hl3 c32
 refine nC ?_
 refine TC.loop (V:=fun k=>[(5,.int .i64 k)]) (K:=[(2,_),(3,_),(4,_)]) (L:=fun k=>_) (I:=fun k=>0≤k∧k≤a.protos.length) (μ:=fun k=>(a.protos.length - k).toNat) (i:=(0:Int)) ky o2q (fun w hw=>hw) (fun k hI=>?_)
 refine oU ?_;refine TL.run (ah rfl rfl hA.r) rfl (zm1 ?_)
 refine ag rfl ?_ ?_<;>intro c37
 ·
  obtain⟨x,hx⟩:=ao (l:=a.protos) hI.1 c37
  obtain⟨y,hy,hxy⟩:=f8 hf.1 hx
  have hlb:=iS hy
  refine tQ ?_;refine TQ.run (ae rfl hA.r rfl om om) rfl (TQ.run (bg hA.r hx rfl rfl) rfl (o4 ?_))
  refine TQ.run (ae rfl hB.r rfl om om) rfl (TQ.run (bg hB.r hy rfl rfl) rfl (ip (ab rfl rfl rfl rfl) (sG (hA.rs x (List.mem_of_getElem? hx)) (hB.rs y (List.mem_of_getElem? hy)) hxy) rfl (lE ?_)))
  refine TC.cond rfl ?_ ?_<;>intro c51
  · exact absurd c51 dq
  exact f2
 refine xL ?_
 refine TC.loop (V:=fun k=>[(6,.int .i64 k)]) (K:=[(2,_),(3,_),(4,_)]) (L:=fun k=>_) (I:=fun k=>0≤k∧k≤a.locals.length) (μ:=fun k=>(a.locals.length - k).toNat) (i:=(0:Int)) ky o2q (fun w hw=>hw) (fun k hI=>?_)
 refine oU ?_;refine TL.run (ah rfl rfl hA.l) rfl (zm1 ?_)
 refine ag rfl ?_ ?_<;>intro c56
 ·
  obtain⟨x,hx⟩:=ao (l:=a.locals) hI.1 c56
  obtain⟨y,hy,hxy⟩:=f8 hf.2.1 hx
  have hg:=ET hxy
  have hlb:=iS hy
  refine tQ ?_;refine TQ.run (ae rfl hA.l rfl om om) rfl (gE ?_);refine TQ.run (br hA.l hx rfl rfl) rfl (o4 ?_);refine TQ.run (ae rfl hB.l rfl om om) rfl (gE ?_)
  refine TQ.run (br hB.l hy rfl rfl) rfl (TQ.run (bW rfl rfl rfl) rfl (TQ.run (aJ rfl) rfl (fT (s:=72) rfl (fun g72=>?_) (fun g72=>?_))))
  ·
   have q72:=aU g72
   exact absurd hg.1 q72
  have q72:=aP g72
  refine jp ?_;refine bA rfl rfl (aB rfl (.h1) rfl) rfl (bA rfl rfl (aJ rfl) rfl (bA rfl rfl (ae rfl hA.l rfl om om) rfl (jp ?_)))
  refine bA rfl rfl (br hA.l hx rfl rfl) rfl (xI ?_);refine bA rfl rfl (aJ rfl) rfl (bA rfl rfl (ae rfl hB.l rfl om om) rfl (jp ?_))
  refine bA rfl rfl (br hB.l hy rfl rfl) rfl (zm407 ?_);refine xH ?_
  refine TC.cond rfl ?_ ?_<;>intro c87
  · exact absurd c87 dq
  exact f2
 refine xL ?_
 refine TC.loop (V:=fun k=>[(7,.int .i64 k)]) (K:=[(2,_),(3,_),(4,_)]) (L:=fun k=>_) (I:=fun k=>0≤k∧k≤a.procs.length) (μ:=fun k=>(a.procs.length - k).toNat) (i:=(0:Int)) ky o2q (fun w hw=>hw) (fun k hI=>?_)
 refine oU ?_;refine TL.run (ah rfl rfl hA.q) rfl (zm1 ?_)
 refine ag rfl ?_ ?_<;>intro c92
 ·
  obtain⟨x,hx⟩:=ao (l:=a.procs) hI.1 c92
  obtain⟨y,hy,hxy⟩:=f8 hf.2.2 hx
  have hlb:=iS hy
  refine tQ ?_;refine TQ.run (ae rfl hA.q rfl om om) rfl (TQ.run (bg hA.q hx rfl rfl) rfl (o4 ?_))
  refine TQ.run (ae rfl hB.q rfl om om) rfl (TQ.run (bg hB.q hy rfl rfl) rfl (ip (ab rfl rfl rfl rfl) (tJ (hA.qs x (List.mem_of_getElem? hx)) (hB.qs y (List.mem_of_getElem? hy)) hxy) rfl (lE ?_)))
  refine TC.cond rfl ?_ ?_<;>intro c106
  · exact absurd c106 dq
  exact f2
 refine gv ?_
 exact ax (.inr rfl) (ad rfl (RVal.tmp rfl)) rfl
end Go.Sx
namespace Go.Sx
open Go Go.Proofs
theorem wY {H:Hp}{lv lv2:Value}{l l2:List Int}(hl:RdSl H 1 I64.cells lv l)(hm:l.length≤1000000000000)(hl2:RdSl H 1 I64.cells lv2 l2)(wh:Int)(hM:MaxG H):
  Fn Tryz.prog 7 [lv,.int .i64 wh,lv2] H (fun v H1=>v= .bool true):=by
 have hmx2:=hl2.max
 obtain⟨la2,lc2,rfl⟩:=hl2.len
 refine Fn.enter Tryz.func7 Tryz.ntmps7 rfl rfl (fun w0=>?_)
 refine zm7 ?_;refine zm2 ?_
 refine TL.call (ab rfl rfl rfl rfl) (Aw hM) rfl (fun v11 H11 hle11 hp11=>?_)
 replace hM:=hM.le hle11
 replace hl:=hl.le hle11
 replace hl2:=hl2.le hle11
 subst hp11
 refine zm1 ?_
 refine TC.cond rfl ?_ ?_<;>intro c12
 · exact absurd c12 dq
 refine lq ?_
 refine TL.call (ab rfl rfl rfl rfl) (yo hl hm) rfl (fun v14 H14 hle14 hp14=>?_)
 obtain⟨pg,rfl,hP,ps,hGX⟩:=hp14
 replace hM:=hM.le hle14
 replace hl2:=hl2.le hle14
 have h11:=hGX.len
 have h1g:1≤pg.procs.length:=by have h:=congrArg List.length hGX.n;simp at h;omega
 refine TL.alloc rfl (fun b7=>?_)
 refine fb ?_;refine gu ?_
 refine TL.alloc rfl (fun b8=>?_)
 refine fb ?_;refine gX ?_
 refine TL.append (enc:=SProc.cells) rfl rfl rfl (OwnSl.nil (enc:=SProc.cells)) (Src.sl hP.q) (by simp;omega) rfl (.new _ rfl) rfl (fun a18 c18 ob18 hO18=>?_)
 refine o6 ?_
 replace hO18:=hO18.cast (List.nil_append _)
 have hT0:∀(j:Nat) (q':SProc),pg.procs[j]? =some q'→∃q,pg.procs[j]? =some q∧TI pg q q'∧ProcOk _ q':=fun j q' hj=>⟨q',hj,⟨rfl,rfl,(hGX.q q' (List.mem_of_getElem? hj)).sg.nf hGX.pg,rfl⟩,hP.qs q' (List.mem_of_getElem? hj)⟩
 refine af (dM ?_);refine TL.run (fk rfl) rfl (iN ?_)
 refine TL.run (ah rfl rfl hP.q) rfl (TL.run (fk rfl) rfl (TL.run (km rfl rfl (by rw [mv om om];omega)) rfl (TL.run (fk rfl) rfl ?_)));refine dN ?_
 have hk:=mQ wh (n:=(pg.procs.length:Int)) om om
 generalize hkE:IntKind.i64.wrap ((IntKind.u64.wrap wh).tmod (IntKind.u64.wrap (pg.procs.length:Int)))=k at hk ⊢
 refine af (j5 ?_)
 refine aW (V:=fun(p:Int×List SProc) v ob H1=>[(10,.int .i64 p.1)]) (K:=[(2,_),(6,_),(7,_),(8,_),(9,_)]) (L:=fun(p:Int×List SProc) v ob H1=>St [] w0 H H1 ((b8,[.slice pg.rp.1 pg.protos.length pg.rp.2,.slice pg.lp.1 pg.locals.length pg.lp.2,.slice a18 pg.procs.length c18])::(b7,pg.cells)::ob)) (I:=fun(p:Int×List SProc) v ob H1=>(0≤p.1∧p.1≤l2.length)∧H14.le H1∧OwnSl 4 SProc.cells (.slice a18 pg.procs.length c18) p.2 ob∧p.2.length=pg.procs.length∧∀(j:Nat) (q':SProc),p.2[j]? =some q'→∃q,pg.procs[j]? =some q∧TI pg q q'∧ProcOk H1 q') (μ:=fun(p:Int×List SProc)=>(l2.length - p.1).toNat) ((0:Int),pg.procs) .nilFunc ob18 H14 ky ⟨o2q,Hp.le.refl _,hO18,rfl,hT0⟩ (fun w hw=>hw) (fun p v ob H1 hI=>?_)
 obtain⟨⟨i0,i1⟩,hle,hOS,hSl,hTI⟩:=hI
 obtain⟨i,S⟩:=p
 dsimp only at *
 replace hM:=hM.le hle
 replace hl2:=hl2.le hle
 replace hP:=hP.le hle
 refine TC.seq (bO (decide (i<l2.length)&&decide (i<10)) 35 [(2,_),(6,_),(7,_),(8,_),(9,_),(10,_)] ky ?_ ?_)
 ·
  refine jZ ?_;refine TL.run (ah rfl rfl hl2) rfl (zm3 ?_)
  refine ai (s:=32) rfl ?_ ?_<;>intro g32
  ·
   have q32:=of_decide_eq_true g32
   refine fc ?_;refine dN ?_
   exact aV rfl (by first | (simp_all;done) | (simp_all;omega) | (simp;omega)) ky
  have q32:=of_decide_eq_false g32
  refine jm ?_;refine dN ?_
  exact aV rfl (by first | (simp_all;done) | (simp_all;omega) | (simp;omega)) ky
 refine TC.cond rfl ?_ ?_<;>intro c35
 ·
  simp only [Bool.and_eq_true,decide_eq_true_eq] at c35
  obtain⟨y,hy⟩:=ao (l:=l2) i0 om
  obtain⟨qS,hqS⟩:=ao (l:=S) (i:=k) om om
  refine w5 ?_
  refine TD.part 1 12 rfl rfl rfl ?_ ?_
  ·
   refine TD.leaf [(0,1),(1,2),(2,1),(3,1),(4,2),(5,1),(6,1),(7,2),(8,1),(9,1),(10,1),(11,2),(12,0),(13,1),(14,0)] kr kr (lX ?_);refine lX ?_
   refine aq (aY rfl rfl hOS om om) rfl (aK (n6 (i:=k.toNat) rfl hOS (.skip _ (.skip _ .all)) hqS) rfl (gg ?_))
   refine aq (ae rfl hl2 rfl om om) rfl (aK (aQ hl2 hy rfl rfl) rfl (bf ?_))
   obtain⟨q0,hq0,hTQ,hQO⟩:=hTI _ _ hqS
   obtain⟨D9,G9,hN9⟩:=hTQ.nf
   refine TL.call (ab rfl rfl rfl rfl) (uO hQO hN9.sh hN9.n1 hN9.n80 y) rfl (fun v50 H50 hle50 hp50=>?_)
   obtain⟨q50,rfl,hQ50,hR50⟩:=hp50
   replace hle:=hle.trans hle50
   refine bj (aq (aY rfl rfl hOS om om) rfl (bf (iq (i:=k.toNat) (a':=q50) rfl rfl rfl rfl hOS (.skip _ (.skip _ .all)) om rfl (fun obA eobA hobA=>?_))))
   have hTn:∀(j:Nat) (q':SProc),(S.set k.toNat q50)[j]? =some q'→∃q,pg.procs[j]? =some q∧TI pg q q'∧ProcOk H50 q':=fun j q' hj=>by
    rw [List.getElem?_set] at hj
    split at hj
    · rename_i e;obtain rfl:=e
      split at hj
      · obtain rfl:=Option.some.inj hj;exact⟨q0,hq0,hR50.ti hTQ,hQ50⟩
      · cases hj
    · obtain⟨q9,a9,b9,c9⟩:=hTI j q' hj;exact⟨q9,a9,b9,c9.le hle50⟩
   refine qI ?_
   exact aH (i:=(i,S)) (i+1,S.set k.toNat q50) .nilFunc obA H50 ⟨o2q,hle,hobA,by rw [List.length_set];exact hSl,hTn⟩ ky (fun w hw=>hw) om
  refine TD.leaf [(0,1),(2,1),(3,1),(4,2),(5,1),(6,1),(7,2),(8,1),(9,1),(10,1),(11,2),(12,0),(1,2),(13,1),(14,0)] kr kr (zm4 ?_);refine zm5 ?_;refine lX ?_
  refine aq (aY rfl rfl hOS om om) rfl (aK (n6 (i:=k.toNat) rfl hOS (.skip _ (.skip _ .all)) hqS) rfl (gg ?_))
  refine aq (ae rfl hl2 rfl om om) rfl (aK (aQ hl2 hy rfl rfl) rfl (bf ?_))
  obtain⟨q0,hq0,hTQ,hQO⟩:=hTI _ _ hqS
  obtain⟨D9,G9,hN9⟩:=hTQ.nf
  refine TL.call (ab rfl rfl rfl rfl) (uO hQO hN9.sh hN9.n1 hN9.n80 y) rfl (fun v50 H50 hle50 hp50=>?_)
  obtain⟨q50,rfl,hQ50,hR50⟩:=hp50
  replace hle:=hle.trans hle50
  refine bj (lj ?_);refine aq (aY rfl rfl hOS om om) rfl (bf (iq (i:=k.toNat) (a':=q50) rfl rfl rfl rfl hOS (.skip _ (.skip _ .all)) om rfl (fun obA eobA hobA=>?_)))
  have hTn:∀(j:Nat) (q':SProc),(S.set k.toNat q50)[j]? =some q'→∃q,pg.procs[j]? =some q∧TI pg q q'∧ProcOk H50 q':=fun j q' hj=>by
   rw [List.getElem?_set] at hj
   split at hj
   · rename_i e;obtain rfl:=e
     split at hj
     · obtain rfl:=Option.some.inj hj;exact⟨q0,hq0,hR50.ti hTQ,hQ50⟩
     · cases hj
   · obtain⟨q9,a9,b9,c9⟩:=hTI j q' hj;exact⟨q9,a9,b9,c9.le hle50⟩
  refine qI ?_
  exact aH (i:=(i,S)) (i+1,S.set k.toNat q50) .nilFunc obA H50 ⟨o2q,hle,hobA,by rw [List.length_set];exact hSl,hTn⟩ ky (fun w hw=>hw) om
 refine gh ?_;refine eH ?_
 refine TD.part 3 1 rfl rfl rfl ?_ ?_
 ·
  refine TD.part 10 9 rfl rfl rfl ?_ ?_
  ·
   refine TD.leaf [(0,2),(3,2),(1,0),(2,1),(4,0),(5,1),(6,1),(7,1),(8,2),(10,2),(9,0),(11,0),(12,3),(13,1),(14,1)] kr kr (TF.pubO hOS (.skip _ (.skip _ .all)) sq (fun HX leX hX0=>?_))
   replace hM:=hM.le leX
   replace hP:=hP.le leX
   obtain⟨pgX,hXe,hX,hckX,hriX⟩:∃X:SProg,X.cells=[.slice pg.rp.1 pg.protos.length pg.rp.2,.slice pg.lp.1 pg.locals.length pg.lp.2,.slice a18 pg.procs.length c18]∧ProgOk HX X∧bZ X=okF∧fX X=fX pg:=by
    have hqq:∀(j:Nat) (q':SProc),S[j]? =some q'→∃q,pg.procs[j]? =some q∧TI pg q q':=fun j q' hj=>by obtain⟨q,a,b,_⟩:=hTI j q' hj;exact⟨q,a,b⟩
    refine⟨(⟨pg.protos,pg.rp,pg.locals,pg.lp,S,(a18,c18)⟩:SProg),by unfold SProg.cells;dsimp only;rw [hSl],⟨hP.r,hP.rs,hP.l,hP.ls,by show RdSl HX 4 SProc.cells (.slice a18 S.length c18) S;rw [hSl];exact hX0,fun q hq=>?_⟩,fP (P':=(⟨pg.protos,pg.rp,pg.locals,pg.lp,S,(a18,c18)⟩:SProg)) hGX rfl rfl hSl hqq,iz (P':=(⟨pg.protos,pg.rp,pg.locals,pg.lp,S,(a18,c18)⟩:SProg)) hGX rfl rfl hSl hqq⟩
    obtain⟨j,hj⟩:=List.getElem?_of_mem hq
    obtain⟨_,_,_,h9⟩:=hTI j q hj;exact h9.le leX
   refine AQ ?_
   have hck:=hGX.check
   clear hX0 hTI
   refine aK (a7 rfl (.h1) rfl) rfl (tR ?_)
   refine TL.call (ab rfl rfl rfl rfl) (eP hP hM) rfl (fun v53 H53 hle53 hp53=>?_)
   replace hM:=hM.le hle53
   replace hP:=hP.le hle53
   replace hX:=hX.le hle53
   subst hp53
   refine oO ?_;refine bf (TL.call (ab rfl rfl rfl rfl) (eP hX hM) rfl (fun v56 H56 hle56 hp56=>?_))
   replace hM:=hM.le hle56
   replace hP:=hP.le hle56
   replace hX:=hX.le hle56
   subst hp56
   refine oO ?_;refine gg ?_
   refine nu (s:=59) rfl ?_ ?_<;>intro g59
   ·
    have q59:=of_decide_eq_true g59
    refine fK rfl rfl (a7 rfl (.h1) rfl) rfl (fK rfl rfl (a7 rfl (.here _) rfl) rfl (bf (dF rfl rfl (ab rfl rfl rfl rfl) (gK hP hM) rfl (fun v61 H61 hle61 hp61=>?_))))
    obtain⟨pg61,rfl,hP61,hB61⟩:=hp61
    replace hM:=hM.le hle61
    replace hX:=hX.le hle61
    refine bj (bf (dF rfl rfl (ab rfl rfl rfl rfl) (gK hX hM) rfl (fun v63 H63 hle63 hp63=>?_)))
    obtain⟨pg63,rfl,hP63,hB63⟩:=hp63
    replace hP61:=hP61.le hle63
    refine bj (AP ?_);refine xr ?_
    exact aR (.inr rfl) (ad rfl (RVal.tmp rfl)) rfl
   have q59:=of_decide_eq_false g59
   exact absurd (show(bZ pg).e=(bZ pgX).e by rw [hck,hckX]) q59
  refine TD.leaf [(0,2),(3,2),(1,0),(2,1),(4,0),(5,1),(6,1),(7,1),(8,2),(9,0),(10,2),(11,0),(12,3),(13,1),(14,1)] kr kr (TF.pubO hOS (.skip _ (.skip _ .all)) sq (fun HX leX hX0=>?_))
  replace hM:=hM.le leX
  replace hP:=hP.le leX
  obtain⟨pgX,hXe,hX,hckX,hriX⟩:∃X:SProg,X.cells=[.slice pg.rp.1 pg.protos.length pg.rp.2,.slice pg.lp.1 pg.locals.length pg.lp.2,.slice a18 pg.procs.length c18]∧ProgOk HX X∧bZ X=okF∧fX X=fX pg:=by
   have hqq:∀(j:Nat) (q':SProc),S[j]? =some q'→∃q,pg.procs[j]? =some q∧TI pg q q':=fun j q' hj=>by obtain⟨q,a,b,_⟩:=hTI j q' hj;exact⟨q,a,b⟩
   refine⟨(⟨pg.protos,pg.rp,pg.locals,pg.lp,S,(a18,c18)⟩:SProg),by unfold SProg.cells;dsimp only;rw [hSl],⟨hP.r,hP.rs,hP.l,hP.ls,by show RdSl HX 4 SProc.cells (.slice a18 S.length c18) S;rw [hSl];exact hX0,fun q hq=>?_⟩,fP (P':=(⟨pg.protos,pg.rp,pg.locals,pg.lp,S,(a18,c18)⟩:SProg)) hGX rfl rfl hSl hqq,iz (P':=(⟨pg.protos,pg.rp,pg.locals,pg.lp,S,(a18,c18)⟩:SProg)) hGX rfl rfl hSl hqq⟩
   obtain⟨j,hj⟩:=List.getElem?_of_mem hq
   obtain⟨_,_,_,h9⟩:=hTI j q hj;exact h9.le leX
  refine AQ ?_
  have hck:=hGX.check
  clear hX0 hTI
  refine aK (a7 rfl (.h1) rfl) rfl (tR ?_)
  refine TL.call (ab rfl rfl rfl rfl) (eP hP hM) rfl (fun v53 H53 hle53 hp53=>?_)
  replace hM:=hM.le hle53
  replace hP:=hP.le hle53
  replace hX:=hX.le hle53
  subst hp53
  refine oO ?_;refine bf (TL.call (ab rfl rfl rfl rfl) (eP hX hM) rfl (fun v56 H56 hle56 hp56=>?_))
  replace hM:=hM.le hle56
  replace hP:=hP.le hle56
  replace hX:=hX.le hle56
  subst hp56
  refine oO ?_;refine gg ?_
  refine nu (s:=59) rfl ?_ ?_<;>intro g59
  ·
   have q59:=of_decide_eq_true g59
   refine fK rfl rfl (a7 rfl (.h1) rfl) rfl (bf (dF rfl rfl (ab rfl rfl rfl rfl) (gK hP hM) rfl (fun v61 H61 hle61 hp61=>?_)))
   obtain⟨pg61,rfl,hP61,hB61⟩:=hp61
   replace hM:=hM.le hle61
   replace hX:=hX.le hle61
   refine bj (fK rfl rfl (a7 rfl (.here _) rfl) rfl (bf (dF rfl rfl (ab rfl rfl rfl rfl) (gK hX hM) rfl (fun v63 H63 hle63 hp63=>?_))))
   obtain⟨pg63,rfl,hP63,hB63⟩:=hp63
   replace hP61:=hP61.le hle63
   refine bj (AP ?_);refine xr ?_
   exact aR (.inr rfl) (ad rfl (RVal.tmp rfl)) rfl
  have q59:=of_decide_eq_false g59
  exact absurd (show(bZ pg).e=(bZ pgX).e by rw [hck,hckX]) q59
 refine TD.part 10 9 rfl rfl rfl ?_ ?_
 ·
  refine TD.leaf [(0,2),(1,0),(2,1),(3,2),(4,0),(5,1),(6,1),(7,1),(8,2),(10,2),(9,0),(11,0),(12,3),(13,1),(14,1)] kr kr (TF.pubO hOS (.skip _ (.skip _ .all)) sq (fun HX leX hX0=>?_))
  replace hM:=hM.le leX
  replace hP:=hP.le leX
  obtain⟨pgX,hXe,hX,hckX,hriX⟩:∃X:SProg,X.cells=[.slice pg.rp.1 pg.protos.length pg.rp.2,.slice pg.lp.1 pg.locals.length pg.lp.2,.slice a18 pg.procs.length c18]∧ProgOk HX X∧bZ X=okF∧fX X=fX pg:=by
   have hqq:∀(j:Nat) (q':SProc),S[j]? =some q'→∃q,pg.procs[j]? =some q∧TI pg q q':=fun j q' hj=>by obtain⟨q,a,b,_⟩:=hTI j q' hj;exact⟨q,a,b⟩
   refine⟨(⟨pg.protos,pg.rp,pg.locals,pg.lp,S,(a18,c18)⟩:SProg),by unfold SProg.cells;dsimp only;rw [hSl],⟨hP.r,hP.rs,hP.l,hP.ls,by show RdSl HX 4 SProc.cells (.slice a18 S.length c18) S;rw [hSl];exact hX0,fun q hq=>?_⟩,fP (P':=(⟨pg.protos,pg.rp,pg.locals,pg.lp,S,(a18,c18)⟩:SProg)) hGX rfl rfl hSl hqq,iz (P':=(⟨pg.protos,pg.rp,pg.locals,pg.lp,S,(a18,c18)⟩:SProg)) hGX rfl rfl hSl hqq⟩
   obtain⟨j,hj⟩:=List.getElem?_of_mem hq
   obtain⟨_,_,_,h9⟩:=hTI j q hj;exact h9.le leX
  refine AQ ?_
  have hck:=hGX.check
  clear hX0 hTI
  refine aK (a7 rfl (.h1) rfl) rfl (bf (TL.call (ab rfl rfl rfl rfl) (eP hP hM) rfl (fun v53 H53 hle53 hp53=>?_)))
  replace hM:=hM.le hle53
  replace hP:=hP.le hle53
  replace hX:=hX.le hle53
  subst hp53
  refine oO ?_;refine tR ?_
  refine TL.call (ab rfl rfl rfl rfl) (eP hX hM) rfl (fun v56 H56 hle56 hp56=>?_)
  replace hM:=hM.le hle56
  replace hP:=hP.le hle56
  replace hX:=hX.le hle56
  subst hp56
  refine oO ?_;refine gg ?_
  refine nu (s:=59) rfl ?_ ?_<;>intro g59
  ·
   have q59:=of_decide_eq_true g59
   refine fK rfl rfl (a7 rfl (.h1) rfl) rfl (fK rfl rfl (a7 rfl (.here _) rfl) rfl (bf (dF rfl rfl (ab rfl rfl rfl rfl) (gK hP hM) rfl (fun v61 H61 hle61 hp61=>?_))))
   obtain⟨pg61,rfl,hP61,hB61⟩:=hp61
   replace hM:=hM.le hle61
   replace hX:=hX.le hle61
   refine bj (bf (dF rfl rfl (ab rfl rfl rfl rfl) (gK hX hM) rfl (fun v63 H63 hle63 hp63=>?_)))
   obtain⟨pg63,rfl,hP63,hB63⟩:=hp63
   replace hP61:=hP61.le hle63
   refine bj (AP ?_);refine xr ?_
   exact aR (.inr rfl) (ad rfl (RVal.tmp rfl)) rfl
  have q59:=of_decide_eq_false g59
  exact absurd (show(bZ pg).e=(bZ pgX).e by rw [hck,hckX]) q59
 refine TD.leaf [(0,2),(1,0),(2,1),(3,2),(4,0),(5,1),(6,1),(7,1),(8,2),(9,0),(10,2),(11,0),(12,3),(13,1),(14,1)] kr kr (TF.pubO hOS (.skip _ (.skip _ .all)) sq (fun HX leX hX0=>?_))
 replace hM:=hM.le leX
 replace hP:=hP.le leX
 obtain⟨pgX,hXe,hX,hckX,hriX⟩:∃X:SProg,X.cells=[.slice pg.rp.1 pg.protos.length pg.rp.2,.slice pg.lp.1 pg.locals.length pg.lp.2,.slice a18 pg.procs.length c18]∧ProgOk HX X∧bZ X=okF∧fX X=fX pg:=by
  have hqq:∀(j:Nat) (q':SProc),S[j]? =some q'→∃q,pg.procs[j]? =some q∧TI pg q q':=fun j q' hj=>by obtain⟨q,a,b,_⟩:=hTI j q' hj;exact⟨q,a,b⟩
  refine⟨(⟨pg.protos,pg.rp,pg.locals,pg.lp,S,(a18,c18)⟩:SProg),by unfold SProg.cells;dsimp only;rw [hSl],⟨hP.r,hP.rs,hP.l,hP.ls,by show RdSl HX 4 SProc.cells (.slice a18 S.length c18) S;rw [hSl];exact hX0,fun q hq=>?_⟩,fP (P':=(⟨pg.protos,pg.rp,pg.locals,pg.lp,S,(a18,c18)⟩:SProg)) hGX rfl rfl hSl hqq,iz (P':=(⟨pg.protos,pg.rp,pg.locals,pg.lp,S,(a18,c18)⟩:SProg)) hGX rfl rfl hSl hqq⟩
  obtain⟨j,hj⟩:=List.getElem?_of_mem hq
  obtain⟨_,_,_,h9⟩:=hTI j q hj;exact h9.le leX
 refine AQ ?_
 have hck:=hGX.check
 clear hX0 hTI
 refine aK (a7 rfl (.h1) rfl) rfl (bf (TL.call (ab rfl rfl rfl rfl) (eP hP hM) rfl (fun v53 H53 hle53 hp53=>?_)))
 replace hM:=hM.le hle53
 replace hP:=hP.le hle53
 replace hX:=hX.le hle53
 subst hp53
 refine oO ?_;refine tR ?_
 refine TL.call (ab rfl rfl rfl rfl) (eP hX hM) rfl (fun v56 H56 hle56 hp56=>?_)
 replace hM:=hM.le hle56
 replace hP:=hP.le hle56
 replace hX:=hX.le hle56
 subst hp56
 refine oO ?_;refine gg ?_
 refine nu (s:=59) rfl ?_ ?_<;>intro g59
 ·
  have q59:=of_decide_eq_true g59
  refine fK rfl rfl (a7 rfl (.h1) rfl) rfl (bf (dF rfl rfl (ab rfl rfl rfl rfl) (gK hP hM) rfl (fun v61 H61 hle61 hp61=>?_)))
  obtain⟨pg61,rfl,hP61,hB61⟩:=hp61
  replace hM:=hM.le hle61
  replace hX:=hX.le hle61
  refine bj (fK rfl rfl (a7 rfl (.here _) rfl) rfl (bf (dF rfl rfl (ab rfl rfl rfl rfl) (gK hX hM) rfl (fun v63 H63 hle63 hp63=>?_))))
  obtain⟨pg63,rfl,hP63,hB63⟩:=hp63
  replace hP61:=hP61.le hle63
  refine bj (AP ?_);refine xr ?_
  exact aR (.inr rfl) (ad rfl (RVal.tmp rfl)) rfl
 have q59:=of_decide_eq_false g59
 exact absurd (show(bZ pg).e=(bZ pgX).e by rw [hck,hckX]) q59
end Go.Sx
namespace Go.Proofs.YtjnlogbbcceaoaaGreat.ScopeRowsUpto
open Go Go.Sx Go.ChangeShapes Go.WideShapes Go.ChangeAt Go.RowKit
theorem own:ownKnob Tryz.prog.godebug=none:=by kernel_rfl
theorem laidOut:laidOutB Tryz.prog=true:=by kernel_rfl
theorem hread:∀t∈Tryz.f7.params.toList,Tryz.prog.readableRec t=true∧t<Tryz.prog.types.size:=by
 intro t ht
 have:=List.all_eq_true.1 (show(Tryz.f7.params.toList.all fun t=>Tryz.prog.readableRec t&&decide (t<Tryz.prog.types.size))=true by kernel_rfl) t ht
 simp only [Bool.and_eq_true,decide_eq_true_eq] at this
 exact this
theorem contract (H:Type)(enc:TypeId×Value→H)(W:World)(base:Nat)(args:Array Value)(ds gs0:List (DataW H))(before:List MemPlace)
  (hval0:∀(j:Nat) t v,Tryz.f7.params[j]? =some t→args[j]? =some v→Value.okWide Tryz.prog W .any base t v)
  (hW:DataW.Whole enc Tryz.prog Tryz.f7.params.toList Rows.scopeRowsSpec.vars false W args.toList ds gs0 before) (hsh:W.ShapedOpen Tryz.prog) (hk:Rows.uptoSmall H (ds++gs0)=true):
  Calls Tryz.prog 7 args W fun e W'=>∃v,e= .returned v∧Rows.scopeRowsSpec.post enc Tryz.prog Tryz.f7 false true false false W args v W':=by
 have hMx:MaxG (Aq W):=Go.Proofs.cell_of_shapedOpen_int (zero:= #[.int .i64 0]) (t:=3) hsh (of_decide_eq_true (by kernel_rfl)) (by kernel_rfl) rfl (by kernel_rfl) (by kernel_rfl) Tryz.underlying3
 have hval:∀(j:Nat) t v,Tryz.f7.params[j]? =some t→args[j]? =some v→Value.okWide Tryz.prog W .any base t v:=hval0
 have hW':=hW
 obtain⟨p,q,hA0,hV,hpq,hfz,hnd⟩:=hW
 have hA:DataW.TrodAll enc Tryz.prog W 0 (fun _=>true) true Tryz.f7.params.toList args.toList ds p:=hA0
 rw [Tryz.params7] at hA hval
 obtain⟨v0,vs0,d0,ds0,p0,q0,hargs,rfl,rfl,h0,r0⟩:=trodAll_cons hA
 obtain⟨v1,vs1,d1,ds1,p1,q1,rfl,rfl,rfl,h1,r1⟩:=trodAll_cons r0
 obtain⟨v2,vs2,d2,ds2,p2,q2,rfl,rfl,rfl,h2,r2⟩:=trodAll_cons r1
 obtain⟨rfl,rfl,rfl⟩:=trodAll_nil r2
 obtain rfl:args= #[v0,v1,v2]:=by cases args;simp_all
 obtain⟨rfl,rfl⟩:=trodVars_none hV
 obtain⟨a_l,len_l,cap_l,ev_l⟩:=okWide_slice Tryz.underlying22 (hval 0 22 v0 rfl rfl)
 obtain⟨⟨u_l,l⟩,e_l,R_l,K_l⟩:=(mS Tryz.underlying22 (k:=1) (by kernel_rfl) (by decide) (vw (vv Tryz.underlying3))).one h0 (BM (i:=0) hk rfl)
 obtain rfl:v0= .slice u_l.1 l.length u_l.2:=by rw [ev_l] at e_l ⊢;simpa [Value.cells] using e_l
 simp only at R_l K_l
 obtain⟨wh,rfl,rfl,rfl,w_wh⟩:=open_int Tryz.underlying3 (hval 1 3 v1 rfl rfl) h1
 have R_wh:E1 wh:=by simpa [E1,Lit.wf,IntKind.min,IntKind.max,IntKind.signed,IntKind.bits] using w_wh
 obtain⟨a_l2,len_l2,cap_l2,ev_l2⟩:=okWide_slice Tryz.underlying22 (hval 2 22 v2 rfl rfl)
 obtain⟨⟨u_l2,l2⟩,e_l2,R_l2,K_l2⟩:=(mS Tryz.underlying22 (k:=1) (by kernel_rfl) (by decide) (vw (vv Tryz.underlying3))).one h2 (BM (i:=2) hk rfl)
 obtain rfl:v2= .slice u_l2.1 l2.length u_l2.2:=by rw [ev_l2] at e_l2 ⊢;simpa [Value.cells] using e_l2
 simp only at R_l2 K_l2
 refine(Fn.callsT (W:=W) (wY R_l (Nat.le_trans K_l.1 (by decide)) R_l2 wh hMx)).mono ?_
 rintro e W1 ⟨rfl,hB⟩
 have done:Rows.scopeRowsSpec.post enc Tryz.prog Tryz.f7 false true false false W #[.slice u_l.1 l.length u_l.2,.int .i64 wh,.slice u_l2.1 l2.length u_l2.2] (.bool true) W1:=EU (P:=Tryz.prog) (tb:=4) hW' rfl rfl rfl rfl (by kernel_rfl) (by kernel_rfl) laidOut hread hB
 exact⟨_,rfl,done⟩
noncomputable def laidWorld (os:Os):World:=World.holding Tryz.prog os ⟨#[], #[],[]⟩
theorem laid_met (os:Os):laidMet Tryz.prog Rows.scopeRowsUptoRow.laid ((laidWorld os).forCall (fun _ _=>0) ⟨#[], #[.slice none 0 0,.int .i64 0,.slice none 0 0],[]⟩).memory:=
 laidMet_of_run' 8 (by kernel_rfl) (by kernel_rfl)
theorem reads (os:Os){H:Type}(enc:TypeId×Value→H):∃places,DataW.whole enc Tryz.prog ((laidWorld os).forCall (fun _ _=>0) ⟨#[], #[.slice none 0 0,.int .i64 0,.slice none 0 0],[]⟩).memory Tryz.f7.params.toList Rows.scopeRowsSpec.vars false #[(.slice none 0 0:Value),(.int .i64 0:Value),(.slice none 0 0:Value)].toList 8=some ([.nil,.lit (.int .i64 0),.nil],[],places):=
 ⟨[],by kernel_rfl⟩
theorem lifted (os:Os)(started:os.Started)(H:Type)(enc:TypeId×Value→H)(F:Stop.Interp):
  ReturnsInHanded {} Tryz.checked os 7 .any ((Rows.OpenSpec.upto Rows.scopeRowsSpec).preRow enc Tryz.prog Tryz.f7 Rows.scopeRowsUptoRow.domain false Rows.scopeRowsUptoRow.laid) (((Rows.OpenSpec.upto Rows.scopeRowsSpec).at F).post enc Tryz.prog Tryz.f7 false true false false):=by
 obtain⟨places,hx⟩:=reads os enc
 refine returnsInHanded_of_row (C:=Tryz.checked) (s:=(Rows.OpenSpec.upto Rows.scopeRowsSpec)) own started (by kernel_rfl) Tryz.func7
  (witness_row_at (enc:=enc) (C:=Tryz.checked) false (laidWorld os) #[.slice none 0 0,.int .i64 0,.slice none 0 0] rfl (by kernel_rfl) (by kernel_rfl) (by kernel_rfl)
   (OpenSpec.preRow_of_cond 8 hx (by kernel_rfl) (fun k hk=>by cases hk;kernel_rfl) (by kernel_rfl) (laid_met os))) ?_
 intro W base args ds gs before hval hW _ hcond _ _ hsh _
 exact contract H enc W base args ds gs before hval hW hsh (hcond _ rfl)
theorem holds:Rows.ScopeRowsUptoSaid:=
 OpenClaim.holds_of_cond 7 Tryz.f7 rfl rfl rfl rfl rfl rfl rfl ⟨rfl,rfl,rfl,rfl,rfl⟩ rfl rfl rfl rfl rfl (by kernel_rfl) Tryz.func7 (by kernel_rfl)
  (of_decide_eq_true (by kernel_rfl)) (by unfold Func.isWrapper;first | (rw [if_pos (by decide+kernel)];kernel_rfl) | (rw [if_neg (by decide+kernel)];exact⟨rfl,rfl⟩))
  (fun os started H enc _ F=>by rw [OpenClaim.pre_eq_preRow];exact lifted os started H enc F)
end Go.Proofs.YtjnlogbbcceaoaaGreat.ScopeRowsUpto
