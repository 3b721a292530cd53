import Derived.Test.YtjnlogbbcceaoaaGreatE10
import Derived.Lib.ItoaNum
set_option linter.all false
set_option maxRecDepth 100000
set_option maxHeartbeats 32000000
namespace Go.Sx
open Go Go.Proofs
theorem o7 {H:Hp}{pg:SProg}(hP:ProgOk H pg)(hM:MaxG H):
  Fn Tryz.prog 15 [.agg pg.cells.toArray] H (fun v H9=>∃pg2:SProg,v= .agg pg2.cells.toArray∧ProgOk H9 pg2∧pg2.bare=rO pg):=by
 have hmr:=hP.r.max
 have hml:=hP.l.max
 have hmq:=hP.q.max
 refine Fn.enter Tryz.func15 Tryz.ntmps15 rfl rfl (fun w0=>?_)
 refine zm2 ?_
 refine TL.box rfl rfl (fun b1=>?_)
 refine TL.alloc rfl (fun b2=>?_)
 refine TL.nil (ai (TC.seq (zm2 ?_)));refine fB (.h1) (dT sq (fun H_b1 le_b1 rd_b1=>?_))
 replace hP:=hP.le le_b1
 replace hM:=hM.le le_b1
 have hb:PgAt H_b1 b1 pg:=rd_b1
 refine TL.run (lR rfl rfl hb.add) rfl (TL.call (ab rfl rfl rfl rfl) (fz hP hM) rfl (fun v17 H17 hle17 hp17=>?_))
 replace hP:=hP.le hle17
 replace hb:=hb.le hle17
 subst hp17
 refine TL.run (qm (off:=0) rfl kr rfl) rfl (zm1 ?_)
 refine aV rfl ?_ ?_<;>intro c19
 ·
  refine k9 ?_;refine tA ?_
  exact aR (.inr rfl) (ad rfl (RVal.cellA rfl (.here _) rfl)) ⟨nilPg,rfl,Dk _,Bg c19⟩
 have hck:=yu c19
 have hn1:=hck.r.1
 have hn2:=hck.l.1
 have hn3:=hck.q.1
 refine lu ?_
 refine TL.alloc rfl (fun b3=>?_)
 refine TL.nil (ai (TC.seq (mY ?_)));refine TL.run (bG rfl (hb 0 _ rfl)) rfl (TL.run (ah rfl rfl hP.r) rfl (zm9 ?_))
 refine aK (V:=fun(p:Int×List SProto) v1 ob1 H1=>[(24,.int .i64 p.1)]) (K:=[(1,_),(2,_),(3,_),(22,_),(23,_)]) (L:=fun(p:Int×List SProto) v1 ob1 H1=>St [] w0 H H1 ((b3,[v1,.slice none 0 0,.slice none 0 0])::(b2,[.slice none 0 0,.slice none 0 0,.slice none 0 0])::ob1)) (I:=fun(p:Int×List SProto) v1 ob1 H1=>(0≤p.1∧p.1≤pg.protos.length)∧H17.le H1∧OwnSl 3 SProto.cells v1 p.2 ob1∧p.2.length=p.1∧PrAll H1 p.2∧p.2.map SProto.bare=(pg.protos.take p.1.toNat).map SProto.bare) (μ:=fun(p:Int×List SProto)=>(pg.protos.length - p.1).toNat) ((0:Int),[]) (.slice none 0 0) [] H17 ky ⟨o2q,Hp.le.refl _,OwnSl.nil,rfl,(fun _ h=>by cases h),rfl⟩ (fun w hw=>hw) (fun p v1 ob1 H1 hI=>?_)
 obtain⟨⟨k01,k11⟩,hle1,hO1,hPl1,hPA1,hPm1⟩:=hI
 obtain⟨k1,P1⟩:=p
 dsimp only at *
 obtain⟨va1,vc1,rfl⟩:=hO1.form
 replace hP:=hP.le hle1
 replace hb:=hb.le hle1
 refine zm7 ?_
 refine af rfl ?_ ?_<;>intro c25
 ·
  obtain⟨x,hk1⟩:=aj (l:=pg.protos) k01 c25
  have hxP:=hP.rs x (List.mem_of_getElem? hk1)
  have hxz:=Bm (hck.r.2 x (List.mem_of_getElem? hk1))
  refine dv ?_;refine TL.run (ae rfl hP.r rfl om om) rfl (TL.run (aY hP.r hk1 rfl rfl) rfl (TL.alloc rfl (fun b5=>?_)))
  refine wX ?_
  refine aA rfl rfl rfl rfl (fun b28=>?_)
  refine iN ?_
  refine TL.append (enc:=Str.cells) rfl rfl rfl (OwnSl.blk (enc:=Str.cells) [] rfl rfl dq) (Src.sl hxP.r) (by simp;omega) rfl (.take (.here _) rfl) rfl (fun a31 c31 ob31 hO31=>?_)
  refine Au ?_
  refine TX.pubO hO31 (.s3 (.past _ .all)) sq (fun HPob31 lePob31 hRr=>?_)
  replace hle1:=hle1.trans lePob31
  replace hxP:=hxP.le lePob31
  replace hPA1:=hPA1.le lePob31
  replace hRr:=hRr.cast (List.nil_append _)
  refine vE (L':=(b5,_)::((b3,_)::((b2,_)::(ob1)))) (dV [(b5,_),(b3,_),(b2,_)] (A:=ob1)) (ai (oe ?_));refine zm2 ?_;refine pS ?_;refine ip ?_
  refine TL.run (ah rfl rfl hxP.pt) rfl (zm9 ?_)
  refine aK (V:=fun(p:Int×List SPoint) v11 ob11 H11=>[(38,.int .i64 p.1)]) (K:=[(1,_),(2,_),(3,_),(5,_),(6,_),(22,_),(23,_),(24,_),(25,_),(26,_),(27,_),(28,_),(29,_),(30,_),(31,_),(32,_),(33,_),(34,_),(35,_),(36,_),(37,_)]) (L:=fun(p:Int×List SPoint) v11 ob11 H11=>St [] w0 H H11 ((b5,[gs x.name,.slice a31 ([]++x.roles).length c31,v11])::(b3,_)::(b2,_)::(ob1++ob11))) (I:=fun(p:Int×List SPoint) v11 ob11 H11=>(0≤p.1∧p.1≤x.points.length)∧HPob31.le H11∧OwnSl 3 SPoint.cells v11 p.2 ob11∧p.2.length=p.1∧PtAll H11 p.2∧p.2.map SPoint.bare=(x.points.take p.1.toNat).map SPoint.bare) (μ:=fun(p:Int×List SPoint)=>(x.points.length - p.1).toNat) ((0:Int),[]) (.slice none 0 0) [] HPob31 ky ⟨o2q,Hp.le.refl _,OwnSl.nil,rfl,(fun _ h=>by cases h),rfl⟩ (fun w hw=>by rw [List.append_nil];exact hw) (fun p v11 ob11 H11 hI=>?_)
  obtain⟨⟨k011,k111⟩,hle11,hO11,hPl11,hPA11,hPm11⟩:=hI
  obtain⟨k11,P11⟩:=p
  dsimp only at *
  obtain⟨va11,vc11,rfl⟩:=hO11.form
  replace hle1:=hle1.trans hle11
  replace hxP:=hxP.le hle11
  replace hPA1:=hPA1.le hle11
  replace hRr:=hRr.le hle11
  refine zm7 ?_
  refine af rfl ?_ ?_<;>intro c39
  ·
   obtain⟨y,hk11⟩:=aj (l:=x.points) k011 c39
   have hyO:=hxP.ps y (List.mem_of_getElem? hk11)
   have hyz:=hxz.2.2 y (List.mem_of_getElem? hk11)
   refine dv ?_;refine TL.run (ae rfl hxP.pt rfl om om) rfl (TL.run (aY hxP.pt hk11 rfl rfl) rfl (TL.alloc rfl (fun b8=>?_)))
   refine nt ?_
   refine bD (ab rfl rfl rfl rfl) (Fa hyO.a om) rfl (fun v44 H44 ob44 hle44 hp44=>?_)
   obtain⟨eH44,hO44⟩:=hp44
   subst H44
   obtain⟨a44,c44,rfl⟩:=hO44.form
   refine TL.pubO hO44 (.s4 (.past _ .all)) sq (fun HP44 leP44 hR44=>?_)
   refine aS (L':=(b8,_)::((b5,_)::((b3,_)::((b2,_)::(ob1++(ob11)))))) (dV [(b8,_),(b5,_),(b3,_),(b2,_)] (A:=ob1++ob11)) ?_
   replace hle11:=hle11.trans leP44
   replace hPA11:=hPA11.le leP44
   replace hyO:=hyO.le leP44
   refine pS ?_;refine wV ?_
   refine aA rfl rfl rfl rfl (fun b49=>?_)
   refine TL.append (enc:=SPoint.cells) rfl rfl rfl hO11 (Src.own [⟨y.frm,y.to,y.arms,(a44,c44)⟩] (.here _) rfl rfl) (by simp;omega) rfl (.s5 (.past _ .all)) rfl (fun a50 c50 ob50 hO50=>?_)
   refine rc ?_;refine lo ?_
   exact ay (i:=(k11,P11)) (k11+1,P11++[⟨y.frm,y.to,y.arms,(a44,c44)⟩]) _ ob50 HP44 ⟨o2q,hle11,hO50,by simp only [List.length_append,List.length_cons,List.length_nil];omega,dG hPA11 ⟨hR44,hyO.z⟩,eP k011 hk11 hPm11 rfl⟩ ky (fun w hw=>hw.drop.drop) om
  refine fN ?_;refine TC.region ?_
  have hQe:=hPm11
  rw [aX c39 k011] at hQe
  have hQl:P11.length=x.points.length:=by have:=congrArg List.length hQe;simpa using this
  refine TL.pubO hO11 (.s3 (.past _ .all)) sq (fun HPob11 lePob11 hRp=>?_)
  replace hle1:=hle1.trans lePob11
  replace hPA1:=hPA1.le lePob11
  replace hRr:=hRr.le lePob11
  replace hPA11:=hPA11.le lePob11
  refine aS (L':=(b5,_)::((b3,_)::((b2,_)::(ob1)))) (dV [(b5,_),(b3,_),(b2,_)] (A:=ob1)) (iN ?_);refine gL ?_
  refine aA rfl rfl rfl rfl (fun b56=>?_)
  refine TL.append (enc:=SProto.cells) rfl rfl rfl hO1 (Src.own [⟨x.name,x.roles,(a31,c31),P11,(va11,vc11)⟩] (.here _) rfl rfl) (by simp;omega) rfl (.s3 (.skip _ .all)) rfl (fun a57 c57 ob57 hO57=>?_)
  refine rc ?_;refine lo ?_
  exact ay (i:=(k1,P1)) (k1+1,P1++[(⟨x.name,x.roles,(a31,c31),P11,(va11,vc11)⟩:SProto)]) _ ob57 HPob11 ⟨o2q,hle1,hO57,by simp only [List.length_append,List.length_cons,List.length_nil];omega,dG hPA1 ⟨hRr,hRp,hPA11⟩,eP k01 hk1 hPm1 (by unfold SProto.bare;simp only [hQe])⟩ ky (fun w hw=>hw.drop.drop) om
 refine tx ?_
 have hE1:=hPm1
 rw [aX c25 k01] at hE1
 refine TL.pubO hO1 (.skip _ (.skip _ .all)) sq (fun HPob1 lePob1 hRP=>?_)
 replace hP:=hP.le lePob1
 replace hb:=hb.le lePob1
 replace hPA1:=hPA1.le lePob1
 refine aS (L':=(b3,_)::((b2,_)::[])) (List.Perm.refl _) (zm5 ?_);refine TL.run (bG rfl (hb 1 _ rfl)) rfl (TL.run (ah rfl rfl hP.l) rfl (zm9 ?_))
 refine aK (V:=fun(p:Int×List SLocal) v2 ob2 H2=>[(63,.int .i64 p.1)]) (K:=[(1,_),(2,_),(3,_),(61,_),(62,_)]) (L:=fun(p:Int×List SLocal) v2 ob2 H2=>St [] w0 H H2 ((b3,[.slice va1 P1.length vc1,v2,.slice none 0 0])::(b2,[.slice none 0 0,.slice none 0 0,.slice none 0 0])::ob2)) (I:=fun(p:Int×List SLocal) v2 ob2 H2=>(0≤p.1∧p.1≤pg.locals.length)∧HPob1.le H2∧OwnSl 2 SLocal.cells v2 p.2 ob2∧p.2.length=p.1∧LoAll H2 p.2∧p.2.map SLocal.bare=(pg.locals.take p.1.toNat).map SLocal.bare) (μ:=fun(p:Int×List SLocal)=>(pg.locals.length - p.1).toNat) ((0:Int),[]) (.slice none 0 0) [] HPob1 ky ⟨o2q,Hp.le.refl _,OwnSl.nil,rfl,(fun _ h=>by cases h),rfl⟩ (fun w hw=>hw) (fun p v2 ob2 H2 hI=>?_)
 obtain⟨⟨k02,k12⟩,hle2,hO2,hPl2,hPA2,hPm2⟩:=hI
 obtain⟨k2,P2⟩:=p
 dsimp only at *
 obtain⟨va2,vc2,rfl⟩:=hO2.form
 replace hP:=hP.le hle2
 replace hb:=hb.le hle2
 replace hPA1:=hPA1.le hle2
 replace hRP:=hRP.le hle2
 refine zm7 ?_
 refine af rfl ?_ ?_<;>intro c64
 ·
  obtain⟨x,hk2⟩:=aj (l:=pg.locals) k02 c64
  have hxL:=hP.ls x (List.mem_of_getElem? hk2)
  have hxz:=uY (hck.l.2 x (List.mem_of_getElem? hk2)).1
  refine dv ?_;refine TL.run (ae rfl hP.l rfl om om) rfl (TL.run (aY hP.l hk2 rfl rfl) rfl (TL.alloc rfl (fun b10=>?_)))
  refine oG ?_;refine zm2 ?_;refine pS ?_;refine ip ?_;refine TL.run (ah rfl rfl hxL.t) rfl (zm9 ?_)
  refine aK (V:=fun(p:Int×List STurn) v12 ob12 H12=>[(72,.int .i64 p.1)]) (K:=[(1,_),(2,_),(3,_),(10,_),(11,_),(61,_),(62,_),(63,_),(64,_),(65,_),(66,_),(67,_),(68,_),(69,_),(70,_),(71,_)]) (L:=fun(p:Int×List STurn) v12 ob12 H12=>St [] w0 H H12 ((b10,[gs x.name,v12])::(b3,_)::(b2,_)::(ob2++ob12))) (I:=fun(p:Int×List STurn) v12 ob12 H12=>(0≤p.1∧p.1≤x.turns.length)∧H2.le H12∧OwnSl 3 STurn.cells v12 p.2 ob12∧p.2.length=p.1∧TuAll H12 p.2∧p.2.map SArms.bare=(x.turns.take p.1.toNat).map SArms.bare) (μ:=fun(p:Int×List STurn)=>(x.turns.length - p.1).toNat) ((0:Int),[]) (.slice none 0 0) [] H2 ky ⟨o2q,Hp.le.refl _,OwnSl.nil,rfl,(fun _ h=>by cases h),rfl⟩ (fun w hw=>by rw [List.append_nil];exact hw) (fun p v12 ob12 H12 hI=>?_)
  obtain⟨⟨k012,k112⟩,hle12,hO12,hPl12,hPA12,hPm12⟩:=hI
  obtain⟨k12,P12⟩:=p
  dsimp only at *
  obtain⟨va12,vc12,rfl⟩:=hO12.form
  replace hle2:=hle2.trans hle12
  replace hxL:=hxL.le hle12
  replace hPA2:=hPA2.le hle12
  refine zm7 ?_
  refine af rfl ?_ ?_<;>intro c73
  ·
   obtain⟨y,hk12⟩:=aj (l:=x.turns) k012 c73
   have hyO:=hxL.ts y (List.mem_of_getElem? hk12)
   have hyz:=hxz.2 y (List.mem_of_getElem? hk12)
   refine dv ?_;refine TL.run (ae rfl hxL.t rfl om om) rfl (TL.run (aY hxL.t hk12 rfl rfl) rfl (TL.alloc rfl (fun b13=>?_)))
   refine nt ?_
   refine bD (ab rfl rfl rfl rfl) (Fa hyO.a om) rfl (fun v78 H78 ob78 hle78 hp78=>?_)
   obtain⟨eH78,hO78⟩:=hp78
   subst H78
   obtain⟨a78,c78,rfl⟩:=hO78.form
   refine TL.pubO hO78 (.s4 (.past _ .all)) sq (fun HP78 leP78 hR78=>?_)
   refine aS (L':=(b13,_)::((b10,_)::((b3,_)::((b2,_)::(ob2++(ob12)))))) (dV [(b13,_),(b10,_),(b3,_),(b2,_)] (A:=ob2++ob12)) ?_
   replace hle12:=hle12.trans leP78
   replace hPA12:=hPA12.le leP78
   replace hyO:=hyO.le leP78
   refine pS ?_;refine wV ?_
   refine aA rfl rfl rfl rfl (fun b83=>?_)
   refine TL.append (enc:=STurn.cells) rfl rfl rfl hO12 (Src.own [⟨y.kind,y.peer,y.arms,(a78,c78)⟩] (.here _) rfl rfl) (by simp;omega) rfl (.s5 (.past _ .all)) rfl (fun a84 c84 ob84 hO84=>?_)
   refine rc ?_;refine lo ?_
   exact ay (i:=(k12,P12)) (k12+1,P12++[⟨y.kind,y.peer,y.arms,(a78,c78)⟩]) _ ob84 HP78 ⟨o2q,hle12,hO84,by simp only [List.length_append,List.length_cons,List.length_nil];omega,dG hPA12 ⟨hR78,hyO.z⟩,eP k012 hk12 hPm12 rfl⟩ ky (fun w hw=>hw.drop.drop) om
  refine fN ?_;refine TC.region ?_
  have hQe:=hPm12
  rw [aX c73 k012] at hQe
  have hQl:P12.length=x.turns.length:=by have:=congrArg List.length hQe;simpa using this
  refine TL.pubO hO12 (.s3 (.past _ .all)) sq (fun HPob12 lePob12 hRp=>?_)
  replace hle2:=hle2.trans lePob12
  replace hPA2:=hPA2.le lePob12
  replace hPA12:=hPA12.le lePob12
  refine aS (L':=(b10,_)::((b3,_)::((b2,_)::(ob2)))) (dV [(b10,_),(b3,_),(b2,_)] (A:=ob2)) (iN ?_);refine gL ?_
  refine aA rfl rfl rfl rfl (fun b90=>?_)
  refine TL.append (enc:=SLocal.cells) rfl rfl rfl hO2 (Src.own [⟨x.name,P12,(va12,vc12)⟩] (.here _) rfl rfl) (by simp;omega) rfl (.s3 (.skip _ .all)) rfl (fun a91 c91 ob91 hO91=>?_)
  refine rc ?_;refine lo ?_
  exact ay (i:=(k2,P2)) (k2+1,P2++[(⟨x.name,P12,(va12,vc12)⟩:SLocal)]) _ ob91 HPob12 ⟨o2q,hle2,hO91,by simp only [List.length_append,List.length_cons,List.length_nil];omega,dG hPA2 ⟨hRp,hPA12⟩,eP k02 hk2 hPm2 (by unfold SLocal.bare;simp only [hQe])⟩ ky (fun w hw=>hw.drop.drop) om
 refine tx ?_
 have hE2:=hPm2
 rw [aX c64 k02] at hE2
 refine TL.pubO hO2 (.skip _ (.skip _ .all)) sq (fun HPob2 lePob2 hRL=>?_)
 replace hP:=hP.le lePob2
 replace hb:=hb.le lePob2
 replace hPA1:=hPA1.le lePob2
 replace hRP:=hRP.le lePob2
 replace hPA2:=hPA2.le lePob2
 refine aS (L':=(b3,_)::((b2,_)::[])) (List.Perm.refl _) (zm5 ?_);refine TL.run (bG rfl (hb 2 _ rfl)) rfl (TL.run (ah rfl rfl hP.q) rfl (zm9 ?_))
 refine aK (V:=fun(p:Int×List SProc) v3 ob3 H3=>[(97,.int .i64 p.1)]) (K:=[(2,_),(3,_),(95,_),(96,_)]) (L:=fun(p:Int×List SProc) v3 ob3 H3=>St [] w0 H H3 ((b3,[.slice va1 P1.length vc1,.slice va2 P2.length vc2,v3])::(b2,[.slice none 0 0,.slice none 0 0,.slice none 0 0])::ob3)) (I:=fun(p:Int×List SProc) v3 ob3 H3=>(0≤p.1∧p.1≤pg.procs.length)∧HPob2.le H3∧OwnSl 4 SProc.cells v3 p.2 ob3∧p.2.length=p.1∧PcAll H3 p.2∧p.2.map SProc.bare=(pg.procs.take p.1.toNat).map iO) (μ:=fun(p:Int×List SProc)=>(pg.procs.length - p.1).toNat) ((0:Int),[]) (.slice none 0 0) [] HPob2 ky ⟨o2q,Hp.le.refl _,OwnSl.nil,rfl,(fun _ h=>by cases h),rfl⟩ (fun w hw=>hw) (fun p v3 ob3 H3 hI=>?_)
 obtain⟨⟨k03,k13⟩,hle3,hO3,hPl3,hPA3,hPm3⟩:=hI
 obtain⟨k3,P3⟩:=p
 dsimp only at *
 obtain⟨va3,vc3,rfl⟩:=hO3.form
 replace hP:=hP.le hle3
 replace hPA1:=hPA1.le hle3
 replace hRP:=hRP.le hle3
 replace hPA2:=hPA2.le hle3
 replace hRL:=hRL.le hle3
 refine zm7 ?_
 refine af rfl ?_ ?_<;>intro c98
 ·
  obtain⟨q,hk3⟩:=aj (l:=pg.procs) k03 c98
  have hqO:=hP.qs q (List.mem_of_getElem? hk3)
  have hxR:=hck.q.2 q (List.mem_of_getElem? hk3)
  refine dv ?_;refine Az ?_;refine TL.run (aY hP.q hk3 rfl rfl) rfl (TL.alloc rfl (fun b15=>?_))
  refine ik ?_;refine dO ?_
  refine TD.part 1 3 rfl rfl rfl ?_ ?_
  ·
   refine cy [(0,1),(1,2),(2,2),(3,0),(4,3),(5,0),(6,1),(7,0)] kr kr (ln ?_);refine nn ?_
   refine TL.call (ab rfl rfl rfl rfl) (xQ hqO hxR) rfl (fun v104 H104 hle104 hp104=>?_)
   obtain⟨q104,rfl,hq104,hb104⟩:=hp104
   replace hle3:=hle3.trans hle104
   replace hPA3:=hPA3.le hle104
   refine TF.back (aJ rfl rfl rfl rfl (fun b105=>?_))
   refine bB (TL.append (enc:=SProc.cells) rfl rfl rfl hO3 (Src.own [q104] (.here _) rfl rfl) (by simp;omega) rfl (.s3 (.skip _ .all)) rfl (fun a106 c106 ob106 hO106=>?_))
   refine TF.back (En ?_);refine oJ ?_
   exact ay (i:=(k3,P3)) (k3+1,P3++[q104]) _ ob106 H104 ⟨o2q,hle3,hO106,by simp only [List.length_append,List.length_cons,List.length_nil];omega,dG hPA3 hq104,eP k03 hk3 hPm3 hb104⟩ ky (fun w hw=>hw.drop.drop) om
  refine cy [(0,1),(2,2),(3,0),(1,2),(4,3),(5,0),(6,1),(7,0)] kr kr (zm4 ?_);refine nn ?_
  refine TL.call (ab rfl rfl rfl rfl) (xQ hqO hxR) rfl (fun v104 H104 hle104 hp104=>?_)
  obtain⟨q104,rfl,hq104,hb104⟩:=hp104
  replace hle3:=hle3.trans hle104
  replace hPA3:=hPA3.le hle104
  refine TF.back (bg (aE rfl (.h1) rfl) rfl (aJ rfl rfl rfl rfl (fun b105=>?_)))
  refine bB (TL.append (enc:=SProc.cells) rfl rfl rfl hO3 (Src.own [q104] (.here _) rfl rfl) (by simp;omega) rfl (.s3 (.skip _ .all)) rfl (fun a106 c106 ob106 hO106=>?_))
  refine TF.back (En ?_);refine oJ ?_
  exact ay (i:=(k3,P3)) (k3+1,P3++[q104]) _ ob106 H104 ⟨o2q,hle3,hO106,by simp only [List.length_append,List.length_cons,List.length_nil];omega,dG hPA3 hq104,eP k03 hk3 hPm3 hb104⟩ ky (fun w hw=>hw.drop.drop) om
 refine oK ?_
 have hE3:=hPm3
 rw [aX c98 k03] at hE3
 refine TL.pubO hO3 (.skip _ (.skip _ .all)) sq (fun HPob3 lePob3 hRQ=>?_)
 replace hPA1:=hPA1.le lePob3
 replace hRP:=hRP.le lePob3
 replace hPA2:=hPA2.le lePob3
 replace hRL:=hRL.le lePob3
 replace hPA3:=hPA3.le lePob3
 refine aS (L':=(b3,_)::((b2,_)::[])) (List.Perm.refl _) (gL ?_);refine lf ?_
 exact aR (.inr rfl) (ad rfl (RVal.cellA rfl (.h1) rfl)) ⟨⟨P1,(va1,vc1),P2,(va2,vc2),P3,(va3,vc3)⟩,rfl,⟨hRP,hPA1,hRL,hPA2,hRQ,hPA3⟩,by rw [qj c19];unfold SProg.bare;simp only [hE1,hE2,hE3]⟩
end Go.Sx
namespace Go.Sx
open Go
abbrev nS:Sp:=(none,0)
def Gt:SStep:=⟨0,[],[],[],[], -1,[],nS,[],nS,[],nS, -1⟩
def ny (sp qp:Sp):SProg:=⟨[],nS,[],nS,[⟨cL,[],nS,[],nS,[Gt],sp⟩],qp⟩
theorem t8 (sp qp:Sp):eh (ny sp qp)=okF:=by rfl
theorem F3:eh nilPg=⟨1504, -1, -1⟩:=by rfl
theorem jR (sp qp:Sp):dk (ny sp qp).procs cL=0:=by rfl
theorem oX (sp qp:Sp):dk (ny sp qp).procs [120]= -1:=by rfl
theorem Fr {sp qp:Sp}{pg:SProg}(h:pg.bare=rO (ny sp qp)):pg.procs.length=1:=by
 have h1:pg.bare.procs.length=(rO (ny sp qp)).procs.length:=by rw [h]
 rw [qj (by rw [t8];rfl)] at h1
 simpa [SProg.bare,ny] using h1
theorem end_ok (H:Hp):StepOk H Gt:=⟨RdSl.nil,RdSl.nil,(fun _ h=>by cases h),RdSl.nil⟩
theorem Fs {H:Hp}{sp qp:Sp}(h1:RdSl H 10 SStep.cells (.slice sp.1 1 sp.2) [Gt])(h2:RdSl H 4 SProc.cells (.slice qp.1 1 qp.2) [⟨cL,[],nS,[],nS,[Gt],sp⟩]):ProgOk H (ny sp qp):=
 ⟨RdSl.nil,(fun _ h=>by cases h),RdSl.nil,(fun _ h=>by cases h),h2,fun q hq=>by
  simp [ny] at hq;subst hq
  exact⟨RdSl.nil,(fun _ h=>by cases h),by simp,RdSl.nil,(fun _ h=>by cases h),h1,fun s hs=>by simp at hs;subst hs;exact end_ok H⟩⟩
section
variable {name:Str}
variable (sf tp sp qp ap cp:Sp)
section
variable (n:Str)(t x:Int)(k:Int)(d:List Int)(pr:Str)(args:List Int)
end
end
end Go.Sx
namespace Go.Sx
open Go Go.Proofs
theorem sr {H:Hp}:
  Fn Tryz.prog 25 [] H (fun v H2=>∃sp qp,v= .agg (ny sp qp).cells.toArray∧ProgOk H2 (ny sp qp)):=by
 refine Fn.enter Tryz.func25 Tryz.ntmps25 rfl rfl (fun w0=>?_)
 refine zm2 ?_
 refine TL.alloc rfl (fun b0=>?_)
 refine gN ?_;refine dN ?_
 refine aA rfl rfl rfl rfl (fun b2=>?_)
 refine dN ?_
 refine aA rfl rfl rfl rfl (fun b4=>?_)
 refine dN ?_;refine cT rfl rfl rfl rfl rfl (.h2) rfl rfl (TL.nil (iv (.h1) (qG sq (fun H_b2 le_b2 rd_b2=>?_))))
 have hS:RdSl H_b2 10 SStep.cells _ ([Gt]):=RdSl.blk (cap:=1) rd_b2 (by intro x hx;rfl) kr (by show 1≤9223372036854775807;decide)
 refine qG sq (fun H_b4 le_b4 rd_b4=>?_)
 replace hS:=hS.le le_b4
 have hQ:RdSl H_b4 4 SProc.cells _ ([⟨cL,[],nS,[],nS,[Gt],(some ⟨b2,0,none⟩,1)⟩]):=RdSl.blk (cap:=1) rd_b4 (by intro x hx;rfl) kr (by show 1≤9223372036854775807;decide)
 exact ai (TC.ret (aR (.inr rfl) (ad rfl (RVal.cellA rfl (.here _) rfl)) ⟨(some ⟨b2,0,none⟩,1),(some ⟨b4,0,none⟩,1),rfl,Fs hS hQ⟩))
theorem Gx {H:Hp}(hM:MaxG H):Fn Tryz.prog 13 [.agg #[.slice none 0 0,.slice none 0 0,.slice none 0 0]] H (fun v H2=>v= .agg (SFault.cells ⟨1504, -1, -1⟩).toArray):=by
 have:=fz (Dk H) hM
 rw [F3] at this
 exact this
theorem Dw {H:Hp}(hM:MaxG H):
  Fn Tryz.prog 9 [] H (fun v H2=>v= .bool true):=by
 refine Fn.enter Tryz.func9 Tryz.ntmps9 rfl rfl (fun w0=>?_)
 refine AM ?_
 refine TL.call (ab rfl rfl rfl rfl) (sr) rfl (fun v1 H1 hle1 hp1=>?_)
 obtain⟨sp1,qp1,rfl,hP1⟩:=hp1
 replace hM:=hM.le hle1
 refine TL.call (ab rfl rfl rfl rfl) (fz hP1 hM) rfl (fun v2 H2 hle2 hp2=>?_)
 replace hM:=hM.le hle2
 rw [t8] at hp2
 subst hp2
 refine dN ?_;refine TL.run (C8 (r:=true) rfl rfl kr kr kr) rfl (zm0 ?_)
 refine ag (s:=5) rfl ?_ ?_<;>intro g5
 ·
  refine aw rfl rfl (pb rfl rfl) rfl (eb rfl rfl (ab rfl rfl rfl rfl) (Gx hM) rfl (fun v7 H7 hle7 hp7=>?_))
  replace hM:=hM.le hle7
  subst hp7
  refine aw rfl rfl (pb rfl rfl) rfl (aw rfl rfl (C8 (r:=true) rfl rfl kr kr kr) rfl (zm3 ?_))
  refine ag (s:=11) rfl ?_ ?_<;>intro g11
  ·
   refine eb rfl rfl (ab rfl rfl rfl rfl) (sr) rfl (fun v12 H12 hle12 hp12=>?_)
   obtain⟨sp12,qp12,rfl,hP12⟩:=hp12
   replace hM:=hM.le hle12
   refine aH rfl rfl (ab rfl rfl rfl rfl) (i4 cL hP12) rfl (cM ?_)
   refine ag (s:=16) rfl ?_ ?_<;>intro g16
   ·
    have q16:=of_decide_eq_true g16
    refine eb rfl rfl (ab rfl rfl rfl rfl) (sr) rfl (fun v17 H17 hle17 hp17=>?_)
    obtain⟨sp17,qp17,rfl,hP17⟩:=hp17
    replace hM:=hM.le hle17
    refine aH rfl rfl (ab rfl rfl rfl rfl) (i4 [120] hP17) rfl (cM ?_)
    refine ag (s:=21) rfl ?_ ?_<;>intro g21
    ·
     have q21:=of_decide_eq_true g21
     refine eb rfl rfl (ab rfl rfl rfl rfl) (sr) rfl (fun v22 H22 hle22 hp22=>?_)
     obtain⟨sp22,qp22,rfl,hP22⟩:=hp22
     replace hM:=hM.le hle22
     refine eb rfl rfl (ab rfl rfl rfl rfl) (o7 hP22 hM) rfl (fun v23 H23 hle23 hp23=>?_)
     obtain⟨pg23,rfl,hP23,hB23⟩:=hp23
     have hN23:=Fr hB23
     refine aw rfl rfl (qm (off:=2) rfl kr rfl) rfl (aw rfl rfl (ah rfl rfl hP23.q) rfl (rt ?_))
     exact aR (.inr rfl) (ad rfl (RVal.tmp rfl)) (congrArg Value.bool (by first | rfl | (rw [hN23];rfl) | exact absurd (jR _ _) q16 | exact absurd (oX _ _) q21 | exact absurd g11 dq | exact absurd g5 dq))
    have q21:=of_decide_eq_false g21
    refine lh ?_;refine gm ?_
    exact aR (.inr rfl) (ad rfl (RVal.tmp rfl)) (congrArg Value.bool (by first | rfl | (rw [hN23];rfl) | exact absurd (jR _ _) q16 | exact absurd (oX _ _) q21 | exact absurd g11 dq | exact absurd g5 dq))
   have q16:=of_decide_eq_false g16
   refine li ?_;refine Am ?_
   exact aR (.inr rfl) (ad rfl (RVal.tmp rfl)) (congrArg Value.bool (by first | rfl | (rw [hN23];rfl) | exact absurd (jR _ _) q16 | exact absurd (oX _ _) q21 | exact absurd g11 dq | exact absurd g5 dq))
  refine im ?_;refine li ?_;refine Am ?_
  exact aR (.inr rfl) (ad rfl (RVal.tmp rfl)) (congrArg Value.bool (by first | rfl | (rw [hN23];rfl) | exact absurd (jR _ _) q16 | exact absurd (oX _ _) q21 | exact absurd g11 dq | exact absurd g5 dq))
 refine dE ?_;refine zm3 ?_;refine im ?_;refine li ?_;refine Am ?_
 exact aR (.inr rfl) (ad rfl (RVal.tmp rfl)) (congrArg Value.bool (by first | rfl | (rw [hN23];rfl) | exact absurd (jR _ _) q16 | exact absurd (oX _ _) q21 | exact absurd g11 dq | exact absurd g5 dq))
end Go.Sx
namespace Go.Sx
open Go
theorem Ck {u:Nat}(h:10≤u):Lib.decDigits u=Lib.decDigits (u / 10)++[UInt8.ofNat (48+u % 10)]:=by
 rw [Lib.decDigits,dif_neg om]
theorem dec_len (k : Nat) : ∀ u : Nat, u < 10 ^ k → (Lib.decDigits u).length ≤ max k 1 := by
  induction k with
  | zero => intro u h; have : u = 0 := by simpa using h
            subst this; rw [Lib.decDigits_one dq]; simp
  | succ k ih =>
    intro u h
    by_cases h10 : u < 10
    · rw [Lib.decDigits_one h10]; simp
    · rw [Ck om]
      have := ih (u / 10) (by rw [Nat.pow_succ] at h; omega)
      simp only [List.length_append, List.length_cons, List.length_nil]
      have h2 : 1 ≤ (Lib.decDigits (u / 10)).length := by
        rw [Lib.decDigits]; split <;> simp
      rcases Nat.eq_zero_or_pos k with rfl | hk
      · simp at h; omega
      · omega
def DigI (m u z:Nat)(o:List UInt8):Prop:=m≤9223372036854775808∧((o=[]∧u=m∧z=1)∨(o≠[]∧z=0∧u≤m∧(if u=0 then o else Lib.decDigits u++o)=Lib.decDigits m))
section
variable {m u z:Nat}{o:List UInt8}{n:Int}
theorem DigI.zero (h0: -9223372036854775808≤n)(h1:n≤9223372036854775807):DigI n.natAbs n.natAbs 1 []:=⟨by omega,.inl ⟨rfl,rfl,rfl⟩⟩
theorem DigI.lt (h:DigI m u z o):u<18446744073709551616:=by
 obtain⟨h0,⟨_,h,_⟩ | ⟨_,_,h,_⟩⟩:=h<;>omega
theorem DigI.len (h : DigI m u z o) : o.length ≤ 20 := by
  obtain ⟨h0, ⟨h, _⟩ | ⟨_, _, _, h⟩⟩ := h
  · rw [h]; simp
  · have h2 := dec_len 20 m (by have : (10 : Nat) ^ 20 = 100000000000000000000 := by decide
                                omega)
    have h3 := congrArg List.length h
    split at h3
    · omega
    · simp only [List.length_append] at h3; omega
theorem DigI.next (h:DigI m u z o)(hg:0<u∨o.length=0):DigI m (u / 10) 0 ([UInt8.ofNat (48+u % 10)]++o):=by
 obtain⟨h0,h⟩:=h
 refine⟨h0,.inr ⟨by simp,rfl,?_,?_⟩⟩
 ·rcases h with ⟨_,rfl,_⟩ | ⟨_,_,h,_⟩<;>omega
 ·have key:0<u→(if u / 10=0 then [UInt8.ofNat (48+u % 10)]++o else Lib.decDigits (u / 10)++([UInt8.ofNat (48+u % 10)]++o))=Lib.decDigits u++o:=by
   intro hu
   split
   ·rw [Lib.decDigits_one om,show u % 10=u by omega]
   ·rw [Ck (u:=u) om];simp
  rcases h with ⟨rfl,rfl,_⟩ | ⟨hne,_,_,h⟩
  ·rcases Nat.eq_zero_or_pos u with rfl | hu
   ·rw [Lib.decDigits_one dq];rfl
   ·rw [key hu];simp
  ·have hu:0<u:=by
    rcases hg with h | h
    ·exact h
    ·exact absurd (List.length_eq_zero_iff.1 h) hne
   rw [key hu,← h,if_neg om]
theorem DigI.down (h:DigI m u z o)(hg:0<u∨o.length=0):u / 10+0<u+z:=by
 obtain⟨h0,⟨_,_,rfl⟩ | ⟨hne,rfl,_,_⟩⟩:=h
 ·omega
 ·rcases hg with h | h
  ·omega
  ·exact absurd (List.length_eq_zero_iff.1 h) hne
theorem dgo_1 (h:decide ((0:Int)<(u:Int))=true):true=(decide (0<u)||decide (o.length=0)):=by
 have:0<u:=by have:=of_decide_eq_true h;omega
 simp [this]
theorem dgo_2 (h:decide ((0:Int)<(u:Int))=false):decide ((o.length:Int)=0)=(decide (0<u)||decide (o.length=0)):=by
 have:¬0<u:=by have:=of_decide_eq_false h;omega
 have e:((o.length:Int)=0)↔o.length=0:=by omega
 simp only [this,decide_false,Bool.false_or]
 exact decide_eq_decide.2 e
theorem dgo_T (h:(decide (0<u)||decide (o.length=0))=true):0<u∨o.length=0:=by simpa only [Bool.or_eq_true,decide_eq_true_eq] using h
theorem dgo_F (h:(decide (0<u)||decide (o.length=0))=false):¬0<u∧¬o.length=0:=by simpa only [Bool.or_eq_false_iff,decide_eq_false_iff_not] using h
theorem DigI.out (h:DigI m u z o)(hu:¬0<u)(ho:¬o.length=0):o=Lib.decDigits m:=by
 obtain⟨h0,⟨rfl,_⟩ | ⟨_,_,_,h⟩⟩:=h
 ·exact absurd rfl ho
 ·rwa [if_pos om] at h
theorem Ci (hD:DigI n.natAbs u z o)(hend:¬0<u∧¬o.length=0)(h:n<0):[45]++o=Lib.itoa n:=by
 rw [hD.out hend.1 hend.2];unfold Lib.itoa;rw [if_pos h];rfl
theorem Ch (hD:DigI n.natAbs u z o)(hend:¬0<u∧¬o.length=0)(h:¬n<0):o=Lib.itoa n:=by
 rw [hD.out hend.1 hend.2];unfold Lib.itoa;rw [if_neg h];congr 1;omega
theorem dig_quo (h:u<18446744073709551616):IntKind.u64.wrap ((u:Int).tdiv 10)=((u / 10:Nat):Int):=by
 rw [Int.tdiv_eq_ediv_of_nonneg om]
 simp only [IntKind.wrap,IntKind.signed,IntKind.bits]
 simp
 omega
theorem Ji (u:Nat):IntKind.u8.wrap (IntKind.u64.wrap (48+(u:Int).tmod 10))=((UInt8.ofNat (48+u % 10)).toNat:Int):=by
 rw [Int.tmod_eq_emod_of_nonneg om]
 simp only [IntKind.wrap,IntKind.signed,IntKind.bits]
 simp
theorem dig_pos (h0: -9223372036854775808≤n)(h1:n≤9223372036854775807)(h:¬n<0):IntKind.u64.wrap n=(n.natAbs:Int):=by
 simp only [IntKind.wrap,IntKind.signed,IntKind.bits]
 simp
 omega
theorem dig_neg (h0: -9223372036854775808≤n)(h1:n≤9223372036854775807)(h:n<0):IntKind.u64.wrap (0 - IntKind.u64.wrap n)=(n.natAbs:Int):=by
 simp only [IntKind.wrap,IntKind.signed,IntKind.bits]
 simp
 omega
end
end Go.Sx
namespace Go.Sx
open Go Go.Proofs
theorem Dz {H:Hp}(n:Int)(h0: -9223372036854775808≤n)(h1:n≤9223372036854775807)(hn:¬n<0):
  FnS Tryz.prog 181 [.int .i64 n] H (gs (Lib.itoa n)):=by
 refine FnS.enter Tryz.func181 Tryz.ntmps181 rfl rfl (fun w0=>?_)
 refine oF ?_;refine TL.run (PR.to (d8 rfl) (congrArg (Value.int .u64) (dig_pos h0 h1 hn))) rfl (kM ?_)
 refine af rfl ?_ ?_<;>intro c8
 · exact absurd c8 hn
 exact TC.skip (zq357)
theorem Dy {H:Hp}(n:Int)(h0: -9223372036854775808≤n)(h1:n≤9223372036854775807)(hn:n<0):
  FnS Tryz.prog 181 [.int .i64 n] H (gs (Lib.itoa n)):=by
 refine FnS.enter Tryz.func181 Tryz.ntmps181 rfl rfl (fun w0=>?_)
 refine oF ?_;refine TL.run (d8 rfl) rfl (kM ?_)
 refine af rfl ?_ ?_<;>intro c8
 ·
  refine jz ?_;refine TL.run (PR.to (aG rfl) (congrArg (Value.int .u64) (dig_neg h0 h1 hn))) rfl (cu ?_)
  exact zq357
 exact absurd hn c8
theorem yr {H:Hp}(n:Int)(h0: -9223372036854775808≤n)(h1:n≤9223372036854775807):FnS Tryz.prog 181 [.int .i64 n] H (gs (Lib.itoa n)):=by
 by_cases hn:n<0
 · exact Dy n h0 h1 hn
 · exact Dz n h0 h1 hn
end Go.Sx
namespace Go.Sx
open Go
inductive CT where
 | int
 | str (p:Str→Prop)
 | sl (t:Nat)
structure Sig where
 f:Nat→Option (Nat×Nat)
 N:Nat
instance :CoeFun Sig (fun _=>Nat→Option (Nat×Nat)):=⟨Sig.f⟩
def Sig.le (S S':Sig):Prop:=(∀b x,S b=some x→S' b=some x)∧S.N≤S'.N
theorem Sig.le.refl (S:Sig):S.le S:=⟨fun _ _ h=>h,Nat.le_refl _⟩
theorem Sig.le.trans {A B C:Sig}(h:A.le B)(k:B.le C):A.le C:=⟨fun b x hx=>k.1 b x (h.1 b x hx),Nat.le_trans h.2 k.2⟩
def Sig.up (S:Sig)(k:Nat):Sig:={S with N:=S.N+k}
theorem Sig.le_up (S:Sig)(k:Nat):S.le (S.up k):=⟨fun _ _ h=>h,Nat.le_add_right _ _⟩
def VarNm (s:Str):Prop:=s=[]∨s=[99]∨s=[110]∨s=[99,57]∨∃ds:Str,s=118::ds∧ds.length≤10∧∀c∈ds,48≤c∧c≤57
def AnyNm (s:Str):Prop:=s.length≤1000
def PNm (s:Str):Prop:=s.length≤1000∧s≠[109,111,114,101]
def fL:Nat→List CT
 | 0=>[.int,.str VarNm,.int,.str AnyNm,.int,.int]
 | 1=>[.str AnyNm,.str VarNm,.int]
 | 2=>[.str AnyNm,.str PNm,.sl 4]
 | 3=>[.int,.str VarNm,.str AnyNm,.str AnyNm,.str PNm,.int,.sl 4,.sl 2,.sl 1,.int]
 | _=>[.int]
def kT (t:Nat):Nat:=(fL t).length
theorem kT_pos:∀t,0<kT t
 | 0 | 1 | 2 | 3=>by decide
 | n+4=>by simp [kT,fL]
def SlT (S:Sig)(t:Nat)(a:Option Addr)(n c:Nat):Prop:=
 (a=none∧n=0∧c=0)∨∃b j m,a=some ⟨b,j * kT t,none⟩∧S b=some (t,m)∧n≤c∧j+c≤m∧c≤9223372036854775807
theorem SlT.nil {S:Sig}{t:Nat}:SlT S t none 0 0:=.inl ⟨rfl,rfl,rfl⟩
theorem SlT.le {S S':Sig}{t:Nat}{a:Option Addr}{n c:Nat}(h:SlT S t a n c)(hl:S.le S'):SlT S' t a n c:=by
 rcases h with h | ⟨b,j,m,h1,h2,h3⟩
 ·exact .inl h
 ·exact .inr ⟨b,j,m,h1,hl.1 _ _ h2,h3⟩
def CTy (H:Hp)(S:Sig):CT→Value→Prop
 | .int,v=>∃i,v= .int .i64 i
 | .str p,v=>∃s,v=gs s∧p s
 | .sl t,v=>∃a n c,v= .slice a n c∧SlT S t a n c∧n≤S.N
theorem CTy.le {H H':Hp}{S S':Sig}{ct:CT}{v:Value}(h:CTy H S ct v)(hH:H.le H')(hS:S.le S'):CTy H' S' ct v:=by
 cases ct with
 | int=>exact h
 | str p=>exact h
 | sl t=>
  obtain⟨a,n,c,e,hs,hn⟩:=h
  exact⟨a,n,c,e,hs.le hS,Nat.le_trans hn hS.2⟩
def AllT (H:Hp)(S:Sig):List CT→List Value→Prop
 | [],[]=>True
 | c::cs,v::vs=>CTy H S c v∧AllT H S cs vs
 | _,_=>False
theorem AllT.at {H:Hp}{S:Sig}:∀{cs:List CT} {vs:List Value},AllT H S cs vs→∀{j:Nat} {u:Value},vs[j]? =some u→∃ct,cs[j]? =some ct∧CTy H S ct u
 | [],[],_,j,u,hu=>by simp at hu
 | c::cs,v::vs,h,0,u,hu=>by simp at hu;subst hu;exact⟨c,rfl,h.1⟩
 | c::cs,v::vs,h,j+1,u,hu=>by
  obtain⟨ct,h1,h2⟩:=AllT.at h.2 (j:=j) (u:=u) (by simpa using hu)
  exact⟨ct,by simpa using h1,h2⟩
 | [],_::_,h,_,_,_=>h.elim
 | _::_,[],h,_,_,_=>h.elim
theorem AllT.of {H:Hp}{S:Sig}:∀{cs:List CT} {vs:List Value},vs.length=cs.length→(∀(j:Nat) (ct:CT),cs[j]? =some ct→∃u,vs[j]? =some u∧CTy H S ct u)→AllT H S cs vs
 | [],[],_,_=>trivial
 | c::cs,v::vs,hl,h=>by
  obtain⟨u,h1,h2⟩:=h 0 c rfl
  simp at h1;subst h1
  exact⟨h2,AllT.of (by simpa using hl) (fun j ct hj=>by simpa using h (j+1) ct (by simpa using hj))⟩
 | [],_::_,h,_=>by simp at h
 | _::_,[],h,_=>by simp at h
structure Bag (H:Hp)(S:Sig)(B:aq):Prop where
 ty:∀p∈B,∃t m,S p.1=some (t,m)∧p.2.length=m * kT t∧∀(o:Nat) (u:Value),p.2[o]? =some u→∃ct,(fL t)[o % kT t]? =some ct∧CTy H S ct u
 mem:∀b t m,S b=some (t,m)→∃cs,(b,cs)∈B
def Sig.nil:Sig:=⟨fun _=>none,10⟩
theorem Bag.nil {H:Hp}:Bag H Sig.nil []:=⟨by simp,by simp [Sig.nil]⟩
theorem Bag.leH {H H':Hp}{S:Sig}{B:aq}(h:Bag H S B)(hl:H.le H'):Bag H' S B:=
 ⟨fun p hp=>by
  obtain⟨t,m,h1,h2,h3⟩:=h.ty p hp
  refine⟨t,m,h1,h2,fun o u hu=>?_⟩
  obtain⟨ct,h4,h5⟩:=h3 o u hu
  exact⟨ct,h4,h5.le hl (.refl S)⟩,h.mem⟩
theorem Bag.up {H:Hp}{S:Sig}{B:aq}(h:Bag H S B)(k:Nat):Bag H (S.up k) B:=
 ⟨fun p hp=>by
  obtain⟨t,m,h1,h2,h3⟩:=h.ty p hp
  refine⟨t,m,h1,h2,fun o u hu=>?_⟩
  obtain⟨ct,h4,h5⟩:=h3 o u hu
  exact⟨ct,h4,h5.le (.refl H) (Sig.le_up S k)⟩,h.mem⟩
theorem Bag.perm {H:Hp}{S:Sig}{B B':aq}(h:Bag H S B)(hp:B.Perm B'):Bag H S B':=
 ⟨fun p hm=>h.ty p (hp.mem_iff.2 hm),fun b t m hs=>by
  obtain⟨cs,hc⟩:=h.mem b t m hs
  exact⟨cs,hp.mem_iff.1 hc⟩⟩
theorem Bag.take {H:Hp}{S:Sig}{B:aq}{b t m:Nat}(h:Bag H S B)(hS:S b=some (t,m)):∃cs R,B.Perm ((b,cs)::R)∧cs.length=m * kT t∧∀(o:Nat) (u:Value),cs[o]? =some u→∃ct,(fL t)[o % kT t]? =some ct∧CTy H S ct u:=by
 obtain⟨cs,hc⟩:=h.mem b t m hS
 obtain⟨X,Y,rfl⟩:=List.append_of_mem hc
 obtain⟨t',m',h1,h2,h3⟩:=h.ty _ hc
 rw [hS] at h1
 cases h1
 exact⟨cs,X++Y,List.perm_middle,h2,h3⟩
theorem Bag.back {H:Hp}{S:Sig}{R:aq}{b t m:Nat}{cs cs':List Value}(h:Bag H S ((b,cs)::R))(hS:S b=some (t,m))(hl:cs'.length=m * kT t)
    (hc:∀(o:Nat) (u:Value),cs'[o]? =some u→∃ct,(fL t)[o % kT t]? =some ct∧CTy H S ct u):Bag H S ((b,cs')::R):=
  ⟨fun p hp=>by
    rcases List.mem_cons.1 hp with rfl | hp
    · exact⟨t,m,hS,hl,hc⟩
    · exact h.ty p (List.mem_cons_of_mem _ hp),
   fun b' t' m' hs=>by
    obtain⟨c,hm⟩:=h.mem b' t' m' hs
    rcases List.mem_cons.1 hm with e | hm
    · cases e;exact⟨cs',by simp⟩
    · exact⟨c,List.mem_cons_of_mem _ hm⟩⟩
def Sig.put (S:Sig)(b t m:Nat):Sig:=⟨fun x=>if x=b then some (t,m) else S x,S.N⟩
theorem Sig.le_put {S:Sig}{b t m:Nat}(h:S b=none):S.le (S.put b t m):=⟨fun x y hx=>by
 simp only [Sig.put]
 split
 ·rename_i e;subst e;rw [h] at hx;cases hx
 ·exact hx,Nat.le_refl _⟩
theorem Sig.put_at {S:Sig}{b t m:Nat}:(S.put b t m) b=some (t,m):=by simp [Sig.put]
theorem Bag.add {H:Hp}{S:Sig}{B:aq}{b t m:Nat}{cs:List Value}(h:Bag H S B)(hb:S b=none)(hl:cs.length=m * kT t)
    (hc:∀(o:Nat) (u:Value),cs[o]? =some u→∃ct,(fL t)[o % kT t]? =some ct∧CTy H S ct u):Bag H (S.put b t m) ((b,cs)::B):=
  ⟨fun p hp=>by
    rcases List.mem_cons.1 hp with rfl | hp
    · refine⟨t,m,Sig.put_at,hl,fun o u hu=>?_⟩
      obtain⟨ct,h1,h2⟩:=hc o u hu
      exact⟨ct,h1,h2.le (.refl H) (Sig.le_put hb)⟩
    · obtain⟨t',m',h1,h2,h3⟩:=h.ty p hp
      refine⟨t',m',(Sig.le_put hb).1 _ _ h1,h2,fun o u hu=>?_⟩
      obtain⟨ct,h4,h5⟩:=h3 o u hu
      exact⟨ct,h4,h5.le (.refl H) (Sig.le_put hb)⟩,
   fun b' t' m' hs=>by
    simp only [Sig.put] at hs
    split at hs
    · rename_i e;subst e;exact⟨cs,by simp⟩
    · obtain⟨c,hm⟩:=h.mem b' t' m' hs
      exact⟨c,List.mem_cons_of_mem _ hm⟩⟩
theorem Bag.none {H:Hp}{S:Sig}{B:aq}(h:Bag H S B){b:Nat}(hb:∀p∈B,p.1≠b):S b=none:=by
 cases e:S b with
 | none=>rfl
 | some x=>
  obtain⟨cs,hc⟩:=h.mem b x.1 x.2 (by rw [e])
  exact absurd rfl (hb _ hc)
theorem set_get {cs:List Value}{o:Nat}{v:Value}{i:Nat}{u:Value}(h:(cs.set o v)[i]? =some u):(i=o∧u=v)∨cs[i]? =some u:=by
 rw [List.getElem?_set] at h
 split at h
 ·split at h
  ·simp only [Option.some.injEq] at h
   rename_i e _
   exact .inl ⟨e.symm,h.symm⟩
  ·cases h
 ·exact .inr h
theorem yO {vs cs:List Value}{o i:Nat}{u:Value}(hl:o+vs.length≤cs.length)(h:(ci cs o vs)[i]? =some u):(o≤i∧vs[i - o]? =some u)∨cs[i]? =some u:=by
 rw [ir _ _ _ hl] at h
 by_cases h1:i<o
 ·rw [List.getElem?_append_left (by simp;omega),List.getElem?_take,if_pos h1] at h
  exact .inr h
 ·rw [List.getElem?_append_right (by simp;omega),List.length_take,Nat.min_eq_left om] at h
  by_cases h2:i - o<vs.length
  ·rw [List.getElem?_append_left h2] at h
   exact .inl ⟨by omega,h⟩
  ·rw [List.getElem?_append_right om,List.getElem?_drop] at h
   rw [show o+vs.length+(i - o - vs.length)=i by omega] at h
   exact .inr h
theorem vL {z:Array Value}{m o:Nat}{u:Value}(hz:0<z.size)(h:(Builtin.zeroCells z m).toList[o]? =some u):z.toList[o % z.size]? =some u:=by
 have h1:(Builtin.zeroCells z m)[o]? =some u:=by simpa using h
 unfold Builtin.zeroCells at h1
 rw [Array.getElem?_map] at h1
 cases e:(Array.range (m * z.size))[o]? with
 | none=>rw [e] at h1;simp at h1
 | some i=>
  rw [e] at h1
  obtain⟨hlt,hi⟩:=Array.getElem?_eq_some_iff.1 e
  simp at hi
  subst hi
  have hm:=Nat.mod_lt o hz
  simp only [Option.map_some,Option.some.injEq] at h1
  rw [Array.getElem!_eq_getD,Array.getD_eq_getD_getElem?,Array.getElem?_eq_getElem hm] at h1
  simp only [Option.getD_some] at h1
  subst h1
  simp [hm]
section
variable {P:Program}{n:Nat}{ops:Array Oper}{Q:Exit→Act→World→Prop}{E:Env}{M:List Nat}{w0:World}{H0 H:Hp}{L:aq}{C:World→Prop}{rest:List Oper}{dst:Option Nat}{op:Op}{ty:TypeId}{pos:String}{aft:Array Edge}
theorem Bc {α : Type} {k t e bs tt : Nat} {z : List Value} {enc : α → List Value} [hc : Cells k enc] [hE : Elz P tt e k bs z] {S : Sig} {B : aq} {F : aq → aq} {a : Option Addr} {n c : Nat} {v2 : Value} {ys : List α} {ty : TypeId}
  (hB : Bag H S B) (hT : SlT S t a n c) (hS : Src M w0 H0 H L enc v2 ys) (hk : kT t = k) (hy : ∀ y ∈ ys, AllT H S (fL t) (enc y)) (hz : AllT H S (fL t) z)
  (hb : (n + ys.length) * bs ≤ 140737488355328) (hbs : 0 < bs) (hU : Tl B L F) {w : World} (hw : St M w0 H0 H L w) :
  ∃ S' a' c' B' w', (S.le S' ∧ S'.N = S.N) ∧ SlT S' t a' (n + ys.length) c' ∧ Bag H S' B' ∧ St M w0 H0 H (F B') w' ∧ (Builtin.append_ #[tt, tt] ty #[.slice a n c, v2]).run P w = .ok (.slice a' (n + ys.length) c') w' := by
 obtain ⟨hu, i, zv, hi, h1, h2, h3, h4⟩ := hE.und
 have hkp := hc.pos
 have hmax : n + ys.length ≤ 140737488355328 := Nat.le_trans (Nat.le_mul_of_pos_right _ hbs) hb
 obtain ⟨R, hp1, hp2⟩ := hU.perm
 have hwR := hw.perm hp1
 obtain ⟨a2, cap2, rfl, hsrc⟩ := hS
 have hzk : zv.cells.size = k := by rw [← hE.len, ← h4]; simp
 have hzl : ∀ m, (Builtin.zeroCells zv.cells m).toList.length = m * k := by intro m; rw [Array.length_toList, size_zeroCells, hzk]
 have hzt : ∀ m (o : Nat) (u : Value), (Builtin.zeroCells zv.cells m).toList[o]? = some u → ∃ ct, (fL t)[o % k]? = some ct ∧ CTy H S ct u := fun m o u hx => by
  have := vL om hx
  rw [h4, hzk] at this
  exact hz.at this
 by_cases hys : ys = []
 ·subst hys
  have hfc : ∀ w, (Builtin.firstCells i.size 0 (.slice a2 0 cap2)).run P w = .ok #[] w := by
   intro w
   cases a2 with
   | none => exact run_firstCells_none w _ _ _ _
   | some a => exact run_firstCells_some (P := P) w i.size 0 a 0 cap2 [] sq sq
  refine ⟨S, a, c, B, w, ⟨.refl S, rfl⟩, by simpa using hT, hB, hw.perm (hp1.trans (hp2 B).symm), ?_⟩
  rcases hT with ⟨rfl, rfl, rfl⟩ | ⟨b, j, m, rfl, hSb, hn, hjc, hcm⟩
  ·simp [Builtin.append_, run_underlying hu, sizeOf, typeInfo, hi, Builtin.lenOf, hfc]
  ·simp [Builtin.append_, run_underlying hu, sizeOf, typeInfo, hi, Builtin.lenOf, hfc, hn, storeCells]
 ·obtain ⟨sb, so, rfl, hrd⟩ := hsrc hys
  have hrd' : ∀ j u, (ys.flatMap enc)[j]? = some u → w.cell? ((⟨sb, so, none⟩ : Addr).add j) = some u := fun j u hj => by rw [fA]; exact hrd w hw j u hj
  have hyl : (ys.flatMap enc).length = ys.length * k := j8 (fun x _ => hc.len x)
  have hyl' : (ys.flatMap enc).length = ys.length * i.size := by rw [hyl, h1]
  have hypos : 0 < ys.length := List.length_pos_iff.2 hys
  have hyt : ∀ (o : Nat) (u : Value), (ys.flatMap enc)[o]? = some u → ∃ ct, (fL t)[o % k]? = some ct ∧ CTy H S ct u := fun o u hx => by
   obtain ⟨x, h5, h6⟩ := mN hkp (fun x _ => hc.len x) o u hx
   exact (hy x (List.mem_of_getElem? h5)).at h6
  have hone : ∀ u ∈ ys.flatMap enc, u.oneCell' = true := by
   intro u hu
   obtain ⟨x, _, hx⟩ := List.mem_flatMap.1 hu
   exact List.all_eq_true.1 (hc.one x) u hx
  have fresh : ∀ {X : aq} {cs : List Value} {w' : World}, St M w0 H0 H ((w.heap.size, cs) :: (B ++ X)) w' → S w.heap.size = none := fun {X cs w'} hst => hB.none (fun p hp e => by
   have hnd := hst.nd
   simp only [List.map_cons, List.nodup_cons] at hnd
   exact hnd.1 (List.mem_map.2 ⟨p, List.mem_append_left _ hp, e⟩))
  rcases hT with ⟨rfl, rfl, rfl⟩ | ⟨b, j, m, rfl, hSb, hn, hjc, hcm⟩
  ·-- the first block
   have hb0 : ys.length * i.bytes ≤ 281474976710656 := by rw [h2]; simp at hb; omega
   have hr := run_append_nil (P := P) w tt ty e i zv hu hi h3 ⟨sb, so, none⟩ ys.length cap2 (ys.flatMap enc) hyl' hrd' hypos (by simp at hmax; omega) hb0
   have hge := grownCap_ge w ys.length 0 e
   have hcm := grownCap_le_maxLen w ys.length 0 e (by simp only [maxLen]; simp at hmax; omega)
   simp only [maxLen] at hcm
   have hst := (hwR.drew).alloc ((ys.flatMap enc) ++ (Builtin.zeroCells zv.cells (grownCap w ys.length 0 e - ys.length)).toList) e
   have hlen : ((ys.flatMap enc) ++ (Builtin.zeroCells zv.cells (grownCap w ys.length 0 e - ys.length)).toList).length = grownCap w ys.length 0 e * kT t := by
    rw [List.length_append, hyl, hzl, ← Nat.add_mul, hk]; congr 1; omega
   refine ⟨S.put w.heap.size t (grownCap w ys.length 0 e), some ⟨w.heap.size, 0, none⟩, grownCap w ys.length 0 e, (w.heap.size, (ys.flatMap enc) ++ (Builtin.zeroCells zv.cells (grownCap w ys.length 0 e - ys.length)).toList) :: B, _, ⟨Sig.le_put (fresh hst), rfl⟩, .inr ⟨w.heap.size, 0, _, by simp, Sig.put_at, by omega, by omega, by omega⟩, hB.add (fresh hst) hlen (fun o u hx => ?_), hst.perm (hp2 ((_, _) :: B)).symm, ?_⟩
   ·by_cases ho : o < (ys.flatMap enc).length
    ·rw [List.getElem?_append_left ho] at hx; rw [hk]; exact hyt o u hx
    ·rw [List.getElem?_append_right om] at hx
     have := hzt _ _ _ hx
     rw [hk]
     rw [show o % k = (o - (ys.flatMap enc).length) % k by
      rw [hyl]; conv => lhs; rw [show o = (o - ys.length * k) + ys.length * k by omega]
      rw [Nat.add_mul_mod_self_right]]
     exact this
   ·rw [hr]
    congr 2
    ·simp
    ·simp
  ·obtain ⟨cs, R2, hp3, hcl, hct⟩ := hB.take hSb
   have hB2 := hB.perm hp3
   have hw2 : St M w0 H0 H ((b, cs) :: (R2 ++ R)) w := hwR.perm (by simpa using hp3.append_right R)
   rw [hk] at hcl
   have hjm : j * k + c * k ≤ m * k := by rw [← Nat.add_mul]; exact Nat.mul_le_mul_right _ hjc
   by_cases hroom : n + ys.length ≤ c
   ·-- room
    have hroomk : n * k + ys.length * k ≤ c * k := by rw [← Nat.add_mul]; exact Nat.mul_le_mul_right _ hroom
    have hfit : j * k + n * k + 0 + (ys.flatMap enc).length ≤ cs.length := by rw [hyl, hcl]; omega
    obtain ⟨w', hr, hst⟩ := gx (P := P) (ys.flatMap enc) cs (j * k + n * k) 0 _ _ w hw2 (Upd.here _) hone hfit
    have hfc := run_firstCells_some (P := P) w i.size ys.length ⟨sb, so, none⟩ ys.length cap2 (ys.flatMap enc) hyl' hrd'
    have hfit' : (j * k + n * k) + (ys.flatMap enc).length ≤ cs.length := by omega
    have hsl : (ci cs (j * k + n * k) (ys.flatMap enc)).length = m * kT t := by
     rw [ir _ _ _ hfit', hk, ← hcl]
     simp only [List.length_append, List.length_take, List.length_drop]; omega
    refine ⟨S, some ⟨b, j * kT t, none⟩, c, (b, ci cs (j * k + n * k) (ys.flatMap enc)) :: R2, w', ⟨.refl S, rfl⟩, .inr ⟨b, j, m, rfl, hSb, hroom, hjc, hcm⟩, hB2.back hSb hsl (fun o u hx => ?_), hst.perm (by simpa using (hp2 ((_, _) :: R2)).symm), ?_⟩
    ·rcases yO hfit' hx with ⟨ho, hx⟩ | hx
     ·have := hyt _ _ hx
      rw [hk]
      rw [show o % k = (o - (j * k + n * k)) % k by
       conv => lhs; rw [show o = (o - (j * k + n * k)) + (j + n) * k by rw [Nat.add_mul]; omega]
       rw [Nat.add_mul_mod_self_right]]
      exact this
     ·exact hct o u hx
    ·have hr' : (storeCells ⟨b, j * kT t + n * i.size, none⟩ (ys.flatMap enc)).run P w = .ok () w' := by rw [h1, hk]; exact hr
     simp [Builtin.append_, run_underlying hu, sizeOf, typeInfo, hi, Builtin.lenOf, hroom, hfc, Addr.add_lit, hr']
   ·-- a new block
    have hnk : n * k ≤ c * k := Nat.mul_le_mul_right _ hn
    have hol : ((cs.drop (j * k)).take (n * k)).length = n * k := by rw [List.length_take, List.length_drop, hcl]; omega
    have hog : ∀ (o : Nat) (u : Value), ((cs.drop (j * k)).take (n * k))[o]? = some u → cs[j * k + o]? = some u := fun o u hx => by
     rw [List.getElem?_take] at hx
     split at hx
     ·rwa [List.getElem?_drop] at hx
     ·cases hx
    have holds : ∀ o u, ((cs.drop (j * k)).take (n * k))[o]? = some u → w.cell? ((⟨b, j * kT t, none⟩ : Addr).add o) = some u := by
     intro o u hj
     rw [fA, hk, hw2.cell (.here _)]
     exact hog o u hj
    have hr := run_append_grow (P := P) w tt ty e i zv hu hi h3 ⟨b, j * kT t, none⟩ n c ((cs.drop (j * k)).take (n * k)) (by rw [hol, h1]) holds ⟨sb, so, none⟩ ys.length cap2 (ys.flatMap enc) hyl' hrd' om om (growslice_fits om (by rw [h2]; exact hb))
    have hge := grownCap_ge w (n + ys.length) c e
    have hcm2 := grownCap_le_maxLen w (n + ys.length) c e (by simp only [maxLen]; omega)
    simp only [maxLen] at hcm2
    have hst := (hwR.drew).alloc (((cs.drop (j * k)).take (n * k)) ++ (ys.flatMap enc) ++ (Builtin.zeroCells zv.cells (grownCap w (n + ys.length) c e - (n + ys.length))).toList) e
    have hlen : (((cs.drop (j * k)).take (n * k)) ++ (ys.flatMap enc) ++ (Builtin.zeroCells zv.cells (grownCap w (n + ys.length) c e - (n + ys.length))).toList).length = grownCap w (n + ys.length) c e * kT t := by
     rw [List.length_append, List.length_append, hol, hyl, hzl, ← Nat.add_mul, ← Nat.add_mul, hk]; congr 1; omega
    refine ⟨S.put w.heap.size t (grownCap w (n + ys.length) c e), some ⟨w.heap.size, 0, none⟩, grownCap w (n + ys.length) c e, (w.heap.size, ((cs.drop (j * k)).take (n * k)) ++ (ys.flatMap enc) ++ (Builtin.zeroCells zv.cells (grownCap w (n + ys.length) c e - (n + ys.length))).toList) :: B, _, ⟨Sig.le_put (fresh hst), rfl⟩, .inr ⟨w.heap.size, 0, _, by simp, Sig.put_at, by omega, by omega, by omega⟩, hB.add (fresh hst) hlen (fun o u hx => ?_), hst.perm (hp2 ((_, _) :: B)).symm, ?_⟩
    ·rw [hk]
     by_cases ho : o < n * k
     ·rw [List.append_assoc, List.getElem?_append_left (by rw [hol]; exact ho)] at hx
      have := hct _ _ (hog o u hx)
      rw [hk, Nat.mul_comm, Nat.mul_add_mod] at this
      exact this
     ·rw [List.append_assoc, List.getElem?_append_right (by rw [hol]; omega), hol] at hx
      have hoe : o % k = (o - n * k) % k := by
       conv => lhs; rw [show o = (o - n * k) + n * k by omega]
       rw [Nat.add_mul_mod_self_right]
      rw [hoe]
      by_cases ho2 : o - n * k < (ys.flatMap enc).length
      ·rw [List.getElem?_append_left ho2] at hx; exact hyt _ u hx
      ·rw [List.getElem?_append_right om] at hx
       have := hzt _ _ _ hx
       rw [show (o - n * k) % k = (o - n * k - (ys.flatMap enc).length) % k by
        rw [hyl]; conv => lhs; rw [show o - n * k = (o - n * k - ys.length * k) + ys.length * k by omega]
        rw [Nat.add_mul_mod_self_right]]
       exact this
    ·rw [hr]
     congr 2
     congr 1
     apply Array.ext'; simp
theorem jI {α:Type}{k t e bs tt:Nat}{z:List Value}{enc:α→List Value}[hc:Cells k enc]{cl:Call}{x y:Operand}{S:Sig}{B:aq}{F:aq→aq}{a:Option Addr}{m c:Nat}{v2:Value}{ys:List α}
  (hcl:cl={callee:=.builtin .append,args:= #[x,y],argTypes:= #[tt,tt]}) (hx:ev E x=some (.slice a m c)) (hy:ev E y=some v2) (hB:Bag H S B) (hT:SlT S t a m c) (hS:Src M w0 H0 H L enc v2 ys)
  [hE:Elz P tt e k bs z] (hk:kT t=k) (hyt:∀y∈ys,AllT H S (fL t) (enc y)) (hz:AllT H S (fL t) z) (hb:(m+ys.length) * bs≤140737488355328) (hbs:Nat.blt 0 bs=true) (hU:Tl B L F) (hd:cD dst n=true)
  (h:∀S' a' c' B',S.le S'→S'.N=S.N+ys.length→SlT S' t a' (m+ys.length) c'→Bag H S' B'→TL P n ops Q rest (cz dst (.slice a' (m+ys.length) c') E) (St M w0 H0 H (F B'))):
  TL P n ops Q ({dst:=dst,op:=.call cl,type:=ty,pos:=pos,after:=aft,guard:=none}::rest) E (St M w0 H0 H L):=by
 intro a0 w he hw
 refine cJ rfl (fun K hK=>?_)
 obtain⟨S',a',c',B',w',h0,h1,h2,h3,h4⟩:=Bc (P:=P) (tt:=tt) (ty:=ty) hB hT hS hk hyt hz hb (by simpa [Nat.blt_eq] using hbs) hU hw
 have hrun:(execOp a0.eval {dst:=dst,op:=.call cl,type:=ty,pos:=pos,after:=aft,guard:=none}).run P w= .ok (.value (.slice a' (m+ys.length) c')) w':=by
  subst hcl
  simp [execOp,resolve,invoke,builtin,he.eval hx,he.eval hy,h4]
 unfold Oper.wp
 rw [hrun]
 exact hK _ _ (h (S'.up ys.length) a' c' B' (h0.1.trans (Sig.le_up _ _)) (by simp only [Sig.up];rw [h0.2]) (h1.le (Sig.le_up _ _)) (h2.up _) _ _ (he.put hd) h3)
theorem TL.stT {t m b o k1:Nat}{x y:Operand}{u:Value}{ct:CT}{S:Sig}{B:aq}{F:aq→aq}{tt:TypeId}(hx:ev E x=some (.pointer (some ⟨b,o,none⟩)))(hy:ev E y=some u)(hB:Bag H S B)(hU:Tl B L F)(hS:S b=some (t,m))(ho:o<m * kT t)(hct:(fL t)[o % kT t]? =some ct)
  (hu:CTy H S ct u) [ht:Ty P tt false k1] [h1:One u] (hk:k1=1) (hd:cD dst n=true) (h:∀B',Bag H S B'→TL P n ops Q rest (cz dst undef E) (St M w0 H0 H (F B'))):
  TL P n ops Q ({dst:=dst,op:=.store tt x y,type:=ty,pos:=pos,after:=aft,guard:=none}::rest) E (St M w0 H0 H L):=by
 obtain⟨cs,R2,hp3,hcl,hty⟩:=hB.take hS
 obtain⟨R,hp1,hp2⟩:=hU.perm
 have hlt:o<cs.length:=by rw [hcl];exact ho
 have hp:L.Perm ((b,cs)::(R2++R)):=hp1.trans (by simpa using hp3.append_right R)
 refine aS hp (br (b:=b) (o:=o) hx hy hk (.here _) (by rw [Nat.blt_eq];exact hlt) hd ?_)
 have hB':Bag H S ((b,cs.set o u)::R2):=(hB.perm hp3).back hS (by rw [List.length_set];exact hcl) (fun i v hv=>by
  rcases set_get hv with ⟨rfl,rfl⟩ | hv
  ·exact⟨ct,hct,hu⟩
  ·exact hty i v hv)
 exact aS (by simpa using(hp2 ((b,cs.set o u)::R2)).symm) (h _ hB')
end
theorem SlT.at {S:Sig}{t:Nat}{a:Option Addr}{n c:Nat}(h:SlT S t a n c)(hn:0<n):∃b j m,a=some ⟨b,j * kT t,none⟩∧S b=some (t,m)∧j+n≤m:=by
 rcases h with ⟨_,rfl,_⟩ | ⟨b,j,m,h1,h2,h3,h4,_⟩
 ·omega
 ·exact⟨b,j,m,h1,h2,by omega⟩
theorem bag_lt {j n m k i f:Nat}(h:j+n≤m)(hi:i<n)(hf:f<k):j * k+i * k+f<m * k:=by
 have h1:(j+i+1) * k≤m * k:=Nat.mul_le_mul_right _ om
 rw [Nat.succ_mul,Nat.add_mul] at h1
 omega
theorem bag_mod {j k i f:Nat}(hf:f<k):(j * k+i * k+f) % k=f:=by
 rw [← Nat.add_mul,Nat.add_comm,Nat.add_mul_mod_self_right,Nat.mod_eq_of_lt hf]
theorem St.pubL {M:List Nat}{w0:World}{H0:Hp}{R:aq}:∀{B:aq} {H:Hp} {w:World},St M w0 H0 H (B++R) w→(∀p∈B,p.1∉M)→∃H',H.le H'∧(∀p∈B,∀(o:Nat) (u:Value),p.2[o]? =some u→H' p.1 o=some u)∧St M w0 H0 H' R w
 | [],H,w,hw,_=>⟨H,.refl H,by simp,hw⟩
 | (b,cs)::B,H,w,hw,hM=>by
  have h1:=hw.publish (hM (b,cs) sq)
  obtain⟨H',h2,h3,h4⟩:=St.pubL (B:=B) h1 (fun p hp=>hM p (List.mem_cons_of_mem _ hp))
  refine⟨H',hw.le_add.trans h2,fun p hp o u hu=>?_,h4⟩
  rcases List.mem_cons.1 hp with rfl | hp
  ·exact h2 _ _ _ (by simp only [Hp.add,if_true];exact hu)
  ·exact h3 p hp o u hu
structure BagH (H:Hp)(S:Sig):Prop where
 get:∀b t m,S b=some (t,m)→∀o,o<m * kT t→∃ct u,(fL t)[o % kT t]? =some ct∧H b o=some u∧CTy H S ct u
theorem St.pubB {M:List Nat}{w0 w:World}{H0 H:Hp}{L B:aq}{F:aq→aq}{S:Sig}(hB:Bag H S B)(hU:Tl B L F)(hM:∀p∈B,p.1∉M)(hw:St M w0 H0 H L w):∃H',H.le H'∧BagH H' S∧St M w0 H0 H' (F []) w:=by
 obtain⟨R,hp1,hp2⟩:=hU.perm
 obtain⟨H',h1,h2,h3⟩:=St.pubL (hw.perm hp1) hM
 refine⟨H',h1,⟨fun b t m hS o ho=>?_⟩,h3.perm (by simpa using(hp2 []).symm)⟩
 obtain⟨cs,hc⟩:=hB.mem b t m hS
 obtain⟨t',m',e,hl,hty⟩:=hB.ty _ hc
 rw [hS] at e
 cases e
 have hlt:o<cs.length:=by rw [hl];exact ho
 obtain⟨ct,h4,h5⟩:=hty o cs[o] (List.getElem?_eq_getElem hlt)
 exact⟨ct,cs[o],h4,h2 _ hc o _ (List.getElem?_eq_getElem hlt),h5.le h1 (.refl S)⟩
theorem zo {α:Type}{p:Nat→α→Prop}:∀{n:Nat},(∀i,i<n→∃x,p i x)→∃xs:List α,xs.length=n∧∀i x,xs[i]? =some x→p i x
 | 0,_=>⟨[],rfl,by simp⟩
 | n+1,h=>by
  obtain⟨xs,hl,hx⟩:=zo (n:=n) (fun i hi=>h i om)
  obtain⟨y,hy⟩:=h n om
  refine⟨xs++[y],by simp [hl],fun i x hi=>?_⟩
  by_cases hin:i<n
  ·rw [List.getElem?_append_left om] at hi;exact hx i x hi
  ·rw [List.getElem?_append_right om] at hi
   have:i - xs.length=0:=by
    have:=(List.getElem?_eq_some_iff.1 hi).1
    simp at this;omega
   rw [this] at hi
   simp at hi
   subst hi
   rwa [show i=n by omega]
theorem BagH.elem {H:Hp}{S:Sig}{t b m e:Nat}(h:BagH H S)(hS:S b=some (t,m))(he:e<m):∃cs,AllT H S (fL t) cs∧∀(j:Nat) (u:Value),cs[j]? =some u→H b (e * kT t+j)=some u:=by
 have hk:=kT_pos t
 obtain⟨cs,hl,hc⟩:=zo (n:=kT t) (p:=fun j u=>H b (e * kT t+j)=some u∧∃ct,(fL t)[j]? =some ct∧CTy H S ct u) (fun j hj=>by
  have hlt:e * kT t+j<m * kT t:=by
   have:(e+1) * kT t≤m * kT t:=Nat.mul_le_mul_right _ om
   rw [Nat.succ_mul] at this;omega
  obtain⟨ct,u,h1,h2,h3⟩:=h.get b t m hS _ hlt
  rw [Nat.mul_comm,Nat.mul_add_mod,Nat.mod_eq_of_lt hj] at h1
  exact⟨u,h2,ct,h1,h3⟩)
 refine⟨cs,AllT.of hl (fun j ct hj=>?_),fun j u hu=>(hc j u hu).1⟩
 have hjl:j<cs.length:=by rw [hl];exact(List.getElem?_eq_some_iff.1 hj).1
 obtain⟨h1,ct',h2,h3⟩:=hc j cs[j] (List.getElem?_eq_getElem hjl)
 rw [hj] at h2
 cases h2
 exact⟨cs[j],List.getElem?_eq_getElem hjl,h3⟩
theorem SlT.list {α:Type}{k:Nat}{enc:α→List Value}[hc:Cells k enc]{H:Hp}{S:Sig}{t:Nat}{a:Option Addr}{n c:Nat}{p:α→Prop}(hT:SlT S t a n c)(hk:kT t=k)(hB:BagH H S)(hd:∀cs,AllT H S (fL t) cs→∃x,cs=enc x∧p x):∃xs:List α,xs.length=n∧RdSl H k enc (.slice a n c) xs∧∀x∈xs,p x:=by
 rcases hT with ⟨rfl,rfl,rfl⟩ | ⟨b,j,m,rfl,hS,hn,hj,hm⟩
 ·exact⟨[],rfl,⟨⟨_,_,rfl⟩,by simp,fun h=>absurd rfl h,fun i x hx=>by simp at hx,fun a n c _=>by simp⟩,by simp⟩
 ·obtain⟨xs,hl,hx⟩:=zo (n:=n) (p:=fun i x=>p x∧∀(f:Nat) (u:Value),(enc x)[f]? =some u→H b (j * k+i * k+f)=some u) (fun i hi=>by
   obtain⟨cs,h1,h2⟩:=hB.elem hS (e:=j+i) om
   obtain⟨x,rfl,hp⟩:=hd cs h1
   refine⟨x,hp,fun f u hu=>?_⟩
   have:=h2 f u hu
   rwa [hk,Nat.add_mul] at this)
  refine⟨xs,hl,⟨⟨_,_,by rw [hl]⟩,by omega,fun _=>⟨c,by rw [hl];rfl⟩,fun i x hi f u hu=>?_,fun a n c' e=>by injection e with _ _ e;omega⟩,fun x hm=>?_⟩
  ·have:=(hx i x hi).2 f u hu
   simpa [blk,off,hk] using this
  ·obtain⟨i,hi⟩:=List.getElem?_of_mem hm
   exact(hx i x hi).1
end Go.Sx
namespace Go.Sx
open Go
structure DiceOk (H:Hp)(dl:Value)(at_:Int):Prop where
 l:∃l:List Int,RdSl H 1 I64.cells dl l∧0≤at_∧at_≤l.length
theorem DiceOk.le {H H':Hp}{dl:Value}{a:Int}(h:DiceOk H dl a)(hl:H.le H'):DiceOk H' dl a:=by
 obtain⟨l,h1,h2⟩:=h.l
 exact⟨l,h1.le hl,h2⟩
def PickR (n r:Int):Prop:=0≤r∧(1≤n→r<n)∧(n<1→r=0)
theorem Fd (x:Int):0≤IntKind.u64.wrap x:=by
 simp only [IntKind.wrap,IntKind.signed,IntKind.bits];simp;omega
theorem lA {x:Int}(h0:0≤x)(h1:x≤9223372036854775807):IntKind.u64.wrap x=x:=by
 simp only [IntKind.wrap,IntKind.signed,IntKind.bits];simp;omega
theorem Hz {x:Int}(h0: -9223372036854775808≤x)(h1:x≤9223372036854775807):IntKind.i64.wrap x=x:=by
 simp only [IntKind.wrap,IntKind.signed,IntKind.bits];simp;omega
theorem tZ {x n:Int}(h0:0≤x)(h1:1≤n):0≤x.tmod n∧x.tmod n<n:=by
 rw [Int.tmod_eq_emod_of_nonneg h0]
 exact⟨Int.emod_nonneg _ om,Int.emod_lt_of_pos _ om⟩
theorem lT (x:Int){n:Int}(h1:1≤n)(h2:n≤1000000000):0≤IntKind.i64.wrap ((IntKind.u64.wrap x).tmod (IntKind.u64.wrap n))∧IntKind.i64.wrap ((IntKind.u64.wrap x).tmod (IntKind.u64.wrap n))<n:=by
 rw [lA (x:=n) om om]
 have:=tZ (n:=n) (Fd x) h1
 rw [Hz om om]
 exact this
theorem IH (x:Int){n:Int}(h1:1≤n)(h2:n≤1000000000):0≤IntKind.i64.wrap ((IntKind.u64.wrap x).tmod n)∧IntKind.i64.wrap ((IntKind.u64.wrap x).tmod n)<n:=by
 have:=lT x h1 h2
 rwa [lA (x:=n) om om] at this
section
variable {P:Program}{n:Nat}{ops:Array Oper}{Q:Exit→Act→World→Prop}{E:Env}{M:List Nat}{w0:World}{H0 H:Hp}{L:aq}{C:World→Prop}{rest:List Oper}{dst:Option Nat}{op:Op}{ty:TypeId}{pos:String}{aft:Array Edge}
def DFn (P:Program)(bd:Nat)(dl:Value)(at_:Int)(f:FuncId)(args:List Value)(H:Hp)(R:Value→Hp→aq→Prop):Prop:=
 FnX P f (.pointer (some ⟨bd,0,none⟩)::args) H [(bd,[dl,.int .i64 at_])] (fun v H' L'=>∃at' ob,L'=(bd,[dl,.int .i64 at'])::ob∧DiceOk H' dl at'∧R v H' ob)
theorem Br (X:aq)(y:Nat×List Value)(Y:aq):(X++y::Y).Perm ([y]++(X++Y)):=List.perm_middle
theorem yc (X:aq)(y:Nat×List Value)(Y ob:aq):((y::ob)++(X++Y)).Perm (X++y::(Y++ob)):=by
 have h1:((y::ob)++(X++Y)).Perm ((y::(X++Y))++ob):=by
  rw [List.cons_append,List.cons_append]
  exact(List.perm_append_comm).cons y
 refine h1.trans ?_
 rw [List.cons_append,List.append_assoc]
 exact List.perm_middle.symm
theorem vF {f:FuncId}{args:List Value}{X Y:aq}{bd:Nat}{dl:Value}{at_:Int}{R:Value→Hp→aq→Prop}(hL:L=X++(bd,[dl,.int .i64 at_])::Y)(hE:cZ P E op f (.pointer (some ⟨bd,0,none⟩)::args))(hF:DFn P bd dl at_ f args H R)(hd:cD dst n=true)
  (h:∀v H' at' ob,H.le H'→DiceOk H' dl at'→R v H' ob→TL P n ops Q rest (cz dst v E) (St M w0 H0 H' (X++(bd,[dl,.int .i64 at'])::(Y++ob)))):
  TL P n ops Q ({dst:=dst,op:=op,type:=ty,pos:=pos,after:=aft,guard:=none}::rest) E (St M w0 H0 H L):=by
 subst hL
 refine aS (Br X _ Y) (ec hE hF hd fun v H' L1' hle hΦ=>?_)
 obtain⟨at',ob,rfl,hk,hR⟩:=hΦ
 exact aS (yc X _ Y ob) (h v H' at' ob hle hk hR)
theorem aI {f:FuncId}{args:List Value}{X Y:aq}{bd:Nat}{dl:Value}{at_:Int}{R:Value→Hp→Prop}(hL:L=X++(bd,[dl,.int .i64 at_])::Y)(hE:cZ P E op f (.pointer (some ⟨bd,0,none⟩)::args))(hF:DFn P bd dl at_ f args H (fun v H' ob=>ob=[]∧R v H'))(hd:cD dst n=true)
  (h:∀v H' at',H.le H'→DiceOk H' dl at'→R v H'→TL P n ops Q rest (cz dst v E) (St M w0 H0 H' (X++(bd,[dl,.int .i64 at'])::Y))):
  TL P n ops Q ({dst:=dst,op:=op,type:=ty,pos:=pos,after:=aft,guard:=none}::rest) E (St M w0 H0 H L):=
 vF hL hE hF hd fun v H' at' ob h1 h2 h3=>by
  obtain⟨rfl,h3⟩:=h3
  rw [List.append_nil]
  exact h v H' at' h1 h2 h3
theorem TL.pubN {b:Nat}{cs:List Value}{l:List Oper}(hM:∀k∈M,k∈keys L)(h:∀H',H.le H'→(∀o v,cs[o]? =some v→H' b o=some v)→TL P n ops Q l E (St M w0 H0 H' L)):TL P n ops Q l E (St M w0 H0 H ((b,cs)::L)):=by
 intro a w he hw
 have hbM:b∉M:=fun hm=>by
  have h1:=hM b hm
  have h2:=hw.nd
  simp only [List.map_cons,List.nodup_cons] at h2
  exact h2.1 h1
 exact h _ hw.le_add (fun o v hv=>by simp only [Hp.add,if_true];exact hv) a w he (hw.publish hbM)
theorem cP {b:Nat}{cs:List Value}{q:Act→World→Prop}(hM:∀k∈M,k∈keys L)(h:∀H',H.le H'→(∀o v,cs[o]? =some v→H' b o=some v)→TX n q E (St M w0 H0 H' L)):TX n q E (St M w0 H0 H ((b,cs)::L)):=by
 intro a w he hw
 have hbM:b∉M:=fun hm=>by
  have h1:=hM b hm
  have h2:=hw.nd
  simp only [List.map_cons,List.nodup_cons] at h2
  exact h2.1 h1
 exact h _ hw.le_add (fun o v hv=>by simp only [Hp.add,if_true];exact hv) a w he (hw.publish hbM)
theorem ogn {w:World}{M:List Nat}{ob R:aq}(hM:∀k∈M,k∈keys R)(hw:St M w0 H0 H (ob++R) w):∀p∈ob,p.1∉M:=fun p hp hm=>by
 have h2:=hw.nd
 rw [List.map_append,List.nodup_append] at h2
 exact h2.2.2 _ (List.mem_map.2 ⟨p,hp,rfl⟩) _ (hM _ hm) rfl
theorem eB {α:Type}{k:Nat}{enc:α→List Value}[hc:Cells k enc]{v:Value}{xs:List α}{ob X:aq}{q:Act→World→Prop}(hO:OwnSl k enc v xs ob)(hL:L=X++ob)(hM:∀k∈M,k∈keys X)
  (h:∀H',H.le H'→RdSl H' k enc v xs→TX n q E (St M w0 H0 H' X)):TX n q E (St M w0 H0 H L):=by
 subst hL
 intro a w he hw
 have hw':=hw.perm List.perm_append_comm
 obtain⟨H',h1,h2,h3⟩:=St.pubO hO (.app X) (ogn hM hw') hw'
 exact h H' h1 h2 a w he (by simpa using h3)
theorem kb {α:Type}{k t m b:Nat}{enc:α→List Value}[hc:Cells k enc]{X Y:aq}{B:aq}{S:Sig}{cs:List Value}{l:List Oper}(ys:List α)(hL:L=X++(b,cs)::(Y++B))(hB:Bag H S B)(hk:kT t=k)(hm:m=ys.length)(he:cs=ys.flatMap enc)(hy:∀y∈ys,AllT H S (fL t) (enc y))
  (h:∀S' B',S.le S'→S'.N=S.N→S' b=some (t,m)→Bag H S' B'→TL P n ops Q l E (St M w0 H0 H (X++(Y++B')))):TL P n ops Q l E (St M w0 H0 H L):=by
 subst hL hm he
 intro a w hE hw
 have hp:(X++(b,ys.flatMap enc)::(Y++B)).Perm (X++(Y++(b,ys.flatMap enc)::B)):=List.Perm.append_left X List.perm_middle.symm
 have hw':=hw.perm hp
 have hnone:S b=none:=hB.none (fun p hp e=>by
  have h2:=hw'.nd
  rw [← List.append_assoc,List.map_append,List.nodup_append] at h2
  have h3:=h2.2.1
  simp only [List.map_cons,List.nodup_cons] at h3
  exact h3.1 (List.mem_map.2 ⟨p,hp,e⟩))
 have hlen:(ys.flatMap enc).length=ys.length * kT t:=by rw [hk];exact j8 (fun x _=>hc.len x)
 refine h (S.put b t ys.length) ((b,ys.flatMap enc)::B) (Sig.le_put hnone) rfl Sig.put_at (hB.add hnone hlen (fun o u hu=>?_)) a w hE hw'
 obtain⟨x,h1,h2⟩:=mN hc.pos (fun x _=>hc.len x) o u hu
 have:=(hy x (List.mem_of_getElem? h1)).at h2
 rw [hk]
 exact this
theorem SlT.blk {S:Sig}{t b m:Nat}(h:S b=some (t,m))(hm:m≤9223372036854775807):SlT S t (some ⟨b,0,none⟩) m m:=.inr ⟨b,0,m,by simp,h,by omega,by omega,hm⟩
end
structure Fx where
 bw:Nat
 bd:Nat
 psv:Value
 ps:List SProto
 nm:Str
 pa:Value
 self:Str
 tyv:Value
 tys:List SLocal
 role:Int
 dl:Value
structure WV where
 H:Hp
 S:Sig
 ta:Option Addr
 tn:Nat
 tc:Nat
 sa:Option Addr
 sn:Nat
 sc:Nat
 names:Int
 room:Int
 at_:Int
 B:aq
def Fx.c (F:Fx)(V:WV):List Value:=[.pointer (some ⟨F.bd,0,none⟩),F.psv,gs F.nm,F.pa,.slice V.ta V.tn V.tc,.slice V.sa V.sn V.sc,gs F.self,F.tyv,.int .i64 F.role,.int .i64 V.names,.int .i64 V.room]
def Fx.L (F:Fx)(V:WV):aq:=(F.bw,F.c V)::(F.bd,[F.dl,.int .i64 V.at_])::V.B
structure GPr (p:SProto):Prop where
 nm:p.name=[112]∨p.name=[113]
 r2:2≤p.roles.length
 r5:p.roles.length≤5
 rs:∀r∈p.roles,r.length=1
structure FxOk (H:Hp)(F:Fx):Prop where
 ps:RdSl H 3 SProto.cells F.psv F.ps
 pk:∀p∈F.ps,ProtoOk H p
 pg:∀p∈F.ps,GPr p
 pn:0<F.ps.length
 ty:RdSl H 2 SLocal.cells F.tyv F.tys
 tk:∀l∈F.tys,LocalOk H l
 sf:PNm F.self
theorem FxOk.le {H H':Hp}{F:Fx}(h:FxOk H F)(hl:H.le H'):FxOk H' F:=⟨h.ps.le hl,fun p hp=>(h.pk p hp).le hl,h.pg,h.pn,h.ty.le hl,fun l hh=>(h.tk l hh).le hl,h.sf⟩
structure WI (F:Fx)(V:WV)(m:Nat):Prop where
 fx:FxOk V.H F
 bag:Bag V.H V.S V.B
 t:SlT V.S 0 V.ta V.tn V.tc
 s:SlT V.S 3 V.sa V.sn V.sc
 n0:0≤V.names
 r0: -(V.sn:Int)≤V.room
 r1:V.room≤100
 d:DiceOk V.H F.dl V.at_
 me:V.tn+V.sn+V.names.toNat≤m
 nb:V.S.N≤m+10
 n10:10≤V.S.N
theorem WI.more {F:Fx}{V:WV}{m m':Nat}(h:WI F V m)(hm:m≤m'):WI F V m':={h with me:=Nat.le_trans h.me hm,nb:=Nat.le_trans h.nb (Nat.add_le_add_right hm _)}
theorem WI.dice {F:Fx}{V:WV}{m:Nat}{H':Hp}{a:Int}(h:WI F V m)(hl:V.H.le H')(hd:DiceOk H' F.dl a):WI F {V with H:=H',at_:=a} m:=⟨h.fx.le hl,h.bag.leH hl,h.t,h.s,h.n0,h.r0,h.r1,hd,h.me,h.nb,h.n10⟩
theorem WI.bagA {F:Fx}{V:WV}{m:Nat}{S':Sig}{B':aq}(h:WI F V m)(hl:V.S.le S')(hN:S'.N=V.S.N)(hB:Bag V.H S' B'):WI F {V with S:=S',B:=B'} m:=⟨h.fx,hB,h.t.le hl,h.s.le hl,h.n0,h.r0,h.r1,h.d,h.me,by rw [hN];exact h.nb,by rw [hN];exact h.n10⟩
theorem WI.bagT {F:Fx}{V:WV}{m:Nat}{S':Sig}{B':aq}(h:WI F V m)(hl:V.S.le S')(hN:S'.N=V.S.N+1)(hB:Bag V.H S' B'):WI F {V with S:=S',B:=B'} (m+1):=⟨h.fx,hB,h.t.le hl,h.s.le hl,h.n0,h.r0,h.r1,h.d,Nat.le_succ_of_le h.me,by have:=h.nb;dsimp only;omega,by have:=h.n10;dsimp only;omega⟩
def WFn (P:Program)(F:Fx)(V:WV)(f:FuncId)(args:List Value)(k:Nat)(R:Value→WV→Prop):Prop:=
 ∀m,WI F V m→m+k≤10000000→FnX P f (.pointer (some ⟨F.bw,0,none⟩)::args) V.H (F.L V) (fun v H' L'=>∃V':WV,H'=V'.H∧L'=F.L V'∧WI F V' (m+k)∧V.S.le V'.S∧V.sn≤V'.sn∧V.tn≤V'.tn∧R v V')
section
variable {P:Program}{n:Nat}{ops:Array Oper}{Q:Exit→Act→World→Prop}{E:Env}{M:List Nat}{w0:World}{H0 H:Hp}{L:aq}{C:World→Prop}{rest:List Oper}{dst:Option Nat}{op:Op}{ty:TypeId}{pos:String}{aft:Array Edge}
theorem aC {F:Fx}{V:WV}{f:FuncId}{args:List Value}{k m:Nat}{R:Value→WV→Prop}(X:aq)(hL:L=X++F.L V)(hH:H=V.H)(hE:cZ P E op f (.pointer (some ⟨F.bw,0,none⟩)::args))(hF:WFn P F V f args k R)(hW:WI F V m)(hm:m+k≤10000000)(hd:cD dst n=true)
  (h:∀v (V':WV),V.H.le V'.H→WI F V' (m+k)→V.S.le V'.S→V.sn≤V'.sn→V.tn≤V'.tn→R v V'→TL P n ops Q rest (cz dst v E) (St M w0 H0 V'.H (X++F.L V'))):
  TL P n ops Q ({dst:=dst,op:=op,type:=ty,pos:=pos,after:=aft,guard:=none}::rest) E (St M w0 H0 H L):=by
 subst hL hH
 refine aS List.perm_append_comm (ec hE (hF m hW hm) hd fun v H' L1' hle hΦ=>?_)
 obtain⟨V',rfl,rfl,h1,h2,h3,h4,h5⟩:=hΦ
 exact aS List.perm_append_comm (h v V' hle h1 h2 h3 h4 h5)
theorem WFn.enter {F:Fx}{V:WV}{f:FuncId}{args:List Value}{k:Nat}{R:Value→WV→Prop}{fn:Func}{c:Code}
  (hf:P.funcs[f]? =some fn) (hn:fn.ntmps=n) (hb:fn.body=some c) (hl:Nat.ble (args.length+1) n=true)
  (h:∀m w0,WI F V m→m+k≤10000000→TC P n c (bodyPost P fn (yD (keys (F.L V)) w0 V.H (fun v H' L'=>∃V':WV,H'=V'.H∧L'=F.L V'∧WI F V' (m+k)∧V.S.le V'.S∧V.sn≤V'.sn∧V.tn≤V'.tn∧R v V'))) (kP 0 (.pointer (some ⟨F.bw,0,none⟩)::args)) (St (keys (F.L V)) w0 V.H V.H (F.L V))):WFn P F V f args k R:=
 fun m hW hm=>FnX.enter hf hn hb (by simpa using hl) (fun w0=>h m w0 hW hm)
theorem bF {F:Fx}{V V':WV}{fn:Func}{K:List Nat}{k m:Nat}{R:Value→WV→Prop}{v:Value}{X:aq}{e:Exit}(he:e= .normal∨e= .ret)(hr:∀a w,EOk n E a→St K w0 H0 H L w→(results fn a.tmps).run P w= .ok v w)
  (hL:L=X++F.L V') (hH:H=V'.H) (hW:WI F V' (m+k)) (hS:V.S.le V'.S) (hs:V.sn≤V'.sn) (ht:V.tn≤V'.tn) (hR:R v V'):
  TX n (bodyPost P fn (yD K w0 H0 (fun v H' L'=>∃V':WV,H'=V'.H∧L'=F.L V'∧WI F V' (m+k)∧V.S.le V'.S∧V.sn≤V'.sn∧V.tn≤V'.tn∧R v V')) e) E (St K w0 H0 H L):=by
 subst hH
 exact aZ he hr (fun w hw=>by subst hL;exact hw.dropN) ⟨V',rfl,rfl,hW,hS,hs,ht,hR⟩
theorem bR {x:Operand}{a:Addr}(hx:ev E x=some (.pointer (some a))):PR P E C (.nilCheck x) (.pointer (some a)):=by
 intro n ac w o ho he hw
 unfold execOp
 rw [ho]
 simp [he.eval hx]
theorem di {t e k tb:Nat}{x y:Operand}{b j len cap:Nat}{a:Option Addr}{kd:IntKind}{i:Int}(hx:ev E x=some (.slice a len cap))(hy:ev E y=some (.int kd i))(ha:a=some ⟨b,j * kT tb,none⟩)[hel:El P t e k](h0:0≤i)(h1:i<len):
  PR P E C (.indexAddr t x y) (.pointer (some ⟨b,j * kT tb+i.toNat * k,none⟩)):=by
 subst ha
 exact it hx hy h0 h1
end
end Go.Sx
namespace Go.Sx
open Go
structure TStep where
 kind:Int
 name:Str
 peer:Str
 label:Str
 proc:Str
 term:Int
 aa:Option Addr
 an:Nat
 ac:Nat
 ca:Option Addr
 cn:Nat
 cc:Nat
 wa:Option Addr
 wn:Nat
 wc:Nat
 next:Int
def TStep.cells (s:TStep):List Value:=[.int .i64 s.kind,gs s.name,gs s.peer,gs s.label,gs s.proc,.int .i64 s.term,.slice s.aa s.an s.ac,.slice s.ca s.cn s.cc,.slice s.wa s.wn s.wc,.int .i64 s.next]
instance :Cells 10 TStep.cells:=⟨fun _=>rfl,by decide,fun _=>rfl⟩
structure TStep.Ok (S:Sig)(s:TStep):Prop where
 name:VarNm s.name
 peer:AnyNm s.peer
 label:AnyNm s.label
 proc:PNm s.proc
 a:SlT S 4 s.aa s.an s.ac
 c:SlT S 2 s.ca s.cn s.cc
 w:SlT S 1 s.wa s.wn s.wc
 an:s.an≤S.N
 cn:s.cn≤S.N
 wn:s.wn≤S.N
theorem TStep.Ok.all {H:Hp}{S:Sig}{s:TStep}(h:s.Ok S):AllT H S (fL 3) s.cells:=
 ⟨⟨_,rfl⟩,⟨_,rfl,h.name⟩,⟨_,rfl,h.peer⟩,⟨_,rfl,h.label⟩,⟨_,rfl,h.proc⟩,⟨_,rfl⟩,⟨_,_,_,rfl,h.a,h.an⟩,⟨_,_,_,rfl,h.c,h.cn⟩,⟨_,_,_,rfl,h.w,h.wn⟩,⟨_,rfl⟩,trivial⟩
structure TCast where
 role:Str
 proc:Str
 aa:Option Addr
 an:Nat
 ac:Nat
def TCast.cells (s:TCast):List Value:=[gs s.role,gs s.proc,.slice s.aa s.an s.ac]
instance :Cells 3 TCast.cells:=⟨fun _=>rfl,by decide,fun _=>rfl⟩
theorem TCast.all {H:Hp}{S:Sig}{s:TCast}(h1:AnyNm s.role)(h2:PNm s.proc)(h3:SlT S 4 s.aa s.an s.ac)(h4:s.an≤S.N):AllT H S (fL 2) s.cells:=⟨⟨_,rfl,h1⟩,⟨_,rfl,h2⟩,⟨_,_,_,rfl,h3,h4⟩,trivial⟩
theorem SWay.all {H:Hp}{S:Sig}{s:SWay}(h1:AnyNm s.label)(h2:VarNm s.name):AllT H S (fL 1) s.cells:=⟨⟨_,rfl,h1⟩,⟨_,rfl,h2⟩,⟨_,rfl⟩,trivial⟩
theorem HW {H:Hp}{S:Sig}{s:Term}(h1:VarNm s.name)(h2:AnyNm s.text):AllT H S (fL 0) s.cells:=⟨⟨_,rfl⟩,⟨_,rfl,h1⟩,⟨_,rfl⟩,⟨_,rfl,h2⟩,⟨_,rfl⟩,⟨_,rfl⟩,trivial⟩
theorem VarNm.nil:VarNm []:=.inl rfl
theorem VarNm.len {s:Str}(h:VarNm s):s.length≤11:=by
 rcases h with rfl | rfl | rfl | rfl | ⟨ds,rfl,h,_⟩<;>simp<;>omega
theorem AnyNm.nil:AnyNm []:=by simp [AnyNm]
theorem PNm.nil:PNm []:=by simp [PNm]
theorem zt0 {H:Hp}{S:Sig}:AllT H S (fL 0) [.int .i64 0,gs [],.int .i64 0,gs [],.int .i64 0,.int .i64 0]:=⟨⟨_,rfl⟩,⟨_,rfl,.nil⟩,⟨_,rfl⟩,⟨_,rfl,.nil⟩,⟨_,rfl⟩,⟨_,rfl⟩,trivial⟩
theorem zt1 {H:Hp}{S:Sig}:AllT H S (fL 1) [gs [],gs [],.int .i64 0]:=⟨⟨_,rfl,.nil⟩,⟨_,rfl,.nil⟩,⟨_,rfl⟩,trivial⟩
theorem zt2 {H:Hp}{S:Sig}:AllT H S (fL 2) [gs [],gs [],.slice none 0 0]:=⟨⟨_,rfl,.nil⟩,⟨_,rfl,.nil⟩,⟨_,_,_,rfl,.nil,Nat.zero_le _⟩,trivial⟩
theorem zt3 {H:Hp}{S:Sig}:AllT H S (fL 3) [.int .i64 0,gs [],gs [],gs [],gs [],.int .i64 0,.slice none 0 0,.slice none 0 0,.slice none 0 0,.int .i64 0]:=
 ⟨⟨_,rfl⟩,⟨_,rfl,.nil⟩,⟨_,rfl,.nil⟩,⟨_,rfl,.nil⟩,⟨_,rfl,.nil⟩,⟨_,rfl⟩,⟨_,_,_,rfl,.nil,Nat.zero_le _⟩,⟨_,_,_,rfl,.nil,Nat.zero_le _⟩,⟨_,_,_,rfl,.nil,Nat.zero_le _⟩,⟨_,rfl⟩,trivial⟩
theorem nH:∀(k u:Nat),u<10 ^ (k+1)→(Lib.decDigits u).length≤k+1∧∀c∈Lib.decDigits u,(48:UInt8)≤c∧c≤57
 | k,u,h=>by
  by_cases h1:u<10
  ·rw [Lib.decDigits_one h1]
   refine⟨by simp,fun c hc=>?_⟩
   rw [List.mem_singleton.1 hc]
   have h2:(UInt8.ofNat (48+u)).toNat=48+u:=by rw [UInt8.toNat_ofNat'];omega
   constructor
   ·rw [UInt8.le_iff_toNat_le,h2];show 48≤48+u;omega
   ·rw [UInt8.le_iff_toNat_le,h2];show 48+u≤57;omega
  ·cases k with
   | zero=>simp at h;omega
   | succ k=>
    have h3:u / 10<10 ^ (k+1):=by rw [Nat.pow_succ] at h;omega
    obtain⟨h4,h5⟩:=nH k (u / 10) h3
    rw [Lib.decDigits,dif_neg h1]
    refine⟨by simp;omega,fun c hc=>?_⟩
    rcases List.mem_append.1 hc with hc | hc
    ·exact h5 c hc
    ·rw [List.mem_singleton.1 hc]
     have h2:(UInt8.ofNat (48+u % 10)).toNat=48+u % 10:=by rw [UInt8.toNat_ofNat'];omega
     constructor
     ·rw [UInt8.le_iff_toNat_le,h2];show 48≤48+u % 10;omega
     ·rw [UInt8.le_iff_toNat_le,h2];show 48+u % 10≤57;omega
theorem pB {n:Int}(h0:0≤n)(h1:n≤100000000):(Lib.itoa n).length≤10∧∀c∈Lib.itoa n,(48:UInt8)≤c∧c≤57:=by
 unfold Lib.itoa
 rw [if_neg om]
 exact nH 9 n.toNat om
theorem vname {n:Int}(h0:0≤n)(h1:n≤100000000):VarNm ([118]++Lib.itoa n):=.inr (.inr (.inr (.inr ⟨Lib.itoa n,rfl,pB h0 h1⟩)))
theorem tname {n:Int}(h0:0≤n)(h1:n≤100000000):AnyNm ([116]++Lib.itoa n):=by
 have:=(pB h0 h1).1
 simp [AnyNm];omega
theorem Ju {t k j i f n m:Nat}(hk:kT t=k)(hj:j+n≤m)(hi:i<n)(hf:f<k):j * kT t+i * k+f<m * kT t∧(j * kT t+i * k+f) % kT t=f:=by
 subst hk
 exact⟨bag_lt hj hi hf,bag_mod hf⟩
def Cell (B:aq)(b o:Nat)(u:Value):Prop:=∃cs,(b,cs)∈B∧cs[o]? =some u
theorem Bag.get {H:Hp}{S:Sig}{B:aq}{t m b j i f n k:Nat}{ct:CT}(hB:Bag H S B)(hS:S b=some (t,m))(hk:kT t=k)(hj:j+n≤m)(hi:i<n)(hct:(fL t)[f]? =some ct):∃u,CTy H S ct u∧Cell B b (j * kT t+i * k+f) u:=by
 have hf:f<k:=by rw [← hk];exact(List.getElem?_eq_some_iff.1 hct).1
 obtain⟨h1,h2⟩:=Ju hk hj hi hf
 obtain⟨cs,R2,hp3,hcl,hty⟩:=hB.take hS
 have hlt:j * kT t+i * k+f<cs.length:=by rw [hcl];exact h1
 obtain⟨ct',h3,h4⟩:=hty _ _ (List.getElem?_eq_getElem hlt)
 rw [h2,hct] at h3
 cases h3
 exact⟨_,h4,cs,hp3.mem_iff.2 sq,List.getElem?_eq_getElem hlt⟩
section
variable {P:Program}{n:Nat}{ops:Array Oper}{Q:Exit→Act→World→Prop}{E:Env}{M:List Nat}{w0:World}{H0 H:Hp}{L:aq}{C:World→Prop}{rest:List Oper}{dst:Option Nat}{op:Op}{ty:TypeId}{pos:String}{aft:Array Edge}
theorem Cell.inl {B:aq}{F:aq→aq}{b o:Nat}{u:Value}(hC:Cell B b o u)(hU:Tl B L F):∃cs,InL b cs L∧cs[o]? =some u:=by
 obtain⟨cs,h1,h2⟩:=hC
 obtain⟨R,hp1,_⟩:=hU.perm
 have h3:(b,cs)∈L:=hp1.mem_iff.2 (List.mem_append_left _ h1)
 refine⟨cs,?_,h2⟩
 clear hp1 hU h1 h2
 induction L with
 | nil=>simp at h3
 | cons x L ih=>
  rcases List.mem_cons.1 h3 with rfl | h3
  ·exact .here _
  ·exact .there _ (ih h3)
theorem lS {t k1 b o:Nat}{x:Operand}{u:Value}{B:aq}{F:aq→aq}(hx:ev E x=some (.pointer (some ⟨b,o,none⟩)))(hC:Cell B b o u)(hU:Tl B L F)[ht:Ty P t false k1](hk:k1=1:=by rfl):PR P E (St M w0 H0 H L) (.load t x) u:=by
 obtain⟨cs,h1,h2⟩:=hC.inl hU
 exact aE hx h1 h2
theorem dS {t m b j i f n' k k1:Nat}{x y:Operand}{u:Value}{ct:CT}{S:Sig}{B:aq}{F:aq→aq}{tt:TypeId}(hx:ev E x=some (.pointer (some ⟨b,j * kT t+i * k+f,none⟩)))(hy:ev E y=some u)(hB:Bag H S B)(hU:Tl B L F)(hS:S b=some (t,m))(hkk:kT t=k)(hj:j+n'≤m)(hi:i<n')(hct:(fL t)[f]? =some ct)
  (hu:CTy H S ct u) [ht:Ty P tt false k1] [h1:One u] (hk:k1=1) (hd:cD dst n=true) (h:∀B',Bag H S B'→TL P n ops Q rest (cz dst undef E) (St M w0 H0 H (F B'))):
  TL P n ops Q ({dst:=dst,op:=.store tt x y,type:=ty,pos:=pos,after:=aft,guard:=none}::rest) E (St M w0 H0 H L):=by
 have hf:f<k:=by rw [← hkk];exact(List.getElem?_eq_some_iff.1 hct).1
 obtain⟨h2,h3⟩:=Ju hkk hj hi hf
 exact TL.stT hx hy hB hU hS h2 (by rw [h3];exact hct) hu hk hd h
end
theorem WI.bagB {F:Fx}{V:WV}{m:Nat}{B':aq}(h:WI F V m)(hB:Bag V.H V.S B'):WI F {V with B:=B'} m:=⟨h.fx,hB,h.t,h.s,h.n0,h.r0,h.r1,h.d,h.me,h.nb,h.n10⟩
structure Rw where
 a:Option Addr
 n:Nat
 c:Nat
section
variable {P:Program}{n:Nat}{ops:Array Oper}{Q:Exit→Act→World→Prop}{E:Env}{C:World→Prop}
theorem vI {ι ρ:Type}{c:Code}(V:ι→WV→ρ→Env)(K:Env)(L:ι→WV→ρ→World→Prop)(I:ι→WV→ρ→Prop)(μ:ι→Nat)(i:ι)(v:WV)(r:ρ)(h0:Sub (V i v r++K) E)(hi:I i v r)(hC:∀w,C w→L i v r w)
  (round:∀i v r,I i v r→TC P n c (Exit.then (fun a w=>∃j v' r',I j v' r'∧EOk n (V j v' r'++K) a∧L j v' r' w∧μ j<μ i) Q) (V i v r++K) (L i v r)):TC P n (.loop c) Q E C:=
 TC.loop (ι:=ι×WV×ρ) (V:=fun i=>V i.1 i.2.1 i.2.2) (K:=K) (L:=fun i=>L i.1 i.2.1 i.2.2) (I:=fun i=>I i.1 i.2.1 i.2.2) (μ:=fun i=>μ i.1) (i:=(i,v,r)) h0 hi hC
  (fun i hI a w he hw=>Code.wp_mono (fun e a' w' hq=>by
   cases e with
   | normal=>obtain⟨j,v',r',h1,h2,h3,h4⟩:=hq;exact⟨(j,v',r'),h1,h2,h3,h4⟩
   | exit id=>exact hq
   | goto l=>exact hq
   | ret=>exact hq
   | panic ch=>exact hq
   | outgrown=>exact hq) (round i.1 i.2.1 i.2.2 hI a w he hw))
theorem iU {ι ρ:Type}{V:ι→WV→ρ→Env}{L:ι→WV→ρ→World→Prop}{I:ι→WV→ρ→Prop}{μ:ι→Nat}{i:ι}{E0:Env}(j:ι)(v':WV)(r':ρ)(hI:I j v' r')(hs:Sub (V j v' r'++E0) E)(hC:∀w,C w→L j v' r' w)(hm:μ j<μ i):
  TX n (Exit.then (fun a w=>∃j v' r',I j v' r'∧EOk n (V j v' r'++E0) a∧L j v' r' w∧μ j<μ i) Q .normal) E C:=fun a w he hw=>⟨j,v',r',hI,he.sub hs,hC w hw,hm⟩
end
theorem GPr.n1 {p:SProto}(h:GPr p):p.name.length=1:=by rcases h.nm with h | h<;>rw [h]<;>rfl
theorem GPr.proc {p:SProto}(h:GPr p){r:Str}(hr:r.length≤900):PNm (p.name++r):=by
 constructor
 ·rw [List.length_append,h.n1];omega
 ·rcases h.nm with h | h<;>rw [h]<;>simp
theorem GPr.rl {p:SProto}(h:GPr p){r:Str}(hr:r∈p.roles):r.length≤900:=by rw [h.rs r hr];omega
structure TGt (T:SLocal)(t:STurn):Prop where
 peer:AnyNm t.peer
 a6:t.arms.length≤6
 a1:t.kind≠0→t.kind≠2→1≤t.arms.length
 lb:∀a∈t.arms,AnyNm a.label
 nx:∀a∈t.arms,0≤a.next∧a.next<T.turns.length
structure TG (F:Fx)(T:SLocal):Prop where
 r0:0≤F.role
 r1:F.role<F.tys.length
 g:F.tys[F.role.toNat]? =some T
 n0:0<T.turns.length
 ts:∀t∈T.turns,TGt T t
theorem le2:2≤9223372036854775807:=by decide
def KB:Nat→Nat
 | 0=>300
 | n+1=>6 * (KB n+40)+60
theorem CE {n:Nat}(h:n≤5):KB n≤9000000:=by
 rcases(by omega:n=0∨n=1∨n=2∨n=3∨n=4∨n=5) with rfl | rfl | rfl | rfl | rfl | rfl<;>decide
theorem cmul {k:Int}{c:Nat}(h:0≤k):(k+1).toNat * c=k.toNat * c+c:=by
 rw [show(k+1).toNat=k.toNat+1 by omega,Nat.succ_mul]
theorem cmul_le {k:Int}{c n:Nat}(h:0≤k)(h1:k<n):k.toNat * c+c≤n * c:=by
 rw [← Nat.succ_mul];exact Nat.mul_le_mul_right _ om
structure GProc where
 name:Str
 params:List SParam
 pp:Sp
 ta:Option Addr
 tn:Nat
 tc:Nat
 sa:Option Addr
 sn:Nat
 sc:Nat
def GProc.cells (q:GProc):List Value:=[gs q.name,.slice q.pp.1 q.params.length q.pp.2,.slice q.ta q.tn q.tc,.slice q.sa q.sn q.sc]
instance :Cells 4 GProc.cells:=⟨fun _=>rfl,by decide,fun _=>rfl⟩
structure GPOk (H:Hp)(S:Sig)(q:GProc):Prop where
 nm:PNm q.name
 pa:RdSl H 3 SParam.cells (.slice q.pp.1 q.params.length q.pp.2) q.params
 pv:∀x∈q.params,VarNm x.name∧x.cn.length≤1000
 pl:q.params.length≤2
 t:SlT S 0 q.ta q.tn q.tc
 s:SlT S 3 q.sa q.sn q.sc
 s0:0<q.sn
 tl:q.tn≤10000000
 sl:q.sn≤10000000
theorem GPOk.le {H H':Hp}{S S':Sig}{q:GProc}(h:GPOk H S q)(hl:H.le H')(hs:S.le S'):GPOk H' S' q:=⟨h.nm,h.pa.le hl,h.pv,h.pl,h.t.le hs,h.s.le hs,h.s0,h.tl,h.sl⟩
end Go.Sx
