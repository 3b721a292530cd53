import Derived.Test.YtjnlogbbcceaoaaGreatR14
set_option linter.all false
set_option maxRecDepth 100000
set_option maxHeartbeats 32000000
namespace Go.Sx
open Go Go.Proofs
theorem vg {H:Hp}{q:SProc}(hQ:ProcOk H q)(hR:RiseOk q):
  Fn Tryz.prog 47 [.agg q.cells.toArray] H (fun v H2=>∃q2:SProc,v= .agg q2.cells.toArray∧ProcOk H2 q2∧q2.bare=iG q):=by
 have hS:=hR.s
 have n1:=hR.n1
 have n2:=hR.n2
 have n3:=hR.n3
 have np:=hR.p
 have hol0:=ord_len hS hR.t q.steps.length 0 om
 have hoL:(dx q).length≤q.steps.length:=hol0
 have hplc:=Cl q
 have hmaxs:=hQ.s.max
 have hmaxt:=hQ.t.max
 refine Fn.enter Tryz.func47 Tryz.ntmps47 rfl rfl (fun w0=>?_)
 refine zm2 ?_
 refine TL.box rfl rfl (fun b1=>?_)
 refine TL.alloc rfl (fun b2=>?_)
 refine TL.nil (af (tf (V:=fun(y:Nat×Option Addr×Nat×aj)=>[(3,.pointer (some ⟨y.1,0,none⟩))]) (K:=[(1,_),(2,_)]) ⟨rfl,rfl,trivial⟩ (L:=fun(y:Nat×Option Addr×Nat×aj)=>St [] w0 H H ((y.1,[gs q.name,.slice y.2.1 q.params.length y.2.2.1,.slice none 0 0,.slice none 0 0])::(b2,[gs [],.slice none 0 0,.slice none 0 0,.slice none 0 0])::(b1,q.cells)::y.2.2.2)) (I:=fun(y:Nat×Option Addr×Nat×aj)=>OwnSl 3 SParam.cells (.slice y.2.1 q.params.length y.2.2.1) q.params y.2.2.2) ?_ ?_))
 ·
  refine eH ?_
  refine TD.part 1 5 rfl rfl rfl ?_ ?_
  ·
   refine TD.part 5 7 rfl rfl rfl ?_ ?_
   ·
    refine TD.leaf [(0,1),(1,2),(3,1),(4,2),(2,3),(5,0),(6,1),(7,3),(8,0)] kr kr (qn ?_);refine qn ?_
    refine aF rfl rfl rfl rfl (fun b19=>?_)
    refine bf (TL.append (enc:=SParam.cells) rfl rfl rfl (OwnSl.blk (enc:=SParam.cells) [] rfl rfl dq) (Src.sl hQ.pa) (by simp;omega) rfl (.take (.here _) rfl) rfl (fun a22 c22 ob22 hO22=>?_))
    refine bj (dZ ?_)
    refine TF.alloc rfl (fun b3=>?_)
    refine tV ?_
    exact jP (b3,a22,c22,ob22) (hO22.cast (List.nil_append _)) ky (fun w hw=>hw)
   refine TD.part 2 7 rfl rfl rfl ?_ ?_
   ·
    refine TD.leaf [(0,1),(1,2),(3,1),(4,2),(2,3),(7,3),(5,0),(6,1),(8,0)] kr kr (qn ?_);refine qn ?_
    refine aF rfl rfl rfl rfl (fun b19=>?_)
    refine TF.alloc rfl (fun b3=>?_)
    refine bf (TL.append (enc:=SParam.cells) rfl rfl rfl (OwnSl.blk (enc:=SParam.cells) [] rfl rfl dq) (Src.sl hQ.pa) (by simp;omega) rfl (.take (.h1) rfl) rfl (fun a22 c22 ob22 hO22=>?_))
    refine bj (dZ ?_);refine tV ?_
    exact jP (b3,a22,c22,ob22) (hO22.cast (List.nil_append _)) ky (fun w hw=>hw)
   refine TD.leaf [(0,1),(1,2),(3,1),(4,2),(7,3),(2,3),(5,0),(6,1),(8,0)] kr kr (qn ?_);refine qn ?_
   refine TF.alloc rfl (fun b3=>?_)
   refine aF rfl rfl rfl rfl (fun b19=>?_)
   refine bf (TL.append (enc:=SParam.cells) rfl rfl rfl (OwnSl.blk (enc:=SParam.cells) [] rfl rfl dq) (Src.sl hQ.pa) (by simp;omega) rfl (.take (.here _) rfl) rfl (fun a22 c22 ob22 hO22=>?_))
   refine bj (dZ ?_);refine tV ?_
   exact jP (b3,a22,c22,ob22) (hO22.cast (List.nil_append _)) ky (fun w hw=>hw)
  refine TD.part 5 7 rfl rfl rfl ?_ ?_
  ·
   refine TD.leaf [(0,1),(3,1),(4,2),(2,3),(5,0),(1,2),(6,1),(7,3),(8,0)] kr kr (zm4 ?_);refine qn ?_
   refine aF rfl rfl rfl rfl (fun b19=>?_)
   refine bf (TL.append (enc:=SParam.cells) rfl rfl rfl (OwnSl.blk (enc:=SParam.cells) [] rfl rfl dq) (Src.sl hQ.pa) (by simp;omega) rfl (.take (.here _) rfl) rfl (fun a22 c22 ob22 hO22=>?_))
   refine bj (aK (aB rfl (.h1) rfl) rfl (dZ ?_))
   refine TF.alloc rfl (fun b3=>?_)
   refine tV ?_
   exact jP (b3,a22,c22,ob22) (hO22.cast (List.nil_append _)) ky (fun w hw=>hw)
  refine TD.part 2 7 rfl rfl rfl ?_ ?_
  ·
   refine TD.leaf [(0,1),(3,1),(4,2),(2,3),(7,3),(5,0),(1,2),(6,1),(8,0)] kr kr (zm4 ?_);refine qn ?_
   refine aF rfl rfl rfl rfl (fun b19=>?_)
   refine TF.alloc rfl (fun b3=>?_)
   refine bf (TL.append (enc:=SParam.cells) rfl rfl rfl (OwnSl.blk (enc:=SParam.cells) [] rfl rfl dq) (Src.sl hQ.pa) (by simp;omega) rfl (.take (.h1) rfl) rfl (fun a22 c22 ob22 hO22=>?_))
   refine bj (tW ?_);refine dZ ?_;refine tV ?_
   exact jP (b3,a22,c22,ob22) (hO22.cast (List.nil_append _)) ky (fun w hw=>hw)
  refine TD.leaf [(0,1),(3,1),(4,2),(7,3),(2,3),(5,0),(1,2),(6,1),(8,0)] kr kr (zm4 ?_);refine qn ?_
  refine TF.alloc rfl (fun b3=>?_)
  refine aF rfl rfl rfl rfl (fun b19=>?_)
  refine bf (TL.append (enc:=SParam.cells) rfl rfl rfl (OwnSl.blk (enc:=SParam.cells) [] rfl rfl dq) (Src.sl hQ.pa) (by simp;omega) rfl (.take (.here _) rfl) rfl (fun a22 c22 ob22 hO22=>?_))
  refine bj (tW ?_);refine dZ ?_;refine tV ?_
  exact jP (b3,a22,c22,ob22) (hO22.cast (List.nil_append _)) ky (fun w hw=>hw)
 intro y hI
 obtain⟨b3,a22,c22,ob22⟩:=y
 dsimp only at *
 replace hO22:=hI
 refine zm2 ?_
 refine TL.alloc rfl (fun b4=>?_)
 refine gF ?_
 refine TL.alloc rfl (fun b5=>?_)
 refine iu ?_;refine qW ?_;refine eQ (.h4) (TL.pub sq (fun H_b1 le_b1 rd_b1=>?_))
 replace hQ:=hQ.le le_b1
 have hx:ProcAt H_b1 b1 q:=rd_b1
 refine TL.pub sq (fun H_b5 le_b5 rd_b5=>?_)
 replace hQ:=hQ.le le_b5
 replace hx:=hx.le le_b5
 have hw:CellAt H_b5 b5 _:=rd_b5 0 _ rfl
 refine TL.pubO hO22 (.s2 (.skip _ .all)) sq (fun HPob22 lePob22 hPa=>?_)
 replace hQ:=hQ.le lePob22
 replace hx:=hx.le lePob22
 replace hw:=hw.le lePob22
 refine aM (L':=(b4,_)::((b3,_)::((b2,_)::[]))) (List.Perm.refl _) (TL.run (bI rfl hw) rfl (dY (L1:=[(b4,[.slice none 0 0])]) (ab rfl rfl rfl rfl) (ordW_ok hR.s hR.n2 q.steps.length 0 hQ hx hw om om om _ [] [] OwnSl.nil (by simp only [List.length_nil];omega)) rfl (fun v26 H26 L26 hle26 hp26=>?_)))
 obtain⟨rfl, -,u26,ob26,rfl,hO26⟩:=hp26
 obtain⟨ua26,uc26,rfl⟩:=hO26.form
 refine aM (L':=(b4,_)::(ob26++((b3,_)::((b2,_)::[])))) (List.Perm.refl _) ?_
 replace hQ:=hQ.le hle26
 replace hx:=hx.le hle26
 replace hw:=hw.le hle26
 replace hPa:=hPa.le hle26
 refine TL.pubO hO26 (.skip _ (.app _)) sq (fun HPob26 lePob26 hOr=>?_)
 replace hQ:=hQ.le lePob26
 replace hx:=hx.le lePob26
 replace hw:=hw.le lePob26
 replace hPa:=hPa.le lePob26
 refine TL.pub sq (fun H_b4 le_b4 rd_b4=>?_)
 replace hQ:=hQ.le le_b4
 replace hx:=hx.le le_b4
 replace hw:=hw.le le_b4
 replace hPa:=hPa.le le_b4
 replace hOr:=hOr.le le_b4
 have hb4:CellAt H_b4 b4 _:=rd_b4 0 _ rfl
 replace hOr:=hOr.cast (show _=dx q from rfl)
 refine xy ?_;refine TL.run (bI rfl (hx 3 _ rfl)) rfl (TL.run (ah rfl rfl hQ.s) rfl (gQ rfl rfl (by first | omega | decide) (by first | omega | decide) (by first | omega | decide) rfl (fun b30=>?_)))
 refine uB ?_;refine TL.run (bI rfl hb4) rfl (TL.run (ah rfl rfl hOr) rfl (zm8 ?_))
 refine TC.loop (V:=fun(p:Int×List Int)=>[(33,.int .i64 p.1)]) (K:=[(1,_),(2,_),(3,_),(4,_),(6,_),(31,_),(32,_)]) (L:=fun(p:Int×List Int)=>St [] w0 H H_b4 ((b30,(p.2).map (Value.int .i64))::(b3,_)::(b2,_)::[])) (I:=fun(p:Int×List Int)=>(0≤p.1∧p.1≤(dx q).length)∧p.2.length=q.steps.length∧bS q=eF ((dx q).drop p.1.toNat) p.1 p.2) (μ:=fun(p:Int×List Int)=>((dx q).length - p.1).toNat) (i:=((0:Int),List.replicate q.steps.length (0:Int))) ky ⟨o2q,by simp,rfl⟩ (fun w hw=>by simp only [pU] at hw;exact hw) (fun(p:Int×List Int) hI=>?_)
 obtain⟨⟨k0,k1⟩,hpll,hPl⟩:=hI
 obtain⟨k,pl⟩:=p
 dsimp only at *
 refine zm7 ?_
 refine ag rfl ?_ ?_<;>intro c34
 ·
  obtain⟨x,hk⟩:=ao (l:=dx q) k0 c34
  have hxb:=ol hS (List.mem_of_getElem? hk)
  refine mt ?_;refine TL.run (ae rfl hOr rfl om om) rfl (TL.run (aQ hOr hk rfl rfl) rfl (lW ?_));refine pO ?_;refine fp ?_;refine bB rfl rfl rfl (.here _) (by simp;omega) rfl (qr ?_)
  exact aS (i:=(k,pl)) (k+1,pl.set x.toNat k) ⟨o2q,by rw [List.length_set];exact hpll,pg_next k0 hk hPl⟩ ky (fun w hw=>by have hw2:=hw;simp only [wO] at hw2;exact hw2) om
 have hPE:=pg_end k0 c34 hPl
 subst hPE
 refine qK ?_;refine TL.run (bI rfl (hx 2 _ rfl)) rfl (TL.run (ah rfl rfl hQ.t) rfl (gQ rfl rfl (by first | omega | decide) (by first | omega | decide) (by first | omega | decide) rfl (fun b46=>?_)))
 refine TL.alloc rfl (fun b9=>?_)
 refine qW ?_
 refine TL.pub sq (fun H_b9 le_b9 rd_b9=>?_)
 replace hQ:=hQ.le le_b9
 replace hx:=hx.le le_b9
 replace hw:=hw.le le_b9
 replace hPa:=hPa.le le_b9
 replace hOr:=hOr.le le_b9
 replace hb4:=hb4.le le_b9
 have hmv:CellAt H_b9 b9 (.slice (some ⟨b46,0,none⟩) q.terms.length q.terms.length):=rd_b9 0 _ rfl
 refine zm0 ?_
 refine TL.alloc rfl (fun b10=>?_)
 refine qW ?_
 refine TL.pub sq (fun H_b10 le_b10 rd_b10=>?_)
 replace hQ:=hQ.le le_b10
 replace hx:=hx.le le_b10
 replace hw:=hw.le le_b10
 replace hPa:=hPa.le le_b10
 replace hOr:=hOr.le le_b10
 replace hb4:=hb4.le le_b10
 replace hmv:=hmv.le le_b10
 have hTKc:CellAt H_b10 b10 (.func (.func 93) #[] #[.pointer (some ⟨b1,0,none⟩),.pointer (some ⟨b9,0,none⟩),.pointer (some ⟨b3,0,none⟩)]):=rd_b10 0 _ rfl
 refine aM (L':=(b46,_)::((b3,_)::((b30,_)::((b2,_)::[])))) (em [[(b46,_)],[(b30,_)],[(b3,_)],[(b2,_)]] [0,2,1,3] rfl) (zm0 ?_);refine uB ?_
 refine TL.run (bI rfl hb4) rfl (TL.run (ah rfl rfl hOr) rfl (zm8 ?_))
 refine aW (V:=fun(p:Int×RS×Value×aj×List SStep) vS obS H1=>[(51,.int .i64 p.1)]) (K:=[(1,_),(2,_),(3,_),(6,_),(10,_),(11,_),(49,_),(50,_)]) (L:=fun(p:Int×RS×Value×aj×List SStep) vS obS H1=>St [] w0 H H1 ((b46,(p.2.1.1).map (Value.int .i64))::(b3,[gs q.name,(.slice a22 q.params.length c22),p.2.2.1,vS])::(b30,(bS q).map (Value.int .i64))::(b2,[gs [],.slice none 0 0,.slice none 0 0,.slice none 0 0])::(p.2.2.2.1++obS))) (I:=fun(p:Int×RS×Value×aj×List SStep) vS obS H1=>(0≤p.1∧p.1≤(dx q).length)∧H_b10.le H1∧(p.2.1.1.length=q.terms.length∧p.2.1.2.length≤3355443200 * p.1.toNat)∧OwnSl 6 Term.cells p.2.2.1 p.2.1.2 p.2.2.2.1∧OwnSl 10 SStep.cells vS p.2.2.2.2 obS∧p.2.2.2.2.length=p.1∧StAll H1 p.2.2.2.2∧d9 q (bS q) (dx q) [] (List.replicate q.terms.length 0,[])=d9 q (bS q) ((dx q).drop p.1.toNat) (p.2.2.2.2.map SStep.bare) p.2.1) (μ:=fun(p:Int×RS×Value×aj×List SStep)=>((dx q).length - p.1).toNat) ((0:Int),(List.replicate q.terms.length (0:Int),[]),(.slice none 0 0),[],[]) (.slice none 0 0) [] H_b10 ky ⟨o2q,Hp.le.refl _,⟨by simp,by simp⟩,OwnSl.nil,OwnSl.nil,rfl,(fun s hs=>by cases hs),rfl⟩ (fun w hw=>by simp only [pU] at hw;exact hw) (fun p vS obS H1 hI=>?_)
 obtain⟨⟨k0,k1⟩,hle,⟨hml,hol⟩,hO1,hOS,hSl,hSt,hT⟩:=hI
 obtain⟨k,⟨m,o⟩,u1,ob1,S⟩:=p
 dsimp only at *
 obtain⟨va,vc,rfl⟩:=hOS.form
 replace hQ:=hQ.le hle
 replace hx:=hx.le hle
 replace hw:=hw.le hle
 replace hPa:=hPa.le hle
 replace hOr:=hOr.le hle
 replace hmv:=hmv.le hle
 replace hTKc:=hTKc.le hle
 refine zm7 ?_
 refine ag rfl ?_ ?_<;>intro c52
 ·
  obtain⟨x,hk⟩:=ao (l:=dx q) k0 c52
  have hxb:=ol hS (List.mem_of_getElem? hk)
  obtain⟨s,hs⟩:=ao (l:=q.steps) hxb.1 hxb.2
  have hs0:=hQ.ss s (List.mem_of_getElem? hs)
  obtain⟨hma,hin⟩:=hS _ _ hs
  have hTm:=hR.m _ _ hs
  have hsz:=fH hma
  refine dz ?_;refine TL.run (ae rfl hOr rfl om om) rfl (TL.run (aQ hOr hk rfl rfl) rfl (mu ?_));refine TL.run (bI rfl (hx 3 _ rfl)) rfl (zm0 ?_);refine xK ?_
  refine TL.run (bg hQ.s hs rfl rfl) rfl (TL.alloc rfl (fun b14=>?_))
  refine qt ?_;refine qm ?_
  refine ag rfl ?_ ?_<;>intro c62
  ·
   have hA:dc q.terms s (m,o)=eD q.terms s.term (m,o):=by unfold dc;rw [if_pos om]
   refine TC.region (TL.run (bI rfl hTKc) rfl (fV ?_));refine zm366 ?_
   refine dY (L1:=(b46,m.map (Value.int .i64))::(b3,_)::ob1) (ab rfl rfl rfl rfl) (Bj s.term hQ hx hmv (hTm _ (po hma om)) hml hO1 om) rfl (fun v66 H66 L66 hle66 hp66=>?_)
   obtain⟨rfl,u66,ob66,rfl,hO66⟩:=hp66
   refine aM (L':=(b46,_)::((b3,_)::(ob66++((b14,_)::((b30,_)::((b2,_)::(obS))))))) (List.Perm.refl _) ?_
   replace hQ:=hQ.le hle66
   replace hx:=hx.le hle66
   replace hw:=hw.le hle66
   replace hmv:=hmv.le hle66
   replace hTKc:=hTKc.le hle66
   replace hle:=hle.trans hle66
   replace hs0:=hs0.le hle66
   replace hSt:=hSt.le hle66
   refine aM (L':=(b14,_)::((b46,_)::((b3,_)::((b30,_)::((b2,_)::(ob66++(obS))))))) (em [[(b46,_)],[(b3,_)],ob66,[(b14,_)],[(b30,_)],[(b2,_)],obS] [3,0,1,4,5,2,6] rfl) (qD ?_)
   refine fV ?_;refine aM (L':=(b46,_)::((b3,_)::(ob66++((b14,_)::((b30,_)::((b2,_)::(obS))))))) (em [[(b14,_)],[(b46,_)],[(b3,_)],[(b30,_)],[(b2,_)],ob66,obS] [1,2,5,0,3,4,6] rfl) ?_
   have hmA:(dc q.terms s (m,o)).1.length=q.terms.length:=by rw [kM.1];exact hml
   have hzA:=(hY (q:=q) (st:=(m,o)) hma hTm).1
   have hOA:OwnSl 6 Term.cells u66 (dc q.terms s (m,o)).2 ob66:=by rw [hA];exact hO66
   refine aM (L':=(b46,(dc q.terms s (m,o)).1.map (Value.int .i64))::(b3,_)::(ob66++((b14,_)::((b30,_)::((b2,_)::(obS)))))) (by rw [hA]) (dY (L1:=(b46,(dc q.terms s (m,o)).1.map (Value.int .i64))::(b3,_)::ob66) (ab rfl rfl rfl rfl) (f5 hs0.a hTKc hQ hx hmv (fun t h=>hTm t (iD h)) hsz.2.1 hmA hOA (by simp only at hzA;omega)) rfl (fun v71 H71 L71 hle71 hp71=>?_))
   obtain⟨u71,ob71,oc71,rfl,hO71,hA71⟩:=hp71
   obtain⟨aa71,ac71,rfl⟩:=hA71.form
   refine aM (fF (A:=ob71) (B:=oc71)) ?_
   replace hQ:=hQ.le hle71
   replace hx:=hx.le hle71
   replace hw:=hw.le hle71
   replace hmv:=hmv.le hle71
   replace hTKc:=hTKc.le hle71
   replace hle:=hle.trans hle71
   replace hs0:=hs0.le hle71
   replace hSt:=hSt.le hle71
   refine TL.pubO hA71 (.s2 (.past ob71 (.app _))) sq (fun HPoc71 lePoc71 hRA=>?_)
   replace hQ:=hQ.le lePoc71
   replace hx:=hx.le lePoc71
   replace hw:=hw.le lePoc71
   replace hmv:=hmv.le lePoc71
   replace hTKc:=hTKc.le lePoc71
   replace hle:=hle.trans lePoc71
   replace hs0:=hs0.le lePoc71
   replace hSt:=hSt.le lePoc71
   clear hOA
   change OwnSl 6 Term.cells u71 (dK q.terms s (m,o)).2.2 ob71 at hO71
   replace hRA:=hRA.cast (show _=(dK q.terms s (m,o)).1 from rfl)
   refine zm367 ?_;refine zm368 ?_
   have hmB:(dK q.terms s (m,o)).2.1.length=q.terms.length:=by rw [kM.2.1];exact hml
   have hzB:=(hY (q:=q) (st:=(m,o)) hma hTm).2.1
   simp only at hzB
   refine qy ?_;refine gF ?_
   refine aD rfl rfl rfl rfl (fun b73=>?_)
   refine iN ?_
   refine TL.append (enc:=SCast.cells) rfl rfl rfl (OwnSl.blk (enc:=SCast.cells) [] rfl rfl dq) (Src.sl hs0.c) (by simp;omega) rfl (.take (.here _) rfl) rfl (fun a76 c76 ob76 hO76=>?_)
   refine aM (rZ [(b14,_),(b46,_),(b3,_),(b30,_),(b2,_)] (A:=ob71) (B:=obS) (C:=ob76)) (o6 ?_)
   replace hO76:=hO76.cast (List.nil_append _)
   refine yd ?_;refine TL.run (bE rfl rfl hO76) rfl (zm8 ?_);refine zm369 ?_
   refine aW (V:=fun(p:Int×RS×Value×aj×List SCast×aj) v2 ob H2=>[(81,.int .i64 p.1)]) (K:=[(1,_),(2,_),(3,_),(6,_),(10,_),(11,_),(13,_),(14,_),(49,_),(50,_),(51,_),(52,_),(53,_),(54,_),(55,_),(56,_),(57,_),(58,_),(59,_),(60,_),(61,_),(62,_),(63,_),(64,_),(65,_),(66,_),(67,_),(68,_),(69,_),(70,_),(71,_),(72,_),(73,_),(74,_),(75,_),(76,_),(77,_),(78,_),(79,_),(80,_)]) (L:=fun(p:Int×RS×Value×aj×List SCast×aj) v2 ob H2=>St [] w0 H H2 ((b14,_)::(b46,(p.2.1.1).map (Value.int .i64))::(b3,[gs q.name,(.slice a22 q.params.length c22),p.2.2.1,(.slice va S.length vc)])::(b30,(bS q).map (Value.int .i64))::(b2,[gs [],.slice none 0 0,.slice none 0 0,.slice none 0 0])::(p.2.2.2.1++(obS++p.2.2.2.2.2)))) (I:=fun(p:Int×RS×Value×aj×List SCast×aj) v2 ob H2=>(0≤p.1∧p.1≤s.casts.length)∧HPoc71.le H2∧(p.2.1.1.length=q.terms.length∧p.2.1.2.length≤(dK q.terms s (m,o)).2.2.length+201326592 * p.1.toNat)∧OwnSl 6 Term.cells p.2.2.1 p.2.1.2 p.2.2.2.1∧OwnSl 3 SCast.cells (.slice a76 s.casts.length c76) p.2.2.2.2.1 p.2.2.2.2.2∧CaIx H2 s.casts p.2.2.2.2.1 p.1∧gB q.terms s (m,o)=cT q.terms (s.casts.drop p.1.toNat) ((p.2.2.2.2.1.take p.1.toNat).map SCast.bare) p.2.1) (μ:=fun(p:Int×RS×Value×aj×List SCast×aj)=>(s.casts.length - p.1).toNat) ((0:Int),(dK q.terms s (m,o)).2,u71,ob71,s.casts,ob76) .nilFunc [] HPoc71 ky ⟨o2q,Hp.le.refl _,⟨hmB,by simp⟩,hO71,hO76,⟨rfl,hs0.cs,rfl⟩,rfl⟩ (fun w hw=>hw) (fun p v2 ob H2 hI=>?_)
   obtain⟨⟨j0,j1⟩,hle2,⟨hm2,ho2⟩,hO2,hOc,hC,hK⟩:=hI
   obtain⟨j,⟨m2,o2⟩,u2,ob2,C,oc⟩:=p
   dsimp only at *
   replace hQ:=hQ.le hle2
   replace hx:=hx.le hle2
   replace hw:=hw.le hle2
   replace hmv:=hmv.le hle2
   replace hTKc:=hTKc.le hle2
   replace hle:=hle.trans hle2
   replace hs0:=hs0.le hle2
   replace hSt:=hSt.le hle2
   replace hRA:=hRA.le hle2
   refine zm7 ?_
   refine ag rfl ?_ ?_<;>intro c82
   ·
    obtain⟨c,hc⟩:=ao (l:=s.casts) j0 c82
    have hcC:=hC.at_ hc
    have hCl:(C.length:Int)=s.casts.length:=by rw [hC.n]
    have hc6:=hsz.2.2.2 c (List.mem_of_getElem? hc)
    have hcm:∀t∈c.args,cF q.terms t=true:=fun t h=>hTm t (iC (List.mem_of_getElem? hc) h)
    refine pb ?_;refine eH ?_
    refine TD.part 1 10 rfl rfl rfl ?_ ?_
    ·
     refine zm370 ?_;refine qB ?_;refine tU ?_;refine oR ?_;refine zm4 ?_;refine AY ?_;refine bf (AX ?_)
     refine dY (L1:=(b46,m2.map (Value.int .i64))::(b3,_)::ob2) (ab rfl rfl rfl rfl) (f5 (hs0.cs c (List.mem_of_getElem? hc)) hTKc hQ hx hmv hcm hc6 hm2 hO2 om) rfl (fun v94 H94 L94 hle94 hp94=>?_)
     obtain⟨u94,ob94,oc94,rfl,hO94,hA94⟩:=hp94
     obtain⟨aa94,ac94,rfl⟩:=hA94.form
     refine aM (fF (A:=ob94) (B:=oc94)) ?_
     replace hw:=hw.le hle94
     replace hle2:=hle2.trans hle94
     replace hC:=hC.le hle94
     refine TL.pubO hA94 (.s2 (.past ob94 (.app _))) sq (fun HPoc94 lePoc94 hRC=>?_)
     replace hw:=hw.le lePoc94
     replace hle2:=hle2.trans lePoc94
     replace hC:=hC.le lePoc94
     refine AW ?_;refine AV ?_;refine bj (oR ?_);refine fu ?_
     refine bX (a':={c with args:=(bp q.terms c.args [] (m2,o2)).1,ap:=(aa94,ac94)}) rfl rfl hOc (.s5 (.past ob94 (.past _ .all))) hcC rfl rfl rfl rfl (fun obd ed hOd=>?_)
     refine mc ?_
     exact aH (i:=(j,(m2,o2),u2,ob2,C,oc)) (j+1,(bp q.terms c.args [] (m2,o2)).2,u94,ob94,C.set j.toNat {c with args:=(bp q.terms c.args [] (m2,o2)).1,ap:=(aa94,ac94)},obd) .nilFunc [] HPoc94 ⟨o2q,hle2,⟨by rw [eK];exact hm2,by have h7:=d8 (acc:=[]) (s:=(m2,o2)) hcm;simp only at h7 ⊢;omega⟩,hO94,hOd,hC.put j0 hRC,by rw [nl j0 hcC];exact qf j0 hc hK⟩ ky (fun w hw=>hw) om
    refine zm371 ?_;refine zm4 ?_;refine tU ?_;refine oR ?_;refine zm4 ?_;refine AY ?_;refine bf (AX ?_)
    refine dY (L1:=(b46,m2.map (Value.int .i64))::(b3,_)::ob2) (ab rfl rfl rfl rfl) (f5 (hs0.cs c (List.mem_of_getElem? hc)) hTKc hQ hx hmv hcm hc6 hm2 hO2 om) rfl (fun v94 H94 L94 hle94 hp94=>?_)
    obtain⟨u94,ob94,oc94,rfl,hO94,hA94⟩:=hp94
    obtain⟨aa94,ac94,rfl⟩:=hA94.form
    refine aM (fF (A:=ob94) (B:=oc94)) ?_
    replace hw:=hw.le hle94
    replace hle2:=hle2.trans hle94
    replace hC:=hC.le hle94
    refine TL.pubO hA94 (.s2 (.past ob94 (.app _))) sq (fun HPoc94 lePoc94 hRC=>?_)
    replace hw:=hw.le lePoc94
    replace hle2:=hle2.trans lePoc94
    replace hC:=hC.le lePoc94
    refine AW ?_;refine AV ?_;refine bj (lj ?_);refine oR ?_;refine fu ?_
    refine bX (a':={c with args:=(bp q.terms c.args [] (m2,o2)).1,ap:=(aa94,ac94)}) rfl rfl hOc (.s5 (.past ob94 (.past _ .all))) hcC rfl rfl rfl rfl (fun obd ed hOd=>?_)
    refine mc ?_
    exact aH (i:=(j,(m2,o2),u2,ob2,C,oc)) (j+1,(bp q.terms c.args [] (m2,o2)).2,u94,ob94,C.set j.toNat {c with args:=(bp q.terms c.args [] (m2,o2)).1,ap:=(aa94,ac94)},obd) .nilFunc [] HPoc94 ⟨o2q,hle2,⟨by rw [eK];exact hm2,by have h7:=d8 (acc:=[]) (s:=(m2,o2)) hcm;simp only at h7 ⊢;omega⟩,hO94,hOd,hC.put j0 hRC,by rw [nl j0 hcC];exact qf j0 hc hK⟩ ky (fun w hw=>hw) om
   have hCE:=Fh j0 c82 hK
   rw [bC (by rw [hC.n];exact c82) j0] at hCE
   have hCn:=hC.n
   refine qE ?_
   refine aD rfl rfl rfl rfl (fun b98=>?_)
   refine iN ?_
   refine TL.append (enc:=SWay.cells) rfl rfl rfl (OwnSl.blk (enc:=SWay.cells) [] rfl rfl dq) (Src.sl hs0.w) (by simp;omega) rfl (.take (.here _) rfl) rfl (fun a101 c101 ob101 hO101=>?_)
   refine zm372 ?_;refine o6 ?_
   replace hO101:=hO101.cast (List.nil_append _)
   refine yd ?_;refine TL.run (bE rfl rfl hO101) rfl (zm8 ?_);refine zm373 ?_
   refine aW (V:=fun(p:Int×List SWay×aj) v3 ob H3=>[(106,.int .i64 p.1)]) (K:=[(1,_),(2,_),(3,_),(6,_),(10,_),(11,_),(13,_),(14,_),(49,_),(50,_),(51,_),(52,_),(53,_),(54,_),(55,_),(56,_),(57,_),(58,_),(59,_),(60,_),(61,_),(62,_),(63,_),(64,_),(65,_),(66,_),(67,_),(68,_),(69,_),(70,_),(71,_),(72,_),(73,_),(74,_),(75,_),(76,_),(77,_),(78,_),(79,_),(80,_),(81,_),(82,_),(98,_),(99,_),(100,_),(101,_),(102,_),(103,_),(104,_),(105,_)]) (L:=fun(p:Int×List SWay×aj) v3 ob H3=>St [] w0 H H2 ((b14,_)::(b46,_)::(b3,_)::(b30,_)::(b2,_)::(ob2++(obS++(oc++p.2.2))))) (I:=fun(p:Int×List SWay×aj) v3 ob H3=>(0≤p.1∧p.1≤s.ways.length)∧OwnSl 3 SWay.cells (.slice a101 s.ways.length c101) p.2.1 p.2.2∧WaIx (bS q) s.ways p.2.1 p.1) (μ:=fun(p:Int×List SWay×aj)=>(s.ways.length - p.1).toNat) ((0:Int),s.ways,ob101) .nilFunc [] H2 ky ⟨o2q,hO101,rfl⟩ (fun w hw=>hw) (fun p v3 ob H3 hI=>?_)
   obtain⟨⟨i0,i1⟩,hOw,hW⟩:=hI
   obtain⟨i,W,ow⟩:=p
   dsimp only at *
   refine zm7 ?_
   refine ag rfl ?_ ?_<;>intro c107
   ·
    obtain⟨w,hwy⟩:=ao (l:=s.ways) i0 c107
    have hwW:=hW.at_ hwy
    have hWl:(W.length:Int)=s.ways.length:=by rw [hW.len]
    have hwn:=hin _ (rk hma (List.mem_of_getElem? hwy))
    refine pb ?_;refine eH ?_;refine zm374 ?_;refine qB ?_;refine tU ?_;refine oQ ?_;refine zm4 ?_;refine zm375 ?_;refine tT ?_
    refine aK (aB rfl (.h3) (il om)) rfl (oQ ?_);refine fu ?_
    refine bX (a':=iw (bS q) w) rfl rfl hOw (.s5 (.past ob2 (.past _ (.past _ .all)))) hwW rfl rfl rfl rfl (fun obe ee hOe=>?_)
    refine mc ?_
    exact aH (i:=(i,W,ow)) (i+1,W.set i.toNat (iw (bS q) w),obe) .nilFunc [] H2 ⟨o2q,hOe,hW.put i0 hwy⟩ ky (fun w hw=>hw) om
   refine gh ?_;refine fL ?_;refine ay (ab rfl rfl rfl rfl) (qd s.kind) rfl (TL.nil (af (TC.cond rfl (fun c126=>?_) (fun c126=>?_))))
   ·
    have hnn:=hin _ (oB c126)
    refine pN ?_;refine fp ?_;refine Dm ?_;refine qo ?_;refine TC.region (TL.pubO hOc (.s5 (.past ob2 (.past _ (.app _)))) sq (fun HPoc lePoc hRC2=>?_))
    replace hw:=hw.le lePoc
    replace hle:=hle.trans lePoc
    replace hSt:=hSt.le lePoc
    replace hRA:=hRA.le lePoc
    replace hC:=hC.le lePoc
    refine TL.pubO hOw (.s5 (.past ob2 (.past _ .all))) sq (fun HPow lePow hRW2=>?_)
    replace hw:=hw.le lePow
    replace hle:=hle.trans lePow
    replace hSt:=hSt.le lePow
    replace hRA:=hRA.le lePow
    replace hC:=hC.le lePow
    replace hRC2:=hRC2.le lePow
    refine AU ?_
    have hWn:W.length=s.ways.length:=hW.len
    generalize hs2e:(⟨s.kind,s.name,s.peer,s.label,s.proc,(aL (eD q.terms s.term (m,o)).1 s.term),(dK q.terms s (m,o)).1,(aa71,ac71),C,(a76,c76),W,(a101,c101),(aL (bS q) s.next)⟩:SStep)=s2
    have hs2:StepOk HPow s2:=by subst hs2e;exact⟨hRA,by simp only [hCn];exact hRC2,hC.r,by simp only [hWn];exact hRW2⟩
    have hWE:W=s.ways.map (iw (bS q)):=by rw [show W=_ from hW,bC c107 i0,List.drop_of_length_le om,List.append_nil]
    have hs2b:s2.bare=g6 q.terms (bS q) s (m,o):=by subst hs2e;exact kL hCE hWE (by rw [if_pos om,hA]) (if_pos c126).symm
    exact vZ
   refine cV ?_;refine TC.region (TL.pubO hOc (.s5 (.past ob2 (.past _ (.app _)))) sq (fun HPoc lePoc hRC2=>?_))
   replace hw:=hw.le lePoc
   replace hle:=hle.trans lePoc
   replace hSt:=hSt.le lePoc
   replace hRA:=hRA.le lePoc
   replace hC:=hC.le lePoc
   refine TL.pubO hOw (.s5 (.past ob2 (.past _ .all))) sq (fun HPow lePow hRW2=>?_)
   replace hw:=hw.le lePow
   replace hle:=hle.trans lePow
   replace hSt:=hSt.le lePow
   replace hRA:=hRA.le lePow
   replace hC:=hC.le lePow
   replace hRC2:=hRC2.le lePow
   refine AU ?_
   have hWn:W.length=s.ways.length:=hW.len
   generalize hs2e:(⟨s.kind,s.name,s.peer,s.label,s.proc,(aL (eD q.terms s.term (m,o)).1 s.term),(dK q.terms s (m,o)).1,(aa71,ac71),C,(a76,c76),W,(a101,c101),s.next⟩:SStep)=s2
   have hs2:StepOk HPow s2:=by subst hs2e;exact⟨hRA,by simp only [hCn];exact hRC2,hC.r,by simp only [hWn];exact hRW2⟩
   have hWE:W=s.ways.map (iw (bS q)):=by rw [show W=_ from hW,bC c107 i0,List.drop_of_length_le om,List.append_nil]
   have hs2b:s2.bare=g6 q.terms (bS q) s (m,o):=by subst hs2e;exact kL hCE hWE (by rw [if_pos om,hA]) (if_neg (by rw [c126];decide)).symm
   exact vZ
  have hA:dc q.terms s (m,o)=(m,o):=by unfold dc;rw [if_neg om]
  refine lq ?_;refine fV ?_;refine zm366 ?_
  have hmA:(dc q.terms s (m,o)).1.length=q.terms.length:=by rw [kM.1];exact hml
  have hzA:=(hY (q:=q) (st:=(m,o)) hma hTm).1
  have hOA:OwnSl 6 Term.cells u1 (dc q.terms s (m,o)).2 ob1:=by rw [hA];exact hO1
  refine aM (L':=(b46,(dc q.terms s (m,o)).1.map (Value.int .i64))::(b3,_)::(ob1++((b14,_)::((b30,_)::((b2,_)::(obS)))))) (by rw [hA]) (dY (L1:=(b46,(dc q.terms s (m,o)).1.map (Value.int .i64))::(b3,_)::ob1) (ab rfl rfl rfl rfl) (f5 hs0.a hTKc hQ hx hmv (fun t h=>hTm t (iD h)) hsz.2.1 hmA hOA (by simp only at hzA;omega)) rfl (fun v71 H71 L71 hle71 hp71=>?_))
  obtain⟨u71,ob71,oc71,rfl,hO71,hA71⟩:=hp71
  obtain⟨aa71,ac71,rfl⟩:=hA71.form
  refine aM (fF (A:=ob71) (B:=oc71)) ?_
  replace hQ:=hQ.le hle71
  replace hx:=hx.le hle71
  replace hw:=hw.le hle71
  replace hmv:=hmv.le hle71
  replace hTKc:=hTKc.le hle71
  replace hle:=hle.trans hle71
  replace hs0:=hs0.le hle71
  replace hSt:=hSt.le hle71
  refine TL.pubO hA71 (.s2 (.past ob71 (.app _))) sq (fun HPoc71 lePoc71 hRA=>?_)
  replace hQ:=hQ.le lePoc71
  replace hx:=hx.le lePoc71
  replace hw:=hw.le lePoc71
  replace hmv:=hmv.le lePoc71
  replace hTKc:=hTKc.le lePoc71
  replace hle:=hle.trans lePoc71
  replace hs0:=hs0.le lePoc71
  replace hSt:=hSt.le lePoc71
  clear hOA
  change OwnSl 6 Term.cells u71 (dK q.terms s (m,o)).2.2 ob71 at hO71
  replace hRA:=hRA.cast (show _=(dK q.terms s (m,o)).1 from rfl)
  refine zm367 ?_;refine zm368 ?_
  have hmB:(dK q.terms s (m,o)).2.1.length=q.terms.length:=by rw [kM.2.1];exact hml
  have hzB:=(hY (q:=q) (st:=(m,o)) hma hTm).2.1
  simp only at hzB
  refine qy ?_;refine gF ?_
  refine aD rfl rfl rfl rfl (fun b73=>?_)
  refine iN ?_
  refine TL.append (enc:=SCast.cells) rfl rfl rfl (OwnSl.blk (enc:=SCast.cells) [] rfl rfl dq) (Src.sl hs0.c) (by simp;omega) rfl (.take (.here _) rfl) rfl (fun a76 c76 ob76 hO76=>?_)
  refine aM (rZ [(b14,_),(b46,_),(b3,_),(b30,_),(b2,_)] (A:=ob71) (B:=obS) (C:=ob76)) (o6 ?_)
  replace hO76:=hO76.cast (List.nil_append _)
  refine yd ?_;refine TL.run (bE rfl rfl hO76) rfl (zm8 ?_);refine zm369 ?_
  refine aW (V:=fun(p:Int×RS×Value×aj×List SCast×aj) v2 ob H2=>[(81,.int .i64 p.1)]) (K:=[(1,_),(2,_),(3,_),(6,_),(10,_),(11,_),(13,_),(14,_),(49,_),(50,_),(51,_),(52,_),(53,_),(54,_),(55,_),(56,_),(57,_),(58,_),(59,_),(60,_),(61,_),(62,_),(68,_),(69,_),(70,_),(71,_),(72,_),(73,_),(74,_),(75,_),(76,_),(77,_),(78,_),(79,_),(80,_)]) (L:=fun(p:Int×RS×Value×aj×List SCast×aj) v2 ob H2=>St [] w0 H H2 ((b14,_)::(b46,(p.2.1.1).map (Value.int .i64))::(b3,[gs q.name,(.slice a22 q.params.length c22),p.2.2.1,(.slice va S.length vc)])::(b30,(bS q).map (Value.int .i64))::(b2,[gs [],.slice none 0 0,.slice none 0 0,.slice none 0 0])::(p.2.2.2.1++(obS++p.2.2.2.2.2)))) (I:=fun(p:Int×RS×Value×aj×List SCast×aj) v2 ob H2=>(0≤p.1∧p.1≤s.casts.length)∧HPoc71.le H2∧(p.2.1.1.length=q.terms.length∧p.2.1.2.length≤(dK q.terms s (m,o)).2.2.length+201326592 * p.1.toNat)∧OwnSl 6 Term.cells p.2.2.1 p.2.1.2 p.2.2.2.1∧OwnSl 3 SCast.cells (.slice a76 s.casts.length c76) p.2.2.2.2.1 p.2.2.2.2.2∧CaIx H2 s.casts p.2.2.2.2.1 p.1∧gB q.terms s (m,o)=cT q.terms (s.casts.drop p.1.toNat) ((p.2.2.2.2.1.take p.1.toNat).map SCast.bare) p.2.1) (μ:=fun(p:Int×RS×Value×aj×List SCast×aj)=>(s.casts.length - p.1).toNat) ((0:Int),(dK q.terms s (m,o)).2,u71,ob71,s.casts,ob76) .nilFunc [] HPoc71 ky ⟨o2q,Hp.le.refl _,⟨hmB,by simp⟩,hO71,hO76,⟨rfl,hs0.cs,rfl⟩,rfl⟩ (fun w hw=>hw) (fun p v2 ob H2 hI=>?_)
  obtain⟨⟨j0,j1⟩,hle2,⟨hm2,ho2⟩,hO2,hOc,hC,hK⟩:=hI
  obtain⟨j,⟨m2,o2⟩,u2,ob2,C,oc⟩:=p
  dsimp only at *
  replace hQ:=hQ.le hle2
  replace hx:=hx.le hle2
  replace hw:=hw.le hle2
  replace hmv:=hmv.le hle2
  replace hTKc:=hTKc.le hle2
  replace hle:=hle.trans hle2
  replace hs0:=hs0.le hle2
  replace hSt:=hSt.le hle2
  replace hRA:=hRA.le hle2
  refine zm7 ?_
  refine ag rfl ?_ ?_<;>intro c82
  ·
   obtain⟨c,hc⟩:=ao (l:=s.casts) j0 c82
   have hcC:=hC.at_ hc
   have hCl:(C.length:Int)=s.casts.length:=by rw [hC.n]
   have hc6:=hsz.2.2.2 c (List.mem_of_getElem? hc)
   have hcm:∀t∈c.args,cF q.terms t=true:=fun t h=>hTm t (iC (List.mem_of_getElem? hc) h)
   refine pb ?_;refine eH ?_
   refine TD.part 1 10 rfl rfl rfl ?_ ?_
   ·
    refine zm370 ?_;refine qB ?_;refine tU ?_;refine oR ?_;refine zm4 ?_;refine AY ?_;refine bf (AX ?_)
    refine dY (L1:=(b46,m2.map (Value.int .i64))::(b3,_)::ob2) (ab rfl rfl rfl rfl) (f5 (hs0.cs c (List.mem_of_getElem? hc)) hTKc hQ hx hmv hcm hc6 hm2 hO2 om) rfl (fun v94 H94 L94 hle94 hp94=>?_)
    obtain⟨u94,ob94,oc94,rfl,hO94,hA94⟩:=hp94
    obtain⟨aa94,ac94,rfl⟩:=hA94.form
    refine aM (fF (A:=ob94) (B:=oc94)) ?_
    replace hw:=hw.le hle94
    replace hle2:=hle2.trans hle94
    replace hC:=hC.le hle94
    refine TL.pubO hA94 (.s2 (.past ob94 (.app _))) sq (fun HPoc94 lePoc94 hRC=>?_)
    replace hw:=hw.le lePoc94
    replace hle2:=hle2.trans lePoc94
    replace hC:=hC.le lePoc94
    refine AW ?_;refine AV ?_;refine bj (oR ?_);refine fu ?_
    refine bX (a':={c with args:=(bp q.terms c.args [] (m2,o2)).1,ap:=(aa94,ac94)}) rfl rfl hOc (.s5 (.past ob94 (.past _ .all))) hcC rfl rfl rfl rfl (fun obd ed hOd=>?_)
    refine mc ?_
    exact aH (i:=(j,(m2,o2),u2,ob2,C,oc)) (j+1,(bp q.terms c.args [] (m2,o2)).2,u94,ob94,C.set j.toNat {c with args:=(bp q.terms c.args [] (m2,o2)).1,ap:=(aa94,ac94)},obd) .nilFunc [] HPoc94 ⟨o2q,hle2,⟨by rw [eK];exact hm2,by have h7:=d8 (acc:=[]) (s:=(m2,o2)) hcm;simp only at h7 ⊢;omega⟩,hO94,hOd,hC.put j0 hRC,by rw [nl j0 hcC];exact qf j0 hc hK⟩ ky (fun w hw=>hw) om
   refine zm371 ?_;refine zm4 ?_;refine tU ?_;refine oR ?_;refine zm4 ?_;refine AY ?_;refine bf (AX ?_)
   refine dY (L1:=(b46,m2.map (Value.int .i64))::(b3,_)::ob2) (ab rfl rfl rfl rfl) (f5 (hs0.cs c (List.mem_of_getElem? hc)) hTKc hQ hx hmv hcm hc6 hm2 hO2 om) rfl (fun v94 H94 L94 hle94 hp94=>?_)
   obtain⟨u94,ob94,oc94,rfl,hO94,hA94⟩:=hp94
   obtain⟨aa94,ac94,rfl⟩:=hA94.form
   refine aM (fF (A:=ob94) (B:=oc94)) ?_
   replace hw:=hw.le hle94
   replace hle2:=hle2.trans hle94
   replace hC:=hC.le hle94
   refine TL.pubO hA94 (.s2 (.past ob94 (.app _))) sq (fun HPoc94 lePoc94 hRC=>?_)
   replace hw:=hw.le lePoc94
   replace hle2:=hle2.trans lePoc94
   replace hC:=hC.le lePoc94
   refine AW ?_;refine AV ?_;refine bj (lj ?_);refine oR ?_;refine fu ?_
   refine bX (a':={c with args:=(bp q.terms c.args [] (m2,o2)).1,ap:=(aa94,ac94)}) rfl rfl hOc (.s5 (.past ob94 (.past _ .all))) hcC rfl rfl rfl rfl (fun obd ed hOd=>?_)
   refine mc ?_
   exact aH (i:=(j,(m2,o2),u2,ob2,C,oc)) (j+1,(bp q.terms c.args [] (m2,o2)).2,u94,ob94,C.set j.toNat {c with args:=(bp q.terms c.args [] (m2,o2)).1,ap:=(aa94,ac94)},obd) .nilFunc [] HPoc94 ⟨o2q,hle2,⟨by rw [eK];exact hm2,by have h7:=d8 (acc:=[]) (s:=(m2,o2)) hcm;simp only at h7 ⊢;omega⟩,hO94,hOd,hC.put j0 hRC,by rw [nl j0 hcC];exact qf j0 hc hK⟩ ky (fun w hw=>hw) om
  have hCE:=Fh j0 c82 hK
  rw [bC (by rw [hC.n];exact c82) j0] at hCE
  have hCn:=hC.n
  refine qE ?_
  refine aD rfl rfl rfl rfl (fun b98=>?_)
  refine iN ?_
  refine TL.append (enc:=SWay.cells) rfl rfl rfl (OwnSl.blk (enc:=SWay.cells) [] rfl rfl dq) (Src.sl hs0.w) (by simp;omega) rfl (.take (.here _) rfl) rfl (fun a101 c101 ob101 hO101=>?_)
  refine zm372 ?_;refine o6 ?_
  replace hO101:=hO101.cast (List.nil_append _)
  refine yd ?_;refine TL.run (bE rfl rfl hO101) rfl (zm8 ?_);refine zm373 ?_
  refine aW (V:=fun(p:Int×List SWay×aj) v3 ob H3=>[(106,.int .i64 p.1)]) (K:=[(1,_),(2,_),(3,_),(6,_),(10,_),(11,_),(13,_),(14,_),(49,_),(50,_),(51,_),(52,_),(53,_),(54,_),(55,_),(56,_),(57,_),(58,_),(59,_),(60,_),(61,_),(62,_),(68,_),(69,_),(70,_),(71,_),(72,_),(73,_),(74,_),(75,_),(76,_),(77,_),(78,_),(79,_),(80,_),(81,_),(82,_),(98,_),(99,_),(100,_),(101,_),(102,_),(103,_),(104,_),(105,_)]) (L:=fun(p:Int×List SWay×aj) v3 ob H3=>St [] w0 H H2 ((b14,_)::(b46,_)::(b3,_)::(b30,_)::(b2,_)::(ob2++(obS++(oc++p.2.2))))) (I:=fun(p:Int×List SWay×aj) v3 ob H3=>(0≤p.1∧p.1≤s.ways.length)∧OwnSl 3 SWay.cells (.slice a101 s.ways.length c101) p.2.1 p.2.2∧WaIx (bS q) s.ways p.2.1 p.1) (μ:=fun(p:Int×List SWay×aj)=>(s.ways.length - p.1).toNat) ((0:Int),s.ways,ob101) .nilFunc [] H2 ky ⟨o2q,hO101,rfl⟩ (fun w hw=>hw) (fun p v3 ob H3 hI=>?_)
  obtain⟨⟨i0,i1⟩,hOw,hW⟩:=hI
  obtain⟨i,W,ow⟩:=p
  dsimp only at *
  refine zm7 ?_
  refine ag rfl ?_ ?_<;>intro c107
  ·
   obtain⟨w,hwy⟩:=ao (l:=s.ways) i0 c107
   have hwW:=hW.at_ hwy
   have hWl:(W.length:Int)=s.ways.length:=by rw [hW.len]
   have hwn:=hin _ (rk hma (List.mem_of_getElem? hwy))
   refine pb ?_;refine eH ?_;refine zm374 ?_;refine qB ?_;refine tU ?_;refine oQ ?_;refine zm4 ?_;refine zm375 ?_;refine tT ?_
   refine aK (aB rfl (.h3) (il om)) rfl (oQ ?_);refine fu ?_
   refine bX (a':=iw (bS q) w) rfl rfl hOw (.s5 (.past ob2 (.past _ (.past _ .all)))) hwW rfl rfl rfl rfl (fun obe ee hOe=>?_)
   refine mc ?_
   exact aH (i:=(i,W,ow)) (i+1,W.set i.toNat (iw (bS q) w),obe) .nilFunc [] H2 ⟨o2q,hOe,hW.put i0 hwy⟩ ky (fun w hw=>hw) om
  refine gh ?_;refine fL ?_;refine ay (ab rfl rfl rfl rfl) (qd s.kind) rfl (TL.nil (af (TC.cond rfl (fun c126=>?_) (fun c126=>?_))))
  ·
   have hnn:=hin _ (oB c126)
   refine pN ?_;refine fp ?_;refine Dm ?_;refine qo ?_;refine TC.region (TL.pubO hOc (.s5 (.past ob2 (.past _ (.app _)))) sq (fun HPoc lePoc hRC2=>?_))
   replace hw:=hw.le lePoc
   replace hle:=hle.trans lePoc
   replace hSt:=hSt.le lePoc
   replace hRA:=hRA.le lePoc
   replace hC:=hC.le lePoc
   refine TL.pubO hOw (.s5 (.past ob2 (.past _ .all))) sq (fun HPow lePow hRW2=>?_)
   replace hw:=hw.le lePow
   replace hle:=hle.trans lePow
   replace hSt:=hSt.le lePow
   replace hRA:=hRA.le lePow
   replace hC:=hC.le lePow
   replace hRC2:=hRC2.le lePow
   refine AU ?_
   have hWn:W.length=s.ways.length:=hW.len
   generalize hs2e:(⟨s.kind,s.name,s.peer,s.label,s.proc,s.term,(dK q.terms s (m,o)).1,(aa71,ac71),C,(a76,c76),W,(a101,c101),(aL (bS q) s.next)⟩:SStep)=s2
   have hs2:StepOk HPow s2:=by subst hs2e;exact⟨hRA,by simp only [hCn];exact hRC2,hC.r,by simp only [hWn];exact hRW2⟩
   have hWE:W=s.ways.map (iw (bS q)):=by rw [show W=_ from hW,bC c107 i0,List.drop_of_length_le om,List.append_nil]
   have hs2b:s2.bare=g6 q.terms (bS q) s (m,o):=by subst hs2e;exact kL hCE hWE (by rw [if_neg om]) (if_pos c126).symm
   exact vZ
  refine cV ?_;refine TC.region (TL.pubO hOc (.s5 (.past ob2 (.past _ (.app _)))) sq (fun HPoc lePoc hRC2=>?_))
  replace hw:=hw.le lePoc
  replace hle:=hle.trans lePoc
  replace hSt:=hSt.le lePoc
  replace hRA:=hRA.le lePoc
  replace hC:=hC.le lePoc
  refine TL.pubO hOw (.s5 (.past ob2 (.past _ .all))) sq (fun HPow lePow hRW2=>?_)
  replace hw:=hw.le lePow
  replace hle:=hle.trans lePow
  replace hSt:=hSt.le lePow
  replace hRA:=hRA.le lePow
  replace hC:=hC.le lePow
  replace hRC2:=hRC2.le lePow
  refine AU ?_
  have hWn:W.length=s.ways.length:=hW.len
  generalize hs2e:(⟨s.kind,s.name,s.peer,s.label,s.proc,s.term,(dK q.terms s (m,o)).1,(aa71,ac71),C,(a76,c76),W,(a101,c101),s.next⟩:SStep)=s2
  have hs2:StepOk HPow s2:=by subst hs2e;exact⟨hRA,by simp only [hCn];exact hRC2,hC.r,by simp only [hWn];exact hRW2⟩
  have hWE:W=s.ways.map (iw (bS q)):=by rw [show W=_ from hW,bC c107 i0,List.drop_of_length_le om,List.append_nil]
  have hs2b:s2.bare=g6 q.terms (bS q) s (m,o):=by subst hs2e;exact kL hCE hWE (by rw [if_neg om]) (if_neg (by rw [c126];decide)).symm
  exact vZ
 refine qE ?_
 obtain⟨ta,tc,rfl⟩:=hO1.form
 refine aM (L':=(b46,_)::((b3,_)::((b30,_)::((b2,_)::(ob1++(obS)))))) (em [[(b46,_)],[(b3,_)],[(b30,_)],[(b2,_)],ob1,obS] [0,1,2,3,4,5] rfl) (TL.run (a7 rfl (.h1) rfl) rfl (Dl ?_))
 refine TL.nil (af (TC.ret ?_))
 have hE:=st_end k0 c52 hT
 refine TX.pubO hO1 (.s4 (.app _)) sq (fun HPt lePt hRT=>?_)
 replace hQ:=hQ.le lePt
 replace hPa:=hPa.le lePt
 refine TX.pubO hOS (.s3 (.skip _ .all)) sq (fun HPs lePs hRS=>?_)
 replace hQ:=hQ.le lePs
 replace hPa:=hPa.le lePs
 replace hRT:=hRT.le lePs
 replace hSt:=(hSt.le lePt).le lePs
 have hNm:Nm o:=by have h7:=sk (q:=q) (pl:=bS q) (L:=dx q) (acc:=[]) (st:=(List.replicate q.terms.length 0,[])) hQ.tn (fun t h=>by cases h);rw [hE] at h7;exact h7
 exact aR (.inr rfl) (ad rfl (RVal.cellA rfl (.h3) rfl)) ⟨⟨q.name,q.params,(a22,c22),o,(ta,tc),S,(va,vc)⟩,rfl,⟨hPa,hQ.pz,hQ.pl,hRT,hNm,hRS,hSt⟩,by unfold iG;rw [hE];rfl⟩
end Go.Sx
namespace Go.Sx
open Go Go.Proofs
theorem E3 {H:Hp}(p:SProto)(hP:ProtoOk H p)(hl:p.points.length≤1000):
  FnO Tryz.prog 134 [.agg p.cells.toArray] H (fun v H1 ob=>H1=H∧∃u,v= .agg #[gs [],u]∧OwnSl 3 STurn.cells u (p.points.map dU) ob):=by
 have hpt:=hP.pt
 have hpm:=hpt.max
 refine FnO.enter Tryz.func134 Tryz.ntmps134 rfl rfl (fun w0=>?_)
 refine zm2 ?_
 refine TL.box rfl rfl (fun b1=>?_)
 refine TL.alloc rfl (fun b2=>?_)
 refine gF ?_
 refine TL.alloc rfl (fun b3=>?_)
 refine TL.nil (af (TC.seq (xO ?_)));refine TL.run (ah rfl rfl hpt) rfl (zm8 ?_)
 refine aW (V:=fun k v ob H1=>[(10,.int .i64 k)]) (K:=[(2,_),(3,_),(8,_),(9,_)]) (L:=fun k v ob H1=>St [] w0 H H ((b3,[gs [],v])::(b2,_)::(b1,_)::ob)) (I:=fun k v ob H1=>(0≤k∧k≤p.points.length)∧OwnSl 3 STurn.cells v ((p.points.take k.toNat).map dU) ob) (μ:=fun k=>(p.points.length - k).toNat) 0 (.slice none 0 0) [] H ky ⟨o2q,OwnSl.nil⟩ (fun w hw=>hw) (fun k v ob H1 hI=>?_)
 obtain⟨⟨k0,k1⟩,hO⟩:=hI
 obtain⟨va,vc,rfl⟩:=hO.form
 refine zm7 ?_
 refine ag rfl ?_ ?_<;>intro c11
 ·
  obtain⟨x,hx⟩:=ao (l:=p.points) k0 c11
  have hxa:=(hP.ps x (List.mem_of_getElem? hx)).a.max
  refine dz ?_;refine TL.run (ae rfl hpt rfl om om) rfl (TL.run (bg hpt hx rfl rfl) rfl (TL.alloc rfl (fun b5=>?_)))
  refine qY ?_;refine dw ?_
  refine TL.alloc rfl (fun b6=>?_)
  refine qt ?_;refine gX ?_;refine ma ?_
  refine ai (s:=20) rfl ?_ ?_<;>intro g20
  ·
   have q20:=aU g20
   refine lo ?_;refine ll ?_
   exact zK
  have q20:=aP g20
  refine fM ?_;refine nz ?_;refine zm3 ?_
  refine ai (s:=25) rfl ?_ ?_<;>intro g25
  ·
   have q25:=aU g25
   refine eg ?_;refine ll ?_
   exact zK
  have q25:=aP g25
  refine fM ?_;refine aC rfl rfl (ah rfl rfl (hP.ps x (List.mem_of_getElem? hx)).a) rfl (gi ?_)
  refine ag rfl ?_ ?_<;>intro c30
  · exact zK
  refine cV ?_;refine w9 ?_
  refine aD rfl rfl rfl rfl (fun b38=>?_)
  refine TL.append (enc:=STurn.cells) rfl rfl rfl hO (Src.own [⟨0,[],x.arms,x.ap⟩] (.here _) rfl rfl) (by simp;omega) rfl (.s5 (.skip _ .all)) rfl (fun a39 c39 ob39 hO39=>?_)
  refine zm6 ?_;refine mn ?_;refine qr ?_
  exact aH (k+1) _ ob39 H ⟨o2q,hO39.cast (by rw [bQ k0 hx];congr 2;first | exact(BE (by simp_all)).symm | exact(BF (by simp_all)).symm)⟩ ky (fun w hw=>hw.drop.drop.drop) om
 refine ir ?_;refine qP ?_
 exact ef (.inr rfl) (ad rfl (RVal.cellA rfl (.h1) rfl)) (.s2 (.skip _ .all)) ⟨rfl,_,rfl,hO.cast (by rw [bC c11 k0])⟩
end Go.Sx
namespace Go.Sx
open Go Go.Proofs
theorem gMay_ok {H:Hp}(p:SProto)(hP:ProtoOk H p)(hM:MaxG H):
  FnS Tryz.prog 77 [.agg p.cells.toArray] H (.bool (cW p)):=by
 have hr:=hP.r
 have hpt:=hP.pt
 have hrm:=hr.max
 have hpm:=hpt.max
 refine FnS.enter Tryz.func77 Tryz.ntmps77 rfl rfl (fun w0=>?_)
 refine zm2 ?_
 refine TL.box rfl rfl (fun b1=>?_)
 refine iW ?_
 refine bO (!cR p) 34 [(1,_),(2,_)] ⟨rfl,rfl,trivial⟩ ?_ ?_
 ·
  refine ql ?_;refine ay (ab rfl rfl rfl rfl) (bL p.name) rfl (zm3 ?_)
  refine ai (s:=11) rfl ?_ ?_<;>intro g11
  ·
   refine xU ?_;refine dN ?_
   exact aV rfl (by unfold cR;simp_all) ⟨rfl,rfl,trivial⟩
  refine zm9 ?_;refine aC rfl rfl (ah rfl rfl hr) rfl (db ?_)
  refine ai (s:=17) rfl ?_ ?_<;>intro g17
  ·
   have q17:=of_decide_eq_true g17
   refine w6 ?_;refine dN ?_
   exact aV rfl (by unfold cR;simp_all) ⟨rfl,rfl,trivial⟩
  have q17:=of_decide_eq_false g17
  refine zm9 ?_;refine aC rfl rfl (ah rfl rfl hr) rfl (db ?_)
  refine ai (s:=23) rfl ?_ ?_<;>intro g23
  ·
   have q23:=of_decide_eq_true g23
   refine oK ?_;refine dN ?_
   exact aV rfl (by unfold cR;simp_all) ⟨rfl,rfl,trivial⟩
  have q23:=of_decide_eq_false g23
  refine zm9 ?_;refine aO rfl rfl (ab rfl rfl rfl rfl) (kU hr) rfl (db ?_)
  refine ai (s:=29) rfl ?_ ?_<;>intro g29
  ·
   refine nD ?_
   exact aV rfl (by unfold cR;simp_all) ⟨rfl,rfl,trivial⟩
  refine zm9 ?_;refine aC rfl rfl (ah rfl rfl hpt) rfl (gH ?_)
  exact aV rfl (by unfold cR;simp_all) ⟨rfl,rfl,trivial⟩
 refine TC.cond rfl ?_ ?_<;>intro c34
 ·
  refine lF ?_
  exact ax (.inr rfl) (ad rfl (RVal.tmp rfl)) (congrArg Value.bool (by first | exact pY c34 | exact pX hr1 | exact pW hp1 | exact pV hh hr1 hp1))
 have hh:cR p=true:=by simpa using c34
 have hp24:=Ev hh
 refine jo ?_;refine fL ?_;refine TL.run (ah rfl rfl hr) rfl (zm8 ?_)
 refine TC.loop (V:=fun k=>[(38,.int .i64 k)]) (K:=[(1,_),(2,_),(36,_),(37,_)]) (L:=fun k=>_) (I:=fun k=>(0≤k∧k≤p.roles.length)∧p.roles.all au=(p.roles.drop k.toNat).all au) (μ:=fun k=>(p.roles.length - k).toNat) (i:=(0:Int)) ky ⟨o2q,rfl⟩ (fun w hw=>hw) (fun k hI=>?_)
 obtain⟨⟨k0,k1⟩,hal⟩:=hI
 refine zm7 ?_
 refine ag rfl ?_ ?_<;>intro c39
 ·
  obtain⟨y,hy⟩:=ao (l:=p.roles) k0 c39
  refine dz ?_;refine TL.run (ae rfl hr rfl om om) rfl (TL.run (aQ hr hy rfl rfl) rfl (k6 ?_));refine ay (ab rfl rfl rfl rfl) (bL y) rfl (zm1 ?_)
  refine TC.cond rfl ?_ ?_<;>intro c44
  ·
   have hr1:=du (p:=au) k0 hy (by simpa using c44) hal
   refine o8 ?_
   exact ax (.inr rfl) (ad rfl (RVal.tmp rfl)) (congrArg Value.bool (by first | exact pY c34 | exact pX hr1 | exact pW hp1 | exact pV hh hr1 hp1))
  refine l6 ?_
  exact aS (k+1) ⟨o2q,cg (p:=au) k0 hy (by simpa using c44) hal⟩ ky (fun w hw=>hw) om
 have hr1:=cU (p:=au) k0 c39 hal
 refine gh ?_;refine fL ?_;refine TL.run (ah rfl rfl hpt) rfl (zm8 ?_)
 refine TC.loop (V:=fun k=>[(49,.int .i64 k)]) (K:=[(1,_),(2,_),(47,_),(48,_)]) (L:=fun k=>_) (I:=fun k=>(0≤k∧k≤p.points.length)∧p.points.all (eA p.roles)=(p.points.drop k.toNat).all (eA p.roles)) (μ:=fun k=>(p.points.length - k).toNat) (i:=(0:Int)) ky ⟨o2q,rfl⟩ (fun w hw=>hw) (fun k hI=>?_)
 obtain⟨⟨k0,k1⟩,hal⟩:=hI
 refine zm7 ?_
 refine ag rfl ?_ ?_<;>intro c50
 ·
  obtain⟨x,hx⟩:=ao (l:=p.points) k0 c50
  have hxa:=(hP.ps x (List.mem_of_getElem? hx)).a.max
  refine dz ?_;refine TL.run (ae rfl hpt rfl om om) rfl (TL.run (bg hpt hx rfl rfl) rfl (TL.alloc rfl (fun b6=>?_)))
  refine qt ?_
  refine bO (dy x) 66 [(1,_),(2,_),(6,_),(47,_),(48,_),(49,_),(50,_),(51,_),(52,_)] ky ?_ ?_
  ·
   refine xV ?_
   refine ai (s:=56) rfl ?_ ?_<;>intro g56
   ·
    have q56:=of_decide_eq_true g56
    refine qu ?_
    refine ai (s:=61) rfl ?_ ?_<;>intro g61
    ·
     have q61:=of_decide_eq_true g61
     refine zm9 ?_;refine aC rfl rfl (ah rfl rfl (hP.ps x (List.mem_of_getElem? hx)).a) rfl (gH ?_)
     exact aV rfl (by unfold dy;simp_all) ky
    have q61:=of_decide_eq_false g61
    refine nD ?_
    exact aV rfl (by unfold dy;simp_all) ky
   have q56:=of_decide_eq_false g56
   refine xR ?_
   exact aV rfl (by unfold dy;simp_all) ky
  refine TC.cond rfl ?_ ?_<;>intro c66
  ·
   refine yb ?_;refine nv ?_
   exact aS (k+1) ⟨o2q,cg (p:=(eA p.roles)) k0 hx (by first | exact pt_1 c66 | exact pt_2 c87) hal⟩ ky (fun w hw=>hw.drop) om
  refine cV ?_
  refine bO (!dH p.roles x) 87 [(1,_),(2,_),(6,_),(47,_),(48,_),(49,_),(50,_),(51,_),(52,_),(66,_)] ky ?_ ?_
  ·
   refine qF ?_;refine fV ?_;refine ay (ab rfl rfl rfl rfl) (je x.frm hr) rfl (zm3 ?_)
   refine ai (s:=73) rfl ?_ ?_<;>intro g73
   ·
    refine qV ?_;refine dh ?_;refine dN ?_
    exact aV rfl (by unfold dH;simp_all) ky
   refine lu ?_;refine aO rfl rfl (ab rfl rfl rfl rfl) (je x.to hr) rfl (db ?_)
   refine ai (s:=81) rfl ?_ ?_<;>intro g81
   ·
    refine pQ ?_;refine dN ?_
    exact aV rfl (by unfold dH;simp_all) ky
   refine zm9 ?_;refine tP ?_;refine dN ?_
   exact aV rfl (by unfold dH;simp_all) ky
  refine TC.cond rfl ?_ ?_<;>intro c87
  ·
   have hp1:=du (p:=eA p.roles) k0 hx (pt_3 c66 c87) hal
   refine o8 ?_
   exact ax (.inr rfl) (ad rfl (RVal.tmp rfl)) (congrArg Value.bool (by first | exact pY c34 | exact pX hr1 | exact pW hp1 | exact pV hh hr1 hp1))
  refine l6 ?_
  exact aS (k+1) ⟨o2q,cg (p:=(eA p.roles)) k0 hx (by first | exact pt_1 c66 | exact pt_2 c87) hal⟩ ky (fun w hw=>hw.drop) om
 have hp1:=cU (p:=eA p.roles) k0 c50 hal
 refine ir ?_;refine gu ?_
 refine da (ab rfl rfl rfl rfl) (E3 p hP om) rfl (fun v90 H90 ob90 hle90 hp90=>?_)
 obtain⟨eH90,u90,rfl,hO90⟩:=hp90
 subst H90
 obtain⟨a90,c90,rfl⟩:=hO90.form
 refine TL.pubO hO90 (.skip _ .all) sq (fun HP90 leP90 hR90=>?_)
 replace hP:=hP.le leP90
 replace hM:=hM.le leP90
 refine ay (ab rfl rfl rfl rfl) (wm ⟨[],p.points.map dU,(a90,c90)⟩ ⟨hR90,zm hP⟩ hM) rfl (ei ?_)
 exact ax (.inr rfl) (ad rfl (RVal.tmp rfl)) (congrArg Value.bool (by first | exact pY c34 | exact pX hr1 | exact pW hp1 | exact pV hh hr1 hp1))
end Go.Sx
