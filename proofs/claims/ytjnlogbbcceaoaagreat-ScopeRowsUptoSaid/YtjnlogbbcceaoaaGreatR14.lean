import Derived.Test.YtjnlogbbcceaoaaGreatR13
set_option linter.all false
set_option maxRecDepth 100000
set_option maxHeartbeats 32000000
namespace Go.Sx
open Go Go.Proofs
theorem BT {F:Fx}{V:XV}{T:SLocal}(hG:TG F T)(hF:FXk F)(hTx:∀t∈T.turns,TGx T t)(turn deep:Int){K:Nat}(h0:0≤turn)(h1:turn<T.turns.length)(hknd0:∀t,T.turns[turn.toNat]? =some t→t.kind≠0)(hrm1:1≤V.room)(ih:∀(V:XV) (turn:Int),0≤turn→turn<T.turns.length→WFx Tryz.prog F V 69 [.int .i64 turn,.int .i64 (deep+1)] K (fun v V1=>v= .tuple #[]∧∃us ss xs nm,0≤nm∧XA V V1 us ss nm∧Mir V1.oN ss xs∧BlkR F.ps (deep+1) V.room V.names V.st.length V.tm.length xs us))(hK:K≤9000000)(hdp:0≤deep∧deep≤4):
  WFx Tryz.prog F V 129 [.int .i64 turn,.int .i64 deep] (6 * (K+40)+20) (fun v V1=>v= .tuple #[]∧∃us ss xs nm,0≤nm∧XA V V1 us ss nm∧Mir V1.oN ss xs∧BlkR F.ps deep V.room V.names V.st.length V.tm.length xs us):=by
 refine WFx.enter Tryz.func129 Tryz.ntmps129 rfl rfl (fun m w0 hW hm=>?_)
 have hGg:=hG.g
 have hr1:=hG.r1
 have hr0:=hG.r0
 have hty:=hW.fx.ty
 have htk:=hW.fx.tk T (List.mem_of_getElem? hGg)
 have hts:=htk.t
 have htm:=hts.max
 obtain⟨t,htx⟩:=ao (l:=T.turns) h0 h1
 have hTt:=hG.ts t (List.mem_of_getElem? htx)
 have hta:=(htk.ts t (List.mem_of_getElem? htx)).a
 have ha6:=hTt.a6
 have ham:=hta.max
 have hKB:=hK
 have hta0:=hta
 have hknd:=hknd0 t htx
 have hTxt:=hTx t (List.mem_of_getElem? htx)
 have ha4:=hTxt.a4
 have hnm0:=hW.n0
 have hme0:=hW.me
 refine nA ?_;refine Dr ?_;refine t7 ?_;refine t7 ?_;refine aq (ae rfl hty rfl om om) rfl (zm4 ?_)
 refine aN (S1 (S1 SN)) (Hp.le.refl _) (fun _ _=>br hty hGg rfl rfl) rfl (zm5 ?_)
 refine aq (ae rfl hts rfl om om) rfl (aN (S1 (S1 SN)) (Hp.le.refl _) (fun _ _=>bg hts htx rfl rfl) rfl (TF.alloc rfl (fun b6=>?_)))
 refine ud ?_;refine TF.nil (af (zm2 ?_));refine ay (ab rfl rfl rfl rfl) (cZ 5) rfl (TL.alloc rfl (fun b7=>?_))
 refine qN ?_;refine aT [false,true,true,true] [(0,1),(1,4),(2,1),(3,5),(4,1),(5,0)] kr kr (zm4 ?_)
 refine aN (S0 (S1 (S1 (S1 SN)))) (Hp.le.refl _) (fun _ _=>aB rfl (.here _) rfl) rfl (xg ?_);refine l7 ?_;refine fu ?_;refine li ?_;refine k7 ?_;refine dM ?_;refine fo ?_
 refine aA (F:=F) (V:=V) (m:=m) [(b7,_),(b6,_)] rfl rfl (ab rfl rfl rfl rfl) (fN ⟨5,[99],t.peer,[],[], -1,none,0,0,none,0,0,none,0,0, -1⟩) hW om rfl (fun v34 V34 hle34 hW34 hp34=>?_)
 replace hta:=hta.le hle34
 obtain⟨rfl,hA34⟩:=hp34
 have hL34:=hA34.sl
 simp only [List.length_cons,List.length_nil] at hL34
 refine xJ ?_
 refine oG (V:=fun(k:Int) (V1:XV) (r:HR)=>[(9,.int .i64 k)]) (K:=[(0,_),(2,_),(6,_),(8,_)]) (L:=fun k V1 r=>St (keys (F.X V)) w0 V.H V1.H ((b7,TStep.cells ⟨5,[99],t.peer,[],[], -1,none,0,0,none,0,0,none,0,0, -1⟩)::(b6,t.cells)::(r.ob++Fx.X F V1))) (I:=fun k V1 r=>XI F V1 (m+1+k.toNat * (K+40))∧(0≤k∧k≤t.arms.length)∧V.H.le V1.H∧XA V V1 r.ts (⟨5,[99],t.peer,[],[], -1,none,0,0,none,0,0,r.a,r.ws.length,r.c, -1⟩::r.ss) r.nm∧0≤r.nm∧OwnSl 3 SWay.cells (.slice r.a r.ws.length r.c) r.ws r.ob∧Mir V1.oN r.ss r.xs∧HearI F.ps t.arms deep V.room V.names V.st.length V.tm.length k r.ws r.xs r.ts r.nm) (μ:=fun k=>(t.arms.length - k).toNat) 0 V34 ⟨[],none,0,[],[],[],[],0⟩ ky (⟨by simpa using hW34,o2q,hle34,hA34,Int.le_refl _,.nil,.nil,.nil hrm1 hdp.2⟩) (fun w hw=>hw) (fun k V1 r hI=>?_)
 obtain⟨hI1,⟨k0,k1⟩,hI3,hI4,hI5,hI6,hI7,hI8⟩:=hI
 replace hta:=hta0.le hI3
 have hme1:=hI1.me
 have hnm1:=hI4.nm
 refine oU ?_;refine TL.run (ah rfl rfl hta) rfl (zm1 ?_)
 refine ag rfl ?_ ?_<;>intro c39
 ·
  obtain⟨x,hax⟩:=ao (l:=t.arms) k0 c39
  have hxm:=List.mem_of_getElem? hax
  have hxn:=hTt.nx x hxm
  have hml:=cmul_le (c:=K+40) (n:=6) k0 om
  have hmu:=cmul (c:=K+40) k0
  refine xv ?_;refine aT [true,true] [(0,1),(1,4),(2,1),(3,1),(4,1),(5,4),(6,1),(7,1),(8,1),(9,1),(10,2),(11,1),(12,1),(13,3),(14,5)] kr kr (t8 ?_);refine zm5 ?_
  refine aq (ae rfl hta rfl om om) rfl (zm4 ?_);refine aN (S1 (S1 SN)) (Hp.le.refl _) (fun _ _=>br hta hax rfl rfl) rfl (lY ?_)
  refine aK (aB rfl (.t2 (.past r.ob (.here _))) rfl) rfl (aq (ec rfl rfl) rfl (dZ ?_))
  refine TF.alloc rfl (fun b10=>?_)
  refine ud ?_;refine TF.nil (af (TC.seq (xO ?_)));refine zm0 ?_;refine TL.run (ae rfl hta rfl om om) rfl (zm6 ?_);refine zm6 ?_;refine TL.run (pr_el2 hta hax rfl rfl) rfl (zm1 ?_)
  refine aX rfl ?_ ?_<;>intro c62
  ·
   refine dM ?_
   refine cI (F:=F) (V:=V1) (m:=m+1+k.toNat * (K+40)) [(b10,_),(b7,_),(b6,_)] r.ob rfl rfl (ab rfl rfl rfl rfl) (uI) hI1 om rfl (fun v64 V64 hle64 hW64 hp64=>?_)
   replace hta:=hta.le hle64
   obtain⟨rfl,hA64⟩:=hp64
   refine qo ?_;refine eH ?_;refine aT [true,true,true] [(0,1),(1,1),(2,4),(3,1),(4,4),(5,1),(6,1),(7,1),(8,4),(9,5)] kr kr (lZ ?_)
   refine aN (S1 (S1 (S1 SN))) (Hp.le.refl _) (fun _ _=>aB rfl (.here _) rfl) rfl (zm4 ?_);refine aN (S1 (S1 (S1 SN))) (Hp.le.refl _) (fun _ _=>aB rfl (.h2) rfl) rfl (zm5 ?_)
   refine aq (ae rfl hta rfl om om) rfl (zm4 ?_)
   refine aN (S1 (S1 (S1 SN))) (Hp.le.refl _) (fun _ _=>rT hta hax rfl rfl) rfl (aw rfl (cI (F:=F) (V:=V64) (m:=m+1+k.toNat * (K+40)+1) [(b10,_),(b7,_),(b6,_)] r.ob rfl rfl (ab rfl rfl rfl rfl) (DB hF (vnm (V1.names+1)) (mx om om) x.ck x.cn) hW64 om rfl (fun v75 V75 hle75 hW75 hp75=>?_)))
   replace hta:=hta.le hle75
   obtain⟨us75,ss75,ys75,rfl,hA75,hM75,hy75,hu75,hg75⟩:=hp75
   refine az (S1 (S1 (S1 SN))) hle75 (TF.nil (af (dM ?_)));refine md ?_;refine zm0 ?_;refine TL.run (ae rfl hta rfl om om) rfl (zm6 ?_);refine TL.run (br hta hax rfl rfl) rfl (uw ?_)
   refine cI (F:=F) (V:=V75) (m:=m+1+k.toNat * (K+40)+1+12) [(b10,_),(b7,_),(b6,_)] r.ob rfl rfl (ab rfl rfl rfl rfl) (ih _ x.next hxn.1 hxn.2) hW75 om rfl (fun v85 V85 hle85 hW85 hp85=>?_)
   obtain⟨rfl,us85,ss85,xs85,nm85,hnm85,hA85,hM85,hB85⟩:=hp85
   refine TL.nil (af (eH ?_))
   refine TD.part 4 17 rfl rfl rfl ?_ ?_
   ·
    refine zm363 ?_
    have hw12:XA V V85 (r.ts++(us75++us85)) (⟨5,[99],t.peer,[],[], -1,none,0,0,none,0,0,r.a,r.ws.length,r.c, -1⟩::(r.ss++(ss75++ss85))) (r.nm+(1+nm85)):=(hI4.trans (hA64.trans (hA75.trans hA85))).cast sq sq om
    have hatw12:=hw12.at
    have hslw12:=hw12.sl
    simp only [List.length_cons,List.length_nil,List.length_append] at hslw12
    have hsmw12:=hW85.s.max
    refine lY ?_;refine tY ?_;refine qv ?_;refine tY ?_;refine zm5 ?_;refine tX ?_;refine zm4 ?_;refine AZ ?_;refine yk ?_
    refine aF rfl rfl rfl rfl (fun b102=>?_)
    refine aw rfl (TL.append (enc:=SWay.cells) rfl rfl rfl hI6 (Src.own [(⟨x.label,vnm (V1.names+1),((V1.st.length:Nat):Int)⟩:SWay)] (.here _) rfl rfl) (by have h9:=congrArg List.length hI8.lb;rw [List.length_map,List.length_map,List.length_take] at h9;simp only [List.length_cons,List.length_nil];omega) rfl (.s4 (.app _)) rfl (fun a103 c103 ob103 hO103=>?_))
    refine l7 ?_
    exact zq850
   refine zm364 ?_
   have hw12:XA V V85 (r.ts++(us75++us85)) (⟨5,[99],t.peer,[],[], -1,none,0,0,none,0,0,r.a,r.ws.length,r.c, -1⟩::(r.ss++(ss75++ss85))) (r.nm+(1+nm85)):=(hI4.trans (hA64.trans (hA75.trans hA85))).cast sq sq om
   have hatw12:=hw12.at
   have hslw12:=hw12.sl
   simp only [List.length_cons,List.length_nil,List.length_append] at hslw12
   have hsmw12:=hW85.s.max
   refine lY ?_;refine qv ?_;refine tY ?_;refine zm5 ?_;refine tX ?_;refine zm4 ?_;refine AZ ?_;refine yk ?_
   refine aF rfl rfl rfl rfl (fun b102=>?_)
   refine aw rfl (TL.append (enc:=SWay.cells) rfl rfl rfl hI6 (Src.own [(⟨x.label,vnm (V1.names+1),((V1.st.length:Nat):Int)⟩:SWay)] (.here _) rfl rfl) (by have h9:=congrArg List.length hI8.lb;rw [List.length_map,List.length_map,List.length_take] at h9;simp only [List.length_cons,List.length_nil];omega) rfl (.s4 (.app _)) rfl (fun a103 c103 ob103 hO103=>?_))
   refine l7 ?_;exact aK (aB rfl (.t4 (.past ob103 (.here _))) rfl) rfl (zq850)
  refine lq ?_;refine md ?_;refine zm0 ?_;refine TL.run (ae rfl hta rfl om om) rfl (zm6 ?_);refine TL.run (br hta hax rfl rfl) rfl (uw ?_)
  refine cI (F:=F) (V:=V1) (m:=m+1+k.toNat * (K+40)) [(b10,_),(b7,_),(b6,_)] r.ob rfl rfl (ab rfl rfl rfl rfl) (ih _ x.next hxn.1 hxn.2) hI1 om rfl (fun v85 V85 hle85 hW85 hp85=>?_)
  obtain⟨rfl,us85,ss85,xs85,nm85,hnm85,hA85,hM85,hB85⟩:=hp85
  refine TL.nil (af (eH ?_))
  refine TD.part 4 17 rfl rfl rfl ?_ ?_
  ·
   refine zm363 ?_
   have hw12:XA V V85 (r.ts++us85) (⟨5,[99],t.peer,[],[], -1,none,0,0,none,0,0,r.a,r.ws.length,r.c, -1⟩::(r.ss++ss85)) (r.nm+nm85):=(hI4.trans hA85).cast sq sq om
   have hatw12:=hw12.at
   have hslw12:=hw12.sl
   simp only [List.length_cons,List.length_nil,List.length_append] at hslw12
   have hsmw12:=hW85.s.max
   refine lY ?_;refine tY ?_;refine qv ?_;refine tY ?_;refine zm5 ?_;refine tX ?_;refine zm4 ?_;refine AZ ?_;refine yk ?_
   refine aF rfl rfl rfl rfl (fun b102=>?_)
   refine aw rfl (TL.append (enc:=SWay.cells) rfl rfl rfl hI6 (Src.own [(⟨x.label,[],((V1.st.length:Nat):Int)⟩:SWay)] (.here _) rfl rfl) (by have h9:=congrArg List.length hI8.lb;rw [List.length_map,List.length_map,List.length_take] at h9;simp only [List.length_cons,List.length_nil];omega) rfl (.s4 (.app _)) rfl (fun a103 c103 ob103 hO103=>?_))
   refine l7 ?_
   exact zq841
  refine zm364 ?_
  have hw12:XA V V85 (r.ts++us85) (⟨5,[99],t.peer,[],[], -1,none,0,0,none,0,0,r.a,r.ws.length,r.c, -1⟩::(r.ss++ss85)) (r.nm+nm85):=(hI4.trans hA85).cast sq sq om
  have hatw12:=hw12.at
  have hslw12:=hw12.sl
  simp only [List.length_cons,List.length_nil,List.length_append] at hslw12
  have hsmw12:=hW85.s.max
  refine lY ?_;refine qv ?_;refine tY ?_;refine zm5 ?_;refine tX ?_;refine zm4 ?_;refine AZ ?_;refine yk ?_
  refine aF rfl rfl rfl rfl (fun b102=>?_)
  refine aw rfl (TL.append (enc:=SWay.cells) rfl rfl rfl hI6 (Src.own [(⟨x.label,[],((V1.st.length:Nat):Int)⟩:SWay)] (.here _) rfl rfl) (by have h9:=congrArg List.length hI8.lb;rw [List.length_map,List.length_map,List.length_take] at h9;simp only [List.length_cons,List.length_nil];omega) rfl (.s4 (.app _)) rfl (fun a103 c103 ob103 hO103=>?_))
  refine l7 ?_;exact aK (aB rfl (.t4 (.past ob103 (.here _))) rfl) rfl (zq841)
 have hml:k.toNat * (K+40)≤6 * (K+40):=Nat.mul_le_mul_right _ om
 refine ux ?_;refine lG ?_
 refine TL.run (aB rfl (.t2 (.past r.ob (.here _))) rfl) rfl (sX (X:=[(b7,_),(b6,_)]) (O:=r.ob) (x:=(F.bw,_)) (bd:=F.bd) rfl (ab rfl rfl rfl rfl) (bq 3 om hI1.d) rfl (fun v110 H110 at110 hle110 hd110 hp110=>?_))
 obtain⟨rfl,r110,rfl,hr110⟩:=hp110
 refine zm1 ?_
 refine ag rfl ?_ ?_<;>intro c111
 ·
  refine dM ?_;refine lG ?_;refine zm6 ?_;refine TL.run (aB rfl (.t2 (.past r.ob (.here _))) rfl) rfl (TL.run (ec rfl rfl) rfl (dw ?_))
  refine TL.alloc rfl (fun b11=>?_)
  refine xf ?_;refine ay (ab rfl rfl rfl rfl) (cZ 2) rfl (TL.alloc rfl (fun b12=>?_))
  refine fb ?_;refine dM ?_;refine dw ?_
  refine cI (F:=F) (V:={V1 with at_:=at110}) (m:=m+1+k.toNat * (K+40)) [(b12,_),(b11,_),(b7,_),(b6,_)] r.ob rfl rfl (ab rfl rfl rfl rfl) (gZ ⟨3,[],0,[108,111,115,116], -1, -1⟩) (hI1.dice (.refl _) hd110) om rfl (fun v122 V122 hle122 hW122 hp122=>?_)
  dsimp only at hle122 hp122
  obtain⟨rfl,hA122⟩:=hp122
  replace hA122:XA V1 V122 _ _ _:=⟨hA122.tm,hA122.st,hA122.nm,hA122.rm,hA122.nn⟩
  have hL122:=hA122.tl
  simp only [List.length_cons,List.length_nil] at hL122
  refine qD ?_;refine fo ?_
  refine cI (F:=F) (V:=V122) (m:=m+1+k.toNat * (K+40)+1) [(b12,_),(b11,_),(b7,_),(b6,_)] r.ob rfl rfl (ab rfl rfl rfl rfl) (fe ⟨2,[],[],[],[],(V1.tm.length:Int),none,0,0,none,0,0,none,0,0, -1⟩) hW122 om rfl (fun v126 V126 hle126 hW126 hp126=>?_)
  obtain⟨rfl,hA126⟩:=hp126
  have hL126:=hA126.sl
  simp only [List.length_cons,List.length_nil] at hL126
  refine iu ?_
  refine ay (ab rfl rfl rfl rfl) (cZ 0) rfl (cI (F:=F) (V:=V126) (m:=m+1+k.toNat * (K+40)+1+1) [(b12,_),(b11,_),(b7,_),(b6,_)] r.ob rfl rfl (ab rfl rfl rfl rfl) (fN ⟨0,[],[],[],[], -1,none,0,0,none,0,0,none,0,0, -1⟩) hW126 om rfl (fun v129 V129 hle129 hW129 hp129=>?_))
  obtain⟨rfl,hA129⟩:=hp129
  have hL129:=hA129.sl
  simp only [List.length_cons,List.length_nil] at hL129
  refine TL.nil (af (eH ?_))
  refine TD.part 4 17 rfl rfl rfl ?_ ?_
  ·
   refine zm402 ?_
   have hw19:XA V V129 (r.ts++[(⟨3,[],0,[108,111,115,116], -1, -1⟩:Term)]) (⟨5,[99],t.peer,[],[], -1,none,0,0,none,0,0,r.a,r.ws.length,r.c, -1⟩::(r.ss++[(⟨2,[],[],[],[],(V1.tm.length:Int),none,0,0,none,0,0,none,0,0,(V122.st.length:Int)+1⟩:TStep),⟨0,[],[],[],[], -1,none,0,0,none,0,0,none,0,0, -1⟩])) r.nm:=(hI4.trans (hA122.trans (hA126.trans hA129))).cast sq sq om
   have hatw19:=hw19.at
   have hslw19:=hw19.sl
   simp only [List.length_cons,List.length_nil,List.length_append] at hslw19
   have hsmw19:=hW129.s.max
   refine lY ?_;refine Dn ?_;refine qv ?_;refine Dn ?_;refine zm5 ?_;refine aq (aY rfl rfl hW129.s om om) rfl (zm4 ?_);refine zm365 ?_
   refine aN (S1 (S1 (S1 (S1 SN)))) (Hp.le.refl _) (fun _ _=>a7 rfl (.h1) rfl) rfl (aF rfl rfl rfl rfl (fun b146=>?_))
   refine aw rfl (TL.append (enc:=SWay.cells) rfl rfl rfl hI6 (Src.own [(⟨[],[],((V1.st.length:Nat):Int)⟩:SWay)] (.here _) rfl rfl) (by have h9:=congrArg List.length hI8.lb;rw [List.length_map,List.length_map,List.length_take] at h9;simp only [List.length_cons,List.length_nil];omega) rfl (.s5 (.app _)) rfl (fun a147 c147 ob147 hO147=>?_))
   refine t6 ?_
   exact zq883
  refine zm403 ?_
  have hw19:XA V V129 (r.ts++[(⟨3,[],0,[108,111,115,116], -1, -1⟩:Term)]) (⟨5,[99],t.peer,[],[], -1,none,0,0,none,0,0,r.a,r.ws.length,r.c, -1⟩::(r.ss++[(⟨2,[],[],[],[],(V1.tm.length:Int),none,0,0,none,0,0,none,0,0,(V122.st.length:Int)+1⟩:TStep),⟨0,[],[],[],[], -1,none,0,0,none,0,0,none,0,0, -1⟩])) r.nm:=(hI4.trans (hA122.trans (hA126.trans hA129))).cast sq sq om
  have hatw19:=hw19.at
  have hslw19:=hw19.sl
  simp only [List.length_cons,List.length_nil,List.length_append] at hslw19
  have hsmw19:=hW129.s.max
  refine lY ?_;refine qv ?_;refine Dn ?_;refine zm5 ?_;refine aq (aY rfl rfl hW129.s om om) rfl (zm4 ?_);refine zm365 ?_
  refine aN (S1 (S1 (S1 (S1 SN)))) (Hp.le.refl _) (fun _ _=>a7 rfl (.h1) rfl) rfl (aF rfl rfl rfl rfl (fun b146=>?_))
  refine aw rfl (TL.append (enc:=SWay.cells) rfl rfl rfl hI6 (Src.own [(⟨[],[],((V1.st.length:Nat):Int)⟩:SWay)] (.here _) rfl rfl) (by have h9:=congrArg List.length hI8.lb;rw [List.length_map,List.length_map,List.length_take] at h9;simp only [List.length_cons,List.length_nil];omega) rfl (.s5 (.app _)) rfl (fun a147 c147 ob147 hO147=>?_))
  refine t6 ?_;exact aK (aB rfl (.t5 (.past ob147 (.here _))) rfl) rfl (zq883)
 refine TC.skip (dE (ig [(b7,_),(b6,_)] [(F.bw,_),(F.bd,_)] _ _ _ r.ob) ?_)
 have i1:=hI4.tl
 have i2:=hI4.sl
 have i5:=hI7.len
 simp only [List.length_cons] at i2
 have hE9:=(hI8.fin hTxt hknd k0 c39 k1 hdp hrm1 hnm0 om).blk (wp:=(r.a,r.c)) (hTxt.peer hknd) hdp hrm1 hnm0
 exact bn (V':={{V1 with at_:=at110} with oN:=r.ob++({V1 with at_:=at110}).oN}) (X:=[(b7,_),(b6,_)]) (.inl rfl) (ce rfl) rfl rfl ((hI1.dice (.refl _) hd110).pile.more om) ⟨rfl,_,_,pD t.peer r.ws (r.a,r.c)::r.xs,r.nm,hI5,⟨hI4.tm,hI4.st,hI4.nm,hI4.rm,fun p hp=>List.mem_append_right _ (hI4.nn p hp)⟩,(Mir.one rfl ⟨.nil,.nil,(fun c hc=>by cases hc),.own hI6 (fun x hx=>List.mem_append_left _ hx)⟩).app (hI7.le (fun p hp=>List.mem_append_right _ hp)),hE9⟩
end Go.Sx
namespace Go.Sx
open Go Go.Proofs
theorem pd {F:Fx}{V:XV}{T:SLocal}(hG:TG F T)(hF:FXk F)(hTx:∀t∈T.turns,TGx T t)(turn deep:Int){K:Nat}(h0:0≤turn)(h1:turn<T.turns.length)(ih:0≤deep→deep≤4→∀(V:XV) (turn:Int),0≤turn→turn<T.turns.length→WFx Tryz.prog F V 69 [.int .i64 turn,.int .i64 (deep+1)] K (fun v V1=>v= .tuple #[]∧∃us ss xs nm,0≤nm∧XA V V1 us ss nm∧Mir V1.oN ss xs∧BlkR F.ps (deep+1) V.room V.names V.st.length V.tm.length xs us))(hK:K≤9000000)(hdp:0≤deep∧deep≤5):
  WFx Tryz.prog F V 69 [.int .i64 turn,.int .i64 deep] (6 * (K+40)+60) (fun v V1=>v= .tuple #[]∧∃us ss xs nm,0≤nm∧XA V V1 us ss nm∧Mir V1.oN ss xs∧BlkR F.ps deep V.room V.names V.st.length V.tm.length xs us):=by
 refine WFx.enter Tryz.func69 Tryz.ntmps69 rfl rfl (fun m w0 hW hm=>?_)
 have hGg:=hG.g
 have hr1:=hG.r1
 have hr0:=hG.r0
 have hty:=hW.fx.ty
 have htk:=hW.fx.tk T (List.mem_of_getElem? hGg)
 have hts:=htk.t
 have htm:=hts.max
 obtain⟨t,htx⟩:=ao (l:=T.turns) h0 h1
 have hTt:=hG.ts t (List.mem_of_getElem? htx)
 have hta:=(htk.ts t (List.mem_of_getElem? htx)).a
 have ha6:=hTt.a6
 have ham:=hta.max
 have hKB:=hK
 have hTxt:=hTx t (List.mem_of_getElem? htx)
 have ha4:=hTxt.a4
 have hnm0:=hW.n0
 have hme0:=hW.me
 refine nA ?_;refine Dr ?_;refine t7 ?_;refine t7 ?_;refine aq (ae rfl hty rfl om om) rfl (zm4 ?_)
 refine aN (S1 (S1 SN)) (Hp.le.refl _) (fun _ _=>br hty hGg rfl rfl) rfl (zm5 ?_)
 refine aq (ae rfl hts rfl om om) rfl (aN (S1 (S1 SN)) (Hp.le.refl _) (fun _ _=>bg hts htx rfl rfl) rfl (TF.alloc rfl (fun b6=>?_)))
 refine ud ?_;refine TF.nil (af (TC.block (fL ?_)));refine lW ?_
 refine ag rfl ?_ ?_<;>intro c38
 ·
  refine iX ?_
  refine aA (F:=F) (V:=V) (m:=m) [(b6,_)] rfl rfl (ab rfl rfl rfl rfl) (nF true) hW om rfl (fun v43 V43 hle43 hW43 hp43=>?_)
  obtain⟨ss43,xs43,rfl,hA43,hM43,hl43,hl243,hg43⟩:=hp43
  exact TL.nil (bu (bn (V':=V43) (X:=[(b6,_)]) (.inl rfl) (ce rfl) rfl rfl (hW43.more om) ⟨rfl,[],ss43,xs43,0,Int.le_refl _,hA43,hM43,vU (by have:=hM43.len;omega) (by have:=hM43.len;omega) hdp.2 (fun d Γ t hc=>hg43 d Γ t (fun _=>hc))⟩))
 refine bO (decide (turn=0)&&(decide (0<deep)&&decide (0<V.room))) 44 [(0,_),(1,_),(2,_),(6,_)] ky ?_ ?_
 ·
  refine pO ?_
  refine ai (s:=47) rfl ?_ ?_<;>intro g47
  ·
   have q47:=of_decide_eq_true g47
   refine uA ?_
   refine ai (s:=51) rfl ?_ ?_<;>intro g51
   ·
    have q51:=of_decide_eq_true g51
    refine xe ?_;refine fM ?_;refine db ?_;exact TL.nil (aV rfl (by first | (simp_all;done) | (simp_all;omega) | (simp;omega)) ky)
   have q51:=of_decide_eq_false g51
   refine pQ ?_;refine nB ?_
   exact aV rfl (by first | (simp_all;done) | (simp_all;omega) | (simp;omega)) ky
  have q47:=of_decide_eq_false g47
  refine oL ?_;refine dh ?_;refine nB ?_
  exact aV rfl (by first | (simp_all;done) | (simp_all;omega) | (simp;omega)) ky
 refine TC.cond rfl ?_ ?_<;>intro c44
 ·
  simp only [Bool.and_eq_true,decide_eq_true_eq] at c44
  refine iX ?_
  refine aA (F:=F) (V:=V) (m:=m) [(b6,_)] rfl rfl (ab rfl rfl rfl rfl) (BU hF) hW om rfl (fun v59 V59 hle59 hW59 hp59=>?_)
  obtain⟨us59,ss59,xs59,rfl,hA59,hM59,hB59⟩:=hp59
  exact TL.nil (bu (bn (V':=V59) (X:=[(b6,_)]) (.inl rfl) (ce rfl) rfl rfl (hW59.more om) ⟨rfl,us59,ss59,xs59,0,Int.le_refl _,hA59,hM59,hB59 deep hdp.1 hdp.2 om⟩))
 refine bO (decide (V.room<1)||decide (4<deep)) 60 [(0,_),(1,_),(2,_),(6,_)] ky ?_ ?_
 ·
  refine iX ?_;refine ue ?_;refine zm3 ?_
  refine ai (s:=66) rfl ?_ ?_<;>intro g66
  ·
   have q66:=of_decide_eq_true g66
   refine jm ?_;refine nB ?_
   exact aV rfl (by first | (simp_all;done) | (simp_all;omega) | (simp;omega)) ky
  have q66:=of_decide_eq_false g66
  refine uA ?_;exact TL.nil (aV rfl (by first | (simp_all;done) | (simp_all;omega) | (simp;omega)) ky)
 refine TC.cond rfl ?_ ?_<;>intro c60
 ·
  refine iX ?_
  refine aA (F:=F) (V:=V) (m:=m) [(b6,_)] rfl rfl (ab rfl rfl rfl rfl) (nF false) hW om rfl (fun v71 V71 hle71 hW71 hp71=>?_)
  obtain⟨ss71,xs71,rfl,hA71,hM71,hl71,hl271,hg71⟩:=hp71
  exact TL.nil (bu (bn (V':=V71) (X:=[(b6,_)]) (.inl rfl) (ce rfl) rfl rfl (hW71.more om) ⟨rfl,[],ss71,xs71,0,Int.le_refl _,hA71,hM71,vU (by have:=hM71.len;omega) (by have:=hM71.len;omega) hdp.2 (fun d Γ t hc=>hg71 d Γ t (fun _=>hc))⟩))
 simp only [Bool.or_eq_false_iff,decide_eq_false_iff_not] at c60
 refine fL ?_;refine lW ?_
 refine ag rfl ?_ ?_<;>intro c72
 ·
  refine pO ?_
  refine aA (F:=F) (V:=V) (m:=m) [(b6,_)] rfl rfl (ab rfl rfl rfl rfl) (BT hG hF hTx turn deep h0 h1 (fun t2 h2=>by rw [htx] at h2;cases h2;omega) om (ih hdp.1 om) hK ⟨hdp.1,by omega⟩) hW om rfl (fun v79 V79 hle79 hW79 hp79=>?_)
  obtain⟨rfl,hR79⟩:=hp79
  exact TL.nil (bu (bn (V':=V79) (X:=[(b6,_)]) (.inl rfl) (ce rfl) rfl rfl (hW79.more om) ⟨rfl,hR79⟩))
 refine bO (decide (1<(t.arms.length:Int))&&decide (8<V.room)) 80 [(0,_),(1,_),(2,_),(6,_)] ky ?_ ?_
 ·
  refine ql ?_;refine TL.run (ah rfl rfl hta) rfl (zm3 ?_)
  refine ai (s:=85) rfl ?_ ?_<;>intro g85
  ·
   have q85:=of_decide_eq_true g85
   refine xe ?_;refine fM ?_;refine db ?_;exact TL.nil (aV rfl (by first | (simp_all;done) | (simp_all;omega) | (simp;omega)) ky)
  have q85:=of_decide_eq_false g85
  refine pQ ?_;refine nB ?_
  exact aV rfl (by first | (simp_all;done) | (simp_all;omega) | (simp;omega)) ky
 refine TC.cond rfl ?_ ?_<;>intro c80
 ·
  simp only [Bool.and_eq_true,decide_eq_true_eq] at c80
  refine zm2 ?_;refine ay (ab rfl rfl rfl rfl) (cZ 3) rfl (TL.alloc rfl (fun b7=>?_))
  refine fb ?_;refine gw ?_;refine lG ?_;refine qA ?_
  refine aE (X:=[(b7,_),(b6,_),(F.bw,_)]) (bd:=F.bd) rfl (ab rfl rfl rfl rfl) (bq 3 om hW.d) rfl (fun v99 H99 at99 hle99 hd99 hp99=>?_)
  obtain⟨rfl,r99,rfl,hr99⟩:=hp99
  refine aA (F:=F) (V:={V with at_:=at99}) (m:=m) [(b7,_),(b6,_)] rfl rfl (ab rfl rfl rfl rfl) (eS _) (hW.dice (.refl _) hd99) om rfl (fun v100 V100 hle100 hW100 hp100=>?_)
  dsimp only at hle100 hp100
  replace hta:=hta.le hle100
  obtain⟨rfl,hA100⟩:=hp100
  replace hA100:XA V V100 _ _ _:=⟨hA100.tm,hA100.st,hA100.nm,hA100.rm,hA100.nn⟩
  have hL100:=hA100.tl
  simp only [List.length_cons,List.length_nil] at hL100
  refine zm0 ?_
  refine aA (F:=F) (V:=V100) (m:=m+1) [(b7,_),(b6,_)] rfl rfl (ab rfl rfl rfl rfl) (cC [110]) hW100 om rfl (fun v102 V102 hle102 hW102 hp102=>?_)
  replace hta:=hta.le hle102
  obtain⟨rfl,hA102⟩:=hp102
  have hL102:=hA102.tl
  simp only [List.length_cons,List.length_nil] at hL102
  refine aA (F:=F) (V:=V102) (m:=m+1+1) [(b7,_),(b6,_)] rfl rfl (ab rfl rfl rfl rfl) (ff 12 (V.tm.length:Int) (V100.tm.length:Int)) hW102 om rfl (fun v103 V103 hle103 hW103 hp103=>?_)
  replace hta:=hta.le hle103
  obtain⟨rfl,hA103⟩:=hp103
  have hL103:=hA103.tl
  simp only [List.length_cons,List.length_nil] at hL103
  refine qD ?_;refine fo ?_
  refine aA (F:=F) (V:=V103) (m:=m+1+1+1) [(b7,_),(b6,_)] rfl rfl (ab rfl rfl rfl rfl) (fN ⟨3,[],[],[],[],(V102.tm.length:Int),none,0,0,none,0,0,none,0,0, -1⟩) hW103 om rfl (fun v107 V107 hle107 hW107 hp107=>?_)
  replace hta:=hta.le hle107
  obtain⟨hv107,hA107⟩:=hp107
  have hq107:V103.st.length=V.st.length:=by have h0:=hA100.sl;simp only [List.length_nil,List.length_append,List.length_cons] at h0;have h1:=hA102.sl;simp only [List.length_nil,List.length_append,List.length_cons] at h1;have h2:=hA103.sl;simp only [List.length_nil,List.length_append,List.length_cons] at h2;omega
  rw [hq107] at hv107
  subst hv107
  have hL107:=hA107.sl
  simp only [List.length_cons,List.length_nil] at hL107
  refine qH ?_
  refine TD.part 11 7 rfl rfl rfl ?_ ?_
  ·
   refine zm404 ?_;refine jV ?_;refine tW ?_;refine t8 ?_;refine aq (ah rfl rfl hta) rfl (jV ?_);refine tW ?_;refine t8 ?_
   refine aq (ah rfl rfl hta) rfl (aw rfl (aE (X:=[(b7,_),(b6,_),(F.bw,_)]) (bd:=F.bd) rfl (ab rfl rfl rfl rfl) (bq (t.arms.length:Int) om hW107.d) rfl (fun v115 H115 at115 hle115 hd115 hp115=>?_)))
   obtain⟨rfl,r115,rfl,hr115⟩:=hp115
   exact az (S1 (S1 SN)) (Hp.le.refl _) (zq897)
  refine zm405 ?_;refine jV ?_;refine tW ?_;refine t8 ?_;refine aq (ah rfl rfl hta) rfl (lY ?_)
  refine aN (S1 (S1 SN)) (Hp.le.refl _) (fun _ _=>aB rfl (.h1) rfl) rfl (aq (ah rfl rfl hta) rfl (aw rfl (aE (X:=[(b7,_),(b6,_),(F.bw,_)]) (bd:=F.bd) rfl (ab rfl rfl rfl rfl) (bq (t.arms.length:Int) om hW107.d) rfl (fun v115 H115 at115 hle115 hd115 hp115=>?_))))
  obtain⟨rfl,r115,rfl,hr115⟩:=hp115
  refine az (S1 (S1 SN)) (Hp.le.refl _) (tW ?_)
  exact zq897
 refine eH ?_;refine aT [true,false,false] [(0,1),(1,1),(2,1),(3,1),(4,1),(5,2),(6,1),(7,4),(8,1),(10,1),(9,5),(11,5)] kr kr (gg ?_);refine jV ?_
 refine aK (aB rfl (.h1) rfl) rfl (zm4 ?_);refine xq ?_;refine aq (ah rfl rfl hta) rfl (qM ?_)
 refine aE (X:=[(b6,_),(F.bw,_)]) (bd:=F.bd) rfl (ab rfl rfl rfl rfl) (bq (t.arms.length:Int) om hW.d) rfl (fun v35 H35 at35 hle35 hd35 hp35=>?_)
 obtain⟨rfl,r35,rfl,hr35⟩:=hp35
 refine az (S1 SN) (Hp.le.refl _) (aw rfl (aA (F:=F) (V:={V with at_:=at35}) (m:=m) [(b6,_)] rfl rfl (ab rfl rfl rfl rfl) (re hG hF hTx turn r35 deep h0 h1 (fun t2 h2=>by rw [htx] at h2;cases h2;have h9:=hr35.1;have h8:=hr35.2.1 (by have:=hTxt.a1 om;omega);exact⟨by omega,by omega,by omega⟩) (ih hdp.1 om) hK ⟨hdp.1,by omega⟩) (hW.dice (.refl _) hd35) om rfl (fun v37 V37 hle37 hW37 hp37=>?_)))
 dsimp only at hle37 hp37
 obtain⟨us37,ss37,xs37,nm37,rfl,hnm37,hA37,hM37,hS37⟩:=hp37
 replace hA37:XA V V37 _ _ _:=⟨hA37.tm,hA37.st,hA37.nm,hA37.rm,hA37.nn⟩
 exact az (S1 SN) hle37 (TF.nil (bu (bn (V':=V37) (X:=[(b6,_)]) (.inl rfl) (ce rfl) rfl rfl (hW37.more om) ⟨rfl,us37,ss37,xs37,nm37,hnm37,hA37,hM37,hS37.blk ⟨hdp.1,by omega⟩ om⟩)))
theorem uJ {F:Fx}{T:SLocal}(hG:TG F T)(hF:FXk F)(hTx:∀t∈T.turns,TGx T t):∀(N:Nat),N≤5→∀(V:XV) (turn deep:Int),0≤turn→turn<T.turns.length→0≤deep→deep≤5→5 - deep≤N→
  WFx Tryz.prog F V 69 [.int .i64 turn,.int .i64 deep] (KB N) (fun v V1=>v= .tuple #[]∧∃us ss xs nm,0≤nm∧XA V V1 us ss nm∧Mir V1.oN ss xs∧BlkR F.ps deep V.room V.names V.st.length V.tm.length xs us)
 | 0,_,V,turn,deep,h0,h1,h2,h3,h4=>pd hG hF hTx turn deep (K:=0) h0 h1 (fun _ h=>by omega) om ⟨h2,h3⟩
 | N+1,hN,V,turn,deep,h0,h1,h2,h3,h4=>pd hG hF hTx turn deep (K:=KB N) h0 h1 (fun _ h V' t' g0 g1=>uJ hG hF hTx N om V' t' (deep+1) g0 g1 om om om) (KB_le om) ⟨h2,h3⟩
end Go.Sx
namespace Go.Sx
open Go Go.Proofs
theorem DC {H:Hp}{bd:Nat}{dl:Value}{at_:Int}(hd:DiceOk H dl at_){psv:Value}{ps:List SProto}(hps:RdSl H 3 SProto.cells psv ps)(hpk:∀p∈ps,ProtoOk H p)(hpg:∀p∈ps,GPr p)(hpn:0<ps.length)(hprX:∀p∈ps,PrX p)(p:SProto)(hin:p∈ps)(hp:ProtoOk H p)(hG:GPr p){tyv:Value}{tys:List SLocal}(hty:RdSl H 2 SLocal.cells tyv tys)(htk:∀l∈tys,LocalOk H l)(role:Int)(carry:Str)(h0:0≤role)(h1:role<p.roles.length)(hcr:carry.length≤1000){T:SLocal}(hTG:∀F:Fx,F.tys=tys→F.role=role→TG F T)(hTx:∀t∈T.turns,TGx T t):
  DFn Tryz.prog bd dl at_ 31 [psv,.agg p.cells.toArray,tyv,.int .i64 role,gs carry] H (fun v H1 ob=>∃q:SProc,v= .agg q.cells.toArray∧PQ H1 ob q∧SgOk ps q 6 [[99],[110]]∧q.params=[⟨[99],5,carry⟩,⟨[110],1,[]⟩]∧(∃rr,p.roles[role.toNat]? =some rr∧q.name=p.name++rr)):=by
 obtain⟨psa,psc,rfl⟩:=hps.len
 obtain⟨tya,tyc,rfl⟩:=hty.len
 have hro:=hp.r
 have hn1:=hG.n1
 obtain⟨rr,hrx⟩:=ao (l:=p.roles) h0 h1
 have hrr:=hG.rl (List.mem_of_getElem? hrx)
 refine FnX.enter Tryz.func31 Tryz.ntmps31 rfl rfl (fun w0=>?_)
 refine zm2 ?_
 refine TL.box rfl rfl (fun b8=>?_)
 refine TL.alloc rfl (fun b12=>?_)
 refine TL.nil (af (oJ ?_));refine TQ.run (a7 rfl (.h1) rfl) rfl (AJ ?_)
 refine TQ.run (ae rfl hro rfl om om) rfl (TQ.run (aQ hro hrx rfl rfl) rfl (ip (ab rfl rfl rfl rfl) (kj p rr om om) rfl (lE ?_)));refine eh ?_;refine qT ?_
 refine aE (X:=[(b12,_),(b8,_)]) (bd:=bd) rfl (ab rfl rfl rfl rfl) (bq 7 om hd) rfl (fun v28 H28 at28 hle28 hd28 hp28=>?_)
 obtain⟨eH28,r28,rfl,hr28⟩:=hp28
 replace eH28:=eH28.symm;subst eH28
 have hra28:=hr28.1
 have hrb28:=hr28.2.1 om
 refine jX ?_;refine dw ?_
 refine TL.box rfl rfl (fun b31=>?_)
 refine zm1 ?_;refine gw ?_;refine dw ?_;refine dw ?_;refine dw ?_;refine dw ?_
 refine aD rfl rfl rfl rfl (fun b39=>?_)
 refine dw ?_;refine lG ?_;refine jl rfl rfl rfl rfl rfl (.h1) (Nat.le_of_ble_eq_true kr) rfl (iu ?_)
 refine TL.pubN (by simp [keys]) (fun H_b39 le_b39 rd_b39=>?_)
 replace hps:=hps.le le_b39
 replace hty:=hty.le le_b39
 replace hpk:=fun x hx=>(hpk x hx).le le_b39
 replace htk:=fun x hx=>(htk x hx).le le_b39
 replace hd28:=hd28.le le_b39
 have hpa:RdSl H_b39 3 SParam.cells _ ([⟨[99],5,carry⟩,⟨[110],1,[]⟩]):=RdSl.blk (cap:=2) rd_b39 (by intro x hx;rfl) kr (by show 2≤9223372036854775807;decide)
 have hW0:XI ⟨b31,bd,.slice psa ps.length psc,ps,p.name++rr,.slice (some ⟨b39,0,none⟩) 2 2,p.name++rr,.slice tya tys.length tyc,tys,role,dl⟩ (⟨H_b39,[],none,0,[],[],none,0,[],[],0,9+r28,at28⟩:XV) 0:=⟨⟨hps,hpk,hpg,hpn,hty,htk,hG.proc hrr⟩,.nil,.nil,by simp,by have:=hr28.1;simp;omega,by have:=hr28.2.1 om;simp;omega,hd28,by simp⟩
 refine eQ (.h2) (eQ (.h2) (aA (F:=⟨b31,bd,.slice psa ps.length psc,ps,p.name++rr,.slice (some ⟨b39,0,none⟩) 2 2,p.name++rr,.slice tya tys.length tyc,tys,role,dl⟩) (V:=(⟨H_b39,[],none,0,[],[],none,0,[],[],0,9+r28,at28⟩:XV)) (m:=0) [(b12,_),(b8,_)] rfl rfl (ab rfl rfl rfl rfl) (uJ (T:=T) (hTG _ rfl rfl) ⟨hprX,PrX.call hin (List.mem_of_getElem? hrx)⟩ hTx 5 om _ 0 0 om (by have:=(hTG ⟨b31,bd,.slice psa ps.length psc,ps,p.name++rr,.slice (some ⟨b39,0,none⟩) 2 2,p.name++rr,.slice tya tys.length tyc,tys,role,dl⟩ rfl rfl).n0;omega) om om om) hW0 (by have:=KB_le (n:=5) om;omega) rfl (fun v44 V44 hle44 hW44 hp44=>?_)))
 replace hpa:=hpa.le hle44
 obtain⟨rfl,us44,ss44,xs44,nm44,hnm44,hA44,hM44,hB44⟩:=hp44
 refine iu ?_;refine lG ?_;refine TL.run (jD rfl (.h2) rfl) rfl (jq ?_)
 have htm:V44.tm=us44:=by simpa using hA44.tm
 have hst:V44.st=ss44:=by simpa using hA44.st
 rw [← hst] at hM44
 rw [← htm] at hB44
 dsimp only at hB44
 have hxl:=hM44.len
 have hr9:=hr28.1
 have hr8:=hr28.2.1 om
 have hPQ:PQ V44.H (V44.oT++(V44.oS++V44.oN)) ⟨p.name++rr,[⟨[99],5,carry⟩,⟨[110],1,[]⟩],(some ⟨b39,0,none⟩,2),V44.tm,(V44.ta,V44.tc),xs44,(V44.sa,V44.sc)⟩:=PQ.of hW44 hM44 rfl hpa (by intro x hx;simp only [List.mem_cons,List.not_mem_nil,or_false] at hx;rcases hx with rfl | rfl;exact Nat.le_trans hcr dq;simp) sq
 have hSg:SgOk ps ⟨p.name++rr,[⟨[99],5,carry⟩,⟨[110],1,[]⟩],(some ⟨b39,0,none⟩,2),V44.tm,(V44.ta,V44.tc),xs44,(V44.sa,V44.sc)⟩ 6 [[99],[110]]:=⟨hB44.g _ ⟨by simp,by simp,fun x hx=>by simp only [List.mem_cons,List.not_mem_nil,or_false] at hx;rcases hx with rfl | rfl;exact .inl rfl;exact .inr (.inl rfl)⟩,by decide,by have h:=hB44.s;unfold stB at h;rw [if_neg om] at h;show xs44.length≤80;omega,by have h:=hB44.t2;unfold tmB at h;rw [if_neg om] at h;show V44.tm.length≤160;omega⟩
 exact aZ (.inr rfl) (ad rfl (RVal.cellA rfl (.here _) rfl)) (fun w hw=>hw.drop.drop.drop) ⟨_,V44.oT++(V44.oS++V44.oN),rfl,hW44.d,⟨p.name++rr,[⟨[99],5,carry⟩,⟨[110],1,[]⟩],(some ⟨b39,0,none⟩,2),V44.tm,(V44.ta,V44.tc),xs44,(V44.sa,V44.sc)⟩,by unfold SProc.cells;dsimp only;rw [← hxl];rfl,hPQ,hSg,rfl,_,hrx,rfl⟩
theorem wg {H:Hp}{bd:Nat}{dl:Value}{at_:Int}(hd:DiceOk H dl at_){psv:Value}{ps:List SProto}(hps:RdSl H 3 SProto.cells psv ps)(hpk:∀p∈ps,ProtoOk H p)(hpg:∀p∈ps,GPr p)(hpn:0<ps.length)(hpm:ps.length≤100)(hprX:∀p∈ps,PrX p):
  DFn Tryz.prog bd dl at_ 32 [psv] H (fun v H1 ob=>∃q:SProc,v= .agg q.cells.toArray∧PQ H1 ob q∧SgOk ps q 6 []∧q.params=[]∧q.name=cy):=by
 obtain⟨psa,psc,rfl⟩:=hps.len
 have hps0:=hps
 have hpk0:=hpk
 refine FnX.enter Tryz.func32 Tryz.ntmps32 rfl rfl (fun w0=>?_)
 refine zm2 ?_
 refine TL.alloc rfl (fun b4=>?_)
 refine TL.nil (af (eh ?_));refine dw ?_
 refine TL.box rfl rfl (fun b15=>?_)
 refine k6 ?_;refine dw ?_;refine lG ?_;refine jl rfl rfl rfl rfl rfl (.here _) (Nat.le_of_ble_eq_true kr) rfl (iu ?_)
 refine aE (X:=[(b15,_),(b4,_)]) (bd:=bd) rfl (ab rfl rfl rfl rfl) (bq 3 om hd) rfl (fun v21 H21 at21 hle21 hd21 hp21=>?_)
 obtain⟨eH21,r21,rfl,hr21⟩:=hp21
 replace eH21:=eH21.symm;subst eH21
 have hra21:=hr21.1
 have hrb21:=hr21.2.1 om
 refine nv ?_
 have hW0:XI ⟨b15,bd,.slice psa ps.length psc,ps,cy,.slice none 0 0,[],.slice none 0 0,[],0,dl⟩ (⟨H,[],none,0,[],[],none,0,[],[],0,0,at21⟩:XV) 0:=⟨⟨hps,hpk,hpg,hpn,RdSl.nil,by simp,.nil⟩,.nil,.nil,by simp,by simp,by simp,hd21,by simp⟩
 refine gt (.h1) (af (j5 ?_))
 refine oG (V:=fun(k:Int) (V1:XV) (r:MR)=>[(7,.int .i64 k)]) (K:=[(0,_),(1,_),(4,_),(5,_),(6,_)]) (L:=fun k V1 r=>St [bd] w0 H V1.H ((b4,[gs [],.slice none 0 0,.slice none 0 0,.slice none 0 0])::(Fx.X ⟨b15,bd,.slice psa ps.length psc,ps,cy,.slice none 0 0,[],.slice none 0 0,[],0,dl⟩ V1))) (I:=fun k V1 r=>XI ⟨b15,bd,.slice psa ps.length psc,ps,cy,.slice none 0 0,[],.slice none 0 0,[],0,dl⟩ V1 (20 * k.toNat)∧(0≤k∧k≤1+r21)∧H.le V1.H∧XA (⟨H,[],none,0,[],[],none,0,[],[],0,0,at21⟩:XV) V1 r.ts r.ss k∧Mir V1.oN r.ss r.xs∧MainI ps k (1+r21) r.xs r.ts) (μ:=fun k=>(1+r21 - k).toNat) 0 (⟨H,[],none,0,[],[],none,0,[],[],0,0,at21⟩:XV) ⟨[],[],[]⟩ ky (⟨by simpa using hW0,o2q,.refl _,.refl _,.nil,.zero om⟩) (fun w hw=>hw) (fun k V1 r hI=>?_)
 obtain⟨hI1,⟨k0,k1⟩,hI3,hI4,hI5,hI6⟩:=hI
 replace hps:=hps0.le hI3
 replace hpk:=fun x hx=>(hpk0 x hx).le hI3
 refine f3 ?_;refine zm1 ?_
 refine ag rfl ?_ ?_<;>intro c25
 ·
  refine gj ?_;refine gw ?_
  refine TL.run (ah rfl rfl hps) rfl (aE (X:=[(b4,_),(b15,_)]) (bd:=bd) rfl (ab rfl rfl rfl rfl) (bq (ps.length:Int) om hI1.d) rfl (fun v32 H32 at32 hle32 hd32 hp32=>?_))
  obtain⟨rfl,r32,rfl,hr32⟩:=hp32
  have hra32:=hr32.1
  have hrb32:=hr32.2.1 om
  obtain⟨p,hpx⟩:=ao (l:=ps) hra32 hrb32
  have hpm_:=List.mem_of_getElem? hpx
  have hp:=hpk p hpm_
  have hG:=hpg p hpm_
  have hX:=hprX p hpm_
  have hn1:=hG.n1
  have hro:=hp.r
  have hr2:=hG.r2
  have hr5:=hG.r5
  refine TL.run (ae rfl hps rfl om om) rfl (TL.run (bg hps hpx rfl rfl) rfl (TL.alloc rfl (fun b8=>?_)))
  refine qN ?_;refine aT [true,true,false,false] [(0,1),(1,4),(2,1),(3,1),(4,4),(5,1),(6,5),(7,1),(8,2),(9,1)] kr kr (oZ ?_);refine lZ ?_;refine w4 ?_
  refine aq (ah rfl rfl hro) rfl (aw rfl (aE (X:=[(b8,_),(b4,_),(b15,_)]) (bd:=bd) rfl (ab rfl rfl rfl rfl) (bq (p.roles.length:Int) om (hI1.dice (.refl _) hd32).d) rfl (fun v41 H41 at41 hle41 hd41 hp41=>?_)))
  obtain⟨rfl,r41,rfl,hr41⟩:=hp41
  have hra41:=hr41.1
  have hrb41:=hr41.2.1 om
  obtain⟨rr,hrx⟩:=ao (l:=p.roles) hra41 hrb41
  have hrm:=List.mem_of_getElem? hrx
  have hrr:=hG.rl hrm
  refine az (S1 (S1 SN)) (Hp.le.refl _) (xw ?_);refine aK (aQ hro hrx rfl rfl) rfl (zm5 ?_);refine TF.nil (af (dM ?_));refine fo ?_;refine zm0 ?_
  refine aA (F:=⟨b15,bd,.slice psa ps.length psc,ps,cy,.slice none 0 0,[],.slice none 0 0,[],0,dl⟩) (V:={{V1 with at_:=at32} with at_:=at41}) (m:=20 * k.toNat) [(b8,_),(b4,_)] rfl rfl (ab rfl rfl rfl rfl) (uH p rr hp hG hX hpm_ hrm) ((hI1.dice (.refl _) hd32).dice (.refl _) hd41) om rfl (fun v47 V47 hle47 hW47 hp47=>?_)
  dsimp only at hle47 hp47
  obtain⟨ts47,s47,x47,rfl,hA47,hM47,hO47⟩:=hp47
  replace hA47:XA V1 V47 _ _ _:=⟨hA47.tm,hA47.st,hA47.nm,hA47.rm,hA47.nn⟩
  have q1:V1.tm.length=r.ts.length:=by have h:=hI4.tl;simp only [List.length_nil] at h;omega
  have q2:V1.st.length=r.xs.length:=by have h:=hI4.sl;have h2:=hI5.len;simp only [List.length_nil] at h;omega
  have q3:V1.names=k:=by have h:=hI4.nm;dsimp only at h;omega
  try dsimp only at hO47
  rw [q1,q2,q3] at hO47
  refine xP ?_;refine ay (ab rfl rfl rfl rfl) (cZ 7) rfl (TL.alloc rfl (fun b11=>?_))
  refine fb ?_;refine f3 ?_;refine q6 ?_;refine zm1 ?_
  refine ag rfl ?_ ?_<;>intro c52
  ·
   refine TC.region (ay (ab rfl rfl rfl rfl) (cZ 6) rfl (fb ?_));refine mp ?_;refine zm0 ?_;refine Dq ?_;refine qo ?_;refine nA ?_
   refine TD.part 7 2 rfl rfl rfl ?_ ?_
   ·
    refine Dp ?_;refine tM ?_;refine tZ ?_
    refine aw rfl (aA (F:=⟨b15,bd,.slice psa ps.length psc,ps,cy,.slice none 0 0,[],.slice none 0 0,[],0,dl⟩) (V:=V47) (m:=20 * k.toNat+12) [(b11,_),(b8,_),(b4,_)] rfl rfl (ab rfl rfl rfl rfl) (cC (vnm (V1.names+1))) hW47 om rfl (fun v60 V60 hle60 hW60 hp60=>?_))
    obtain⟨rfl,hA60⟩:=hp60
    rw [q3] at hA60
    exact az (S1 (S1 (S1 SN))) hle60 (Da)
   refine Do ?_;refine xj ?_
   refine aA (F:=⟨b15,bd,.slice psa ps.length psc,ps,cy,.slice none 0 0,[],.slice none 0 0,[],0,dl⟩) (V:=V47) (m:=20 * k.toNat+12) [(b11,_),(b8,_),(b4,_)] rfl rfl (ab rfl rfl rfl rfl) (cC (vnm (V1.names+1))) hW47 om rfl (fun v60 V60 hle60 hW60 hp60=>?_)
   obtain⟨rfl,hA60⟩:=hp60
   rw [q3] at hA60
   refine az (S1 (S1 (S1 SN))) hle60 (tZ ?_)
   exact Da
  refine cV ?_;refine mp ?_;refine zm0 ?_;refine Dq ?_;refine qo ?_;refine nA ?_
  refine TD.part 7 2 rfl rfl rfl ?_ ?_
  ·
   refine Dp ?_;refine tM ?_;refine tZ ?_
   refine aw rfl (aA (F:=⟨b15,bd,.slice psa ps.length psc,ps,cy,.slice none 0 0,[],.slice none 0 0,[],0,dl⟩) (V:=V47) (m:=20 * k.toNat+12) [(b11,_),(b8,_),(b4,_)] rfl rfl (ab rfl rfl rfl rfl) (cC (vnm (V1.names+1))) hW47 om rfl (fun v60 V60 hle60 hW60 hp60=>?_))
   obtain⟨rfl,hA60⟩:=hp60
   rw [q3] at hA60
   exact az (S1 (S1 (S1 SN))) hle60 (Db)
  refine Do ?_;refine xj ?_
  refine aA (F:=⟨b15,bd,.slice psa ps.length psc,ps,cy,.slice none 0 0,[],.slice none 0 0,[],0,dl⟩) (V:=V47) (m:=20 * k.toNat+12) [(b11,_),(b8,_),(b4,_)] rfl rfl (ab rfl rfl rfl rfl) (cC (vnm (V1.names+1))) hW47 om rfl (fun v60 V60 hle60 hW60 hp60=>?_)
  obtain⟨rfl,hA60⟩:=hp60
  rw [q3] at hA60
  refine az (S1 (S1 (S1 SN))) hle60 (tZ ?_)
  exact Db
 refine ux ?_;refine lG ?_;refine TL.run (jD rfl (.h1) rfl) rfl (jq ?_)
 have htm:V1.tm=r.ts:=by simpa using hI4.tm
 have hst:V1.st=r.ss:=by simpa using hI4.st
 rw [← hst] at hI5
 rw [← htm] at hI6
 have hxl:=hI5.len
 have hz1:=hI6.xl
 have hz2:=hI6.tl
 have hPQ:PQ V1.H (V1.oT++(V1.oS++V1.oN)) ⟨cy,[],(none,0),V1.tm,(V1.ta,V1.tc),r.xs,(V1.sa,V1.sc)⟩:=PQ.of hI1 hI5 rfl RdSl.nil sq sq
 have hSg:SgOk ps ⟨cy,[],(none,0),V1.tm,(V1.ta,V1.tc),r.xs,(V1.sa,V1.sc)⟩ 6 []:=⟨hI6.z om 6,by decide,by show r.xs.length≤80;omega,by show V1.tm.length≤160;omega⟩
 exact aZ (.inr rfl) (ad rfl (RVal.cellA rfl (.here _) rfl)) (fun w hw=>hw.drop.drop) ⟨_,V1.oT++(V1.oS++V1.oN),rfl,hI1.d,⟨cy,[],(none,0),V1.tm,(V1.ta,V1.tc),r.xs,(V1.sa,V1.sc)⟩,by unfold SProc.cells;dsimp only;rw [← hxl];rfl,hPQ,hSg,rfl,rfl⟩
end Go.Sx
namespace Go.Sx
open Go Go.Proofs
theorem yo {H:Hp}{lv:Value}{l:List Int}(hl:RdSl H 1 I64.cells lv l)(hm:l.length≤1000000000000):
  Fn Tryz.prog 11 [lv] H (fun v H1=>∃pg:SProg,v= .agg pg.cells.toArray∧ProgOk H1 pg∧∃ps,GX ps pg):=by
 refine Fn.enter Tryz.func11 Tryz.ntmps11 rfl rfl (fun w0=>?_)
 refine zm2 ?_
 refine TL.alloc rfl (fun b2=>?_)
 refine iu ?_
 refine da (ab rfl rfl rfl rfl) (New_ok hl hm) rfl (fun v11 H11 ob11 hle11 hp11=>?_)
 obtain⟨bd,dl,rfl,rfl,hd⟩:=hp11
 refine k6 ?_
 refine aE (X:=[(b2,_)]) (bd:=bd) rfl (ab rfl rfl rfl rfl) (tx hd) rfl (fun v13 H13 at13 hle13 hd13 hp13=>?_)
 obtain⟨hle13_,ps,hps,hPs,hPA,hLb⟩:=hp13
 obtain⟨psa,psc,rfl⟩:=hps.len
 refine dw ?_
 refine TL.alloc rfl (fun b4=>?_)
 refine fb ?_;refine j5 ?_
 refine TC.loop (ι:=PSx) (V:=fun q=>[(5,.int .i64 q.k)]) (K:=[(2,_),(3,_),(4,_)]) (L:=fun q=>St [] w0 H q.h ((b4,[.slice psa ps.length psc,.slice none 0 0,q.v])::(b2,[.slice none 0 0,.slice none 0 0,.slice none 0 0])::(bd,[dl,.int .i64 q.a])::q.ob)) (I:=fun q=>(0≤q.k∧q.k≤ps.length)∧PIx ps H13 dl (jF (ps.take q.k.toNat)) (5 * q.k) q) (μ:=fun q=>(ps.length - q.k).toNat) (i:=⟨0,H13,at13,.slice none 0 0,[],[]⟩) ky ⟨⟨by show(0:Int)≤0;omega,by show(0:Int)≤_;omega⟩,⟨.refl _,hd13,.nil,by simp,by simp,rfl⟩⟩ (fun w hw=>hw) (fun q hI=>?_)
 obtain⟨⟨k0q,k1q⟩,hIq⟩:=hI
 have hpsq:=hps.le hIq.le
 have hPsq:=hPs.le hIq.le
 refine qQ ?_;refine TL.run (ah rfl rfl hpsq) rfl (zm1 ?_)
 refine ag rfl ?_ ?_<;>intro c19
 ·
  obtain⟨p,hpx⟩:=ao (l:=ps) k0q c19
  have hpm:=List.mem_of_getElem? hpx
  have hG:=hPs.pg p hpm
  refine gj ?_;refine o9 ?_
  refine TL.run (ae rfl hpsq rfl om om) rfl (TL.run (bg hpsq hpx rfl rfl) rfl (TL.call (ab rfl rfl rfl rfl) (vj p (hPsq.pk p hpm) (by have:=hG.n1;omega) (fun r hr=>by have:=hG.rs r hr;omega)) rfl (fun v28 H28 hle28 hp28=>?_)))
  obtain⟨lv28,rfl,hok28,hno28⟩:=hp28
  obtain⟨ls,hL28,hl28,hLk28⟩:=LsG.all2 hG (hPA p hpm) hok28
  obtain⟨la,lc,rfl⟩:=hL28.r.len
  refine qT ?_;refine zm3 ?_;refine zm1 ?_;refine lg ?_
  refine TC.loop (ι:=PSx) (V:=fun r=>[(9,.int .i64 r.k)]) (K:=[(2,_),(3,_),(4,_),(5,_),(6,_),(15,_),(16,_),(17,_),(18,_),(19,_),(22,_),(23,_),(24,_),(25,_),(26,_),(27,_),(28,_),(29,_),(30,_),(31,_)]) (L:=fun r=>St [] w0 H r.h ((b4,[.slice psa ps.length psc,.slice none 0 0,r.v])::(b2,[.slice none 0 0,.slice none 0 0,.slice none 0 0])::(bd,[dl,.int .i64 r.a])::r.ob)) (I:=fun r=>(0≤r.k∧r.k≤ls.length)∧PIx ps H28 dl (jF (ps.take q.k.toNat)++(p.roles.take r.k.toNat).map (fun r=>p.name++r)) (5 * q.k+r.k) r) (μ:=fun r=>(ls.length - r.k).toNat) (i:={q with k:=0,h:=H28}) ky ⟨⟨by show(0:Int)≤0;omega,by show(0:Int)≤_;omega⟩,⟨.refl _,hIq.d.le hle28,hIq.o,fun x hx=>⟨(hIq.g x hx).1.le hle28,(hIq.g x hx).2⟩,by have:=hIq.n;show(q.qs.length:Int)≤5 * q.k+0;omega,by show q.qs.map _=_;rw [hIq.nm];simp⟩⟩ (fun w hw=>hw) (fun r hI=>?_)
  obtain⟨⟨k0r,k1r⟩,hIr⟩:=hI
  have hLr:=hL28.le hIr.le
  have hpsr:=hpsq.le (hle28.trans hIr.le)
  have hPsr:=hPsq.le (hle28.trans hIr.le)
  refine f3 ?_;refine TL.run (ah rfl rfl hLr.r) rfl (zm1 ?_)
  refine ag rfl ?_ ?_<;>intro c35
  ·
   obtain⟨l0,hlx⟩:=ao (l:=ls) k0r c35
   refine w5 ?_;refine zm406 ?_;refine oZ ?_;refine lZ ?_;refine w4 ?_;refine oZ ?_;refine zm5 ?_
   refine aq (ae rfl hpsr rfl om om) rfl (aN (S1 (S1 SN)) (Hp.le.refl _) (fun _ _=>bg hpsr hpx rfl rfl) rfl (xG ?_))
   refine aq (ae rfl hLr.r rfl om om) rfl (zm4 ?_)
   refine aN (S1 (S1 SN)) (Hp.le.refl _) (fun _ _=>br hLr.r hlx rfl rfl) rfl (aw rfl (sY (X:=[(b4,_),(b2,_)]) (Y:=r.ob) (bd:=bd) rfl (ab rfl rfl rfl rfl) (DC hIr.d hpsr hPsr.pk hPsr.pg hPsr.pn.1 hPsr.prx p hpm (hPsr.pk p hpm) hG hLr.r (fun l h=>(hLr.l l h).1) r.k _ k0r (by have:=hLr.n;omega) (hLr.l _ (List.mem_of_getElem? hlx)).2 (hLr.g r.k _ k0r hlx) (hLk28.tgx (hPA p hpm) (hLb p hpm) hlx)) rfl (fun v55 H55 at55 ob55 hle55 hd55 hp55=>?_)))
   obtain⟨q55,rfl,hPQ55,hSg55,hpa55,rr55,hrr55,hnm55⟩:=hp55
   refine BS (vq [(b4,_),(b2,_)] _ r.ob ob55) sq (fun HP55 leP55 rdP55=>?_)
   have hPO55:=hPQ55.pub leP55 rdP55 hSg55.g.fl
   have hXQ55:XQ ps q55:=by
    obtain⟨r9,hr9,hn9,_⟩:=hLk28.at_ _ _ hlx
    rw [hr9] at hrr55;obtain rfl:=Option.some.inj hrr55
    exact .part p _ hpm (List.mem_of_getElem? hr9) hnm55 (by rw [hpa55,hn9];rfl) hSg55
   refine az (S1 (S1 SN)) (hle55.trans (leP55)) (aF rfl rfl rfl rfl (fun b56=>?_))
   refine aw rfl (TL.append (enc:=SProc.cells) rfl rfl rfl hIr.o (Src.own [q55] (.here _) rfl rfl) (by have:=hIr.n;have:=hPs.pn.2;have:=hL28.n;have:=hG.r5;simp only [List.length_cons,List.length_nil];omega) rfl (.s3 (.skip _ .all)) rfl (fun a57 c57 ob57 hO57=>?_))
   refine az (S0 (S1 (S1 SN))) (hle55.trans (leP55)) (fu ?_);refine jY ?_;refine bj (TF.nil (bu (af ?_)));refine TC.region (zm0 ?_)
   refine TL.run (fz rfl rfl om (by have:=hL28.n;have:=hG.r5;omega)) rfl (dN ?_)
   exact aS (⟨r.k+1,HP55,at55,_,r.qs++[q55],ob57⟩:PSx) ⟨⟨by show 0≤r.k+1;omega,by show r.k+1≤(ls.length:Int);omega⟩,hIr.add (hle55.trans leP55) (hd55.le leP55) hO57 ⟨hPO55,hXQ55⟩ (by show _≤5 * q.k+(r.k+1);omega) (by show _++(p.roles.take (r.k+1).toNat).map _=_;rw [pn_take k0r hrr55,hnm55,List.append_assoc])⟩ ky (fun w hw=>hw.drop) (by show(_ - (r.k+1)).toNat<(_ - r.k).toNat;omega)
  refine TC.exit (bM (bM (cG ?_)));refine bu (af (TC.region (zm0 ?_)));refine TL.run (fz rfl rfl om (by have:=hPs.pn.2;omega)) rfl (dN ?_)
  exact aS ({r with k:=q.k+1}:PSx) ⟨⟨by show 0≤q.k+1;omega,by show q.k+1≤(ps.length:Int);omega⟩,⟨(hIq.le.trans hle28).trans hIr.le,hIr.d,hIr.o,hIr.g,by have:=hIr.n;have:=hL28.n;have:=hG.r5;show(r.qs.length:Int)≤5 * (q.k+1);omega,by show r.qs.map _=jF (ps.take (q.k+1).toNat);rw [hIr.nm,EC k0q hpx,show p.roles.take r.k.toNat=p.roles from List.take_of_length_le om];rfl⟩⟩ ky (fun w hw=>hw) (by show(_ - (q.k+1)).toNat<(_ - q.k).toNat;omega)
 refine gh ?_;refine eH ?_;refine aT [true,true,false] [(0,1),(1,4),(2,1),(3,1),(4,4),(5,5),(6,3),(7,5),(8,1),(9,0)] kr kr (oZ ?_);refine lZ ?_;refine w4 ?_
 refine aw rfl (sY (X:=[(b4,_),(b2,_)]) (Y:=q.ob) (bd:=bd) rfl (ab rfl rfl rfl rfl) (wg hIq.d hpsq hPsq.pk hPsq.pg hPsq.pn.1 (by have:=hPsq.pn.2;omega) hPsq.prx) rfl (fun v64 H64 at64 ob64 hle64 hd64 hp64=>?_))
 obtain⟨q64,rfl,hPQ64,hSg64,hpa64,hnm64⟩:=hp64
 refine BS (vq [(b4,_),(b2,_)] _ q.ob ob64) sq (fun HP64 leP64 rdP64=>?_)
 have hPO64:=hPQ64.pub leP64 rdP64 hSg64.g.fl
 refine az (S1 (S1 SN)) (hle64.trans (leP64)) (aF rfl rfl rfl rfl (fun b65=>?_))
 refine aw rfl (TL.append (enc:=SProc.cells) rfl rfl rfl hIq.o (Src.own [q64] (.here _) rfl rfl) (by have:=hIq.n;have:=hPs.pn.2;simp only [List.length_cons,List.length_nil];omega) rfl (.s3 (.skip _ .all)) rfl (fun a66 c66 ob66 hO66=>?_))
 refine az (S0 (S1 (S1 SN))) (hle64.trans (leP64)) (fu ?_);refine jY ?_;refine k7 ?_;refine mp ?_;refine xx ?_
 have hF:PIx ps H13 dl (jF ps++[cy]) 11 ⟨0,HP64,at64,_,q.qs++[q64],ob66⟩:=hIq.add (hle64.trans leP64) (hd64.le leP64) hO66 ⟨hPO64,.main hnm64 hpa64 hSg64⟩ (by have:=hPs.pn.2;omega) (by rw [hnm64,List.take_of_length_le om])
 refine TX.pubO hO66 (.s3 (.skip _ .all)) sq (fun H9 le9 hR9=>?_)
 have hPF:=hpsq.le ((hle64.trans leP64).trans le9)
 have hPS:=hPsq.le ((hle64.trans leP64).trans le9)
 have hOK:ProgOk H9 (⟨ps,(psa,psc),[],(none,0),q.qs++[q64],(a66,c66)⟩:SProg):=⟨hPF,hPS.pk,RdSl.nil,by simp,hR9,fun x hx=>(hF.g x hx).1.le le9⟩
 have hGX:GX ps (⟨ps,(psa,psc),[],(none,0),q.qs++[q64],(a66,c66)⟩:SProg):=⟨hPs.prx,hPA,hPs.pn.1,hPs.pn.2,hPs.names,Ck hPs,rfl,rfl,hF.nm,fun x hx=>(hF.g x hx).2⟩
 exact aR (.inr rfl) (ad rfl (RVal.cellA rfl (.h2) rfl)) ⟨(⟨ps,(psa,psc),[],(none,0),q.qs++[q64],(a66,c66)⟩:SProg),rfl,hOK,ps,hGX⟩
end Go.Sx
namespace Go.Sx
open Go Go.Proofs
theorem BO {H:Hp}{l:List SArm}{v:Value}(hA:RdSl H 4 SArm.cells v l)(hl:l.length≤1000):
  FnO Tryz.prog 46 [v] H (fun r H1 ob=>H1=H∧OwnSl 4 SArm.cells r l ob):=by
 refine FnO.enter Tryz.func46 Tryz.ntmps46 rfl rfl (fun w0=>?_)
 refine ye ?_
 refine aD rfl rfl rfl rfl (fun b3=>?_)
 refine zm0 ?_
 refine TL.append (enc:=SArm.cells) rfl rfl rfl (OwnSl.blk (enc:=SArm.cells) [] rfl rfl dq) (Src.sl hA) (by simp;omega) rfl (.take (.here _) rfl) rfl (fun a5 c5 ob5 hO5=>?_)
 refine ei ?_
 exact ef (.inr rfl) (ad rfl (RVal.tmp rfl)) .all ⟨rfl,hO5.cast sq⟩
theorem ordW_ok {q:SProc}{bx bo bw:Nat}(hS:bK q)(hz2:q.steps.length≤80):
  ∀(f:Nat) {H:Hp} (at_:Int),ProcOk H q→ProcAt H bx q→CellAt H bw (.func (.func 92) #[] #[.pointer (some ⟨bo,0,none⟩),.pointer (some ⟨bx,0,none⟩),.pointer (some ⟨bw,0,none⟩)])→0≤at_→at_<q.steps.length→q.steps.length≤at_.toNat+f→∀(u:Value) (xs:List Int) (ob:aj),OwnSl 1 I64.cells u xs ob→xs.length+(ordW q f at_).length≤1000→
   FnX Tryz.prog 92 [.int .i64 at_,.pointer (some ⟨bo,0,none⟩),.pointer (some ⟨bx,0,none⟩),.pointer (some ⟨bw,0,none⟩)] H ((bo,[u])::ob) (fun r H2 L2=>r= .tuple #[]∧H.le H2∧∃u2 ob2,L2=(bo,[u2])::ob2∧OwnSl 1 I64.cells u2 (xs++ordW q f at_) ob2):=by
 intro f
 induction f with
 | zero=>
  intro H at_ _ _ _ h0 h1 h2;exfalso;omega
 | succ f ih=>
 intro H at_ hQ hx hw h0 h1 h2 u xs ob hO hlen
 obtain⟨s,hs⟩:∃s,q.steps[at_.toNat]? =some s:=⟨_,List.getElem?_eq_getElem om⟩
 rw [kS hs] at hlen ⊢
 have hsk:=hQ.ss s (List.mem_of_getElem? hs)
 obtain⟨ua,uc,rfl⟩:=hO.form
 obtain⟨hm,hin⟩:=hS _ _ hs
 have hsz:=fH hm
 have hmax:=hQ.s.max
 refine FnX.enterM Tryz.func92 Tryz.ntmps92 rfl rfl (fun w0 M hM=>?_)
 refine zm2 ?_;refine yc ?_
 refine aD rfl rfl rfl rfl (fun b9=>?_)
 refine TL.append (enc:=I64.cells) rfl rfl rfl hO (Src.own [at_] (.here _) rfl rfl) (by simp only [List.length_cons] at hlen;simp;omega) rfl (.skip _ (.skip _ .all)) rfl (fun a10 c10 ob10 hO10=>?_)
 refine kY rfl rfl rfl (.h1) rfl (xy ?_);refine TL.run (bI rfl (hx 3 _ rfl)) rfl (zm0 ?_);refine xK ?_
 refine TL.run (bg hQ.s hs rfl rfl) rfl (kZ (ab rfl rfl rfl rfl) (mV s hsk om) rfl (fun v16 H16 ob16 hf16 hle16 hp16=>?_))
 obtain⟨eH16,hO16⟩:=hp16
 subst H16
 obtain⟨a16,c16,rfl⟩:=hO16.form
 refine TL.pubO hO16 (.s2 (.past ob10 .all)) (fun p hp hm=>absurd (hM _ hm) (Nat.not_lt.2 (hf16 p hp))) (fun HP16 leP16 hR16=>?_)
 replace hQ:=hQ.le leP16
 replace hx:=hx.le leP16
 replace hw:=hw.le leP16
 have hR16m:=hR16.max
 refine TL.run (ah rfl rfl hR16) rfl (zm8 ?_)
 have hleA:=leP16
 refine aW (V:=fun k v ob H1=>[(18,.int .i64 k)]) (K:=[(3,_),(16,_),(17,_)]) (L:=fun k v ob H1=>St M w0 H H1 ((bo,[v])::ob)) (I:=fun k v ob H1=>(0≤k∧k≤(aG s).length)∧HP16.le H1∧OwnSl 1 I64.cells v (xs++at_::((aG s).take k.toNat).flatMap (ordW q f)) ob) (μ:=fun k=>((aG s).length - k).toNat) 0 _ _ HP16 ky ⟨o2q,Hp.le.refl _,hO10.cast sq⟩ (fun w hw=>by have h2:=hw.drop;rw [List.append_nil] at h2;exact h2) (fun k v ob H1 hI=>?_)
 obtain⟨⟨k0,k1⟩,hle,hO⟩:=hI
 obtain⟨va,vc,rfl⟩:=hO.form
 replace hQ:=hQ.le hle
 replace hx:=hx.le hle
 replace hw:=hw.le hle
 replace hR16:=hR16.le hle
 replace hleA:=hleA.trans hle
 refine zm7 ?_
 refine ag rfl ?_ ?_<;>intro c19
 ·
  obtain⟨t,ht⟩:=ao (l:=aG s) k0 c19
  have htb:=hin t (List.mem_of_getElem? ht)
  have hlb:=fm_room (f:=ordW q f) k0 ht
  refine dz ?_;refine TL.run (ae rfl hR16 rfl om om) rfl (TL.run (aQ hR16 ht rfl rfl) rfl (zm1 ?_));refine TC.region (TL.run (bI rfl hw) rfl (zm0 ?_))
  refine ge (L1:=(bo,[.slice va _ vc])::ob) (ab rfl rfl rfl rfl) (ih t hQ hx hw om om om _ _ _ hO (by simp only [List.length_append,List.length_cons];simp only [List.length_cons] at hlen;omega)) rfl (fun v24 H24 L24 hle24 hp24=>?_)
  obtain⟨rfl, -,u24,ob24,rfl,hO24⟩:=hp24
  obtain⟨ua24,uc24,rfl⟩:=hO24.form
  replace hw:=hw.le hle24
  replace hle:=hle.trans hle24
  refine qr ?_
  exact aH (k+1) _ ob24 H24 ⟨o2q,hle,hO24.cast (by rw [bT k0 ht,List.flatMap_append];simp)⟩ ky (fun w hw=>hw) om
 refine TC.exit (bM (bM (cG ?_)))
 exact aZ (.inl rfl) (ce rfl) (fun w hw=>hw) ⟨rfl,hleA,_,_,rfl,hO.cast (by rw [bC c19 k0])⟩
theorem Bj {H:Hp}{q:SProc}{bx bmv bm bout:Nat}{nm:Str}{pv u sv:Value}{m0:List Int}{o0:List Term}{ob:aj}(root:Int)(hQ:ProcOk H q)(hx:ProcAt H bx q)(hmv:CellAt H bmv (.slice (some ⟨bm,0,none⟩) q.terms.length q.terms.length))(hm:cF q.terms root=true)(hml0:m0.length=q.terms.length)(hO0:OwnSl 6 Term.cells u o0 ob)(hr:o0.length≤300000000000):
  FnX Tryz.prog 93 [.int .i64 root,.pointer (some ⟨bx,0,none⟩),.pointer (some ⟨bmv,0,none⟩),.pointer (some ⟨bout,0,none⟩)] H ((bm,m0.map (Value.int .i64))::(bout,[gs nm,pv,u,sv])::ob) (fun r H2 L2=>r= .int .i64 (aL (eD q.terms root (m0,o0)).1 root)∧∃u2 ob2,L2=(bm,(eD q.terms root (m0,o0)).1.map (Value.int .i64))::(bout,[gs nm,pv,u2,sv])::ob2∧OwnSl 6 Term.cells u2 (eD q.terms root (m0,o0)).2 ob2):=by
 obtain⟨ua,uc,rfl⟩:=hO0.form
 have hpl:=or hm
 have htr:=mZ hm
 have hr0:=DQ htr
 have hr1:0≤root:=htr.1
 have hmax:=hQ.t.max
 have hpl2:(bi q.terms root).length≤33554432:=hpl
 refine FnX.enterM Tryz.func93 Tryz.ntmps93 rfl rfl (fun w0 M hM=>?_)
 refine zm7 ?_;refine gW ?_;refine TL.run (bI rfl (hx 2 _ rfl)) rfl (zm0 ?_)
 refine kZ (ab rfl rfl rfl rfl) (yK root hQ.t hm) rfl (fun v12 H12 ob12 hf12 hle12 hp12=>?_)
 have hO12:OwnSl 1 I64.cells v12 (bi q.terms root) ob12:=hp12
 obtain⟨a12,c12,rfl⟩:=hO12.form
 replace hQ:=hQ.le hle12
 replace hx:=hx.le hle12
 replace hmv:=hmv.le hle12
 refine TL.pubO hO12 (.s2 (.past _ .all)) (fun p hp hm=>absurd (hM _ hm) (Nat.not_lt.2 (hf12 p hp))) (fun HP12 leP12 hR12=>?_)
 replace hQ:=hQ.le leP12
 replace hx:=hx.le leP12
 replace hmv:=hmv.le leP12
 have hR12m:=hR12.max
 refine TL.run (ah rfl rfl hR12) rfl (zm8 ?_)
 refine aW (V:=fun(p:Int×List Int×List Term) v ob H1=>[(14,.int .i64 p.1)]) (K:=[(0,_),(1,_),(2,_),(3,_),(5,_),(12,_),(13,_)]) (L:=fun(p:Int×List Int×List Term) v ob H1=>St M w0 H H1 ((bm,p.2.1.map (Value.int .i64))::(bout,[gs nm,pv,v,sv])::ob)) (I:=fun(p:Int×List Int×List Term) v ob H1=>(0≤p.1∧p.1≤(bi q.terms root).length)∧HP12.le H1∧p.2.1.length=q.terms.length∧OwnSl 6 Term.cells v p.2.2 ob∧p.2.2.length≤o0.length+p.1∧eD q.terms root (m0,o0)=cM q.terms ((bi q.terms root).drop p.1.toNat) (p.2.1,p.2.2)) (μ:=fun(p:Int×List Int×List Term)=>((bi q.terms root).length - p.1).toNat) ((0:Int),m0,o0) _ _ HP12 ky ⟨o2q,Hp.le.refl _,hml0,hO0,by simp,rfl⟩ (fun w hw=>by rw [List.append_nil] at hw;exact hw) (fun p v ob H1 hI=>?_)
 obtain⟨⟨k0,k1⟩,hle,hml,hO,hol,hT⟩:=hI
 obtain⟨k,m,o⟩:=p
 dsimp only at *
 obtain⟨va,vc,rfl⟩:=hO.form
 replace hQ:=hQ.le hle
 replace hx:=hx.le hle
 replace hmv:=hmv.le hle
 replace hR12:=hR12.le hle
 refine zm7 ?_
 refine ag rfl ?_ ?_<;>intro c15
 ·
  obtain⟨x,hk⟩:=ao (l:=bi q.terms root) k0 c15
  obtain⟨t,ht,hx0,htl,htr2⟩:=rU _ _ (.inr htr) x (List.mem_of_getElem? hk)
  have hxb:=iS ht
  refine dz ?_;refine TL.run (ae rfl hR12 rfl om om) rfl (TL.run (aQ hR12 hk rfl rfl) rfl (mu ?_));refine TL.run (bI rfl (hx 2 _ rfl)) rfl (zm0 ?_)
  refine TL.run (ae rfl hQ.t rfl om om) rfl (TL.run (bg hQ.t ht rfl rfl) rfl (TL.alloc rfl (fun b8=>?_)))
  refine qt ?_;refine qm ?_
  refine ag rfl ?_ ?_<;>intro c25
  ·
   refine TC.region (TL.run (bI rfl hmv) rfl (fV ?_));refine fp ?_;refine TL.run (aB rfl (.h1) (il om)) rfl (qo ?_);refine TC.seq (qm ?_)
   refine ag rfl ?_ ?_<;>intro c34
   ·
    refine TC.region (TL.run (bI rfl hmv) rfl (fV ?_));refine fp ?_;refine TL.run (aB rfl (.h1) (il om)) rfl (qy ?_);refine gF ?_;refine xd ?_;refine md ?_
    refine TL.run (bE rfl rfl hO) rfl (xc ?_);refine w9 ?_
    refine aD rfl rfl rfl rfl (fun b50=>?_)
    refine TL.append (enc:=Term.cells) rfl rfl rfl hO (Src.own [⟨t.kind,t.name,t.n,t.text,aL m t.l,aL m t.r⟩] (.here _) rfl rfl) (by simp;omega) rfl (.s3 (.skip _ .all)) rfl (fun a51 c51 ob51 hO51=>?_)
    exact wd
   refine cV ?_;refine zm2 ?_;refine xd ?_;refine md ?_;refine TL.run (bE rfl rfl hO) rfl (xc ?_);refine w9 ?_
   refine aD rfl rfl rfl rfl (fun b50=>?_)
   refine TL.append (enc:=Term.cells) rfl rfl rfl hO (Src.own [⟨t.kind,t.name,t.n,t.text,aL m t.l,t.r⟩] (.here _) rfl rfl) (by simp;omega) rfl (.s3 (.skip _ .all)) rfl (fun a51 c51 ob51 hO51=>?_)
   exact wd
  refine jo ?_;refine qm ?_
  refine ag rfl ?_ ?_<;>intro c34
  ·
   refine TC.region (TL.run (bI rfl hmv) rfl (fV ?_));refine fp ?_;refine TL.run (aB rfl (.h1) (il om)) rfl (qy ?_);refine gF ?_;refine xd ?_;refine md ?_
   refine TL.run (bE rfl rfl hO) rfl (xc ?_);refine w9 ?_
   refine aD rfl rfl rfl rfl (fun b50=>?_)
   refine TL.append (enc:=Term.cells) rfl rfl rfl hO (Src.own [⟨t.kind,t.name,t.n,t.text,t.l,aL m t.r⟩] (.here _) rfl rfl) (by simp;omega) rfl (.s3 (.skip _ .all)) rfl (fun a51 c51 ob51 hO51=>?_)
   exact wd
  refine cV ?_;refine zm2 ?_;refine xd ?_;refine md ?_;refine TL.run (bE rfl rfl hO) rfl (xc ?_);refine w9 ?_
  refine aD rfl rfl rfl rfl (fun b50=>?_)
  refine TL.append (enc:=Term.cells) rfl rfl rfl hO (Src.own [⟨t.kind,t.name,t.n,t.text,t.l,t.r⟩] (.here _) rfl rfl) (by simp;omega) rfl (.s3 (.skip _ .all)) rfl (fun a51 c51 ob51 hO51=>?_)
  exact wd
 refine qE ?_;refine xd ?_;refine fp ?_;refine TL.run (aB rfl (.here _) (il om)) rfl (ei ?_)
 have hE:=tg_end k0 c15 hT
 exact aZ (.inr rfl) (ad rfl (RVal.tmp rfl)) (fun w hw=>hw) ⟨by rw [hE],_,_,by rw [hE],by rw [hE];exact hO⟩
end Go.Sx
namespace Go.Sx
open Go Go.Proofs
theorem f5 {H:Hp}{q:SProc}{bx bmv bm bout bt:Nat}{nm:Str}{pv u sv vl:Value}{m0:List Int}{o0:List Term}{ob:aj}{l:List Int}(hl:RdSl H 1 I64.cells vl l)(ht:CellAt H bt (.func (.func 93) #[] #[.pointer (some ⟨bx,0,none⟩),.pointer (some ⟨bmv,0,none⟩),.pointer (some ⟨bout,0,none⟩)]))(hQ:ProcOk H q)(hx:ProcAt H bx q)(hmv:CellAt H bmv (.slice (some ⟨bm,0,none⟩) q.terms.length q.terms.length))(hm:∀t∈l,cF q.terms t=true)(hl6:l.length≤6)(hml0:m0.length=q.terms.length)(hO0:OwnSl 6 Term.cells u o0 ob)(hr:o0.length≤290000000000):
  FnX Tryz.prog 94 [vl,.pointer (some ⟨bt,0,none⟩)] H ((bm,m0.map (Value.int .i64))::(bout,[gs nm,pv,u,sv])::ob) (fun r H2 L2=>∃u2 ob2 ob3,L2=(bm,(bp q.terms l [] (m0,o0)).2.1.map (Value.int .i64))::(bout,[gs nm,pv,u2,sv])::(ob2++ob3)∧OwnSl 6 Term.cells u2 (bp q.terms l [] (m0,o0)).2.2 ob2∧OwnSl 1 I64.cells r (bp q.terms l [] (m0,o0)).1 ob3):=by
 obtain⟨ua,uc,rfl⟩:=hO0.form
 have one0:=hl.isOne
 obtain⟨la,lc,rfl⟩:=hl.len
 refine FnX.enterM Tryz.func94 Tryz.ntmps94 rfl rfl (fun w0 M hM=>?_)
 refine k4 ?_;refine oM ?_;refine TL.run (ah rfl rfl hl) rfl (zm8 ?_)
 refine aW (V:=fun(p:Int×RS×Value×aj×List Int) v ob H1=>[(4,v),(9,.int .i64 p.1)]) (K:=[(1,_),(3,_),(7,_),(8,_)]) (L:=fun(p:Int×RS×Value×aj×List Int) v ob H1=>St M w0 H H1 ((bm,p.2.1.1.map (Value.int .i64))::(bout,[gs nm,pv,p.2.2.1,sv])::(p.2.2.2.1++ob))) (I:=fun(p:Int×RS×Value×aj×List Int) v ob H1=>(0≤p.1∧p.1≤l.length)∧H.le H1∧(p.2.1.1.length=q.terms.length∧p.2.1.2.length≤o0.length+33554432 * p.1.toNat)∧OwnSl 6 Term.cells p.2.2.1 p.2.1.2 p.2.2.2.1∧OwnSl 1 I64.cells v p.2.2.2.2 ob∧p.2.2.2.2.length≤p.1∧bp q.terms l [] (m0,o0)=bp q.terms (l.drop p.1.toNat) p.2.2.2.2 p.2.1) (μ:=fun(p:Int×RS×Value×aj×List Int)=>(l.length - p.1).toNat) ((0:Int),(m0,o0),(.slice ua o0.length uc),ob,[]) (.slice none 0 0) [] H ky ⟨o2q,Hp.le.refl _,⟨hml0,by simp⟩,hO0,OwnSl.nil,by simp,rfl⟩ (fun w hw=>by rw [List.append_nil];exact hw) (fun p v ob H1 hI=>?_)
 obtain⟨⟨k0,k1⟩,hle,⟨hml,hol⟩,hO1,hO,hac,hT⟩:=hI
 obtain⟨k,⟨m,o⟩,u1,ob1,acc⟩:=p
 dsimp only at *
 obtain⟨va,vc,rfl⟩:=hO.form
 replace hl:=hl.le hle
 replace ht:=ht.le hle
 replace hQ:=hQ.le hle
 replace hx:=hx.le hle
 replace hmv:=hmv.le hle
 refine zm7 ?_
 refine ag rfl ?_ ?_<;>intro c10
 ·
  obtain⟨x,hk⟩:=ao (l:=l) k0 c10
  have hxm:=hm x (List.mem_of_getElem? hk)
  refine dz ?_;refine TL.run (ae rfl hl rfl om om) rfl (TL.run (aQ hl hk rfl rfl) rfl (zm1 ?_));refine iX ?_;refine TL.run (bI rfl ht) rfl (zm0 ?_)
  refine dY (L1:=(bm,m.map (Value.int .i64))::(bout,[gs nm,pv,u1,sv])::ob1) (L2:=ob) (ab rfl rfl rfl rfl) (Bj x hQ hx hmv hxm hml hO1 om) rfl (fun v16 H16 L16 hle16 hp16=>?_)
  obtain⟨rfl,u16,ob16,rfl,hO16⟩:=hp16
  refine aM (L':=(bm,_)::((bout,_)::(ob16++(ob)))) (List.Perm.refl _) ?_
  replace hle:=hle.trans hle16
  refine aD rfl rfl rfl rfl (fun b17=>?_)
  refine TL.append (enc:=I64.cells) rfl rfl rfl hO (Src.own [aL (eD q.terms x (m,o)).1 x] (.here _) rfl rfl) (by simp;omega) rfl (.s3 (.past ob16 .all)) rfl (fun a18 c18 ob18 hO18=>?_)
  refine mq ?_
  exact aH (i:=(k,(m,o),u1,ob1,acc)) (k+1,eD q.terms x (m,o),u16,ob16,acc++[aL (eD q.terms x (m,o)).1 x]) _ ob18 H16 ⟨o2q,hle,⟨by rw [nM];exact hml,by have h7:=lJ (s:=(m,o)) hxm;simp only at h7 ⊢;omega⟩,hO16,hO18,by simp only [List.length_append,List.length_cons,List.length_nil];omega,ta_next k0 hk hT⟩ ky (fun w hw=>hw.drop) om
 refine tw ?_
 have hE:=ta_end k0 c10 hT
 exact aZ (.inr rfl) (ad rfl (RVal.tmp rfl)) (fun w hw=>hw) ⟨_,_,_,by rw [hE],by rw [hE];exact hO1,by rw [hE];exact hO⟩
end Go.Sx
