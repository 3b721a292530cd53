import Derived.Test.YtjnlogbbcceaoaaGreatR12
set_option linter.all false
set_option maxRecDepth 100000
set_option maxHeartbeats 32000000
namespace Go.Sx
open Go Go.Proofs
theorem gZ {F:Fx}{V:XV}(t:Term):
  WFx Tryz.prog F V 133 [.agg t.cells.toArray] 1 (fun v V1=>v= .int .i64 (V.tm.length:Int)∧XA V V1 [t] [] 0):=by
 refine WFx.enter Tryz.func133 Tryz.ntmps133 rfl rfl (fun m w0 hW hm=>?_)
 have hmx:=hW.t.max
 refine zm2 ?_
 refine TL.box rfl rfl (fun b3=>?_)
 refine qH ?_;refine zm357 ?_;refine qv ?_;refine uE ?_;refine yk ?_
 refine aF rfl rfl rfl rfl (fun b12=>?_)
 refine aw rfl (TL.append (enc:=Term.cells) rfl rfl rfl hW.t (Src.own [t] (.here _) rfl rfl) (by have:=hW.me;(try dsimp only at this ⊢);simp only [List.length_append,List.length_cons,List.length_nil];omega) rfl (.s4 (.app _)) rfl (fun a13 c13 ob13 hO13=>?_))
 refine l7 ?_;refine aq (bH rfl) rfl (zm4 ?_);refine Bd ?_;refine k7 ?_;refine dM ?_;refine lG ?_;refine md ?_;refine TL.run (ec rfl rfl) rfl (zm396 ?_);refine ei ?_
 exact bn (V':={V with tm:=V.tm++[t],ta:=a13,tc:=c13,oT:=ob13}) (X:=[(b12,_),(b3,_)]) (.inr rfl) (ad rfl (RVal.tmp rfl)) rfl rfl (⟨hW.fx,hO13,hW.s,hW.n0,hW.r0,hW.r1,hW.d,by have:=hW.me;simp only [List.length_append,List.length_cons,List.length_nil];omega⟩) ⟨rfl,⟨rfl,by simp,by simp,by simp,fun _ h=>h⟩⟩
theorem cC {F:Fx}{V:XV}(s:Str):
  WFx Tryz.prog F V 72 [gs s] 1 (fun v V1=>v= .int .i64 (V.tm.length:Int)∧XA V V1 [⟨0,s,0,[], -1, -1⟩] [] 0):=by
 refine WFx.enter Tryz.func72 Tryz.ntmps72 rfl rfl (fun m w0 hW hm=>?_)
 refine uz ?_;refine dw ?_
 refine aA (F:=F) (V:=V) (m:=m) [] rfl rfl (ab rfl rfl rfl rfl) (gZ ⟨0,s,0,[], -1, -1⟩) hW om rfl (fun v8 V8 hle8 hW8 hp8=>?_)
 obtain⟨rfl,hA8⟩:=hp8
 have hL8:=hA8.tl
 simp only [List.length_cons,List.length_nil] at hL8
 refine ei ?_
 exact bn (V':=V8) (X:=[]) (.inr rfl) (ad rfl (RVal.tmp rfl)) rfl rfl (hW8.more om) ⟨rfl,hA8⟩
theorem eS {F:Fx}{V:XV}(n:Int):
  WFx Tryz.prog F V 73 [.int .i64 n] 1 (fun v V1=>v= .int .i64 (V.tm.length:Int)∧XA V V1 [⟨1,[],n,[], -1, -1⟩] [] 0):=by
 refine WFx.enter Tryz.func73 Tryz.ntmps73 rfl rfl (fun m w0 hW hm=>?_)
 refine uz ?_;refine dw ?_
 refine aA (F:=F) (V:=V) (m:=m) [] rfl rfl (ab rfl rfl rfl rfl) (gZ ⟨1,[],n,[], -1, -1⟩) hW om rfl (fun v8 V8 hle8 hW8 hp8=>?_)
 obtain⟨rfl,hA8⟩:=hp8
 have hL8:=hA8.tl
 simp only [List.length_cons,List.length_nil] at hL8
 refine ei ?_
 exact bn (V':=V8) (X:=[]) (.inr rfl) (ad rfl (RVal.tmp rfl)) rfl rfl (hW8.more om) ⟨rfl,hA8⟩
theorem ff {F:Fx}{V:XV}(k l r:Int):
  WFx Tryz.prog F V 130 [.int .i64 k,.int .i64 l,.int .i64 r] 1 (fun v V1=>v= .int .i64 (V.tm.length:Int)∧XA V V1 [⟨k,[],0,[],l,r⟩] [] 0):=by
 refine WFx.enter Tryz.func130 Tryz.ntmps130 rfl rfl (fun m w0 hW hm=>?_)
 refine uz ?_;refine zm3 ?_;refine dw ?_
 refine aA (F:=F) (V:=V) (m:=m) [] rfl rfl (ab rfl rfl rfl rfl) (gZ ⟨k,[],0,[],l,r⟩) hW om rfl (fun v14 V14 hle14 hW14 hp14=>?_)
 obtain⟨rfl,hA14⟩:=hp14
 have hL14:=hA14.tl
 simp only [List.length_cons,List.length_nil] at hL14
 refine ei ?_
 exact bn (V':=V14) (X:=[]) (.inr rfl) (ad rfl (RVal.tmp rfl)) rfl rfl (hW14.more om) ⟨rfl,hA14⟩
theorem DD {F:Fx}{V:XV}:
  WFx Tryz.prog F V 177 [] 3 (fun v V1=>∃i:Int,v= .int .i64 i∧i=V.tm.length+2∧XA V V1 [⟨0,[110],0,[], -1, -1⟩,⟨1,[],1,[], -1, -1⟩,⟨7,[],0,[],V.tm.length,V.tm.length+1⟩] [] 0):=by
 refine WFx.enter Tryz.func177 Tryz.ntmps177 rfl rfl (fun m w0 hW hm=>?_)
 refine uz ?_
 refine aA (F:=F) (V:=V) (m:=m) [] rfl rfl (ab rfl rfl rfl rfl) (cC [110]) hW om rfl (fun v5 V5 hle5 hW5 hp5=>?_)
 obtain⟨rfl,hA5⟩:=hp5
 have hL5:=hA5.tl
 simp only [List.length_cons,List.length_nil] at hL5
 refine zm0 ?_
 refine aA (F:=F) (V:=V5) (m:=m+1) [] rfl rfl (ab rfl rfl rfl rfl) (eS 1) hW5 om rfl (fun v7 V7 hle7 hW7 hp7=>?_)
 obtain⟨rfl,hA7⟩:=hp7
 have hL7:=hA7.tl
 simp only [List.length_cons,List.length_nil] at hL7
 refine aA (F:=F) (V:=V7) (m:=m+1+1) [] rfl rfl (ab rfl rfl rfl rfl) (ff 7 (V.tm.length:Int) (V5.tm.length:Int)) hW7 om rfl (fun v8 V8 hle8 hW8 hp8=>?_)
 obtain⟨rfl,hA8⟩:=hp8
 have hL8:=hA8.tl
 simp only [List.length_cons,List.length_nil] at hL8
 refine ei ?_
 exact bn (V':=V8) (X:=[]) (.inr rfl) (ad rfl (RVal.tmp rfl)) rfl rfl (hW8.more om) ⟨_,rfl,by omega,by have h:=(hA5.trans (hA7.trans (hA8)));rw [hL5] at h;exact h⟩
theorem uI {F:Fx}{V:XV}:
  WFx Tryz.prog F V 132 [] 1 (fun v V1=>v=gs ([118]++Lib.itoa (V.names+1))∧XA V V1 [] [] 1):=by
 refine WFx.enter Tryz.func132 Tryz.ntmps132 rfl rfl (fun m w0 hW hm=>?_)
 have hn0:=hW.n0
 have hme:=hW.me
 refine mo ?_;refine qO ?_;refine jX ?_;refine TL.run (bH rfl) rfl (qD ?_);refine qO ?_
 refine ay (ab rfl rfl rfl rfl) (vO (V.names+1) om om) rfl (TL.run (eu rfl rfl (by have:=(m9 (n:=V.names+1) om om).1;simp only [List.length_cons,List.length_nil];omega)) rfl (ei ?_))
 exact bn (V':={V with names:=V.names+1}) (X:=[]) (.inr rfl) (ad rfl (RVal.tmp rfl)) rfl rfl (⟨hW.fx,hW.t,hW.s,by dsimp only;omega,hW.r0,hW.r1,hW.d,by dsimp only;omega⟩) ⟨rfl,⟨by simp,by simp,rfl,by simp,fun _ h=>h⟩⟩
theorem fN {F:Fx}{V:XV}(s:TStep):
  WFx Tryz.prog F V 74 [.agg s.cells.toArray] 1 (fun v V1=>v= .int .i64 (V.st.length:Int)∧XA V V1 [] [{s with next:= -1}] 0):=by
 refine WFx.enter Tryz.func74 Tryz.ntmps74 rfl rfl (fun m w0 hW hm=>?_)
 have hr0:=hW.r0
 have hr1:=hW.r1
 have hme:=hW.me
 have hmx:=hW.s.max
 refine TC.seq (TC.region ?_)
 refine TL.box rfl rfl (fun b3=>?_)
 refine TL.run (aJ rfl) rfl (TL.nil (af (TC.seq (TC.region (TL.run (dB rfl) rfl ?_)))))
 refine bB rfl rfl rfl (.here _) rfl rfl ?_
 refine TL.nil (af (TC.seq ?_))
 refine TC.drawn kr kr ?_
 refine aT [true,true,true] [(0,1),(1,1),(2,1),(3,1),(4,1),(5,4),(6,4),(7,3),(8,5),(9,1),(10,1),(11,1),(12,0)] kr kr ?_
 refine aq (aJ rfl) rfl (aq (aJ rfl) rfl (aq (bH rfl) rfl (aq (dB rfl) rfl (aq (dB rfl) rfl ?_))))
 refine aN (S1 (S1 (S1 SN))) (Hp.le.refl _) (fun _ _=>aB rfl (.h1) rfl) rfl ?_
 refine aN (S1 (S1 (S1 SN))) (Hp.le.refl _) (fun _ _=>a7 rfl (.here _) rfl) rfl ?_
 refine aF rfl rfl rfl rfl (fun b13=>?_)
 refine aw rfl ?_
 refine TL.append (enc:=TStep.cells) rfl rfl rfl hW.s (Src.own [{s with next:= -1}] (.here _) rfl rfl) (by have:=hW.me;(try dsimp only at this ⊢);simp only [List.length_append,List.length_cons,List.length_nil];omega) rfl (.s4 (.past _ (.app _))) rfl (fun a14 c14 ob14 hO14=>?_)
 refine az (S0 (S1 (S1 (S1 SN)))) (Hp.le.refl _) ?_
 refine aq (bH rfl) rfl (aq (dB rfl) rfl (aq (dB rfl) rfl (bf ?_)))
 refine bB rfl rfl rfl (.h2) rfl rfl ?_
 refine bj (TF.nil (af (TC.seq (TC.region (TL.run (aJ rfl) rfl (TL.run (bH rfl) rfl (TL.run (dB rfl) rfl ?_)))))))
 refine TL.run (aB rfl (.h2) rfl) rfl (TL.run ((by first | exact fw rfl rfl om om | exact aJ rfl)) rfl (TL.run (bH rfl) rfl (TL.run (dB rfl) rfl ?_)))
 refine bB rfl rfl rfl (.h2) rfl rfl ?_
 refine TL.nil (af (TC.seq (TC.region (TL.run (aJ rfl) rfl (TL.run (bH rfl) rfl (TL.run (dB rfl) rfl (TL.run (dB rfl) rfl ?_)))))))
 refine TL.run (aB rfl (.h2) rfl) rfl (TL.run (ec rfl rfl) rfl (TL.run (PR.to (fw rfl rfl (by simp only [List.length_append,List.length_cons,List.length_nil];omega) (by simp only [List.length_append,List.length_cons,List.length_nil];omega)) (congrArg (Value.int .i64) (by simp only [List.length_append,List.length_cons,List.length_nil];omega))) rfl (TL.run (aJ rfl) rfl (TL.nil (af (TC.ret (bn (V':={V with st:=V.st++[{s with next:= -1}],sa:=a14,sc:=c14,oS:=ob14,room:=V.room - 1}) (X:=[(b13,_),(b3,_)]) (.inr rfl) (ad rfl (RVal.tmp rfl)) rfl rfl (⟨hW.fx,hW.t,hO14,hW.n0,by simp only [List.length_append,List.length_cons,List.length_nil];omega,by dsimp only;omega,hW.d,by simp only [List.length_append,List.length_cons,List.length_nil];omega⟩) ⟨rfl,⟨by simp,rfl,by simp,by simp,fun _ h=>h⟩⟩)))))))
theorem fe {F:Fx}{V:XV}(s:TStep):
  WFx Tryz.prog F V 75 [.agg s.cells.toArray] 1 (fun v V1=>v= .int .i64 (V.st.length:Int)∧XA V V1 [] [{s with next:=(V.st.length:Int)+1}] 0):=by
 refine WFx.enter Tryz.func75 Tryz.ntmps75 rfl rfl (fun m w0 hW hm=>?_)
 refine zm2 ?_
 refine TL.box rfl rfl (fun b3=>?_)
 refine k6 ?_;refine fo ?_
 refine aA (F:=F) (V:=V) (m:=m) [(b3,_)] rfl rfl (ab rfl rfl rfl rfl) (fN s) hW om rfl (fun v8 V8 hle8 hW8 hp8=>?_)
 obtain⟨rfl,hA8⟩:=hp8
 have hL8:=hA8.sl
 simp only [List.length_cons,List.length_nil] at hL8
 have hat:V8.st[((V.st.length:Nat):Int).toNat]? =some {s with next:= -1}:=by rw [hA8.st,Int.toNat_natCast,List.getElem?_append_right (Nat.le_refl _),Nat.sub_self];rfl
 have hsm:=hW8.s.max
 refine qH ?_;refine aT [true,true,true] [(0,1),(1,1),(2,1),(3,1),(4,4),(5,1),(6,1),(7,1),(8,1),(9,1),(10,4),(11,1),(12,1),(13,1),(14,5)] kr kr (lY ?_)
 refine uE ?_;refine qv ?_;refine uE ?_;refine aq (ec rfl rfl) rfl (aq (aY rfl rfl hW8.s om om) rfl (zm4 ?_))
 refine aw rfl (bX (a:={s with next:= -1}) (a':={s with next:=(V8.st.length:Int)}) rfl rfl hW8.s (.s3 (.past _ (.app _))) hat rfl rfl rfl rfl (fun obS hogb hOS=>?_))
 refine az (S1 (S1 (S1 SN))) (Hp.le.refl _) (TF.nil (af (l9 ?_)))
 exact bn (V':={V8 with st:=V8.st.set ((V.st.length:Nat):Int).toNat {s with next:=(V8.st.length:Int)},oS:=obS}) (X:=[(b3,_)]) (.inr rfl) (ad rfl (RVal.tmp rfl)) (by unfold Fx.X Fx.cx;dsimp only;rw [List.length_set];rfl) rfl (⟨hW8.fx,hW8.t,by rw [List.length_set];exact hOS,hW8.n0,by rw [List.length_set];exact hW8.r0,hW8.r1,hW8.d,by rw [List.length_set];exact hW8.me⟩) ⟨rfl,⟨hA8.tm,by show V8.st.set _ {s with next:=(V8.st.length:Int)}=_;rw [hL8,hA8.st,Int.toNat_natCast,List.set_append_right _ _ (Nat.le_refl _),Nat.sub_self];rfl,hA8.nm,hA8.rm,hA8.nn⟩⟩
end Go.Sx
namespace Go.Sx
open Go Go.Proofs
theorem DE {F:Fx}{V:XV}(k:Int):
  WFx Tryz.prog F V 180 [.int .i64 k] 3 (fun v V1=>∃(i:Int) (ts:List Term),v= .int .i64 i∧i=V.tm.length+ts.length - 1∧GiveT V.tm.length ts∧XA V V1 ts [] 0):=by
 refine WFx.enter Tryz.func180 Tryz.ntmps180 rfl rfl (fun m w0 hW hm=>?_)
 refine jt ?_;refine f4 ?_
 refine ag rfl ?_ ?_<;>intro c7
 ·
  refine jR ?_;refine qO ?_
  refine aE (X:=[(F.bw,_)]) (bd:=F.bd) rfl (ab rfl rfl rfl rfl) (bq 5 om hW.d) rfl (fun v13 H13 at13 hle13 hd13 hp13=>?_)
  obtain⟨rfl,r13,rfl,hr13⟩:=hp13
  refine yi ?_
  refine ag rfl ?_ ?_<;>intro c14
  ·
   refine eh ?_
   refine aA (F:=F) (V:={V with at_:=at13}) (m:=m) [] rfl rfl (ab rfl rfl rfl rfl) (eS 12) (hW.dice (.refl _) hd13) om rfl (fun v18 V18 hle18 hW18 hp18=>?_)
   dsimp only at hle18 hp18
   obtain⟨rfl,hA18⟩:=hp18
   replace hA18:XA V V18 _ _ _:=⟨hA18.tm,hA18.st,hA18.nm,hA18.rm,hA18.nn⟩
   have hL18:=hA18.tl
   simp only [List.length_cons,List.length_nil] at hL18
   refine zm0 ?_
   refine aA (F:=F) (V:=V18) (m:=m+1) [] rfl rfl (ab rfl rfl rfl rfl) (cC [110]) hW18 om rfl (fun v20 V20 hle20 hW20 hp20=>?_)
   obtain⟨rfl,hA20⟩:=hp20
   have hL20:=hA20.tl
   simp only [List.length_cons,List.length_nil] at hL20
   refine aA (F:=F) (V:=V20) (m:=m+1+1) [] rfl rfl (ab rfl rfl rfl rfl) (ff 9 (V.tm.length:Int) (V18.tm.length:Int)) hW20 om rfl (fun v21 V21 hle21 hW21 hp21=>?_)
   obtain⟨rfl,hA21⟩:=hp21
   have hL21:=hA21.tl
   simp only [List.length_cons,List.length_nil] at hL21
   refine ei ?_;refine bv (aI (bv (aI ?_)))
   exact bn (V':=V21) (X:=[]) (.inr rfl) (ad rfl (RVal.tmp rfl)) rfl rfl (hW21.more om) ⟨_,_,rfl,by simp only [List.length_append,List.length_cons,List.length_nil];omega,ga (k:=9) (eo _ _) (dC mY sq) rfl rfl dq rfl om,(hA18.trans (hA20.trans (hA21)))⟩
  refine f4 ?_
  refine ag rfl ?_ ?_<;>intro c22
  ·
   refine eh ?_;refine qO ?_
   refine aE (X:=[(F.bw,_)]) (bd:=F.bd) rfl (ab rfl rfl rfl rfl) (bq 9 om (hW.dice (.refl _) hd13).d) rfl (fun v29 H29 at29 hle29 hd29 hp29=>?_)
   obtain⟨rfl,r29,rfl,hr29⟩:=hp29
   refine q6 ?_
   refine aA (F:=F) (V:={{V with at_:=at13} with at_:=at29}) (m:=m) [] rfl rfl (ab rfl rfl rfl rfl) (eS _) ((hW.dice (.refl _) hd13).dice (.refl _) hd29) om rfl (fun v31 V31 hle31 hW31 hp31=>?_)
   dsimp only at hle31 hp31
   obtain⟨rfl,hA31⟩:=hp31
   replace hA31:XA V V31 _ _ _:=⟨hA31.tm,hA31.st,hA31.nm,hA31.rm,hA31.nn⟩
   have hL31:=hA31.tl
   simp only [List.length_cons,List.length_nil] at hL31
   refine ei ?_;refine bv (aI (bv (aI ?_)))
   exact bn (V':=V31) (X:=[]) (.inr rfl) (ad rfl (RVal.tmp rfl)) rfl rfl (hW31.more om) ⟨_,_,rfl,by simp only [List.length_cons,List.length_nil];omega,CI (eo _ _),hA31⟩
  refine TC.skip (bu (af (nA ?_)))
  refine TD.part 7 2 rfl rfl rfl ?_ ?_
  ·
   refine zm358 ?_;refine tM ?_;refine lj ?_
   refine aw rfl (aA (F:=F) (V:={V with at_:=at13}) (m:=m) [] rfl rfl (ab rfl rfl rfl rfl) (cC [110]) (hW.dice (.refl _) hd13) om rfl (fun v34 V34 hle34 hW34 hp34=>?_))
   dsimp only at hle34 hp34
   obtain⟨rfl,hA34⟩:=hp34
   replace hA34:XA V V34 _ _ _:=⟨hA34.tm,hA34.st,hA34.nm,hA34.rm,hA34.nn⟩
   have hL34:=hA34.tl
   simp only [List.length_cons,List.length_nil] at hL34
   refine az SN hle34 (aw rfl (aE (X:=[(F.bw,_)]) (bd:=F.bd) rfl (ab rfl rfl rfl rfl) (bq 5 om hW34.d) rfl (fun v40 H40 at40 hle40 hd40 hp40=>?_)))
   obtain⟨rfl,r40,rfl,hr40⟩:=hp40
   refine az SN hle34 (aw rfl (aA (F:=F) (V:={V34 with at_:=at40}) (m:=m+1) [] rfl rfl (ab rfl rfl rfl rfl) (eS _) (hW34.dice (.refl _) hd40) om rfl (fun v41 V41 hle41 hW41 hp41=>?_)))
   dsimp only at hle41 hp41
   obtain⟨rfl,hA41⟩:=hp41
   replace hA41:XA V34 V41 _ _ _:=⟨hA41.tm,hA41.st,hA41.nm,hA41.rm,hA41.nn⟩
   have hL41:=hA41.tl
   simp only [List.length_cons,List.length_nil] at hL41
   refine az SN (hle34.trans (hle41)) (aw rfl (aA (F:=F) (V:=V41) (m:=m+1+1) [] rfl rfl (ab rfl rfl rfl rfl) (ff 6 (V.tm.length:Int) (V34.tm.length:Int)) hW41 om rfl (fun v42 V42 hle42 hW42 hp42=>?_)))
   obtain⟨rfl,hA42⟩:=hp42
   have hL42:=hA42.tl
   simp only [List.length_cons,List.length_nil] at hL42
   refine az SN (hle34.trans (hle41.trans (hle42))) (uf ?_)
   exact bv (aI (bn (V':=V42) (X:=[]) (.inr rfl) (ad rfl (RVal.tmp rfl)) rfl rfl (hW42.more om) ⟨_,_,rfl,by simp only [List.length_append,List.length_cons,List.length_nil];omega,ga (k:=6) (dC mY sq) (eo _ _) rfl rfl dq rfl om,(hA34.trans (hA41.trans (hA42)))⟩))
  refine zm359 ?_;refine xj ?_
  refine aA (F:=F) (V:={V with at_:=at13}) (m:=m) [] rfl rfl (ab rfl rfl rfl rfl) (cC [110]) (hW.dice (.refl _) hd13) om rfl (fun v34 V34 hle34 hW34 hp34=>?_)
  dsimp only at hle34 hp34
  obtain⟨rfl,hA34⟩:=hp34
  replace hA34:XA V V34 _ _ _:=⟨hA34.tm,hA34.st,hA34.nm,hA34.rm,hA34.nn⟩
  have hL34:=hA34.tl
  simp only [List.length_cons,List.length_nil] at hL34
  refine az SN hle34 (lj ?_);refine aw rfl (aE (X:=[(F.bw,_)]) (bd:=F.bd) rfl (ab rfl rfl rfl rfl) (bq 5 om hW34.d) rfl (fun v40 H40 at40 hle40 hd40 hp40=>?_))
  obtain⟨rfl,r40,rfl,hr40⟩:=hp40
  refine az SN hle34 (aw rfl (aA (F:=F) (V:={V34 with at_:=at40}) (m:=m+1) [] rfl rfl (ab rfl rfl rfl rfl) (eS _) (hW34.dice (.refl _) hd40) om rfl (fun v41 V41 hle41 hW41 hp41=>?_)))
  dsimp only at hle41 hp41
  obtain⟨rfl,hA41⟩:=hp41
  replace hA41:XA V34 V41 _ _ _:=⟨hA41.tm,hA41.st,hA41.nm,hA41.rm,hA41.nn⟩
  have hL41:=hA41.tl
  simp only [List.length_cons,List.length_nil] at hL41
  refine az SN (hle34.trans (hle41)) (aw rfl (aA (F:=F) (V:=V41) (m:=m+1+1) [] rfl rfl (ab rfl rfl rfl rfl) (ff 6 (V.tm.length:Int) (V34.tm.length:Int)) hW41 om rfl (fun v42 V42 hle42 hW42 hp42=>?_)))
  obtain⟨rfl,hA42⟩:=hp42
  have hL42:=hA42.tl
  simp only [List.length_cons,List.length_nil] at hL42
  refine az SN (hle34.trans (hle41.trans (hle42))) (uf ?_)
  exact bv (aI (bn (V':=V42) (X:=[]) (.inr rfl) (ad rfl (RVal.tmp rfl)) rfl rfl (hW42.more om) ⟨_,_,rfl,by simp only [List.length_append,List.length_cons,List.length_nil];omega,ga (k:=6) (dC mY sq) (eo _ _) rfl rfl dq rfl om,(hA34.trans (hA41.trans (hA42)))⟩))
 refine f4 ?_
 refine ag rfl ?_ ?_<;>intro c43
 ·
  refine nA ?_
  refine TD.part 7 2 rfl rfl rfl ?_ ?_
  ·
   refine zm358 ?_;refine tM ?_;refine lj ?_;refine aw rfl (aA (F:=F) (V:=V) (m:=m) [] rfl rfl (ab rfl rfl rfl rfl) (cC [110]) hW om rfl (fun v47 V47 hle47 hW47 hp47=>?_))
   obtain⟨rfl,hA47⟩:=hp47
   have hL47:=hA47.tl
   simp only [List.length_cons,List.length_nil] at hL47
   refine az SN hle47 (aw rfl (aE (X:=[(F.bw,_)]) (bd:=F.bd) rfl (ab rfl rfl rfl rfl) (bq 4 om hW47.d) rfl (fun v53 H53 at53 hle53 hd53 hp53=>?_)))
   obtain⟨rfl,r53,rfl,hr53⟩:=hp53
   refine az SN hle47 (aw rfl (aA (F:=F) (V:={V47 with at_:=at53}) (m:=m+1) [] rfl rfl (ab rfl rfl rfl rfl) (eS _) (hW47.dice (.refl _) hd53) om rfl (fun v54 V54 hle54 hW54 hp54=>?_)))
   dsimp only at hle54 hp54
   obtain⟨rfl,hA54⟩:=hp54
   replace hA54:XA V47 V54 _ _ _:=⟨hA54.tm,hA54.st,hA54.nm,hA54.rm,hA54.nn⟩
   have hL54:=hA54.tl
   simp only [List.length_cons,List.length_nil] at hL54
   refine az SN (hle47.trans (hle54)) (aw rfl (aA (F:=F) (V:=V54) (m:=m+1+1) [] rfl rfl (ab rfl rfl rfl rfl) (ff 12 (V.tm.length:Int) (V47.tm.length:Int)) hW54 om rfl (fun v55 V55 hle55 hW55 hp55=>?_)))
   obtain⟨rfl,hA55⟩:=hp55
   have hL55:=hA55.tl
   simp only [List.length_cons,List.length_nil] at hL55
   refine az SN (hle47.trans (hle54.trans (hle55))) (uf ?_)
   exact bv (aI (bn (V':=V55) (X:=[]) (.inr rfl) (ad rfl (RVal.tmp rfl)) rfl rfl (hW55.more om) ⟨_,_,rfl,by simp only [List.length_append,List.length_cons,List.length_nil];omega,ga (k:=12) (dC mY sq) (eo _ _) rfl rfl dq rfl om,(hA47.trans (hA54.trans (hA55)))⟩))
  refine zm359 ?_;refine xj ?_
  refine aA (F:=F) (V:=V) (m:=m) [] rfl rfl (ab rfl rfl rfl rfl) (cC [110]) hW om rfl (fun v47 V47 hle47 hW47 hp47=>?_)
  obtain⟨rfl,hA47⟩:=hp47
  have hL47:=hA47.tl
  simp only [List.length_cons,List.length_nil] at hL47
  refine az SN hle47 (lj ?_);refine aw rfl (aE (X:=[(F.bw,_)]) (bd:=F.bd) rfl (ab rfl rfl rfl rfl) (bq 4 om hW47.d) rfl (fun v53 H53 at53 hle53 hd53 hp53=>?_))
  obtain⟨rfl,r53,rfl,hr53⟩:=hp53
  refine az SN hle47 (aw rfl (aA (F:=F) (V:={V47 with at_:=at53}) (m:=m+1) [] rfl rfl (ab rfl rfl rfl rfl) (eS _) (hW47.dice (.refl _) hd53) om rfl (fun v54 V54 hle54 hW54 hp54=>?_)))
  dsimp only at hle54 hp54
  obtain⟨rfl,hA54⟩:=hp54
  replace hA54:XA V47 V54 _ _ _:=⟨hA54.tm,hA54.st,hA54.nm,hA54.rm,hA54.nn⟩
  have hL54:=hA54.tl
  simp only [List.length_cons,List.length_nil] at hL54
  refine az SN (hle47.trans (hle54)) (aw rfl (aA (F:=F) (V:=V54) (m:=m+1+1) [] rfl rfl (ab rfl rfl rfl rfl) (ff 12 (V.tm.length:Int) (V47.tm.length:Int)) hW54 om rfl (fun v55 V55 hle55 hW55 hp55=>?_)))
  obtain⟨rfl,hA55⟩:=hp55
  have hL55:=hA55.tl
  simp only [List.length_cons,List.length_nil] at hL55
  refine az SN (hle47.trans (hle54.trans (hle55))) (uf ?_)
  exact bv (aI (bn (V':=V55) (X:=[]) (.inr rfl) (ad rfl (RVal.tmp rfl)) rfl rfl (hW55.more om) ⟨_,_,rfl,by simp only [List.length_append,List.length_cons,List.length_nil];omega,ga (k:=12) (dC mY sq) (eo _ _) rfl rfl dq rfl om,(hA47.trans (hA54.trans (hA55)))⟩))
 refine f4 ?_
 refine ag rfl ?_ ?_<;>intro c56
 ·
  refine eh ?_;refine qO ?_
  refine aE (X:=[(F.bw,_)]) (bd:=F.bd) rfl (ab rfl rfl rfl rfl) (bq 9 om hW.d) rfl (fun v63 H63 at63 hle63 hd63 hp63=>?_)
  obtain⟨rfl,r63,rfl,hr63⟩:=hp63
  refine ay (ab rfl rfl rfl rfl) (vO r63 (by have:=hr63.1;omega) (by have:=hr63.2.1 om;omega)) rfl (TL.run (eu rfl rfl (by have:=(m9 (n:=r63) (by have:=hr63.1;omega) (by have:=hr63.2.1 om;omega)).1;simp only [List.length_cons,List.length_nil];omega)) rfl (dw ?_))
  refine aA (F:=F) (V:={V with at_:=at63}) (m:=m) [] rfl rfl (ab rfl rfl rfl rfl) (gZ ⟨3,[],0,[116]++Lib.itoa r63, -1, -1⟩) (hW.dice (.refl _) hd63) om rfl (fun v67 V67 hle67 hW67 hp67=>?_)
  dsimp only at hle67 hp67
  obtain⟨rfl,hA67⟩:=hp67
  replace hA67:XA V V67 _ _ _:=⟨hA67.tm,hA67.st,hA67.nm,hA67.rm,hA67.nn⟩
  have hL67:=hA67.tl
  simp only [List.length_cons,List.length_nil] at hL67
  refine zm1 ?_;refine gw ?_;refine dw ?_
  refine aA (F:=F) (V:=V67) (m:=m+1) [] rfl rfl (ab rfl rfl rfl rfl) (gZ ⟨3,[],0,[117], -1, -1⟩) hW67 om rfl (fun v72 V72 hle72 hW72 hp72=>?_)
  obtain⟨rfl,hA72⟩:=hp72
  have hL72:=hA72.tl
  simp only [List.length_cons,List.length_nil] at hL72
  refine aA (F:=F) (V:=V72) (m:=m+1+1) [] rfl rfl (ab rfl rfl rfl rfl) (ff 19 (V.tm.length:Int) (V67.tm.length:Int)) hW72 om rfl (fun v73 V73 hle73 hW73 hp73=>?_)
  obtain⟨rfl,hA73⟩:=hp73
  have hL73:=hA73.tl
  simp only [List.length_cons,List.length_nil] at hL73
  refine ei ?_
  exact bv (aI (bn (V':=V73) (X:=[]) (.inr rfl) (ad rfl (RVal.tmp rfl)) rfl rfl (hW73.more om) ⟨_,_,rfl,by simp only [List.length_append,List.length_cons,List.length_nil];omega,ga (k:=19) (ou _ (by have:=(m9 (n:=r63) (by have:=hr63.1;omega) (by have:=hr63.2.1 om;omega)).1;simp only [List.length_append,List.length_cons,List.length_nil];omega)) (ou _ dq) rfl rfl dq rfl om,(hA67.trans (hA72.trans (hA73)))⟩))
 refine TC.skip (bu (af (eh ?_)));refine dw ?_
 refine aA (F:=F) (V:=V) (m:=m) [] rfl rfl (ab rfl rfl rfl rfl) (gZ ⟨4,[],0,[], -1, -1⟩) hW om rfl (fun v77 V77 hle77 hW77 hp77=>?_)
 obtain⟨rfl,hA77⟩:=hp77
 have hL77:=hA77.tl
 simp only [List.length_cons,List.length_nil] at hL77
 refine zm0 ?_
 refine aA (F:=F) (V:=V77) (m:=m+1) [] rfl rfl (ab rfl rfl rfl rfl) (cC [110]) hW77 om rfl (fun v79 V79 hle79 hW79 hp79=>?_)
 obtain⟨rfl,hA79⟩:=hp79
 have hL79:=hA79.tl
 simp only [List.length_cons,List.length_nil] at hL79
 refine aA (F:=F) (V:=V79) (m:=m+1+1) [] rfl rfl (ab rfl rfl rfl rfl) (ff 18 (V.tm.length:Int) (V77.tm.length:Int)) hW79 om rfl (fun v80 V80 hle80 hW80 hp80=>?_)
 obtain⟨rfl,hA80⟩:=hp80
 have hL80:=hA80.tl
 simp only [List.length_cons,List.length_nil] at hL80
 refine ei ?_
 exact bn (V':=V80) (X:=[]) (.inr rfl) (ad rfl (RVal.tmp rfl)) rfl rfl (hW80.more om) ⟨_,_,rfl,by simp only [List.length_append,List.length_cons,List.length_nil];omega,ga (k:=18) (Ao _) (dC mY sq) rfl rfl dq rfl om,(hA77.trans (hA79.trans (hA80)))⟩
theorem nF {F:Fx}{V:XV}(o:Bool):
  WFx Tryz.prog F V 127 [.bool o] 2 (fun v V1=>∃ss xs,v= .int .i64 (V.st.length:Int)∧XA V V1 [] ss 0∧Mir V1.oN ss xs∧1≤ss.length∧ss.length≤2∧∀(d:Nat) (Γ:List Str) (t:Nat),(o=false→[99]∈Γ)→SG F.ps none d Γ V.st.length t xs []):=by
 refine WFx.enter Tryz.func127 Tryz.ntmps127 rfl rfl (fun m w0 hW hm=>?_)
 refine mo ?_;refine lG ?_;refine fV ?_;refine TL.run (ec rfl rfl) rfl (o5 ?_)
 refine TC.cond rfl ?_ ?_<;>intro c14
 ·
  refine zm2 ?_;refine ay (ab rfl rfl rfl rfl) (cZ 9) rfl (TL.alloc rfl (fun b6=>?_))
  refine fb ?_;refine gW ?_;refine li ?_;refine TL.nil (af (iX ?_));refine fo ?_
  refine aA (F:=F) (V:=V) (m:=m) [(b6,_)] rfl rfl (ab rfl rfl rfl rfl) (fe ⟨9,[99],[],[],[], -1,none,0,0,none,0,0,none,0,0, -1⟩) hW om rfl (fun v19 V19 hle19 hW19 hp19=>?_)
  obtain⟨rfl,hA19⟩:=hp19
  have hL19:=hA19.sl
  simp only [List.length_cons,List.length_nil] at hL19
  refine iu ?_
  refine ay (ab rfl rfl rfl rfl) (cZ 0) rfl (aA (F:=F) (V:=V19) (m:=m+1) [(b6,_)] rfl rfl (ab rfl rfl rfl rfl) (fN ⟨0,[],[],[],[], -1,none,0,0,none,0,0,none,0,0, -1⟩) hW19 om rfl (fun v22 V22 hle22 hW22 hp22=>?_))
  obtain⟨rfl,hA22⟩:=hp22
  have hL22:=hA22.sl
  simp only [List.length_cons,List.length_nil] at hL22
  refine xi ?_
  exact bn (V':=V22) (X:=[(b6,_)]) (.inr rfl) (ad rfl (RVal.tmp rfl)) rfl rfl (hW22.more om) ⟨_,[pK [99] ((V.st.length:Int)+1),rD],rfl,(hA19.trans (hA22)),(Mir.one rfl ⟨.nil,.nil,(fun c hc=>by cases hc),.nil⟩).app (Mir.one rfl ⟨.nil,.nil,(fun c hc=>by cases hc),.nil⟩),by simp,by simp,fun d Γ t hc=>D6 (hc (by simp_all))⟩
 refine lq ?_
 refine ay (ab rfl rfl rfl rfl) (cZ 0) rfl (aA (F:=F) (V:=V) (m:=m) [] rfl rfl (ab rfl rfl rfl rfl) (fN ⟨0,[],[],[],[], -1,none,0,0,none,0,0,none,0,0, -1⟩) hW om rfl (fun v22 V22 hle22 hW22 hp22=>?_))
 obtain⟨rfl,hA22⟩:=hp22
 have hL22:=hA22.sl
 simp only [List.length_cons,List.length_nil] at hL22
 refine xi ?_
 exact bn (V':=V22) (X:=[]) (.inr rfl) (ad rfl (RVal.tmp rfl)) rfl rfl (hW22.more om) ⟨_,[rD],rfl,hA22,Mir.one rfl ⟨.nil,.nil,(fun c hc=>by cases hc),.nil⟩,Nat.le_refl _,by decide,fun d Γ t hc=>Bm⟩
theorem rc {F:Fx}{V:XV}(s:Str):
  WFx Tryz.prog F V 179 [gs s] 0 (fun v V1=>∃p r,v= .tuple #[.agg p.cells.toArray,gs r]∧p∈F.ps∧r∈p.roles∧V1=V):=by
 refine WFx.enter Tryz.func179 Tryz.ntmps179 rfl rfl (fun m w0 hW hm=>?_)
 have hfx:=hW.fx
 have hps:=hfx.ps
 have hmx:=hps.max
 have hpn:=hfx.pn
 obtain⟨p0,hp0⟩:=ao (l:=F.ps) (i:=0) om om
 have hG0:=(hfx.pg p0 (List.mem_of_getElem? hp0)).r2
 have hro0:=(hfx.pk p0 (List.mem_of_getElem? hp0)).r
 obtain⟨r0,hr0⟩:=ao (l:=p0.roles) (i:=0) om om
 refine zm2 ?_
 refine TL.alloc rfl (fun b4=>?_)
 refine xJ ?_
 refine TC.loop (V:=fun k=>[(6,.int .i64 k)]) (K:=[(0,_),(1,_),(4,_),(5,_)]) (L:=fun k=>_) (I:=fun k=>0≤k∧k≤F.ps.length) (μ:=fun k=>(F.ps.length - k).toNat) (i:=(0:Int)) ky o2q (fun w hw=>hw) (fun k hI=>?_)
 obtain⟨k0,k1⟩:=hI
 refine f3 ?_;refine ue ?_;refine TL.run (ah rfl rfl hps) rfl (zm1 ?_)
 refine ag rfl ?_ ?_<;>intro c14
 ·
  obtain⟨p,hp⟩:=ao (l:=F.ps) k0 c14
  have hro:=(hfx.pk p (List.mem_of_getElem? hp)).r
  have hrm:=hro.max
  refine gj ?_;refine lg ?_
  refine TC.loop (V:=fun q=>[(7,.int .i64 q)]) (K:=[(0,_),(1,_),(4,_),(5,_),(6,_),(8,_),(9,_),(10,_),(11,_),(12,_),(13,_),(14,_)]) (L:=fun q=>_) (I:=fun q=>0≤q∧q≤p.roles.length) (μ:=fun q=>(p.roles.length - q).toNat) (i:=(0:Int)) ky o2q (fun w hw=>hw) (fun q hI=>?_)
  obtain⟨q0,q1⟩:=hI
  refine f3 ?_;refine ue ?_;refine zm0 ?_;refine TL.run (ae rfl hps rfl om om) rfl (zm6 ?_);refine TL.run (br hps hp rfl rfl) rfl (TL.run (ah rfl rfl hro) rfl (zm1 ?_))
  refine ag rfl ?_ ?_<;>intro c27
  ·
   obtain⟨rr,hr⟩:=ao (l:=p.roles) q0 c27
   have hG:=hfx.pg p (List.mem_of_getElem? hp)
   have hnm:p.name.length=1:=by rcases hG.nm with h | h<;>rw [h]<;>rfl
   have hr1:=hG.rs rr (List.mem_of_getElem? hr)
   refine qz ?_;refine uu ?_;refine AJ ?_;refine TQ.run (ae rfl hps rfl om om) rfl (gE ?_)
   refine TQ.run (br hps hp rfl rfl) rfl (TQ.run (eu rfl rfl (by simp only [List.length_append,List.length_cons,List.length_nil];omega)) rfl (uu ?_));refine AJ ?_
   refine TQ.run (ae rfl hps rfl om om) rfl (gE ?_)
   refine TQ.run (br hps hp rfl rfl) rfl (TQ.run (aJ rfl) rfl (TQ.run (ae rfl hro rfl om om) rfl (TQ.run (aQ hro hr rfl rfl) rfl ?_)))
   refine TQ.run (eu rfl rfl (by simp only [List.length_append,List.length_cons,List.length_nil];omega)) rfl (TQ.run (aJ rfl) rfl (TQ.run (bW rfl rfl rfl) rfl (TQ.nil ?_)))
   refine af (ag rfl (fun c52=>?_) (fun c52=>?_))
   ·
    refine nA ?_;refine zm398 ?_;refine jV ?_;refine A0 ?_;refine zm5 ?_
    refine aq (ae rfl hps rfl om om) rfl (aN (S0 (S1 (S1 SN))) (Hp.le.refl _) (fun _ _=>bg hps hp rfl rfl) rfl (jV ?_));refine A0 ?_;refine zm5 ?_
    refine aq (ae rfl hps rfl om om) rfl (zm4 ?_);refine aN (S0 (S1 (S1 SN))) (Hp.le.refl _) (fun _ _=>br hps hp rfl rfl) rfl (zm5 ?_);refine xw ?_
    refine aN (S0 (S1 (S1 SN))) (Hp.le.refl _) (fun _ _=>aQ hro hr rfl rfl) rfl (ud ?_);refine uf ?_;refine xh ?_
    exact bn (V':=V) (X:=[(b4,_)]) (.inr rfl) (cq rfl (RVal.cellA rfl (.here _) rfl) (RVal.tmp rfl)) rfl rfl (hW.more om) ⟨p,rr,rfl,List.mem_of_getElem? hp,List.mem_of_getElem? hr,rfl⟩
   refine gG ?_
   exact aS (q+1) o2q ky (fun w hw=>hw) om
  refine xM ?_
  exact aS (k+1) o2q ky (fun w hw=>hw) om
 refine gh ?_;refine eH ?_
 refine aT [false,true,true] [(0,1),(1,1),(2,1),(3,4),(4,1),(5,4),(6,1),(7,1),(8,1),(9,4),(10,1),(11,1),(12,4),(13,1),(14,4),(15,5),(16,1)] kr kr (jV ?_)
 refine A0 ?_;refine aq (ae rfl hps rfl om om) rfl (aN (S0 (S1 (S1 SN))) (Hp.le.refl _) (fun _ _=>bg hps hp0 rfl rfl) rfl (jV ?_));refine A0 ?_
 refine aq (ae rfl hps rfl om om) rfl (zm4 ?_)
 refine aN (S0 (S1 (S1 SN))) (Hp.le.refl _) (fun _ _=>br hps hp0 rfl rfl) rfl (aq (ae rfl hro0 rfl om om) rfl (aN (S0 (S1 (S1 SN))) (Hp.le.refl _) (fun _ _=>aQ hro0 hr0 rfl rfl) rfl (ud ?_)))
 refine uf ?_
 exact bn (V':=V) (X:=[(b4,_)]) (.inr rfl) (cq rfl (RVal.cellA rfl (.here _) rfl) (RVal.tmp rfl)) rfl rfl (hW.more om) ⟨p0,r0,rfl,List.mem_of_getElem? hp0,List.mem_of_getElem? hr0,rfl⟩
end Go.Sx
namespace Go.Sx
open Go Go.Proofs
theorem BU {F:Fx}{V:XV}(hF:FXk F):
  WFx Tryz.prog F V 128 [] 20 (fun v V1=>∃us ss xs,v= .tuple #[]∧XA V V1 us ss 0∧Mir V1.oN ss xs∧∀dp:Int,0≤dp→dp≤5→1≤V.room→BlkR F.ps dp V.room V.names V.st.length V.tm.length xs us):=by
 refine WFx.enter Tryz.func128 Tryz.ntmps128 rfl rfl (fun m w0 hW hm=>?_)
 refine zm2 ?_;refine ay (ab rfl rfl rfl rfl) (cZ 3) rfl (TL.alloc rfl (fun b2=>?_))
 refine fb ?_;refine eh ?_
 refine aA (F:=F) (V:=V) (m:=m) [(b2,_)] rfl rfl (ab rfl rfl rfl rfl) (eS 0) hW om rfl (fun v9 V9 hle9 hW9 hp9=>?_)
 obtain⟨rfl,hA9⟩:=hp9
 have hL9:=hA9.tl
 simp only [List.length_cons,List.length_nil] at hL9
 refine zm0 ?_
 refine aA (F:=F) (V:=V9) (m:=m+1) [(b2,_)] rfl rfl (ab rfl rfl rfl rfl) (cC [110]) hW9 om rfl (fun v11 V11 hle11 hW11 hp11=>?_)
 obtain⟨rfl,hA11⟩:=hp11
 have hL11:=hA11.tl
 simp only [List.length_cons,List.length_nil] at hL11
 refine aA (F:=F) (V:=V11) (m:=m+1+1) [(b2,_)] rfl rfl (ab rfl rfl rfl rfl) (ff 12 (V.tm.length:Int) (V9.tm.length:Int)) hW11 om rfl (fun v12 V12 hle12 hW12 hp12=>?_)
 obtain⟨rfl,hA12⟩:=hp12
 have hL12:=hA12.tl
 simp only [List.length_cons,List.length_nil] at hL12
 refine qD ?_;refine fo ?_
 refine aA (F:=F) (V:=V12) (m:=m+1+1+1) [(b2,_)] rfl rfl (ab rfl rfl rfl rfl) (fN ⟨3,[],[],[],[],(V11.tm.length:Int),none,0,0,none,0,0,none,0,0, -1⟩) hW12 om rfl (fun v16 V16 hle16 hW16 hp16=>?_)
 obtain⟨hv16,hA16⟩:=hp16
 have hq16:V12.st.length=V.st.length:=by have h0:=hA9.sl;simp only [List.length_nil,List.length_append,List.length_cons] at h0;have h1:=hA11.sl;simp only [List.length_nil,List.length_append,List.length_cons] at h1;have h2:=hA12.sl;simp only [List.length_nil,List.length_append,List.length_cons] at h2;omega
 rw [hq16] at hv16
 subst hv16
 have hL16:=hA16.sl
 simp only [List.length_cons,List.length_nil] at hL16
 refine qH ?_;refine zm399 ?_
 have hw3:XA V V16 ([⟨1,[],0,[], -1, -1⟩,⟨0,[110],0,[], -1, -1⟩,⟨12,[],0,[],(V.tm.length:Int),(V9.tm.length:Int)⟩]) (⟨3,[],[],[],[],(V11.tm.length:Int),none,0,0,none,0,0,none,0,0, -1⟩::[]) 0:=by have h:=(hA9.trans (hA11.trans (hA12.trans (hA16))));exact h
 have hatw3:=hw3.at
 have hslw3:=hw3.sl
 simp only [List.length_cons,List.length_nil,List.length_append] at hslw3
 have hsmw3:=hW16.s.max
 refine lY ?_;refine uE ?_;refine qv ?_;refine uE ?_;refine zm5 ?_;refine aq (aY rfl rfl hW16.s om om) rfl (zm4 ?_)
 refine aK (bG (i:=((V.st.length:Nat):Int).toNat) (j:=8) rfl hW16.s (.s3 (.past _ (.app _))) hatw3 rfl) rfl (lY ?_);refine uE ?_;refine aq (ec rfl rfl) rfl (dZ ?_)
 refine aF rfl rfl rfl rfl (fun b39=>?_)
 refine aw rfl (TL.append (enc:=SWay.cells) rfl rfl rfl (OwnSl.nil (enc:=SWay.cells)) (Src.own [⟨[],[],((V16.st.length:Nat):Int)⟩] (.here _) rfl rfl) (by simp only [List.length_cons,List.length_nil];omega) rfl (.new _ rfl) rfl (fun a40 c40 ob40 hO40=>?_))
 refine aM (vr [(b39,_),(b2,_)] (Fx.X F V16) ob40) (az (S0 (S1 (SA (A:=ob40) (S1 (S1 SN))))) (Hp.le.refl _) (aq (aY rfl rfl hW16.s om om) rfl (zm4 ?_)))
 refine aw rfl (bX (a:=⟨3,[],[],[],[],(V11.tm.length:Int),none,0,0,none,0,0,none,0,0, -1⟩) (a':=⟨3,[],[],[],[],(V11.tm.length:Int),none,0,0,none,0,0,a40,([⟨[],[],((V16.st.length:Nat):Int)⟩]:List SWay).length,c40, -1⟩) rfl rfl hW16.s (.s2 (.past ob40 (.s2 (.past _ (.app _))))) hatw3 rfl rfl rfl rfl (fun obSw3 hogbw3 hOSw3=>?_))
 refine az (S0 (S1 (SA (A:=ob40) (S1 (S1 SN))))) (Hp.le.refl _) (TF.nil (zm400 ?_))
 have hSw3:XA V ({V16 with st:=(V16).st.set ((V.st.length:Nat):Int).toNat ⟨3,[],[],[],[],(V11.tm.length:Int),none,0,0,none,0,0,a40,([⟨[],[],((V16.st.length:Nat):Int)⟩]:List SWay).length,c40, -1⟩,oS:=obSw3}) _ (⟨3,[],[],[],[],(V11.tm.length:Int),none,0,0,none,0,0,a40,([⟨[],[],((V16.st.length:Nat):Int)⟩]:List SWay).length,c40, -1⟩::_) _:=hw3.set (b:=⟨3,[],[],[],[],(V11.tm.length:Int),none,0,0,none,0,0,a40,([⟨[],[],((V16.st.length:Nat):Int)⟩]:List SWay).length,c40, -1⟩) (o:=obSw3)
 have hXw3:XI F ({V16 with st:=(V16).st.set ((V.st.length:Nat):Int).toNat ⟨3,[],[],[],[],(V11.tm.length:Int),none,0,0,none,0,0,a40,([⟨[],[],((V16.st.length:Nat):Int)⟩]:List SWay).length,c40, -1⟩,oS:=obSw3}) _:=hW16.set hOSw3
 refine af (zm2 ?_);refine ay (ab rfl rfl rfl rfl) (cZ 6) rfl (TL.alloc rfl (fun b4=>?_))
 refine fb ?_;refine dM ?_;refine lG ?_;refine TL.run (aB rfl (.t3 (.past ob40 (.here _))) rfl) rfl (qD ?_)
 refine cI (F:=F) (V:={V16 with st:=(V16).st.set ((V.st.length:Nat):Int).toNat ⟨3,[],[],[],[],(V11.tm.length:Int),none,0,0,none,0,0,a40,([⟨[],[],((V16.st.length:Nat):Int)⟩]:List SWay).length,c40, -1⟩,oS:=obSw3}) (m:=m+1+1+1+1) [(b4,_),(b39,_),(b2,_)] ob40 rfl rfl (ab rfl rfl rfl rfl) (cC [99]) hXw3 om rfl (fun v50 V50 hle50 hW50 hp50=>?_)
 dsimp only at hle50 hp50
 try simp only [List.length_set] at hp50
 obtain⟨rfl,hA50⟩:=hp50
 have hL50:=hA50.tl
 simp only [List.length_cons,List.length_nil] at hL50
 refine zm0 ?_
 refine cI (F:=F) (V:=V50) (m:=m+1+1+1+1+1) [(b4,_),(b39,_),(b2,_)] ob40 rfl rfl (ab rfl rfl rfl rfl) (DD) hW50 om rfl (fun v52 V52 hle52 hW52 hp52=>?_)
 obtain⟨i52,rfl,hi52,hA52⟩:=hp52
 have hL52:=hA52.tl
 simp only [List.length_cons,List.length_nil] at hL52
 refine aD rfl rfl rfl rfl (fun b53=>?_)
 refine xX ?_;refine gF ?_;refine aM (rY [] [(b4,_),(b39,_),(b2,_)] ob40 [(F.bw,_),(F.bd,_)] _ _ _ _) (zm0 ?_);refine fo ?_
 refine cI (F:=F) (V:={V52 with oN:=(b53,[.int .i64 (V16.tm.length:Int),.int .i64 i52])::(V52).oN}) (m:=m+1+1+1+1+1+3) [(b4,_),(b39,_),(b2,_)] ob40 rfl rfl (ab rfl rfl rfl rfl) (fN ⟨6,[],[],[],F.self, -1,some ⟨b53,0,none⟩,2,2,none,0,0,none,0,0, -1⟩) hW52.pile om rfl (fun v57 V57 hle57 hW57 hp57=>?_)
 dsimp only at hle57 hp57
 obtain⟨rfl,hA57⟩:=hp57
 have hN57:=hA57.nn
 dsimp only at hN57
 replace hA57:XA V52 V57 _ _ _:=⟨hA57.tm,hA57.st,hA57.nm,hA57.rm,(fun p hp=>hN57 p (by first | exact List.mem_append_right _ hp | exact List.mem_cons_of_mem _ hp))⟩
 have hL57:=hA57.sl
 simp only [List.length_cons,List.length_nil] at hL57
 refine iu ?_
 refine cI (F:=F) (V:=V57) (m:=m+1+1+1+1+1+3+1) [(b4,_),(b39,_),(b2,_)] ob40 rfl rfl (ab rfl rfl rfl rfl) (nF false) hW57 om rfl (fun v59 V59 hle59 hW59 hp59=>?_)
 obtain⟨ss59,xs59,rfl,hA59,hM59,hl59,hl59b,hg59⟩:=hp59
 refine zm1 ?_;refine eH ?_
 refine TD.part 4 18 rfl rfl rfl ?_ ?_
 ·
  refine zm360 ?_
  have hw9:XA V V59 ([⟨1,[],0,[], -1, -1⟩,⟨0,[110],0,[], -1, -1⟩,⟨12,[],0,[],(V.tm.length:Int),(V9.tm.length:Int)⟩,⟨0,[99],0,[], -1, -1⟩,⟨0,[110],0,[], -1, -1⟩,⟨1,[],1,[], -1, -1⟩,⟨7,[],0,[],V50.tm.length,V50.tm.length+1⟩]) (⟨3,[],[],[],[],(V11.tm.length:Int),none,0,0,none,0,0,a40,([⟨[],[],((V16.st.length:Nat):Int)⟩]:List SWay).length,c40, -1⟩::(⟨6,[],[],[],F.self, -1,some ⟨b53,0,none⟩,2,2,none,0,0,none,0,0, -1⟩::ss59)) 0:=by have h:=(hSw3.trans (hA50.trans (hA52.trans (hA57.trans (hA59)))));exact h
  have hatw9:=hw9.at
  have hslw9:=hw9.sl
  simp only [List.length_cons,List.length_nil,List.length_append] at hslw9
  have hsmw9:=hW59.s.max
  refine lY ?_;refine Ds ?_;refine qv ?_;refine Ds ?_;refine zm5 ?_;refine aq (aY rfl rfl hW59.s om om) rfl (zm4 ?_);refine zm361 ?_;refine uq ?_
  refine aF rfl rfl rfl rfl (fun b77=>?_)
  refine aw rfl (TL.append (enc:=SWay.cells) rfl rfl rfl hO40 (Src.own [⟨[],[],((V57.st.length:Nat):Int)⟩] (.here _) rfl rfl) (by simp only [List.length_append,List.length_cons,List.length_nil];omega) rfl (.s4 (.app _)) rfl (fun a78 c78 ob78 hO78=>?_))
  refine l7 ?_
  exact zq804
 refine zm362 ?_
 have hw9:XA V V59 ([⟨1,[],0,[], -1, -1⟩,⟨0,[110],0,[], -1, -1⟩,⟨12,[],0,[],(V.tm.length:Int),(V9.tm.length:Int)⟩,⟨0,[99],0,[], -1, -1⟩,⟨0,[110],0,[], -1, -1⟩,⟨1,[],1,[], -1, -1⟩,⟨7,[],0,[],V50.tm.length,V50.tm.length+1⟩]) (⟨3,[],[],[],[],(V11.tm.length:Int),none,0,0,none,0,0,a40,([⟨[],[],((V16.st.length:Nat):Int)⟩]:List SWay).length,c40, -1⟩::(⟨6,[],[],[],F.self, -1,some ⟨b53,0,none⟩,2,2,none,0,0,none,0,0, -1⟩::ss59)) 0:=by have h:=(hSw3.trans (hA50.trans (hA52.trans (hA57.trans (hA59)))));exact h
 have hatw9:=hw9.at
 have hslw9:=hw9.sl
 simp only [List.length_cons,List.length_nil,List.length_append] at hslw9
 have hsmw9:=hW59.s.max
 refine lY ?_;refine qv ?_;refine Ds ?_;refine zm5 ?_;refine aq (aY rfl rfl hW59.s om om) rfl (zm4 ?_);refine zm361 ?_;refine uq ?_
 refine aF rfl rfl rfl rfl (fun b77=>?_)
 refine aw rfl (TL.append (enc:=SWay.cells) rfl rfl rfl hO40 (Src.own [⟨[],[],((V57.st.length:Nat):Int)⟩] (.here _) rfl rfl) (by simp only [List.length_append,List.length_cons,List.length_nil];omega) rfl (.s4 (.app _)) rfl (fun a78 c78 ob78 hO78=>?_))
 refine l7 ?_;exact aK (aB rfl (.t4 (.past ob78 (.here _))) rfl) rfl (zq804)
end Go.Sx
namespace Go.Sx
open Go Go.Proofs
theorem kj {H:Hp}(p:SProto)(r:Str)(h1:p.name.length≤1000)(h2:r.length≤1000):
  FnS Tryz.prog 68 [.agg p.cells.toArray,gs r] H (gs (p.name++r)):=by
 refine FnS.enter Tryz.func68 Tryz.ntmps68 rfl rfl (fun w0=>?_)
 refine zm2 ?_
 refine TL.box rfl rfl (fun b2=>?_)
 refine zm1 ?_;refine o9 ?_;refine TL.run (eu rfl rfl om) rfl (ei ?_)
 exact ax (.inr rfl) (ad rfl (RVal.tmp rfl)) rfl
end Go.Sx
namespace Go.Sx
open Go Go.Proofs
theorem uH {F:Fx}{V:XV}(p:SProto)(role:Str)(hp:ProtoOk V.H p)(hG:GPr p)(hX:PrX p)(hin:p∈F.ps)(hr:role∈p.roles):
  WFx Tryz.prog F V 70 [.agg p.cells.toArray,gs role] 12 (fun v V1=>∃ts s x,v=gs (vnm (V.names+1))∧XA V V1 ts [s] 1∧Mir V1.oN [s] [x]∧OpenR F.ps V.tm.length V.st.length (vnm (V.names+1)) ts x):=by
 refine WFx.enter Tryz.func70 Tryz.ntmps70 rfl rfl (fun m w0 hW hm=>?_)
 have hro:=hp.r
 have hmx:=hro.max
 have hr5:=hG.r5
 have hn1:=hG.n1
 have hnm0:=hW.n0
 have hme0:=hW.me
 refine zm2 ?_
 refine TL.box rfl rfl (fun b4=>?_)
 refine xP ?_;refine ay (ab rfl rfl rfl rfl) (cZ 8) rfl (TL.alloc rfl (fun b7=>?_))
 refine qN ?_;refine aT [false,true,false,false] [(0,1),(2,1),(3,4),(4,1),(1,5),(5,1),(6,5),(7,1),(8,5),(9,1),(10,0)] kr kr (lZ ?_)
 refine aN (S0 (S1 SN)) (Hp.le.refl _) (fun _ _=>aB rfl (.here _) rfl) rfl (qM ?_)
 refine aA (F:=F) (V:=V) (m:=m) [(b7,_),(b4,_)] rfl rfl (ab rfl rfl rfl rfl) (uI) hW om rfl (fun v11 V11 hle11 hW11 hp11=>?_)
 replace hro:=hro.le hle11
 obtain⟨rfl,hA11⟩:=hp11
 refine az (S0 (S1 SN)) hle11 (xg ?_);refine az (S0 (S1 SN)) hle11 (xg ?_);refine az (S0 (S1 SN)) hle11 (fu ?_);refine li ?_;refine k7 ?_;refine j5 ?_
 refine oG (V:=fun(k:Int) (V1:XV) (r:OR)=>[(8,.int .i64 k)]) (K:=[(0,_),(2,_),(4,_),(6,_),(7,_)]) (L:=fun k V1 r=>St (keys (F.X V)) w0 V.H V1.H ((b7,TStep.cells ⟨8,vnm (V.names+1),role,p.name,[], -1,none,0,0,r.a,r.cs.length,r.c,none,0,0, -1⟩)::(b4,p.cells)::(r.ob++Fx.X F V1))) (I:=fun k V1 r=>XI F V1 (m+1+k.toNat)∧(0≤k∧k≤p.roles.length)∧V.H.le V1.H∧XA V V1 (r.ns.map kv) [] 1∧OwnSl 3 SCast.cells (.slice r.a r.cs.length r.c) r.cs r.ob∧CastI p role (p.roles.take k.toNat) V.tm.length r.cs r.ns V1.oN∧r.cs.length≤k.toNat) (μ:=fun k=>(p.roles.length - k).toNat) 0 V11 ⟨[],[],none,0,[]⟩ ky (⟨by simpa using hW11,o2q,hle11,by simpa using hA11,.nil,.nil,by simp⟩) (fun w hw=>hw) (fun k V1 r hI=>?_)
 obtain⟨hI1,⟨k0,k1⟩,hI3,hI4,hI5,hI6,hI7⟩:=hI
 replace hro:=hp.r.le hI3
 refine oU ?_;refine TL.run (ah rfl rfl hro) rfl (zm1 ?_)
 refine ag rfl ?_ ?_<;>intro c22
 ·
  obtain⟨rr,hrx⟩:=ao (l:=p.roles) k0 c22
  have hrr:=hG.rl (List.mem_of_getElem? hrx)
  refine gj ?_;refine gX ?_;refine zm0 ?_;refine TL.run (ae rfl hro rfl om om) rfl (TL.run (aQ hro hrx rfl rfl) rfl (ya ?_))
  refine aX rfl ?_ ?_<;>intro c31
  ·
   refine eH ?_;refine zm401 ?_;refine oZ ?_;refine t8 ?_;refine zm5 ?_;refine xw ?_
   refine aN (S1 (S1 SN)) (Hp.le.refl _) (fun _ _=>aQ hro hrx rfl rfl) rfl (aN (S1 (S1 SN)) (Hp.le.refl _) (fun _ _=>a7 rfl (.h1) rfl) rfl (t8 ?_));refine zm5 ?_;refine xw ?_
   refine aN (S1 (S1 SN)) (Hp.le.refl _) (fun _ _=>aQ hro hrx rfl rfl) rfl (gg ?_);refine aq (bH rfl) rfl (zm4 ?_)
   refine aK (aB rfl (.t2 (.past r.ob (.here _))) rfl) rfl (zE (ab rfl rfl rfl rfl) (kj p rr om om) rfl (aw rfl (sX (X:=[(b7,_),(b4,_)]) (O:=r.ob) (x:=(F.bw,_)) (bd:=F.bd) rfl (ab rfl rfl rfl rfl) (bq 4 om hI1.d) rfl (fun v51 H51 at51 hle51 hd51 hp51=>?_))))
   obtain⟨rfl,r51,rfl,hr51⟩:=hp51
   refine az (S1 (S1 SN)) (Hp.le.refl _) (aw rfl (cI (F:=F) (V:={V1 with at_:=at51}) (m:=m+1+k.toNat) [(b7,_),(b4,_)] r.ob rfl rfl (ab rfl rfl rfl rfl) (eS _) (hI1.dice (.refl _) hd51) om rfl (fun v52 V52 hle52 hW52 hp52=>?_)))
   dsimp only at hle52 hp52
   obtain⟨rfl,hA52⟩:=hp52
   replace hA52:XA V1 V52 _ _ _:=⟨hA52.tm,hA52.st,hA52.nm,hA52.rm,hA52.nn⟩
   refine az (S1 (S1 SN)) hle52 (aF rfl rfl rfl rfl (fun b53=>?_))
   refine dZ ?_
   refine aF rfl rfl rfl rfl (fun b55=>?_)
   refine aw rfl (aM (rY [(b55,_)] [(b7,_),(b4,_)] r.ob [(F.bw,_),(F.bd,_)] _ _ _ _) (TL.append (enc:=SCast.cells) rfl rfl rfl hI5 (Src.own [⟨rr,p.name++rr,[(V1.tm.length:Int)],(some ⟨b53,0,none⟩,1)⟩] (.here _) rfl rfl) (by simp only [List.length_cons,List.length_nil];omega) rfl (.s3 (.app _)) rfl (fun a56 c56 ob56 hO56=>?_)))
   refine az (S0 (S1 (S1 SN))) hle52 (fu ?_);refine jY ?_;refine qI ?_
   have hA9:XA V {V52 with oN:=(b53,[.int .i64 (V1.tm.length:Int)])::V52.oN} ((r.ns++[r51]).map kv) [] 1:=by
    have h:=(hI4.trans hA52).pile (N:=(b53,[.int .i64 (V1.tm.length:Int)])::V52.oN) (fun p hp=>List.mem_cons_of_mem _ hp)
    rw [List.map_append];exact h
   have hC9:CastI p role (p.roles.take (k+1).toNat) V.tm.length (r.cs++[⟨rr,p.name++rr,[(V1.tm.length:Int)],(some ⟨b53,0,none⟩,1)⟩]) (r.ns++[r51]) ((b53,[.int .i64 (V1.tm.length:Int)])::V52.oN):=by
    rw [jx k0 hrx]
    exact hI6.add c31 (by have:=hI4.tl;rw [List.length_map] at this;omega) (fun x hx=>List.mem_cons_of_mem _ (hA52.nn x hx)) (List.mem_cons_self ..) rfl
   exact gc (k+1) ({V52 with oN:=(b53,[.int .i64 (V1.tm.length:Int)])::(V52).oN}) ⟨r.cs++[(⟨rr,p.name++rr,[(V1.tm.length:Int)],(some ⟨b53,0,none⟩,1)⟩:SCast)],r.ns++[r51],a56,c56,ob56⟩ (⟨hW52.pile.more om,o2q,hI3.trans hle52,hA9,hO56,hC9,by simp only [List.length_append,List.length_cons,List.length_nil];omega⟩) ky (fun w hw=>hw.drop) om
  refine gG ?_
  exact gc (k+1) V1 r (⟨hI1.more om,o2q,hI3,hI4,hI5,by rw [jx k0 hrx];exact hI6.skip c31,by omega⟩) ky (fun w hw=>hw) om
 refine ux ?_;refine fo ?_
 refine aM (ig [(b7,_),(b4,_)] [(F.bw,_),(F.bd,_)] _ _ _ r.ob) (aA (F:=F) (V:={V1 with oN:=r.ob++(V1).oN}) (m:=m+1+k.toNat) [(b7,_),(b4,_)] rfl rfl (ab rfl rfl rfl rfl) (fe ⟨8,vnm (V.names+1),role,p.name,[], -1,none,0,0,r.a,r.cs.length,r.c,none,0,0, -1⟩) hI1.pile om rfl (fun v60 V60 hle60 hW60 hp60=>?_))
 dsimp only at hle60 hp60
 obtain⟨rfl,hA60⟩:=hp60
 have hN60:=hA60.nn
 dsimp only at hN60
 replace hA60:XA V1 V60 _ _ _:=⟨hA60.tm,hA60.st,hA60.nm,hA60.rm,(fun p hp=>hN60 p (by first | exact List.mem_append_right _ hp | exact List.mem_cons_of_mem _ hp))⟩
 refine TL.nil (af (fL ?_));refine ei ?_
 exact bn (V':=V60) (X:=[(b7,_),(b4,_)]) (.inr rfl) (ad rfl (RVal.tmp rfl)) rfl rfl (hW60.more om) ⟨_,_,mT (vnm (V.names+1)) role p.name r.cs (r.a,r.c) ((V1.st.length:Int)+1),rfl,by have h:=hI4.trans hA60;rw [List.append_nil] at h;exact h,Mir.one rfl ⟨.nil,.own hI5 (fun x hx=>hN60 x (List.mem_append_left _ hx)),fun c hc=>(hI6.pl c hc).le (fun x hx=>hA60.nn x hx),.nil⟩,⟨rfl,rfl,by have:=hI4.sl;simp only [List.length_nil] at this;show(V1.st.length:Int)+1=_;omega,fun Γ hg=>DX hin hX hr (by have e:p.roles.take k.toNat=p.roles:=List.take_of_length_le om;rw [e] at hI6;exact hI6) (mx om om) hg,by have e:p.roles.take k.toNat=p.roles:=List.take_of_length_le om;rw [e] at hI6;have h1:=hI6.ln;have h2:=hI6.rl;have hf:=sM hX.nd hr;rw [← h2,List.length_map] at hf;rw [List.length_map];have:=hX.len;omega⟩⟩
end Go.Sx
namespace Go.Sx
open Go Go.Proofs
theorem re {F:Fx}{V:XV}{T:SLocal}(hG:TG F T)(hF:FXk F)(hTx:∀t∈T.turns,TGx T t)(turn arm deep:Int){K:Nat}(h0:0≤turn)(h1:turn<T.turns.length)(harm:∀t,T.turns[turn.toNat]? =some t→t.kind≠0∧0≤arm∧arm<t.arms.length)(ih:∀(V:XV) (turn:Int),0≤turn→turn<T.turns.length→WFx Tryz.prog F V 69 [.int .i64 turn,.int .i64 (deep+1)] K (fun v V1=>v= .tuple #[]∧∃us ss xs nm,0≤nm∧XA V V1 us ss nm∧Mir V1.oN ss xs∧BlkR F.ps (deep+1) V.room V.names V.st.length V.tm.length xs us))(hK:K≤9000000)(hdp:0≤deep∧deep≤4):
  WFx Tryz.prog F V 131 [.int .i64 turn,.int .i64 arm,.int .i64 deep] (K+20) (fun v V1=>∃us ss xs nm,v= .int .i64 (V.st.length:Int)∧0≤nm∧XA V V1 us ss nm∧Mir V1.oN ss xs∧SayR F.ps deep V.room V.names V.st.length V.tm.length xs us):=by
 refine WFx.enter Tryz.func131 Tryz.ntmps131 rfl rfl (fun m w0 hW hm=>?_)
 have hGg:=hG.g
 have hr1:=hG.r1
 have hr0:=hG.r0
 have hty:=hW.fx.ty
 have htk:=hW.fx.tk T (List.mem_of_getElem? hGg)
 have hts:=htk.t
 have htm:=hts.max
 obtain⟨t,htx⟩:=ao (l:=T.turns) h0 h1
 have hTt:=hG.ts t (List.mem_of_getElem? htx)
 have hta:=(htk.ts t (List.mem_of_getElem? htx)).a
 have ha6:=hTt.a6
 have ham:=hta.max
 have hKB:=hK
 obtain⟨hknd,q0,q1⟩:=harm t htx
 obtain⟨x,hax⟩:=ao (l:=t.arms) q0 q1
 have hxm:=List.mem_of_getElem? hax
 have hxn:=hTt.nx x hxm
 have hTxt:=hTx t (List.mem_of_getElem? htx)
 have hnm0:=hW.n0
 have hme0:=hW.me
 refine mo ?_;refine lG ?_;refine fV ?_;refine TL.run (ec rfl rfl) rfl (qH ?_);refine Dr ?_;refine t7 ?_;refine t7 ?_;refine aq (ae rfl hty rfl om om) rfl (zm4 ?_)
 refine aN (S1 (S1 SN)) (Hp.le.refl _) (fun _ _=>br hty hGg rfl rfl) rfl (zm5 ?_)
 refine aq (ae rfl hts rfl om om) rfl (aN (S1 (S1 SN)) (Hp.le.refl _) (fun _ _=>bg hts htx rfl rfl) rfl (TF.alloc rfl (fun b10=>?_)))
 refine ud ?_;refine TF.nil (af (o9 ?_));refine TL.run (ae rfl hta rfl om om) rfl (TL.run (bg hta hax rfl rfl) rfl (TL.alloc rfl (fun b11=>?_)))
 refine xf ?_;refine ay (ab rfl rfl rfl rfl) (cZ 4) rfl (TL.alloc rfl (fun b12=>?_))
 refine qN ?_;refine aT [false,true,true,true,true] [(0,1),(1,4),(2,1),(3,4),(4,1),(5,5),(6,1),(7,5),(8,1),(9,0)] kr kr (zm4 ?_)
 refine aN (S0 (S1 (S1 (S1 (S1 SN))))) (Hp.le.refl _) (fun _ _=>aB rfl (.h1) rfl) rfl (zm4 ?_)
 refine aN (S0 (S1 (S1 (S1 (S1 SN))))) (Hp.le.refl _) (fun _ _=>aB rfl (.here _) rfl) rfl (xg ?_);refine t6 ?_;refine xg ?_;refine t6 ?_;refine fu ?_;refine li ?_;refine k7 ?_
 refine TC.seq (gW ?_);refine iN ?_;refine yi ?_
 refine ag rfl ?_ ?_<;>intro c57
 ·
  refine TC.skip (bu (af (dM ?_)));refine fo ?_
  refine aA (F:=F) (V:=V) (m:=m) [(b12,_),(b11,_),(b10,_)] rfl rfl (ab rfl rfl rfl rfl) (fe ⟨4,[99],t.peer,x.label,[],(-1),none,0,0,none,0,0,none,0,0, -1⟩) hW om rfl (fun v78 V78 hle78 hW78 hp78=>?_)
  obtain⟨rfl,hA78⟩:=hp78
  have hL78:=hA78.sl
  simp only [List.length_cons,List.length_nil] at hL78
  refine iu ?_;refine iN ?_;refine uw ?_
  refine aA (F:=F) (V:=V78) (m:=m+1) [(b12,_),(b11,_),(b10,_)] rfl rfl (ab rfl rfl rfl rfl) (ih _ x.next hxn.1 hxn.2) hW78 om rfl (fun v84 V84 hle84 hW84 hp84=>?_)
  obtain⟨rfl,us84,ss84,xs84,nm84,hnm84,hA84,hM84,hB84⟩:=hp84
  refine xi ?_
  have hC:XA V V78 ([]:List Term) [{(⟨4,[99],t.peer,x.label,[],(-1),none,0,0,none,0,0,none,0,0, -1⟩:TStep) with next:=(V.st.length:Int)+1}] 0:=by
   have h:=hA78
   simp only [List.append_nil,List.nil_append] at h
   exact h
  have hc1:=hC.tl
  have hc2:=hC.sl
  have hc3:=hC.nm
  have hc4:=hC.rm
  simp only [List.length_append,List.length_cons,List.length_nil] at hc1 hc2 hc4
  have hM9:Mir V78.oN [{(⟨4,[99],t.peer,x.label,[],(-1),none,0,0,none,0,0,none,0,0, -1⟩:TStep) with next:=(V.st.length:Int)+1}] [ja t.peer x.label (-1) ((V.st.length:Int)+1)]:=Mir.one rfl ⟨.nil,.nil,(fun c hc=>by cases hc),.nil⟩
  have hS:SayR F.ps deep V.room V.names V.st.length V.tm.length ([ja t.peer x.label (-1) ((V.st.length:Int)+1)]++xs84) (([]:List Term)++us84):=by
   refine SayR.of (nm:=0) hB84 (by first | (simp only [List.length_cons,List.length_nil];omega) | (simp;omega)) om (by first | (simp only [List.length_cons,List.length_nil];omega) | (simp;omega)) (by first | (simp only [List.length_append,List.length_cons,List.length_nil];omega) | omega) sq sq (by first | (simp only [List.length_append,List.length_cons,List.length_nil];omega) | omega) (by first | (simp only [List.length_append,List.length_cons,List.length_nil];omega) | omega) ⟨hdp.1,hdp.2⟩ (fun Γ hG=>⟨Γ,hG.more om,fun d xs ts h=>?_⟩)
   exact u7 (DW (hTxt.peer hknd) (hTxt.lb x hxm) hG.c) rfl (by simp [ja]) rfl h
  exact bn (V':=V84) (X:=[(b12,_),(b11,_),(b10,_)]) (.inr rfl) (ad rfl (RVal.tmp rfl)) rfl rfl (hW84.more om) ⟨_,_,_,_,rfl,(by omega:(0:Int)≤0+nm84),hC.trans hA84,(hM9.le (fun q hq=>hA84.nn q hq)).app hM84,hS⟩
 refine f4 ?_
 refine ag rfl ?_ ?_<;>intro c59
 ·
  refine dM ?_;refine zm6 ?_;refine iN ?_
  refine aA (F:=F) (V:=V) (m:=m) [(b12,_),(b11,_),(b10,_)] rfl rfl (ab rfl rfl rfl rfl) (rc x.cn) hW om rfl (fun v66 V66 hle66 hW66 hp66=>?_)
  obtain⟨p,rr,rfl,hp66,hr66,eV66⟩:=hp66
  have hX:=hF.pr p hp66
  have hG_:=hW66.fx.pg p hp66
  have hrr:=hG_.rl hr66
  have hn1:=hG_.n1
  have hA66:XA V V66 [] [] 0:=by rw [eV66];exact⟨by simp,by simp,by simp,by simp,fun _ h=>h⟩
  refine xm ?_
  refine TL.alloc rfl (fun b13=>?_)
  refine gY ?_;refine zm1 ?_;refine jZ ?_;refine fo ?_;refine zm0 ?_
  refine aA (F:=F) (V:=V66) (m:=m+0) [(b13,_),(b12,_),(b11,_),(b10,_)] rfl rfl (ab rfl rfl rfl rfl) (uH p rr (hW66.fx.pk p hp66) hG_ hX hp66 hr66) hW66 om rfl (fun v73 V73 hle73 hW73 hp73=>?_)
  obtain⟨ts73,s73,x73,rfl,hA73,hM73,hO73⟩:=hp73
  refine aA (F:=F) (V:=V73) (m:=m+0+12) [(b13,_),(b12,_),(b11,_),(b10,_)] rfl rfl (ab rfl rfl rfl rfl) (cC (vnm (V66.names+1))) hW73 om rfl (fun v74 V74 hle74 hW74 hp74=>?_)
  obtain⟨rfl,hA74⟩:=hp74
  have hL74:=hA74.tl
  simp only [List.length_cons,List.length_nil] at hL74
  refine xX ?_;refine TL.nil (bu (af (dM ?_)))
  refine TL.run (a7 rfl (.h1) rfl) rfl (aA (F:=F) (V:=V74) (m:=m+0+12+1) [(b13,_),(b12,_),(b11,_),(b10,_)] rfl rfl (ab rfl rfl rfl rfl) (fe ⟨4,[99],t.peer,x.label,[],(V73.tm.length:Int),none,0,0,none,0,0,none,0,0, -1⟩) hW74 om rfl (fun v78 V78 hle78 hW78 hp78=>?_))
  obtain⟨rfl,hA78⟩:=hp78
  have hL78:=hA78.sl
  simp only [List.length_cons,List.length_nil] at hL78
  refine iu ?_;refine md ?_;refine uw ?_
  refine aA (F:=F) (V:=V78) (m:=m+0+12+1+1) [(b13,_),(b12,_),(b11,_),(b10,_)] rfl rfl (ab rfl rfl rfl rfl) (ih _ x.next hxn.1 hxn.2) hW78 om rfl (fun v84 V84 hle84 hW84 hp84=>?_)
  obtain⟨rfl,us84,ss84,xs84,nm84,hnm84,hA84,hM84,hB84⟩:=hp84
  refine xi ?_
  have hC:XA V V78 (ts73++[(⟨0,vnm (V66.names+1),0,[], -1, -1⟩:Term)]) [s73,{(⟨4,[99],t.peer,x.label,[],(V73.tm.length:Int),none,0,0,none,0,0,none,0,0, -1⟩:TStep) with next:=(V74.st.length:Int)+1}] 1:=by
   have h:=(hA66.trans (hA73.trans (hA74.trans (hA78))))
   simp only [List.nil_append,List.append_nil] at h
   exact h
  have hc1:=hC.tl
  have hc2:=hC.sl
  have hc3:=hC.nm
  have hc4:=hC.rm
  simp only [List.length_append,List.length_cons,List.length_nil] at hc1 hc2 hc4
  have hM9:Mir V78.oN [s73,{(⟨4,[99],t.peer,x.label,[],(V73.tm.length:Int),none,0,0,none,0,0,none,0,0, -1⟩:TStep) with next:=(V74.st.length:Int)+1}] [x73,ja t.peer x.label (V73.tm.length:Int) ((V74.st.length:Int)+1)]:=(hM73.le (fun q hq=>hA78.nn q (hA74.nn q hq))).app (Mir.one rfl ⟨.nil,.nil,(fun c hc=>by cases hc),.nil⟩)
  have e66:V66.tm.length=V.tm.length∧V66.st.length=V.st.length∧V66.names=V.names:=by have h1:=hA66.tl;have h2:=hA66.sl;have h3:=hA66.nm;simp only [List.length_nil] at h1 h2;exact⟨h1,h2,by omega⟩
  have e73:V73.tm.length=V.tm.length+ts73.length∧V74.st.length=V.st.length+1:=by have h1:=hA73.tl;have h2:=hA73.sl;have h3:=hA74.sl;simp only [List.length_cons,List.length_nil] at h2 h3;omega
  have hln:=hO73.ln
  rw [e66.1,e66.2.1,e66.2.2] at hO73
  have hS:SayR F.ps deep V.room V.names V.st.length V.tm.length ([x73,ja t.peer x.label (V73.tm.length:Int) ((V74.st.length:Int)+1)]++xs84) ((ts73++[(⟨0,vnm (V66.names+1),0,[], -1, -1⟩:Term)])++us84):=by
   refine SayR.of (nm:=1) hB84 (by first | (simp only [List.length_cons,List.length_nil];omega) | (simp;omega)) om (by first | (simp only [List.length_cons,List.length_nil];omega) | (simp;omega)) (by first | (simp only [List.length_append,List.length_cons,List.length_nil];omega) | omega) sq sq (by first | (simp only [List.length_append,List.length_cons,List.length_nil];omega) | omega) (by first | (simp only [List.length_append,List.length_cons,List.length_nil];omega) | omega) ⟨hdp.1,hdp.2⟩ (fun Γ hG=>⟨Γ++[vnm (V.names+1)],hG.add om om,fun d xs ts h=>?_⟩)
   rw [List.append_assoc]
   refine hO73.go (hG.v.new om om) (u7 (yH om (hTxt.peer hknd) (hTxt.lb x hxm) (List.mem_append_left _ hG.c) ((dC (mx om om) (by rw [e66.2.2];exact List.mem_append_right _ (List.mem_singleton.2 rfl))).ts _) dq) rfl (by simp [ja]) (by show(V74.st.length:Int)+1=_;omega) ?_)
   simp only [List.length_append,List.length_cons,List.length_nil,← Nat.add_assoc,Nat.add_zero,Nat.zero_add] at h ⊢;exact h
  exact bn (V':=V84) (X:=[(b13,_),(b12,_),(b11,_),(b10,_)]) (.inr rfl) (ad rfl (RVal.tmp rfl)) rfl rfl (hW84.more om) ⟨_,_,_,_,rfl,(by omega:(0:Int)≤1+nm84),hC.trans hA84,(hM9.le (fun q hq=>hA84.nn q hq)).app hM84,hS⟩
 refine iX ?_;refine zm6 ?_;refine iN ?_
 refine aA (F:=F) (V:=V) (m:=m) [(b12,_),(b11,_),(b10,_)] rfl rfl (ab rfl rfl rfl rfl) (DE x.ck) hW om rfl (fun v55 V55 hle55 hW55 hp55=>?_)
 obtain⟨i55,ts55,rfl,hi55,hg55,hA55⟩:=hp55
 refine o6 ?_;refine bu (af (dM ?_));refine fo ?_
 refine aA (F:=F) (V:=V55) (m:=m+3) [(b12,_),(b11,_),(b10,_)] rfl rfl (ab rfl rfl rfl rfl) (fe ⟨4,[99],t.peer,x.label,[],i55,none,0,0,none,0,0,none,0,0, -1⟩) hW55 om rfl (fun v78 V78 hle78 hW78 hp78=>?_)
 obtain⟨rfl,hA78⟩:=hp78
 have hL78:=hA78.sl
 simp only [List.length_cons,List.length_nil] at hL78
 refine iu ?_;refine iN ?_;refine uw ?_
 refine aA (F:=F) (V:=V78) (m:=m+3+1) [(b12,_),(b11,_),(b10,_)] rfl rfl (ab rfl rfl rfl rfl) (ih _ x.next hxn.1 hxn.2) hW78 om rfl (fun v84 V84 hle84 hW84 hp84=>?_)
 obtain⟨rfl,us84,ss84,xs84,nm84,hnm84,hA84,hM84,hB84⟩:=hp84
 refine xi ?_
 have hC:XA V V78 ts55 [{(⟨4,[99],t.peer,x.label,[],i55,none,0,0,none,0,0,none,0,0, -1⟩:TStep) with next:=(V55.st.length:Int)+1}] 0:=by
  have h:=(hA55.trans (hA78))
  simp only [List.append_nil,List.nil_append] at h
  exact h
 have hc1:=hC.tl
 have hc2:=hC.sl
 have hc3:=hC.nm
 have hc4:=hC.rm
 simp only [List.length_append,List.length_cons,List.length_nil] at hc1 hc2 hc4
 have hM9:Mir V78.oN [{(⟨4,[99],t.peer,x.label,[],i55,none,0,0,none,0,0,none,0,0, -1⟩:TStep) with next:=(V55.st.length:Int)+1}] [ja t.peer x.label i55 ((V55.st.length:Int)+1)]:=Mir.one rfl ⟨.nil,.nil,(fun c hc=>by cases hc),.nil⟩
 have hln:=hg55.n3
 have hS:SayR F.ps deep V.room V.names V.st.length V.tm.length ([ja t.peer x.label i55 ((V55.st.length:Int)+1)]++xs84) (ts55++us84):=by
  refine SayR.of (nm:=0) hB84 (by first | (simp only [List.length_cons,List.length_nil];omega) | (simp;omega)) om (by first | (simp only [List.length_cons,List.length_nil];omega) | (simp;omega)) (by first | (simp only [List.length_append,List.length_cons,List.length_nil];omega) | omega) sq sq (by first | (simp only [List.length_append,List.length_cons,List.length_nil];omega) | omega) (by first | (simp only [List.length_append,List.length_cons,List.length_nil];omega) | omega) ⟨hdp.1,hdp.2⟩ (fun Γ hG=>⟨Γ,hG.more om,fun d xs ts h=>?_⟩)
  exact u7 (yH (by have:=hg55.n1;omega) (hTxt.peer hknd) (hTxt.lb x hxm) hG.c (hg55.up hG.m) dq) rfl (by simp [ja]) (by have h55:=hA55.sl;simp only [List.length_nil] at h55;show(V55.st.length:Int)+1=_;omega) h
 exact bn (V':=V84) (X:=[(b12,_),(b11,_),(b10,_)]) (.inr rfl) (ad rfl (RVal.tmp rfl)) rfl rfl (hW84.more om) ⟨_,_,_,_,rfl,(by omega:(0:Int)≤0+nm84),hC.trans hA84,(hM9.le (fun q hq=>hA84.nn q hq)).app hM84,hS⟩
end Go.Sx
namespace Go.Sx
open Go Go.Proofs
theorem DB {F:Fx}{V:XV}(hF:FXk F)(s:Str)(hs:au s=true)(ck:Int)(cn:Str):
  WFx Tryz.prog F V 178 [gs s,.agg #[.int .i64 ck,gs cn]] 12 (fun v V1=>∃us ss ys,v= .tuple #[]∧XA V V1 us ss 0∧Mir V1.oN ss ys∧ys.length≤1∧us.length≤2 * ys.length∧∀Γ,s∈Γ→Pre F.ps V.st.length V.tm.length ys us Γ):=by
 refine WFx.enter Tryz.func178 Tryz.ntmps178 rfl rfl (fun m w0 hW hm=>?_)
 refine zm2 ?_
 refine TL.box rfl rfl (fun b5=>?_)
 refine TL.nil (af (TC.seq (qm ?_)))
 refine aX rfl ?_ ?_<;>intro c13
 ·
  refine jR ?_;refine ue ?_
  refine aE (X:=[(b5,_),(F.bw,_)]) (bd:=F.bd) rfl (ab rfl rfl rfl rfl) (bq 3 om hW.d) rfl (fun v18 H18 at18 hle18 hd18 hp18=>?_)
  obtain⟨rfl,r18,rfl,hr18⟩:=hp18
  refine zm1 ?_
  refine ag rfl ?_ ?_<;>intro c19
  ·
   refine zm2 ?_;refine ay (ab rfl rfl rfl rfl) (cZ 2) rfl (TL.alloc rfl (fun b6=>?_))
   refine fb ?_;refine eh ?_
   refine aA (F:=F) (V:={V with at_:=at18}) (m:=m) [(b6,_),(b5,_)] rfl rfl (ab rfl rfl rfl rfl) (cC s) (hW.dice (.refl _) hd18) om rfl (fun v23 V23 hle23 hW23 hp23=>?_)
   dsimp only at hle23 hp23
   obtain⟨rfl,hA23⟩:=hp23
   replace hA23:XA V V23 _ _ _:=⟨hA23.tm,hA23.st,hA23.nm,hA23.rm,hA23.nn⟩
   have hL23:=hA23.tl
   simp only [List.length_cons,List.length_nil] at hL23
   refine qo ?_;refine iX ?_;refine fo ?_
   refine aA (F:=F) (V:=V23) (m:=m+1) [(b6,_),(b5,_)] rfl rfl (ab rfl rfl rfl rfl) (fe ⟨2,[],[],[],[],(V.tm.length:Int),none,0,0,none,0,0,none,0,0, -1⟩) hW23 om rfl (fun v27 V27 hle27 hW27 hp27=>?_)
   obtain⟨rfl,hA27⟩:=hp27
   have hL27:=hA27.sl
   simp only [List.length_cons,List.length_nil] at hL27
   refine TL.nil (af (TC.ret (aI ?_)))
   exact bn (V':=V27) (X:=[(b6,_),(b5,_)]) (.inr rfl) (ce rfl) rfl rfl (hW27.more om) ⟨[⟨0,s,0,[], -1, -1⟩],_,[iP (V.tm.length:Int) ((V23.st.length:Int)+1)],rfl,by have h:=(hA23.trans (hA27));exact h,Mir.one rfl ⟨.nil,.nil,(fun c hc=>by cases hc),.nil⟩,Nat.le_refl _,by simp,fun Γ hΓ=>Pre.one 2 (u5 (dC hs hΓ)) rfl dq dq (by have:=hA23.sl;simp only [List.length_nil] at this;show(V23.st.length:Int)+1=_;omega)⟩
  refine cV ?_
  exact TC.ret (aI (bn (V':={V with at_:=at18}) (X:=[(b5,_)]) (.inr rfl) (ce rfl) rfl rfl ((hW.dice (.refl _) hd18).more om) ⟨[],[],[],rfl,⟨by simp,by simp,by simp,by simp,fun _ h=>h⟩,.nil,Nat.zero_le _,Nat.zero_le _,fun Γ hΓ=>.nil⟩))
 refine jo ?_;refine dM ?_;refine ue ?_
 refine aE (X:=[(b5,_),(F.bw,_)]) (bd:=F.bd) rfl (ab rfl rfl rfl rfl) (bq 3 om hW.d) rfl (fun v32 H32 at32 hle32 hd32 hp32=>?_)
 obtain⟨rfl,r32,rfl,hr32⟩:=hp32
 refine zm1 ?_
 refine ag rfl ?_ ?_<;>intro c33
 ·
  refine zm2 ?_;refine ay (ab rfl rfl rfl rfl) (cZ 9) rfl (TL.alloc rfl (fun b7=>?_))
  refine fb ?_;refine dM ?_;refine qD ?_;refine fo ?_
  refine aA (F:=F) (V:={V with at_:=at32}) (m:=m) [(b7,_),(b5,_)] rfl rfl (ab rfl rfl rfl rfl) (fe ⟨9,s,[],[],[], -1,none,0,0,none,0,0,none,0,0, -1⟩) (hW.dice (.refl _) hd32) om rfl (fun v39 V39 hle39 hW39 hp39=>?_)
  dsimp only at hle39 hp39
  obtain⟨rfl,hA39⟩:=hp39
  replace hA39:XA V V39 _ _ _:=⟨hA39.tm,hA39.st,hA39.nm,hA39.rm,hA39.nn⟩
  have hL39:=hA39.sl
  simp only [List.length_cons,List.length_nil] at hL39
  refine TL.nil (af (TC.ret (aI ?_)))
  exact bn (V':=V39) (X:=[(b7,_),(b5,_)]) (.inr rfl) (ce rfl) rfl rfl (hW39.more om) ⟨[],_,[pK s ((V.st.length:Int)+1)],rfl,by have h:=hA39;exact h,Mir.one rfl ⟨.nil,.nil,(fun c hc=>by cases hc),.nil⟩,Nat.le_refl _,by simp,fun Γ hΓ=>Pre.one 9 (yI hs hΓ) rfl dq dq rfl⟩
 refine lq ?_;refine fV ?_
 refine aA (F:=F) (V:={V with at_:=at32}) (m:=m) [(b5,_)] rfl rfl (ab rfl rfl rfl rfl) (rc cn) (hW.dice (.refl _) hd32) om rfl (fun v44 V44 hle44 hW44 hp44=>?_)
 dsimp only at hle44 hp44
 obtain⟨p,rr,rfl,hp44,hr44,eV44⟩:=hp44
 have hX:=hF.pr p hp44
 have hG_:=hW44.fx.pg p hp44
 have hrr:=hG_.rl hr44
 have hn1:=hG_.n1
 have hA44:XA V V44 [] [] 0:=by rw [eV44];exact⟨by simp,by simp,by simp,by simp,fun _ h=>h⟩
 refine xm ?_
 refine TL.alloc rfl (fun b8=>?_)
 refine gY ?_;refine xP ?_;refine ay (ab rfl rfl rfl rfl) (cZ 7) rfl (TL.alloc rfl (fun b10=>?_))
 refine fb ?_;refine mp ?_;refine zm0 ?_;refine Dq ?_;refine qo ?_;refine nA ?_
 refine TD.part 7 2 rfl rfl rfl ?_ ?_
 ·
  refine Dp ?_;refine tM ?_;refine tZ ?_
  refine aw rfl (aA (F:=F) (V:=V44) (m:=m+0) [(b10,_),(b8,_),(b5,_)] rfl rfl (ab rfl rfl rfl rfl) (cC s) hW44 om rfl (fun v54 V54 hle54 hW54 hp54=>?_))
  obtain⟨rfl,hA54⟩:=hp54
  have hL54:=hA54.tl
  simp only [List.length_cons,List.length_nil] at hL54
  exact az (S1 (S1 (S1 SN))) hle54 (zq817)
 refine Do ?_;refine xj ?_
 refine aA (F:=F) (V:=V44) (m:=m+0) [(b10,_),(b8,_),(b5,_)] rfl rfl (ab rfl rfl rfl rfl) (cC s) hW44 om rfl (fun v54 V54 hle54 hW54 hp54=>?_)
 obtain⟨rfl,hA54⟩:=hp54
 have hL54:=hA54.tl
 simp only [List.length_cons,List.length_nil] at hL54
 refine az (S1 (S1 (S1 SN))) hle54 (tZ ?_)
 exact zq817
end Go.Sx
