import Derived.Test.YtjnlogbbcceaoaaGreatE18
set_option linter.all false
set_option maxRecDepth 100000
set_option maxHeartbeats 32000000
namespace Go.Sx
open Go
def gA (P:SProg)(s:Str):Int:=bS (P.protos.map (·.name)) s
theorem Bl (P:SProg)(s:Str):gA P s= -1∨(0≤gA P s∧gA P s<P.protos.length):=by
 have:=kp (P.protos.map (·.name)) s
 rwa [List.length_map] at this
theorem uG {s:SStep}:∀(l:List SProto),fe s l=if bS (l.map (·.name)) s.label<0 then false else match l[(bS (l.map (·.name)) s.label).toNat]? with
  | some x=>eW x s
  | none=>false
 | []=>by simp [fe,bS]
 | x::r=>by
  rw [fe,List.map_cons]
  unfold bS
  by_cases hx:x.name=s.label
  ·rw [if_pos hx,if_pos hx];rfl
  ·rw [if_neg hx,if_neg hx,uG r]
   by_cases h:bS (r.map (·.name)) s.label<0
   ·rw [if_pos h,if_pos h,if_pos om]
   ·rw [if_neg h,if_neg h,if_neg om,show(bS (r.map (·.name)) s.label+1).toNat=(bS (r.map (·.name)) s.label).toNat+1 by omega]
    rfl
theorem pf {P:SProg}{s:SStep}(h:gA P s.label<0):dx P s=false:=by
 unfold dx;rw [uG];exact if_pos h
theorem dW {P:SProg}{s:SStep}{x:SProto}(h:¬gA P s.label<0)(hx:P.protos[(gA P s.label).toNat]? =some x):dx P s=eW x s:=by
 unfold dx;rw [uG]
 refine(if_neg h).trans ?_
 show(match P.protos[(gA P s.label).toNat]? with | some x=>eW x s | none=>false)=_
 rw [hx]
def wj (q:SProc)(k:Nat):List Str:=((q.params.take k).map (·.name)).foldl ja []
theorem GC {q:SProc}{k:Int}{x:SParam}(k0:0≤k)(hx:q.params[k.toNat]? =some x):ja (wj q k.toNat) x.name=wj q (k+1).toNat:=by
 unfold wj;rw [bv k0 hx,List.foldl_append];rfl
theorem Jq (q:SProc)(k:Nat):(wj q k).length≤k:=by
 have:=gZ ((q.params.take k).map (·.name)) []
 unfold wj
 simp only [List.length_map,List.length_take,List.length_nil] at this
 omega
theorem Jr {q:SProc}{k:Int}(k0:0≤k)(hk:¬k<q.params.length):wj q k.toNat=(q.params.map (·.name)).foldl ja []:=by
 unfold wj;rw [aX hk k0]
def oS (s:SStep)(i:Int)(m:Nat):List Str:=((s.ways.take m).filter (wbF i)).map (·.name)
theorem HD {s:SStep}{i m:Int}{w:SWay}(m0:0≤m)(hw:s.ways[m.toNat]? =some w)(h:wbF i w=true):oS s i (m+1).toNat=oS s i m.toNat++[w.name]:=by
 unfold oS;rw [bi m0 hw,List.filter_append,List.map_append];simp [h]
theorem HE {s:SStep}{i m:Int}{w:SWay}(m0:0≤m)(hw:s.ways[m.toNat]? =some w)(h:wbF i w=false):oS s i (m+1).toNat=oS s i m.toNat:=by
 unfold oS;rw [bi m0 hw,List.filter_append,List.map_append];simp [h]
theorem AW (s:SStep)(i:Int)(m:Nat):(oS s i m).length≤m:=by
 unfold oS
 rw [List.length_map]
 exact Nat.le_trans (List.length_filter_le _ _) (by rw [List.length_take];omega)
def sb1 (s:SStep):List Str:=if s.kind=1∨s.kind=8 then [s.name] else []
theorem If {s:SStep}{i m:Int}(m0:0≤m)(h:(decide (s.kind=5)&&decide (m<s.ways.length))=false)(hz:¬s.kind=5→m=0):cK s i=sb1 s++oS s i m.toNat:=by
 unfold cK sb1 oS
 congr 1
 by_cases h5:s.kind=5
 ·rw [if_pos h5]
  rw [decide_eq_true h5,Bool.true_and,decide_eq_false_iff_not] at h
  rw [aX h m0]
 ·rw [if_neg h5,hz h5];rfl
theorem Cr {q:SProc}{up:List Int}{f:Nat}{i:Int}{acc B:List Str}{s:SStep}(hi:0<i)(hs:q.steps[(aP up i).toNat]? =some s)(h:B=vC q up (f+1) i acc):B=vC q up f (aP up i) ((cK s i).foldl ja acc):=by
 rw [h,vC,if_neg om,hs]
theorem bnd_end {q:SProc}{up:List Int}{f:Nat}{i:Int}{acc B:List Str}(hi:¬0<i)(h:B=vC q up f i acc):B=acc:=by
 rw [h]
 cases f with
 | zero=>rfl
 | succ f=>rw [vC,if_pos om]
theorem nz (s:SStep)(i:Int)(h:s.ways.length≤7):(cK s i).length≤8:=by
 unfold cK
 have:((if s.kind=5 then(s.ways.filter (wbF i)).map (·.name) else []):List Str).length≤7:=by
  split
  ·rw [List.length_map];exact Nat.le_trans (List.length_filter_le _ _) h
  ·simp
 rw [List.length_append]
 split<;>simp<;>omega
def lD (ts:List Term)(s:SStep)(k:Nat):List Str:=(((bV s).take k).flatMap (fI ts)).foldl ja (lE s)
theorem CQ {ts:List Term}{s:SStep}{k:Int}{x:Int}(k0:0≤k)(hx:(bV s)[k.toNat]? =some x):(fI ts x).foldl ja (lD ts s k.toNat)=lD ts s (k+1).toNat:=by
 unfold lD;rw [bi k0 hx,List.flatMap_append,List.foldl_append];simp
theorem Fi {ts:List Term}{s:SStep}{k:Int}(k0:0≤k)(hk:¬k<(bV s).length):lD ts s k.toNat=gc ts s:=by
 unfold lD gc;rw [aX hk k0]
theorem xv {ts:List Term}{x:Int}:(fI ts x).length≤ts.length:=by
 unfold fI
 split
 ·simp
 ·exact xw _ _ _
theorem mf {α β:Type}{f:α→List β}{n:Nat}:∀(l:List α),(∀x∈l,(f x).length≤n)→(l.flatMap f).length≤n * l.length
 | [],_=>by simp
 | x::r,h=>by
  have h1:=h x sq
  have h2:=mf r (fun y hy=>h y (by simp [hy]))
  rw [List.flatMap_cons,List.length_append,List.length_cons,Nat.mul_succ];omega
theorem Fj (s:SStep):(lE s).length≤1:=by unfold lE;split<;>simp
theorem xx {ts:List Term}{s:SStep}{k:Nat}(h:ts.length≤160):(lD ts s k).length≤160 * k+1:=by
 have h1:=gZ (((bV s).take k).flatMap (fI ts)) (lE s)
 have h2:=mf (f:=fI ts) (n:=ts.length) ((bV s).take k) (fun x _=>xv)
 have h3:=Fj s
 have h4:((bV s).take k).length≤k:=by rw [List.length_take];omega
 have h5:ts.length * ((bV s).take k).length≤160 * k:=Nat.mul_le_mul h h4
 unfold lD;omega
theorem Fh {ts:List Term}{s:SStep}(h:ts.length≤160)(hr:(bV s).length≤100):(gc ts s).length≤16001:=by
 have:=xx (ts:=ts) (s:=s) (k:=(bV s).length) h
 unfold lD at this
 rw [List.take_length] at this
 unfold gc;omega
theorem xN {s:SStep}(h:s.args.length≤6∧s.casts.length≤4∧∀c∈s.casts,c.args.length≤6):(bV s).length≤31:=by
 have h1:=mf (f:=fun c:SCast=>c.args) (n:=6) s.casts h.2.2
 have h2:=yV s
 rw [← lL,List.length_append]
 have h3:(s.casts.flatMap fun x=>x.args).length≤6 * s.casts.length:=h1
 omega
def rB1 (s:SStep):List Str:=if s.kind=1∨s.kind=8 then [s.name] else []
def neN (w:SWay):Bool:=!decide (w.name=[])
theorem xT {s:SStep}{k:Int}{w:SWay}(k0:0≤k)(hx:s.ways[k.toNat]? =some w)(h:¬w.name=[]):rB1 s++((s.ways.take (k+1).toNat).filter neN).map (·.name)=(rB1 s++((s.ways.take k.toNat).filter neN).map (·.name))++[w.name]:=by
 rw [bi k0 hx,List.filter_append,List.map_append,List.append_assoc];simp [neN,h]
theorem xU {s:SStep}{k:Int}{w:SWay}(k0:0≤k)(hx:s.ways[k.toNat]? =some w)(h:w.name=[]):rB1 s++((s.ways.take (k+1).toNat).filter neN).map (·.name)=rB1 s++((s.ways.take k.toNat).filter neN).map (·.name):=by
 rw [bi k0 hx,List.filter_append,List.map_append];simp [neN,h]
theorem Iu {s:SStep}{k:Int}(k0:0≤k)(hk:¬k<s.ways.length):rB1 s++((s.ways.take k.toNat).filter neN).map (·.name)=eS s:=by
 rw [aX hk k0];rfl
theorem C5 (s:SStep):(eS s).length≤1+s.ways.length:=by
 unfold eS
 have:=List.length_filter_le (fun w:SWay=>!decide (w.name=[])) s.ways
 rw [List.length_append,List.length_map]
 split<;>simp<;>omega
section
variable {P:SProg}{ts:List Term}{s:SStep}{hv:List Str}
theorem FN (h1:(gc ts s).all (fun n=>bI hv n)=false):er P ts s hv=1505:=by unfold er;rw [if_pos h1]
theorem FM (h1:(gc ts s).all (fun n=>bI hv n)=true)(h2:(eS s).all (fun n=>!bI hv n)=false):er P ts s hv=1506:=by unfold er;rw [if_neg (by rw [h1];decide),if_pos h2]
theorem FL (h1:(gc ts s).all (fun n=>bI hv n)=true)(h2:(eS s).all (fun n=>!bI hv n)=true)(h3:(callK s.kind&& !bL P.procs s.proc s.args.length)=true):er P ts s hv=1507:=by unfold er;rw [if_neg (by rw [h1];decide),if_neg (by rw [h2];decide),if_pos h3]
theorem FK (h1:(gc ts s).all (fun n=>bI hv n)=true)(h2:(eS s).all (fun n=>!bI hv n)=true)(h3:(callK s.kind&& !bL P.procs s.proc s.args.length)=false)(h4:s.casts.all (fun c=>bL P.procs c.proc (c.args.length+1))=false):er P ts s hv=1507:=by unfold er;rw [if_neg (by rw [h1];decide),if_neg (by rw [h2];decide),if_neg (by rw [h3];decide),if_pos h4]
theorem FJ (h1:(gc ts s).all (fun n=>bI hv n)=true)(h2:(eS s).all (fun n=>!bI hv n)=true)(h3:(callK s.kind&& !bL P.procs s.proc s.args.length)=false)(h4:s.casts.all (fun c=>bL P.procs c.proc (c.args.length+1))=true)(h5:(decide (s.kind=8)&& !dx P s)=true):er P ts s hv=1508:=by
 unfold er;rw [if_neg (by rw [h1];decide),if_neg (by rw [h2];decide),if_neg (by rw [h3];decide),if_neg (by rw [h4];decide),if_pos h5]
theorem FI (h1:(gc ts s).all (fun n=>bI hv n)=true)(h2:(eS s).all (fun n=>!bI hv n)=true)(h3:(callK s.kind&& !bL P.procs s.proc s.args.length)=false)(h4:s.casts.all (fun c=>bL P.procs c.proc (c.args.length+1))=true)(h5:(decide (s.kind=8)&& !dx P s)=false):er P ts s hv=0:=by
 unfold er;rw [if_neg (by rw [h1];decide),if_neg (by rw [h2];decide),if_neg (by rw [h3];decide),if_neg (by rw [h4];decide),if_neg (by rw [h5];decide)]
end
section
variable {P:SProg}{q:SProc}{i k:Int}{s:SStep}{F:SFault}
theorem Ii (k0:0≤k)(hx:q.steps[k.toNat]? =some s)(he:¬er P q.terms s (iR q (gC q) k)=0)(h:F=fo P q i (q.steps.drop k.toNat) k):F=⟨er P q.terms s (iR q (gC q) k),i,k⟩:=by
 rw [h,bj hx,fo,if_pos he]
theorem rn_next (k0:0≤k)(hx:q.steps[k.toNat]? =some s)(he:er P q.terms s (iR q (gC q) k)=0)(h:F=fo P q i (q.steps.drop k.toNat) k):F=fo P q i (q.steps.drop (k+1).toNat) (k+1):=by
 rw [h,bj hx,fo,if_neg (by simpa using he),show(k+1).toNat=k.toNat+1 by omega]
theorem rn_end (k0:0≤k)(hk:¬k<q.steps.length)(h:F=fo P q i (q.steps.drop k.toNat) k):F=okF:=by
 rw [h,List.drop_of_length_le om];rfl
end
theorem Cg {l:List SProc}:∀(r:List SProc) (i:Int),(cB (bf l) r i).e=0→∀q∈r,RefOk q
 | [],_,_,q,hq=>by cases hq
 | x::r,i,h,q,hq=>by
  rw [cB] at h
  split at h
  ·rename_i h1;exact absurd h h1
  ·rename_i h1
   rcases List.mem_cons.1 hq with rfl | hq
   ·exact yU (by simpa using h1)
   ·exact Cg r (i+1) h q hq
theorem Dt {x:SPoint}(he:ez x=false):eu x=⟨1,x.to,x.arms,x.ap⟩:=by
 unfold eu
 rw [if_pos]
 unfold ez at he
 simp only [Bool.and_eq_false_iff,decide_eq_false_iff_not] at he
 rcases he with h | h | h
 ·exact .inl h
 ·exact .inr (.inl h)
 ·exact .inr (.inr om)
theorem uy {roles:List Str}{n:Int}{x:SPoint}(hr:roles.all aN=true):(eU roles x&&de n (eu x))=cO roles n x:=by
 unfold eU cO
 cases he:ez x with
 | true=>
  unfold ez at he
  simp only [Bool.and_eq_true,decide_eq_true_eq] at he
  have:de n (eu x)=true:=by
   unfold eu
   rw [if_neg (by rintro(h | h | h);exact h he.1;exact h he.2.1;omega)]
   unfold de
   have h0:¬(0<(x.arms.length:Int)):=by omega
   rw [if_pos rfl,decide_eq_false h0];rfl
  rw [this];rfl
 | false=>
  rw [Dt he,Bool.false_or,Bool.false_or]
  unfold de
  simp only [reduceCtorEq,if_false,true_or,if_true,Int.one_ne_zero]
  cases hp:eT roles x with
  | false=>rfl
  | true=>
   have:aN x.to=true:=by
    unfold eT bI at hp
    simp only [Bool.and_eq_true,decide_eq_true_eq] at hp
    exact List.all_eq_true.1 hr _ hp.2.1
   rw [this];rfl
theorem xS (p:SProto):dw p=cF p:=by
 unfold dw cF
 cases hr:p.roles.all aN with
 | false=>simp
 | true=>
  rw [Bool.true_and,Bool.true_and]
  have e1:p.points.all (cO p.roles p.points.length)=(p.points.all (eU p.roles)&&(p.points.map eu).all (de p.points.length)):=by
   rw [Bool.eq_iff_iff,Bool.and_eq_true,List.all_eq_true,List.all_eq_true,List.all_eq_true]
   constructor
   ·intro h
    refine⟨fun x hx=>?_,fun t ht=>?_⟩
    ·have:=h x hx
     rw [← uy hr,Bool.and_eq_true] at this;exact this.1
    ·obtain⟨x,hx,rfl⟩:=List.mem_map.1 ht
     have:=h x hx
     rw [← uy hr,Bool.and_eq_true] at this;exact this.2
   ·rintro⟨h1,h2⟩ x hx
    rw [← uy hr,Bool.and_eq_true]
    exact⟨h1 x hx,h2 _ (List.mem_map_of_mem hx)⟩
  rw [e1]
  unfold cr jX dg
  dsimp only
  rw [List.length_map]
  by_cases h1:(1:Int)≤p.points.length
  ·by_cases h2:(p.points.length:Int)≤24
   ·rw [decide_eq_true h1,decide_eq_true h2,decide_eq_false (show ¬(24:Int)<p.points.length by omega),decide_eq_true (show 1≤p.points.length by omega),decide_eq_true (show p.points.length≤40 by omega)]
    simp [Bool.and_assoc]
   ·rw [decide_eq_false h2,decide_eq_true (show(24:Int)<p.points.length by omega)];simp
  ·rw [decide_eq_false h1,decide_eq_false (show ¬1≤p.points.length by omega)];simp
end Go.Sx
namespace Go.Sx
open Go Go.Proofs
theorem Ds {H:Hp}{q:SProc}{up:List Int}{vu:Value}(at_:Int)(hQ:ProcOk H q)(hU:RdSl H 1 I64.cells vu up)(hul:up.length=q.steps.length)(hlt:∀j:Int,0≤j→j<q.steps.length→aP up j<j)(hpos:∀j:Int,0<j→j<q.steps.length→0≤aP up j)(h0:0≤at_)(hat:at_<q.steps.length)(h80:q.steps.length≤80)(h6:q.params.length≤6)(hw:∀s∈q.steps,s.ways.length≤7):
  Fn Tryz.prog 108 [.agg q.cells.toArray,vu,.int .i64 at_] H (fun r H1=>RdSl H1 1 Str.cells r (iR q up at_)):=by
 have hpm:=hQ.pa.max
 refine Fn.enter Tryz.func108 Tryz.ntmps108 rfl rfl (fun w0=>?_)
 refine zm2 ?_
 refine TL.box rfl rfl (fun b3=>?_)
 refine ti ?_
 refine aK (V:=fun k v ob H1=>[(7,v),(8,.int .i64 k)]) (K:=[(1,_),(2,_),(3,_),(6,_)]) (L:=fun k v ob H1=>St [] w0 H H1 ((b3,q.cells)::[])) (I:=fun k v ob H1=>(0≤k∧k≤q.params.length)∧H.le H1∧RdSl H1 1 Str.cells v (wj q k.toNat)) (μ:=fun k=>(q.params.length - k).toNat) 0 (.slice none 0 0) [] H ky ⟨o2q,Hp.le.refl _,RdSl.nil⟩ (fun w hw=>hw) (fun k v ob H1 hI=>?_)
 obtain⟨⟨k0,k1⟩,hle,hV⟩:=hI
 have hbl:=Jq q k.toNat
 replace hQ:=hQ.le hle
 replace hU:=hU.le hle
 refine jO ?_;refine TL.run (ah rfl rfl hQ.pa) rfl (zm1 ?_)
 refine af rfl ?_ ?_<;>intro c16
 ·
  obtain⟨x,hx⟩:=aj (l:=q.params) k0 c16
  refine fi ?_;refine qQ ?_;refine TL.run (ae rfl hQ.pa rfl om om) rfl (zm5 ?_)
  refine TL.run (aT hQ.pa hx rfl rfl) rfl (TL.call (ab rfl rfl rfl rfl) (jW x.name hV om) rfl (fun v26 H26 hle26 hp26=>?_))
  replace hle:=hle.trans hle26
  refine iW ?_
  exact ay (k+1) v26 [] H26 ⟨o2q,hle,by rw [← GC k0 hx];exact hp26⟩ ky (fun w hw=>hw) om
 refine fN ?_;refine ip ?_;refine zm9 ?_
 refine aK (V:=fun(p:Int×Nat×List Str) v ob H2=>[(7,v),(9,.int .i64 p.1)]) (K:=[(1,_),(3,_),(6,_)]) (L:=fun(p:Int×Nat×List Str) v ob H2=>St [] w0 H H2 ((b3,q.cells)::[])) (I:=fun(p:Int×Nat×List Str) v ob H2=>((0≤p.1∧p.1<q.steps.length)∧p.1≤p.2.1)∧H1.le H2∧RdSl H2 1 Str.cells v p.2.2∧p.2.2.length+8 * p.2.1≤1000∧iR q up at_=vC q up p.2.1 p.1 p.2.2) (μ:=fun(p:Int×Nat×List Str)=>p.2.1) (at_,at_.toNat,wj q k.toNat) _ [] H1 ky ⟨⟨⟨h0,hat⟩,by show at_≤(at_.toNat:Int);omega⟩,Hp.le.refl _,hV,by show(wj q k.toNat).length+8 * at_.toNat≤1000;omega,by rw [Jr k0 c16];rfl⟩ (fun w hw=>hw) (fun p v ob H2 hI=>?_)
 obtain⟨⟨⟨i0,i1⟩,i2⟩,hle2,hV2,hbl2,hB⟩:=hI
 obtain⟨i,f,acc⟩:=p
 dsimp only at *
 replace hQ:=hQ.le hle2
 replace hU:=hU.le hle2
 refine nK ?_
 refine af rfl ?_ ?_<;>intro c29
 ·
  have hu:=hpos i c29 i1
  have hui:=hlt i i0 i1
  obtain⟨s,hs⟩:=aj (l:=q.steps) hu om
  have hw7:=hw s (List.mem_of_getElem? hs)
  have hsk:=hQ.ss s (List.mem_of_getElem? hs)
  obtain⟨f2,rfl⟩:∃f2,f=f2+1:=⟨f - 1,by omega⟩
  refine te ?_;refine aU [true] [(0,1),(1,4),(2,1),(3,1),(4,1),(5,4),(6,1),(7,4),(8,3),(9,5)] kr kr (zm4 ?_);refine wG ?_;refine iz ?_
  refine az (ae rfl hU rfl om om) rfl (aO (S1 SN) (Hp.le.refl _) (fun _ _=>aL hU (iT om) rfl rfl) rfl (az (ae rfl hQ.s rfl om om) rfl (aO (S1 SN) (Hp.le.refl _) (fun _ _=>aY hQ.s hs rfl rfl) rfl ?_)))
  refine TF.alloc rfl (fun b10=>?_)
  refine au rfl (ga ?_);refine ax (S0 (S1 SN)) (Hp.le.refl _) (TF.nil (ai (TC.seq ?_)))
  refine a7 (decide (s.kind=1)||decide (s.kind=8)) 49 [(1,_),(3,_),(6,_),(7,_),(9,_),(10,_),(28,_),(29,_),(34,_),(35,_),(36,_),(37,_),(38,_),(39,_),(40,_),(41,_)] ky ?_ ?_
  ·
   refine kV ?_
   refine ag (s:=45) rfl ?_ ?_<;>intro g45
   ·
    have q45:=of_decide_eq_true g45
    refine iC ?_
    exact aB rfl (by simp_all) ky
   have q45:=of_decide_eq_false g45
   refine oL ?_
   exact aB rfl (by simp_all) ky
  refine TC.cond rfl ?_ ?_<;>intro c49
  ·
   refine jp ?_
   refine TL.call (ab rfl rfl rfl rfl) (jW s.name hV2 om) rfl (fun v53 H53 hle53 hp53=>?_)
   replace hU:=hU.le hle53
   replace hle2:=hle2.trans hle53
   replace hsk:=hsk.le hle53
   refine zT ?_
   refine aK (V:=fun m vj ob H3=>[(7,vj),(11,.int .i64 m)]) (K:=[(1,_),(3,_),(6,_),(9,_),(10,_),(28,_),(29,_),(34,_),(35,_),(36,_),(37,_),(38,_),(39,_),(40,_),(41,_),(49,_),(50,_),(51,_),(52,_),(53,_)]) (L:=fun m vj ob H3=>St [] w0 H H3 ((b10,s.cells)::(b3,q.cells)::[])) (I:=fun m vj ob H3=>((0≤m∧m≤s.ways.length)∧(¬s.kind=5→m=0))∧H53.le H3∧RdSl H3 1 Str.cells vj ((sb1 s++oS s i m.toNat).foldl ja acc)) (μ:=fun m=>(s.ways.length - m).toNat) 0 v53 [] H53 ky ⟨⟨o2q,fun _=>rfl⟩,Hp.le.refl _,by unfold sb1;rw [if_pos (by simpa using c49)];exact hp53⟩ (fun w hw=>hw) (fun m vj ob H3 hI=>?_)
   obtain⟨⟨⟨m0,m1⟩,hm5⟩,hle3,hV3⟩:=hI
   have hwl:=AW s i m.toNat
   have hsl:=gZ (sb1 s++oS s i m.toNat) acc
   have hs1:(sb1 s).length≤1:=by unfold sb1;split<;>simp
   simp only [List.length_append] at hsl
   replace hle2:=hle2.trans hle3
   replace hU:=hU.le hle3
   replace hsk:=hsk.le hle3
   refine TC.seq (a7 (decide (s.kind=5)&&decide (m<s.ways.length)) 63 [(1,_),(3,_),(6,_),(7,_),(9,_),(10,_),(11,_),(28,_),(29,_),(34,_),(35,_),(36,_),(37,_),(38,_),(39,_),(40,_),(41,_),(49,_),(50,_),(51,_),(52,_),(53,_)] ky ?_ ?_)
   ·
    refine kV ?_
    refine ag (s:=57) rfl ?_ ?_<;>intro g57
    ·
     have q57:=of_decide_eq_true g57
     refine cv ?_;refine zm8 ?_;refine aw rfl rfl (ah rfl rfl hsk.w) rfl (ef ?_)
     exact aB rfl (by first | (simp_all;done) | (simp_all;omega)) ky
    have q57:=of_decide_eq_false g57
    refine tC ?_
    exact aB rfl (by first | (simp_all;done) | (simp_all;omega)) ky
   refine TC.cond rfl ?_ ?_<;>intro c63
   ·
    have h5:s.kind=5:=by simp at c63;exact c63.1
    obtain⟨w,hwx⟩:=aj (l:=s.ways) m0 (by simp at c63;omega)
    have hml:=eY hwx
    refine fi ?_
    refine a7 (wbF i w) 82 [(1,_),(3,_),(6,_),(7,_),(9,_),(10,_),(11,_),(28,_),(29,_),(34,_),(35,_),(36,_),(37,_),(38,_),(39,_),(40,_),(41,_),(49,_),(50,_),(51,_),(52,_),(53,_),(63,_)] ky ?_ ?_
    ·
     refine wz ?_;refine TL.run (ae rfl hsk.w rfl om om) rfl (zm5 ?_);refine TL.run (aT hsk.w hwx rfl rfl) rfl (rf ?_)
     refine ag (s:=74) rfl ?_ ?_<;>intro g74
     ·
      have q74:=of_decide_eq_true g74
      refine m5 ?_;refine aw rfl rfl (ae rfl hsk.w rfl om om) rfl (gM ?_);refine aw rfl rfl (aT hsk.w hwx rfl rfl) rfl (nI ?_);refine cu ?_
      exact aB rfl (by unfold wbF;simp_all) ky
     have q74:=of_decide_eq_false g74
     refine sZ ?_
     exact aB rfl (by unfold wbF;simp_all) ky
    refine TC.cond rfl ?_ ?_<;>intro c82
    ·
     refine qQ ?_;refine TL.run (ae rfl hsk.w rfl om om) rfl (zm5 ?_)
     refine TL.run (aT hsk.w hwx rfl rfl) rfl (TL.call (ab rfl rfl rfl rfl) (jW w.name hV3 om) rfl (fun v90 H90 hle90 hp90=>?_))
     replace hle3:=hle3.trans hle90
     refine iW ?_
     exact ay (m+1) v90 [] H90 ⟨⟨o2q,fun h=>absurd h5 h⟩,hle3,by rw [HD m0 hwx c82,← List.append_assoc,List.foldl_append];exact hp90⟩ ky (fun w hw=>hw) om
    refine d6 ?_
    exact ay (m+1) vj [] H3 ⟨⟨o2q,fun h=>absurd h5 h⟩,hle3,by rw [HE m0 hwx c82];exact hV3⟩ ky (fun w hw=>hw) om
   refine k8 ?_;refine bn (ai (TC.region (zm3 ?_)));refine TL.run (ae rfl hU rfl om om) rfl (TL.run (aL hU (iT om) rfl rfl) rfl (cu ?_))
   exact ay (i:=(i,f2+1,acc)) (aP up i,f2,(cK s i).foldl ja acc) vj [] H3 ⟨⟨⟨hu,by show aP up i<_;omega⟩,by show aP up i≤(f2:Int);omega⟩,hle2,by rw [If m0 c63 hm5,List.foldl_append,← List.foldl_append];exact hV3,by have h1:=gZ (cK s i) acc;have h2:=nz s i hw7;show((cK s i).foldl ja acc).length+8 * f2≤1000;omega,Cr c29 hs hB⟩ ky (fun w hw=>hw.drop) (by show f2<f2+1;omega)
  refine dn ?_;refine iq ?_
  refine aK (V:=fun m vj ob H3=>[(7,vj),(11,.int .i64 m)]) (K:=[(1,_),(3,_),(6,_),(9,_),(10,_),(28,_),(29,_),(34,_),(35,_),(36,_),(37,_),(38,_),(39,_),(40,_),(41,_),(49,_)]) (L:=fun m vj ob H3=>St [] w0 H H3 ((b10,s.cells)::(b3,q.cells)::[])) (I:=fun m vj ob H3=>((0≤m∧m≤s.ways.length)∧(¬s.kind=5→m=0))∧H2.le H3∧RdSl H3 1 Str.cells vj ((sb1 s++oS s i m.toNat).foldl ja acc)) (μ:=fun m=>(s.ways.length - m).toNat) 0 _ [] H2 ky ⟨⟨o2q,fun _=>rfl⟩,Hp.le.refl _,by unfold sb1;rw [if_neg (by simpa using c49)];exact hV2⟩ (fun w hw=>hw) (fun m vj ob H3 hI=>?_)
  obtain⟨⟨⟨m0,m1⟩,hm5⟩,hle3,hV3⟩:=hI
  have hwl:=AW s i m.toNat
  have hsl:=gZ (sb1 s++oS s i m.toNat) acc
  have hs1:(sb1 s).length≤1:=by unfold sb1;split<;>simp
  simp only [List.length_append] at hsl
  replace hle2:=hle2.trans hle3
  replace hU:=hU.le hle3
  replace hsk:=hsk.le hle3
  refine TC.seq (a7 (decide (s.kind=5)&&decide (m<s.ways.length)) 63 [(1,_),(3,_),(6,_),(7,_),(9,_),(10,_),(11,_),(28,_),(29,_),(34,_),(35,_),(36,_),(37,_),(38,_),(39,_),(40,_),(41,_),(49,_)] ky ?_ ?_)
  ·
   refine kV ?_
   refine ag (s:=57) rfl ?_ ?_<;>intro g57
   ·
    have q57:=of_decide_eq_true g57
    refine cv ?_;refine zm8 ?_;refine aw rfl rfl (ah rfl rfl hsk.w) rfl (ef ?_)
    exact aB rfl (by first | (simp_all;done) | (simp_all;omega)) ky
   have q57:=of_decide_eq_false g57
   refine tC ?_
   exact aB rfl (by first | (simp_all;done) | (simp_all;omega)) ky
  refine TC.cond rfl ?_ ?_<;>intro c63
  ·
   have h5:s.kind=5:=by simp at c63;exact c63.1
   obtain⟨w,hwx⟩:=aj (l:=s.ways) m0 (by simp at c63;omega)
   have hml:=eY hwx
   refine fi ?_
   refine a7 (wbF i w) 82 [(1,_),(3,_),(6,_),(7,_),(9,_),(10,_),(11,_),(28,_),(29,_),(34,_),(35,_),(36,_),(37,_),(38,_),(39,_),(40,_),(41,_),(49,_),(63,_)] ky ?_ ?_
   ·
    refine wz ?_;refine TL.run (ae rfl hsk.w rfl om om) rfl (zm5 ?_);refine TL.run (aT hsk.w hwx rfl rfl) rfl (rf ?_)
    refine ag (s:=74) rfl ?_ ?_<;>intro g74
    ·
     have q74:=of_decide_eq_true g74
     refine m5 ?_;refine aw rfl rfl (ae rfl hsk.w rfl om om) rfl (gM ?_);refine aw rfl rfl (aT hsk.w hwx rfl rfl) rfl (nI ?_);refine cu ?_
     exact aB rfl (by unfold wbF;simp_all) ky
    have q74:=of_decide_eq_false g74
    refine sZ ?_
    exact aB rfl (by unfold wbF;simp_all) ky
   refine TC.cond rfl ?_ ?_<;>intro c82
   ·
    refine qQ ?_;refine TL.run (ae rfl hsk.w rfl om om) rfl (zm5 ?_)
    refine TL.run (aT hsk.w hwx rfl rfl) rfl (TL.call (ab rfl rfl rfl rfl) (jW w.name hV3 om) rfl (fun v90 H90 hle90 hp90=>?_))
    replace hle3:=hle3.trans hle90
    refine iW ?_
    exact ay (m+1) v90 [] H90 ⟨⟨o2q,fun h=>absurd h5 h⟩,hle3,by rw [HD m0 hwx c82,← List.append_assoc,List.foldl_append];exact hp90⟩ ky (fun w hw=>hw) om
   refine d6 ?_
   exact ay (m+1) vj [] H3 ⟨⟨o2q,fun h=>absurd h5 h⟩,hle3,by rw [HE m0 hwx c82];exact hV3⟩ ky (fun w hw=>hw) om
  refine k8 ?_;refine bn (ai (TC.region (zm3 ?_)));refine TL.run (ae rfl hU rfl om om) rfl (TL.run (aL hU (iT om) rfl rfl) rfl (cu ?_))
  exact ay (i:=(i,f2+1,acc)) (aP up i,f2,(cK s i).foldl ja acc) vj [] H3 ⟨⟨⟨hu,by show aP up i<_;omega⟩,by show aP up i≤(f2:Int);omega⟩,hle2,by rw [If m0 c63 hm5,List.foldl_append,← List.foldl_append];exact hV3,by have h1:=gZ (cK s i) acc;have h2:=nz s i hw7;show((cK s i).foldl ja acc).length+8 * f2≤1000;omega,Cr c29 hs hB⟩ ky (fun w hw=>hw.drop) (by show f2<f2+1;omega)
 refine jA ?_
 exact aR (.inr rfl) (ad rfl (RVal.tmp rfl)) (by rw [bnd_end c29 hB];exact hV2)
theorem Gj {H:Hp}{q:SProc}{s:SStep}(at_:Int)(hQ:ProcOk H q)(h0:0≤at_)(hs:q.steps[at_.toNat]? =some s)(hl:s.args.length≤6∧s.casts.length≤4∧∀c∈s.casts,c.args.length≤6)(h160:q.terms.length≤160):
  Fn Tryz.prog 109 [.agg q.cells.toArray,.int .i64 at_] H (fun r H1=>RdSl H1 1 Str.cells r (gc q.terms s)):=by
 have hat:=eY hs
 have hsk:=hQ.ss s (List.mem_of_getElem? hs)
 have hrl:=xN hl
 refine Fn.enter Tryz.func109 Tryz.ntmps109 rfl rfl (fun w0=>?_)
 refine zm2 ?_
 refine TL.box rfl rfl (fun b2=>?_)
 refine tG ?_;refine tF ?_
 refine TL.alloc rfl (fun b5=>?_)
 refine ik ?_;refine zm7 ?_
 refine a7 (decide (s.kind=4)||(decide (s.kind=5)||decide (s.kind=9))) 28 [(2,_),(4,_),(5,_),(6,_)] ky ?_ ?_
 ·
  refine kV ?_
  refine ag (s:=19) rfl ?_ ?_<;>intro g19
  ·
   have q19:=of_decide_eq_true g19
   refine im ?_;refine iC ?_
   exact aB rfl (by simp_all) ky
  have q19:=of_decide_eq_false g19
  refine m6 ?_
  refine ag (s:=24) rfl ?_ ?_<;>intro g24
  ·
   have q24:=of_decide_eq_true g24
   refine iC ?_
   exact aB rfl (by simp_all) ky
  have q24:=of_decide_eq_false g24
  refine oL ?_
  exact aB rfl (by simp_all) ky
 refine TC.cond rfl ?_ ?_<;>intro c28
 ·
  refine mX ?_
  refine aA rfl rfl rfl rfl (fun b31=>?_)
  refine rG ?_
  refine dT sq (fun H_b31 le_b31 rd_b31=>?_)
  replace hQ:=hQ.le le_b31
  replace hsk:=hsk.le le_b31
  have hV31:RdSl H_b31 1 Str.cells _ ([s.name]):=RdSl.blk (cap:=1) rd_b31 (by intro x hx;rfl) kr (by show 1≤9223372036854775807;decide)
  have hV:=hV31.cast (show _=lE s by unfold lE;rw [if_pos (by simpa [or_assoc] using c28)])
  exact G1
 refine lu ?_
 have hV:RdSl H 1 Str.cells (.slice none 0 0) (lE s):=(RdSl.nil (enc:=Str.cells)).cast (show _=lE s by unfold lE;rw [if_neg (by simpa [or_assoc] using c28)])
 exact G1
theorem Dr {H:Hp}(s:SStep)(hs:StepOk H s)(hl:s.ways.length≤7):
  FnO Tryz.prog 110 [.agg s.cells.toArray] H (fun v H1 ob=>H1=H∧OwnSl 1 Str.cells v (eS s) ob):=by
 have hw:=hs.w
 refine FnO.enter Tryz.func110 Tryz.ntmps110 rfl rfl (fun w0=>?_)
 refine zm2 ?_
 refine TL.box rfl rfl (fun b1=>?_)
 refine zm1 ?_;refine zm7 ?_
 refine a7 (decide (s.kind=1)||decide (s.kind=8)) 12 [(1,_),(2,_),(3,_)] ky ?_ ?_
 ·
  refine kV ?_
  refine ag (s:=8) rfl ?_ ?_<;>intro g8
  ·
   have q8:=of_decide_eq_true g8
   refine iC ?_
   exact aB rfl (by simp_all) ky
  have q8:=of_decide_eq_false g8
  refine oL ?_
  exact aB rfl (by simp_all) ky
 refine TC.cond rfl ?_ ?_<;>intro c12
 ·
  refine jp ?_
  refine aA rfl rfl rfl rfl (fun b16=>?_)
  refine TL.append (enc:=Str.cells) rfl rfl rfl (OwnSl.nil (enc:=Str.cells)) (Src.own [s.name] (.here _) rfl rfl) sq rfl (.new _ rfl) rfl (fun a17 c17 ob17 hO17=>?_)
  refine kh ?_
  refine aK (V:=fun k v ob H1=>[(3,v),(4,.int .i64 k)]) (K:=[(1,_),(2,_)]) (L:=fun k v ob H1=>St [] w0 H H ((b16,_)::(b1,_)::ob)) (I:=fun k v ob H1=>(0≤k∧k≤s.ways.length)∧OwnSl 1 Str.cells v (rB1 s++((s.ways.take k.toNat).filter neN).map (·.name)) ob) (μ:=fun k=>(s.ways.length - k).toNat) 0 _ ob17 H ky ⟨o2q,hO17.cast (by unfold rB1;first | (rw [if_pos (by simpa using c12)];simp) | (rw [if_neg (by simpa using c12)];simp))⟩ (fun w hw=>hw) (fun k v ob H1 hI=>?_)
  obtain⟨⟨k0,k1⟩,hO⟩:=hI
  obtain⟨va,vc,rfl⟩:=hO.form
  have hfl:((s.ways.take k.toNat).filter neN).length≤7:=Nat.le_trans (List.length_filter_le _ _) (by rw [List.length_take];omega)
  have hr1:(rB1 s).length≤1:=by unfold rB1;split<;>simp
  refine kU ?_;refine TL.run (ah rfl rfl hw) rfl (zm1 ?_)
  refine af rfl ?_ ?_<;>intro c22
  ·
   obtain⟨x,hx⟩:=aj (l:=s.ways) k0 c22
   refine wE ?_;refine zR ?_;refine TL.run (cb rfl rfl rfl) rfl (TL.nil (ai (aV rfl (fun c31=>?_) (fun c31=>?_))))
   ·
    refine jz ?_;refine kH ?_;refine zR ?_
    refine aA rfl rfl rfl rfl (fun b39=>?_)
    refine TL.append (enc:=Str.cells) rfl rfl rfl hO (Src.own [x.name] (.here _) rfl rfl) (by simp only [List.length_append,List.length_map,List.length_cons,List.length_nil];omega) rfl (.s2 (.skip _ .all)) rfl (fun a40 c40 ob40 hO40=>?_)
    refine iW ?_
    exact ay (k+1) _ ob40 H ⟨o2q,hO40.cast (xT k0 hx c31).symm⟩ ky (fun w hw=>hw.drop) om
   refine d6 ?_
   exact ay (k+1) _ ob H ⟨o2q,hO.cast (xU k0 hx c31).symm⟩ ky (fun w hw=>hw) om
  refine jA ?_
  exact cf (.inr rfl) (ad rfl (RVal.tmp rfl)) (.skip _ (.skip _ .all)) ⟨rfl,hO.cast (Iu k0 c22)⟩
 refine jn ?_
 refine aK (V:=fun k v ob H1=>[(3,v),(4,.int .i64 k)]) (K:=[(1,_),(2,_)]) (L:=fun k v ob H1=>St [] w0 H H ((b1,_)::ob)) (I:=fun k v ob H1=>(0≤k∧k≤s.ways.length)∧OwnSl 1 Str.cells v (rB1 s++((s.ways.take k.toNat).filter neN).map (·.name)) ob) (μ:=fun k=>(s.ways.length - k).toNat) 0 _ [] H ky ⟨o2q,(OwnSl.nil (enc:=Str.cells)).cast (by unfold rB1;first | (rw [if_pos (by simpa using c12)];simp) | (rw [if_neg (by simpa using c12)];simp))⟩ (fun w hw=>hw) (fun k v ob H1 hI=>?_)
 obtain⟨⟨k0,k1⟩,hO⟩:=hI
 obtain⟨va,vc,rfl⟩:=hO.form
 have hfl:((s.ways.take k.toNat).filter neN).length≤7:=Nat.le_trans (List.length_filter_le _ _) (by rw [List.length_take];omega)
 have hr1:(rB1 s).length≤1:=by unfold rB1;split<;>simp
 refine jO ?_;refine TL.run (ah rfl rfl hw) rfl (zm1 ?_)
 refine af rfl ?_ ?_<;>intro c22
 ·
  obtain⟨x,hx⟩:=aj (l:=s.ways) k0 c22
  refine oA ?_;refine zR ?_;refine TL.run (cb rfl rfl rfl) rfl (TL.nil (ai (aV rfl (fun c31=>?_) (fun c31=>?_))))
  ·
   refine qQ ?_;refine zR ?_
   refine aA rfl rfl rfl rfl (fun b39=>?_)
   refine TL.append (enc:=Str.cells) rfl rfl rfl hO (Src.own [x.name] (.here _) rfl rfl) (by simp only [List.length_append,List.length_map,List.length_cons,List.length_nil];omega) rfl (.skip _ (.skip _ .all)) rfl (fun a40 c40 ob40 hO40=>?_)
   refine iW ?_
   exact ay (k+1) _ ob40 H ⟨o2q,hO40.cast (xT k0 hx c31).symm⟩ ky (fun w hw=>hw.drop) om
  refine d6 ?_
  exact ay (k+1) _ ob H ⟨o2q,hO.cast (xU k0 hx c31).symm⟩ ky (fun w hw=>hw) om
 refine jA ?_
 exact cf (.inr rfl) (ad rfl (RVal.tmp rfl)) (.skip _ .all) ⟨rfl,hO.cast (Iu k0 c22)⟩
theorem l4 {H:Hp}{pg:SProg}(s:Str)(n m:Int)(hP:ProgOk H pg)(hn:0≤n∧n≤1000)(hm:0≤m∧m≤1000):
  FnS Tryz.prog 111 [.agg pg.cells.toArray,gs s,.int .i64 n,.int .i64 m] H (.bool (bL pg.procs s (n+m))):=by
 have hq:=hP.q
 have hmax:=hq.max
 refine FnS.enter Tryz.func111 Tryz.ntmps111 rfl rfl (fun w0=>?_)
 refine zm2 ?_
 refine TL.box rfl rfl (fun b4=>?_)
 refine zm1 ?_;refine il ?_;refine zm0 ?_;refine ar (ab rfl rfl rfl rfl) (j6 s hP) rfl (zm1 ?_);refine fO ?_
 refine ag (s:=15) rfl ?_ ?_<;>intro g15
 ·
  have q15:=of_decide_eq_true g15
  have hfr:=kx pg.procs s
  obtain⟨x,hx⟩:=aj (l:=pg.procs) (i:=dk pg.procs s) om om
  have hxp:=(hP.qs x (List.mem_of_getElem? hx)).pa.max
  refine m5 ?_;refine aw rfl rfl (ae rfl hq rfl om om) rfl (gM ?_);refine aw rfl rfl (aT hq hx rfl rfl) rfl (Eg ?_);refine eG ?_
  refine aw rfl rfl (fK rfl rfl om om) rfl (rt ?_)
  exact ao (.inr rfl) (ad rfl (RVal.tmp rfl)) (congrArg Value.bool (by unfold bL pC;first | (rw [hx];simp_all;done) | (simp_all;done) | (simp_all;omega)))
 have q15:=of_decide_eq_false g15
 refine dE ?_;refine dE ?_;refine xj ?_
 exact ao (.inr rfl) (ad rfl (RVal.tmp rfl)) (congrArg Value.bool (by unfold bL pC;first | (rw [hx];simp_all;done) | (simp_all;done) | (simp_all;omega)))
theorem we {H:Hp}{pg:SProg}(s:Str)(hP:ProgOk H pg):
  FnS Tryz.prog 155 [.agg pg.cells.toArray,gs s] H (.int .i64 (gA pg s)):=by
 have hq:=hP.r
 have hmax:=hq.max
 refine FnS.enter Tryz.func155 Tryz.ntmps155 rfl rfl (fun w0=>?_)
 refine zm2 ?_
 refine TL.box rfl rfl (fun b2=>?_)
 refine kh ?_
 refine TC.loop (V:=fun k=>[(5,.int .i64 k)]) (K:=[(1,_),(2,_),(4,_)]) (L:=fun k=>_) (I:=fun k=>0≤k∧k≤pg.protos.length∧∀j:Nat,j<k.toNat→(pg.protos.map (·.name))[j]? ≠some s) (μ:=fun k=>(pg.protos.length - k).toNat) (i:=(0:Int)) ky ⟨by omega,by omega,fun j hj=>absurd hj sq⟩ (fun w hw=>hw) (fun k hI=>?_)
 refine jO ?_;refine TL.run (ah rfl rfl hq) rfl (zm1 ?_)
 refine af rfl ?_ ?_<;>intro c10
 ·
  obtain⟨x,hx⟩:=aj (l:=pg.protos) hI.1 c10
  refine oA ?_;refine TL.run (ae rfl hq rfl om om) rfl (zm5 ?_);refine TL.run (aT hq hx rfl rfl) rfl (tN ?_)
  refine af rfl ?_ ?_<;>intro c20
  ·
   refine rC ?_
   exact ao (.inr rfl) (ad rfl (RVal.tmp rfl)) (congrArg (Value.int .i64) (by unfold gA;first | exact(cS hI.1 (by rw [dz hx,c20]) hI.2.2).symm | exact(dU hI.2.2 (by rw [List.length_map];exact c10)).symm))
  refine d6 ?_
  exact aD (k+1) ⟨by omega,by omega,jd hI.1 hI.2.2 (dz hx) c20⟩ ky (fun w hw=>hw) om
 refine fD ?_
 exact ao (.inr rfl) (ad rfl (RVal.tmp rfl)) (congrArg (Value.int .i64) (by unfold gA;first | exact(cS hI.1 (by rw [dz hx,c20]) hI.2.2).symm | exact(dU hI.2.2 (by rw [List.length_map];exact c10)).symm))
theorem BV {H:Hp}{pg:SProg}(s:SStep)(hP:ProgOk H pg)(hs:StepOk H s)(hl:s.casts.length≤4):
  FnS Tryz.prog 112 [.agg pg.cells.toArray,.agg s.cells.toArray] H (.bool (dx pg s)):=by
 have hrm:=hP.r.max
 have hpr:=Bl pg s.label
 refine FnS.enter Tryz.func112 Tryz.ntmps112 rfl rfl (fun w0=>?_)
 refine zm2 ?_
 refine TL.box rfl rfl (fun b2=>?_)
 refine TL.box rfl rfl (fun b3=>?_)
 refine zm1 ?_;refine nh ?_;refine fj ?_;refine ar (ab rfl rfl rfl rfl) (we s.label hP) rfl (kM ?_)
 refine af rfl ?_ ?_<;>intro c15
 ·
  refine gq ?_
  exact ao (.inr rfl) (ad rfl (RVal.tmp rfl)) (congrArg Value.bool (by first | exact(pf c15).symm | (rw [dW c15 hx];unfold eW;simp_all;done) | (rw [dW c15 hx];unfold eW;have h50:=eX c50;simp only [Bool.and_eq_true] at h50;rw [h50.1,h50.2,h1];rfl) | (rw [dW c15 hx];unfold eW;have h50:=gD c50;cases ha:decide (((cH s).length:Int)=x.roles.length)<;>simp_all)))
 obtain⟨x,hx⟩:=aj (l:=pg.protos) (i:=gA pg s.label) om om
 have hxr:=(hP.rs x (List.mem_of_getElem? hx)).r.max
 refine dn ?_;refine jm ?_;refine zm0 ?_;refine TL.run (ae rfl hP.r rfl om om) rfl (zm5 ?_);refine TL.run (aT hP.r hx rfl rfl) rfl (z8 ?_)
 refine aA rfl rfl rfl rfl (fun b24=>?_)
 refine kh ?_
 refine aK (V:=fun k v ob H1=>[(7,v),(8,.int .i64 k)]) (K:=[(3,_),(4,_),(6,_)]) (L:=fun k v ob H1=>St [] w0 H H ((b3,_)::(b2,_)::ob)) (I:=fun k v ob H1=>(0≤k∧k≤s.casts.length)∧OwnSl 1 Str.cells v (s.peer::(s.casts.take k.toNat).map (·.role)) ob) (μ:=fun k=>(s.casts.length - k).toNat) 0 (.slice (some ⟨b24,0,none⟩) 1 1) [(b24,[gs s.peer])] H ky ⟨o2q,OwnSl.blk (enc:=Str.cells) [s.peer] rfl rfl sq⟩ (fun w hw=>hw.perm (List.perm_append_singleton _ _).symm) (fun k v ob H1 hI=>?_)
 obtain⟨⟨k0,k1⟩,hO⟩:=hI
 obtain⟨va,vc,rfl⟩:=hO.form
 refine jO ?_;refine TL.run (ah rfl rfl hs.c) rfl (zm1 ?_)
 refine af rfl ?_ ?_<;>intro c29
 ·
  obtain⟨y,hy⟩:=aj (l:=s.casts) k0 c29
  refine fi ?_;refine qQ ?_;refine TL.run (ae rfl hs.c rfl om om) rfl (zm5 ?_);refine TL.run (aT hs.c hy rfl rfl) rfl (aA rfl rfl rfl rfl (fun b39=>?_))
  refine TL.append (enc:=Str.cells) rfl rfl rfl hO (Src.own [y.role] (.here _) rfl rfl) (by simp;omega) rfl (.s2 (.skip _ .all)) rfl (fun a40 c40 ob40 hO40=>?_)
  refine iW ?_
  exact ay (k+1) _ ob40 H ⟨o2q,hO40.cast (by rw [bv k0 hy];rfl)⟩ ky (fun w hw=>hw.drop) om
 refine iB ?_
 refine TC.pubO hO (.skip _ (.skip _ .all)) sq (fun HJ leJ hJ=>?_)
 replace hP:=hP.le leJ
 have hJ2:=hJ.cast (show _=cH s by rw [aX c29 k0];rfl)
 clear hJ
 have hJm:=hJ2.max
 refine a7 (!(decide (((cH s).length:Int)=x.roles.length)&&dt (cH s))) 50 [(4,_),(6,_),(7,_)] ky ?_ ?_
 ·
  refine jz ?_;refine TL.run (ah rfl rfl hJ2) rfl (zm0 ?_);refine TL.run (ah rfl rfl (hP.rs x (List.mem_of_getElem? hx)).r) rfl (zm3 ?_)
  refine ag (s:=46) rfl ?_ ?_<;>intro g46
  ·
   have q46:=aQ g46
   refine iC ?_
   exact aB rfl (by first | (simp_all;done) | (simp_all;omega)) ky
  have q46:=aM g46
  refine cv ?_;refine aH rfl rfl (ab rfl rfl rfl rfl) (xR hJ2) rfl (ef ?_)
  exact aB rfl (by first | (simp_all;done) | (simp_all;omega)) ky
 refine TC.cond rfl ?_ ?_<;>intro c50
 ·
  refine gq ?_
  exact ao (.inr rfl) (ad rfl (RVal.tmp rfl)) (congrArg Value.bool (by first | exact(pf c15).symm | (rw [dW c15 hx];unfold eW;simp_all;done) | (rw [dW c15 hx];unfold eW;have h50:=eX c50;simp only [Bool.and_eq_true] at h50;rw [h50.1,h50.2,h1];rfl) | (rw [dW c15 hx];unfold eW;have h50:=gD c50;cases ha:decide (((cH s).length:Int)=x.roles.length)<;>simp_all)))
 refine jn ?_
 refine TC.loop (V:=fun k=>[(9,.int .i64 k)]) (K:=[(4,_),(6,_),(7,_)]) (L:=fun k=>_) (I:=fun k=>(0≤k∧k≤(cH s).length)∧(cH s).all (fun r=>bI x.roles r)=((cH s).drop k.toNat).all (fun r=>bI x.roles r)) (μ:=fun k=>((cH s).length - k).toNat) (i:=(0:Int)) ky ⟨o2q,rfl⟩ (fun w hw=>hw) (fun k hI=>?_)
 obtain⟨⟨k0,k1⟩,hal⟩:=hI
 refine fk ?_;refine TL.run (ah rfl rfl hJ2) rfl (zm1 ?_)
 refine af rfl ?_ ?_<;>intro c54
 ·
  obtain⟨z,hz⟩:=aj (l:=cH s) k0 c54
  refine fi ?_;refine fO ?_
  refine TL.run (ae rfl hJ2 rfl om om) rfl (TL.run (aL hJ2 hz rfl rfl) rfl (ar (ab rfl rfl rfl rfl) (i6 z (hP.rs x (List.mem_of_getElem? hx)).r) rfl (zm1 ?_)))
  refine TC.cond rfl ?_ ?_<;>intro c63
  ·
   have h1:=ce (p:=fun r=>bI x.roles r) k0 hz (gD c63) hal
   refine kX ?_
   exact ao (.inr rfl) (ad rfl (RVal.tmp rfl)) (congrArg Value.bool (by first | exact(pf c15).symm | (rw [dW c15 hx];unfold eW;simp_all;done) | (rw [dW c15 hx];unfold eW;have h50:=eX c50;simp only [Bool.and_eq_true] at h50;rw [h50.1,h50.2,h1];rfl) | (rw [dW c15 hx];unfold eW;have h50:=gD c50;cases ha:decide (((cH s).length:Int)=x.roles.length)<;>simp_all)))
  refine d6 ?_
  exact aD (k+1) ⟨o2q,bC (p:=(fun r=>bI x.roles r)) k0 hz (eX c63) hal⟩ ky (fun w hw=>hw) om
 have h1:=bU (p:=fun r=>bI x.roles r) k0 c54 hal
 refine fD ?_
 exact ao (.inr rfl) (ad rfl (RVal.tmp rfl)) (congrArg Value.bool (by first | exact(pf c15).symm | (rw [dW c15 hx];unfold eW;simp_all;done) | (rw [dW c15 hx];unfold eW;have h50:=eX c50;simp only [Bool.and_eq_true] at h50;rw [h50.1,h50.2,h1];rfl) | (rw [dW c15 hx];unfold eW;have h50:=gD c50;cases ha:decide (((cH s).length:Int)=x.roles.length)<;>simp_all)))
theorem uv {H:Hp}(l:SLocal)(hl:LocalOk H l):
  FnS Tryz.prog 50 [.agg l.cells.toArray] H (.bool (cr l)):=by
 have ht:=hl.t
 have hmt:=ht.max
 refine FnS.enter Tryz.func50 Tryz.ntmps50 rfl rfl (fun w0=>?_)
 refine zm2 ?_
 refine TL.box rfl rfl (fun b1=>?_)
 refine iM ?_
 refine a7 (decide ((l.turns.length:Int)<1)||decide ((40:Int)<l.turns.length)) 14 [(1,_),(2,_)] ⟨rfl,rfl,trivial⟩ ?_ ?_
 ·
  refine mX ?_;refine TL.run (ah rfl rfl ht) rfl (zm3 ?_)
  refine ag (s:=9) rfl ?_ ?_<;>intro g9
  ·
   have q9:=of_decide_eq_true g9
   refine kR ?_
   exact aB rfl (by first | (simp_all;done) | (simp_all;omega)) ⟨rfl,rfl,trivial⟩
  have q9:=of_decide_eq_false g9
  refine zm8 ?_;refine aw rfl rfl (ah rfl rfl ht) rfl (ef ?_)
  exact aB rfl (by first | (simp_all;done) | (simp_all;omega)) ⟨rfl,rfl,trivial⟩
 refine TC.cond rfl ?_ ?_<;>intro c14
 ·
  refine gq ?_
  exact ao (.inr rfl) (ad rfl (RVal.tmp rfl)) (congrArg Value.bool (qw (by simp at c14;omega)))
 have hlen:1≤l.turns.length∧l.turns.length≤40:=by simp at c14;omega
 refine jn ?_
 refine TC.loop (V:=fun k=>[(3,.int .i64 k)]) (K:=[(1,_),(2,_)]) (L:=fun k=>_) (I:=fun k=>(0≤k∧k≤l.turns.length)∧l.turns.all (de l.turns.length)=(l.turns.drop k.toNat).all (de l.turns.length)) (μ:=fun k=>(l.turns.length - k).toNat) (i:=(0:Int)) ky ⟨o2q,rfl⟩ (fun w hw=>hw) (fun k hI=>?_)
 obtain⟨⟨k0,k1⟩,hal⟩:=hI
 refine jO ?_;refine TL.run (ah rfl rfl ht) rfl (zm1 ?_)
 refine af rfl ?_ ?_<;>intro c19
 ·
  obtain⟨x,hx⟩:=aj (l:=l.turns) k0 c19
  have hT:=hl.ts x (List.mem_of_getElem? hx)
  have hTm:=hT.a.max
  refine oA ?_;refine TL.run (ae rfl ht rfl om om) rfl (TL.run (aY ht hx rfl rfl) rfl (TL.alloc rfl (fun b4=>?_)))
  refine nt ?_
  refine TL.nil (ai (TC.block (a7 (decide (x.kind=0)) 29 [(1,_),(2,_),(3,_),(4,_),(15,_),(16,_),(17,_),(18,_),(19,_),(22,_),(23,_),(24,_),(25,_),(26,_),(27,_),(28,_)] ky ?_ ?_)))
  · exact ei (aG rfl) rfl rfl ky
  refine af rfl ?_ ?_<;>intro c29
  ·
   refine a7 (!(decide (x.peer=[])&& !decide (0<(x.arms.length:Int)))) 39 [(1,_),(2,_),(3,_),(4,_),(15,_),(16,_),(17,_),(18,_),(19,_),(22,_),(23,_),(24,_),(25,_),(26,_),(27,_),(28,_),(29,_)] ky ?_ ?_
   ·
    refine ru ?_
    refine ag (s:=34) rfl ?_ ?_<;>intro g34
    ·
     have q34:=aQ g34
     refine kR ?_
     exact aB rfl (by first | (simp_all;done) | (simp_all;omega)) ky
    have q34:=aM g34
    refine zm8 ?_;refine aw rfl rfl (ah rfl rfl hT.a) rfl (ef ?_)
    exact aB rfl (by first | (simp_all;done) | (simp_all;omega)) ky
   refine TC.cond rfl ?_ ?_<;>intro c39
   ·
    refine rq ?_
    exact ao (.inr rfl) (ad rfl (RVal.tmp rfl)) (congrArg Value.bool (gj k0 hx (by unfold de;first | (rw [if_pos c29];exact gD c39) | (rw [if_neg c29,if_pos (by simpa using c40)];exact gD c55) | (simp_all;done)) hal))
   refine TC.skip (bn (iX ?_))
   exact aD (k+1) ⟨o2q,bC (p:=(de l.turns.length)) k0 hx (by unfold de;first | (rw [if_pos c29];exact eX c39) | (rw [if_neg c29,if_pos (by simpa using c40)];exact eX c55)) hal⟩ ky (fun w hw=>hw.drop) om
  refine a7 (decide (x.kind=1)||decide (x.kind=2)) 40 [(1,_),(2,_),(3,_),(4,_),(15,_),(16,_),(17,_),(18,_),(19,_),(22,_),(23,_),(24,_),(25,_),(26,_),(27,_),(28,_),(29,_)] ky ?_ ?_
  · exact cg (aG rfl) rfl rfl ky (ei (aG rfl) rfl rfl ky)
  refine TC.cond rfl ?_ ?_<;>intro c40
  ·
   refine a7 (!(aN x.peer&&eA x.arms l.turns.length)) 55 [(1,_),(2,_),(3,_),(4,_),(15,_),(16,_),(17,_),(18,_),(19,_),(22,_),(23,_),(24,_),(25,_),(26,_),(27,_),(28,_),(29,_),(40,_)] ky ?_ ?_
   ·
    refine mX ?_;refine ar (ab rfl rfl rfl rfl) (cR x.peer) rfl (zm3 ?_)
    refine ag (s:=47) rfl ?_ ?_<;>intro g47
    ·
     refine sZ ?_
     exact aB rfl (by simp_all) ky
    refine zm8 ?_;refine fl ?_;refine aw rfl rfl (ah rfl rfl ht) rfl (aH rfl rfl (ab rfl rfl rfl rfl) (nA _ hT.a hT.z) rfl (ef ?_))
    exact aB rfl (by simp_all) ky
   refine TC.cond rfl ?_ ?_<;>intro c55
   ·
    refine rq ?_
    exact ao (.inr rfl) (ad rfl (RVal.tmp rfl)) (congrArg Value.bool (gj k0 hx (by unfold de;first | (rw [if_pos c29];exact gD c39) | (rw [if_neg c29,if_pos (by simpa using c40)];exact gD c55) | (simp_all;done)) hal))
   refine TC.skip (bn (iX ?_))
   exact aD (k+1) ⟨o2q,bC (p:=(de l.turns.length)) k0 hx (by unfold de;first | (rw [if_pos c29];exact eX c39) | (rw [if_neg c29,if_pos (by simpa using c40)];exact eX c55)) hal⟩ ky (fun w hw=>hw.drop) om
  refine rq ?_
  exact ao (.inr rfl) (ad rfl (RVal.tmp rfl)) (congrArg Value.bool (gj k0 hx (by unfold de;first | (rw [if_pos c29];exact gD c39) | (rw [if_neg c29,if_pos (by simpa using c40)];exact gD c55) | (simp_all;done)) hal))
 refine fD ?_
 exact ao (.inr rfl) (ad rfl (RVal.tmp rfl)) (congrArg Value.bool (yj hlen k0 c19 hal))
theorem BT {H:Hp}{pg:SProg}{q:SProc}{up:List Int}{vu:Value}{s:SStep}(at_:Int)(hP:ProgOk H pg)(hQ:ProcOk H q)(hU:RdSl H 1 I64.cells vu up)(hul:up.length=q.steps.length)(hlt:∀j:Int,0≤j→j<q.steps.length→aP up j<j)(hpos:∀j:Int,0<j→j<q.steps.length→0≤aP up j)(h0:0≤at_)(hs:q.steps[at_.toNat]? =some s)(h80:q.steps.length≤80)(h160:q.terms.length≤160)(h6:q.params.length≤6)(hm:∀s∈q.steps,dy s=true):
  FnS Tryz.prog 54 [.agg pg.cells.toArray,.agg q.cells.toArray,vu,.int .i64 at_] H (.int .i64 (er pg q.terms s (iR q up at_))):=by
 have hat:=eY hs
 have hsk:=hQ.ss s (List.mem_of_getElem? hs)
 have hsz:=dY (hm s (List.mem_of_getElem? hs))
 have hw7:∀s∈q.steps,s.ways.length≤7:=fun s hs=>(dY (hm s hs)).1
 have hrl:=xN hsz.2
 have hul2:=Fh (ts:=q.terms) (s:=s) h160 om
 have hbl:=C5 s
 refine FnS.enter Tryz.func54 Tryz.ntmps54 rfl rfl (fun w0=>?_)
 refine zm2 ?_
 refine TL.box rfl rfl (fun b4=>?_)
 refine TL.box rfl rfl (fun b5=>?_)
 refine tG ?_;refine tF ?_
 refine TL.alloc rfl (fun b9=>?_)
 refine ik ?_;refine nh ?_;refine zm3 ?_
 refine TL.call (ab rfl rfl rfl rfl) (Ds at_ hQ hU hul hlt hpos h0 hat h80 h6 hw7) rfl (fun v23 H23 hle23 hp23=>?_)
 replace hP:=hP.le hle23
 replace hQ:=hQ.le hle23
 replace hsk:=hsk.le hle23
 have hB:=hp23
 obtain⟨ba,bc,rfl⟩:=hB.len
 refine zm1 ?_;refine zZ ?_
 refine TL.call (ab rfl rfl rfl rfl) (Gj at_ hQ h0 hs hsz.2 h160) rfl (fun v26 H26 hle26 hp26=>?_)
 replace hP:=hP.le hle26
 replace hsk:=hsk.le hle26
 replace hB:=hB.le hle26
 have hA26:=hp26
 obtain⟨aa26,ac26,rfl⟩:=hA26.len
 refine kh ?_
 refine TC.loop (V:=fun k=>[(12,.int .i64 k)]) (K:=[(4,_),(8,_),(9,_),(10,_),(11,_)]) (L:=fun k=>_) (I:=fun k=>(0≤k∧k≤(gc q.terms s).length)∧(gc q.terms s).all (fun n=>bI (iR q up at_) n)=((gc q.terms s).drop k.toNat).all (fun n=>bI (iR q up at_) n)) (μ:=fun k=>((gc q.terms s).length - k).toNat) (i:=(0:Int)) ky ⟨o2q,rfl⟩ (fun w hw=>hw) (fun k hI=>?_)
 obtain⟨⟨k0,k1⟩,hal⟩:=hI
 refine fk ?_;refine TL.run (ah rfl rfl hA26) rfl (zm1 ?_)
 refine af rfl ?_ ?_<;>intro c30
 ·
  obtain⟨xA,hxA⟩:=aj (l:=(gc q.terms s)) k0 c30
  refine fi ?_;refine fO ?_;refine TL.run (ae rfl hA26 rfl om om) rfl (TL.run (aL hA26 hxA rfl rfl) rfl (ar (ab rfl rfl rfl rfl) (i6 xA hB) rfl (zm1 ?_)))
  refine TC.cond rfl ?_ ?_<;>intro c39
  ·
   have h1:=ce (p:=(fun n=>bI (iR q up at_) n)) k0 hxA (gD c39) hal
   refine kX ?_
   exact ao (.inr rfl) (ad rfl (RVal.tmp rfl)) (congrArg (Value.int .i64) (by first | exact(FN h1).symm | exact(FM h1 h2).symm | exact(FL h1 h2 c71).symm | exact(FK h1 h2 c71 h4).symm | exact(FJ h1 h2 c71 h4 c103).symm | exact(FI h1 h2 c71 h4 c103).symm))
  refine d6 ?_
  exact aD (k+1) ⟨o2q,bC (p:=(fun n=>bI (iR q up at_) n)) k0 hxA (eX c39) hal⟩ ky (fun w hw=>hw) om
 have h1:=bU (p:=(fun n=>bI (iR q up at_) n)) k0 c30 hal
 refine fN ?_;refine il ?_
 refine bD (ab rfl rfl rfl rfl) (Dr s hsk hsz.1) rfl (fun v41 H41 ob41 hle41 hp41=>?_)
 obtain⟨eH41,hO41⟩:=hp41
 subst H41
 obtain⟨a41,c41,rfl⟩:=hO41.form
 refine TL.pubO hO41 (.s2 (.skip _ .all)) sq (fun HP41 leP41 hR41=>?_)
 replace hP:=hP.le leP41
 replace hsk:=hsk.le leP41
 replace hB:=hB.le leP41
 have hR41m:=hR41.max
 refine kh ?_
 refine TC.loop (V:=fun k=>[(13,.int .i64 k)]) (K:=[(4,_),(8,_),(9,_),(10,_),(11,_)]) (L:=fun k=>_) (I:=fun k=>(0≤k∧k≤(eS s).length)∧(eS s).all (fun n=>!bI (iR q up at_) n)=((eS s).drop k.toNat).all (fun n=>!bI (iR q up at_) n)) (μ:=fun k=>((eS s).length - k).toNat) (i:=(0:Int)) ky ⟨o2q,rfl⟩ (fun w hw=>hw) (fun k hI=>?_)
 obtain⟨⟨k0,k1⟩,hal⟩:=hI
 refine fk ?_;refine TL.run (ah rfl rfl hR41) rfl (zm1 ?_)
 refine af rfl ?_ ?_<;>intro c45
 ·
  obtain⟨xB,hxB⟩:=aj (l:=eS s) k0 c45
  refine fi ?_;refine fO ?_;refine TL.run (ae rfl hR41 rfl om om) rfl (TL.run (aL hR41 hxB rfl rfl) rfl (ar (ab rfl rfl rfl rfl) (i6 xB hB) rfl (TL.nil ?_)))
  refine ai (TC.cond rfl (fun c53=>?_) (fun c53=>?_))
  ·
   have h2:=ce (p:=(fun n=>!bI (iR q up at_) n)) k0 hxB (by rw [c53];rfl) hal
   refine kX ?_
   exact ao (.inr rfl) (ad rfl (RVal.tmp rfl)) (congrArg (Value.int .i64) (by first | exact(FN h1).symm | exact(FM h1 h2).symm | exact(FL h1 h2 c71).symm | exact(FK h1 h2 c71 h4).symm | exact(FJ h1 h2 c71 h4 c103).symm | exact(FI h1 h2 c71 h4 c103).symm))
  refine d6 ?_
  exact aD (k+1) ⟨o2q,bC (p:=(fun n=>!bI (iR q up at_) n)) k0 hxB (by rw [c53];rfl) hal⟩ ky (fun w hw=>hw) om
 have h2:=bU (p:=(fun n=>!bI (iR q up at_) n)) k0 c45 hal
 refine iB ?_
 refine a7 (callK s.kind&& !bL pg.procs s.proc s.args.length) 71 [(4,_),(8,_),(9,_)] ky ?_ ?_
 ·
  refine kV ?_
  refine ag (s:=57) rfl ?_ ?_<;>intro g57
  ·
   have q57:=of_decide_eq_true g57
   refine im ?_;refine At ?_;refine zm8 ?_;refine zm8 ?_
   refine aw rfl rfl (ah rfl rfl hsk.a) rfl (aH rfl rfl (ab rfl rfl rfl rfl) (l4 s.proc s.args.length 0 hP om om) rfl (ef ?_))
   exact aB rfl (by unfold callK;simp_all) ky
  have q57:=of_decide_eq_false g57
  refine m6 ?_
  refine ag (s:=62) rfl ?_ ?_<;>intro g62
  ·
   have q62:=of_decide_eq_true g62
   refine At ?_;refine zm8 ?_;refine zm8 ?_;refine aw rfl rfl (ah rfl rfl hsk.a) rfl (aH rfl rfl (ab rfl rfl rfl rfl) (l4 s.proc s.args.length 0 hP om om) rfl (ef ?_))
   exact aB rfl (by unfold callK;simp_all) ky
  have q62:=of_decide_eq_false g62
  refine tB ?_
  exact aB rfl (by unfold callK;simp_all) ky
 refine TC.cond rfl ?_ ?_<;>intro c71
 ·
  refine gq ?_
  exact ao (.inr rfl) (ad rfl (RVal.tmp rfl)) (congrArg (Value.int .i64) (by first | exact(FN h1).symm | exact(FM h1 h2).symm | exact(FL h1 h2 c71).symm | exact(FK h1 h2 c71 h4).symm | exact(FJ h1 h2 c71 h4 c103).symm | exact(FI h1 h2 c71 h4 c103).symm))
 refine jn ?_
 refine TC.loop (V:=fun k=>[(14,.int .i64 k)]) (K:=[(4,_),(8,_),(9,_)]) (L:=fun k=>_) (I:=fun k=>(0≤k∧k≤s.casts.length)∧s.casts.all (fun c=>bL pg.procs c.proc (c.args.length+1))=(s.casts.drop k.toNat).all (fun c=>bL pg.procs c.proc (c.args.length+1))) (μ:=fun k=>(s.casts.length - k).toNat) (i:=(0:Int)) ky ⟨o2q,rfl⟩ (fun w hw=>hw) (fun k hI=>?_)
 obtain⟨⟨k0,k1⟩,hal⟩:=hI
 refine jO ?_;refine TL.run (ah rfl rfl hsk.c) rfl (zm1 ?_)
 refine af rfl ?_ ?_<;>intro c76
 ·
  obtain⟨xC,hxC⟩:=aj (l:=s.casts) k0 c76
  have hxl:=hsz.2.2.2 xC (List.mem_of_getElem? hxC)
  refine nc ?_;refine TQ.run (bA rfl (.h2) rfl) rfl (kL ?_);refine TQ.run (ae rfl hsk.c rfl om om) rfl (gl ?_);refine TQ.run (aT hsk.c hxC rfl rfl) rfl (kL ?_)
  refine TQ.run (ae rfl hsk.c rfl om om) rfl (gl ?_)
  refine TQ.run (aT hsk.c hxC rfl rfl) rfl (TQ.run (ah rfl rfl (hsk.cs xC (List.mem_of_getElem? hxC))) rfl (gJ (ab rfl rfl rfl rfl) (l4 xC.proc xC.args.length 1 hP om om) rfl (k4 ?_)))
  refine TC.cond rfl ?_ ?_<;>intro c94
  ·
   have h4:=ce (p:=(fun c=>bL pg.procs c.proc (c.args.length+1))) k0 hxC (gD c94) hal
   refine kX ?_
   exact ao (.inr rfl) (ad rfl (RVal.tmp rfl)) (congrArg (Value.int .i64) (by first | exact(FN h1).symm | exact(FM h1 h2).symm | exact(FL h1 h2 c71).symm | exact(FK h1 h2 c71 h4).symm | exact(FJ h1 h2 c71 h4 c103).symm | exact(FI h1 h2 c71 h4 c103).symm))
  refine d6 ?_
  exact aD (k+1) ⟨o2q,bC (p:=(fun c=>bL pg.procs c.proc (c.args.length+1))) k0 hxC (eX c94) hal⟩ ky (fun w hw=>hw) om
 have h4:=bU (p:=(fun c=>bL pg.procs c.proc (c.args.length+1))) k0 c76 hal
 refine iB ?_
 refine a7 (decide (s.kind=8)&& !dx pg s) 103 [(8,_)] ⟨rfl,trivial⟩ ?_ ?_
 ·
  refine kV ?_
  refine ag (s:=98) rfl ?_ ?_<;>intro g98
  ·
   have q98:=of_decide_eq_true g98
   refine At ?_;refine oO ?_;refine aH rfl rfl (ab rfl rfl rfl rfl) (BV s hP hsk hsz.2.2.1) rfl (ef ?_)
   exact aB rfl (by simp_all) ⟨rfl,trivial⟩
  have q98:=of_decide_eq_false g98
  refine kR ?_
  exact aB rfl (by simp_all) ⟨rfl,trivial⟩
 refine TC.cond rfl ?_ ?_<;>intro c103
 ·
  refine gq ?_
  exact ao (.inr rfl) (ad rfl (RVal.tmp rfl)) (congrArg (Value.int .i64) (by first | exact(FN h1).symm | exact(FM h1 h2).symm | exact(FL h1 h2 c71).symm | exact(FK h1 h2 c71 h4).symm | exact(FJ h1 h2 c71 h4 c103).symm | exact(FI h1 h2 c71 h4 c103).symm))
 refine dn ?_;refine jJ ?_
 exact ao (.inr rfl) (ad rfl (RVal.tmp rfl)) (congrArg (Value.int .i64) (by first | exact(FN h1).symm | exact(FM h1 h2).symm | exact(FL h1 h2 c71).symm | exact(FK h1 h2 c71 h4).symm | exact(FJ h1 h2 c71 h4 c103).symm | exact(FI h1 h2 c71 h4 c103).symm))
theorem jh {H:Hp}{pg:SProg}(hP:ProgOk H pg)(hz:∀q∈pg.procs,se q):
  FnS Tryz.prog 18 [.agg pg.cells.toArray] H (.agg (eh pg).cells.toArray):=by
 have hrm:=hP.r.max
 have hlm:=hP.l.max
 have hqm:=hP.q.max
 refine FnS.enter Tryz.func18 Tryz.ntmps18 rfl rfl (fun w0=>?_)
 refine zm2 ?_
 refine TL.box rfl rfl (fun b1=>?_)
 refine TL.alloc rfl (fun b2=>?_)
 refine TL.nil (ai (TC.seq (a7 (decide (6<(pg.protos.length:Int))||(decide (12<(pg.locals.length:Int))||decide (24<(pg.procs.length:Int)))) 27 [(1,_),(2,_)] ⟨rfl,rfl,trivial⟩ ?_ ?_)))
 ·
  refine ws ?_;refine TL.run (ah rfl rfl hP.r) rfl (zm3 ?_)
  refine ag (s:=16) rfl ?_ ?_<;>intro g16
  ·
   have q16:=of_decide_eq_true g16
   refine tJ ?_
   exact aB rfl (by first | (simp [*];done) | (simp_all;done) | (simp_all;omega)) ⟨rfl,rfl,trivial⟩
  have q16:=of_decide_eq_false g16
  refine fl ?_;refine aw rfl rfl (ah rfl rfl hP.l) rfl (cM ?_)
  refine ag (s:=22) rfl ?_ ?_<;>intro g22
  ·
   have q22:=of_decide_eq_true g22
   refine kR ?_
   exact aB rfl (by first | (simp [*];done) | (simp_all;done) | (simp_all;omega)) ⟨rfl,rfl,trivial⟩
  have q22:=of_decide_eq_false g22
  refine fl ?_;refine aw rfl rfl (ah rfl rfl hP.q) rfl (ef ?_)
  exact aB rfl (by first | (simp [*];done) | (simp_all;done) | (simp_all;omega)) ⟨rfl,rfl,trivial⟩
 refine TC.cond rfl ?_ ?_<;>intro c27
 ·
  refine zm2 ?_;refine ar (ab rfl rfl rfl rfl) (dL 1500 (-1) (-1)) rfl (tA ?_)
  exact ao (.inr rfl) (ad rfl (RVal.cellA rfl (.here _) rfl)) (by rw [E6 (by rw [yA c27];show ¬(1500:Int)=0;decide),yA c27];rfl)
 refine jn ?_
 refine TC.loop (V:=fun k=>[(3,.int .i64 k)]) (K:=[(1,_),(2,_)]) (L:=fun k=>_) (I:=fun k=>(0≤k∧k≤pg.protos.length)∧pg.protos.all cF=(pg.protos.drop k.toNat).all cF) (μ:=fun k=>(pg.protos.length - k).toNat) (i:=(0:Int)) ky ⟨o2q,rfl⟩ (fun w hw=>hw) (fun k hI=>?_)
 obtain⟨⟨k0,k1⟩,hal⟩:=hI
 refine kU ?_;refine TL.run (ah rfl rfl hP.r) rfl (zm1 ?_)
 refine af rfl ?_ ?_<;>intro c33
 ·
  obtain⟨x,hx⟩:=aj (l:=pg.protos) k0 c33
  refine wE ?_;refine TL.run (ae rfl hP.r rfl om om) rfl (TL.run (aY hP.r hx rfl rfl) rfl (ar (ab rfl rfl rfl rfl) (gz x (hP.rs x (List.mem_of_getElem? hx))) rfl (zm1 ?_)))
  refine TC.cond rfl ?_ ?_<;>intro c42
  ·
   have hr1:=ce (p:=cF) k0 hx (by rw [← xS];exact gD c42) hal
   refine zm2 ?_;refine ar (ab rfl rfl rfl rfl) (dL 1500 (-1) (-1)) rfl (iV ?_);refine iy ?_
   exact ao (.inr rfl) (ad rfl (RVal.cellA rfl (.here _) rfl)) (by rw [E6 (by rw [yz c27 hr1];show ¬(1500:Int)=0;decide),yz c27 hr1];rfl)
  refine d6 ?_
  exact aD (k+1) ⟨o2q,bC (p:=cF) k0 hx (by rw [← xS];exact eX c42) hal⟩ ky (fun w hw=>hw) om
 have hr1:=bU (p:=cF) k0 c33 hal
 refine tf ?_
 refine TC.loop (V:=fun k=>[(4,.int .i64 k)]) (K:=[(1,_),(2,_)]) (L:=fun k=>_) (I:=fun k=>(0≤k∧k≤pg.locals.length)∧pg.locals.all (fun l=>cr l&&aN l.name)=(pg.locals.drop k.toNat).all (fun l=>cr l&&aN l.name)) (μ:=fun k=>(pg.locals.length - k).toNat) (i:=(0:Int)) ky ⟨o2q,rfl⟩ (fun w hw=>hw) (fun k hI=>?_)
 obtain⟨⟨k0,k1⟩,hal⟩:=hI
 refine kU ?_;refine TL.run (ah rfl rfl hP.l) rfl (zm1 ?_)
 refine af rfl ?_ ?_<;>intro c48
 ·
  obtain⟨y,hy⟩:=aj (l:=pg.locals) k0 c48
  refine fi ?_
  refine a7 (!(cr y&&aN y.name)) 67 [(1,_),(2,_),(4,_),(44,_),(45,_),(46,_),(47,_),(48,_)] ky ?_ ?_
  ·
   refine TC.region (kH ?_)
   refine TL.run (ae rfl hP.l rfl om om) rfl (TL.run (aY hP.l hy rfl rfl) rfl (ar (ab rfl rfl rfl rfl) (uv y (hP.ls y (List.mem_of_getElem? hy))) rfl (zm3 ?_)))
   refine ag (s:=58) rfl ?_ ?_<;>intro g58
   ·
    refine tB ?_
    exact aB rfl (by simp_all) ky
   refine fl ?_;refine cv ?_;refine aw rfl rfl (ae rfl hP.l rfl om om) rfl (gM ?_)
   refine aw rfl rfl (aT hP.l hy rfl rfl) rfl (aH rfl rfl (ab rfl rfl rfl rfl) (cR y.name) rfl (ef ?_))
   exact aB rfl (by simp_all) ky
  refine TC.cond rfl ?_ ?_<;>intro c67
  ·
   have hl1:=ce (p:=(fun l=>cr l&&aN l.name)) k0 hy (gD c67) hal
   refine zm2 ?_;refine ar (ab rfl rfl rfl rfl) (dL 1500 (-1) (-1)) rfl (iV ?_);refine iy ?_
   exact ao (.inr rfl) (ad rfl (RVal.cellA rfl (.here _) rfl)) (by rw [E6 (by rw [yy c27 hr1 hl1];show ¬(1500:Int)=0;decide),yy c27 hr1 hl1];rfl)
  refine d6 ?_
  exact aD (k+1) ⟨o2q,bC (p:=(fun l=>cr l&&aN l.name)) k0 hy (eX c67) hal⟩ ky (fun w hw=>hw) om
 have hl1:=bU (p:=(fun l=>cr l&&aN l.name)) k0 c48 hal
 have hA0:(jH pg).e=0:=by rw [Cx c27 hr1 hl1];rfl
 refine tf ?_
 refine TC.loop (V:=fun k=>[(5,.int .i64 k)]) (K:=[(1,_),(2,_)]) (L:=fun k=>_) (I:=fun k=>(0≤k∧k≤pg.procs.length)∧cB (bf pg.procs) pg.procs 0=cB (bf pg.procs) (pg.procs.drop k.toNat) k) (μ:=fun k=>(pg.procs.length - k).toNat) (i:=(0:Int)) ky ⟨o2q,rfl⟩ (fun w hw=>hw) (fun k hI=>?_)
 obtain⟨⟨k0,k1⟩,hE⟩:=hI
 refine kU ?_;refine TL.run (ah rfl rfl hP.q) rfl (zm1 ?_)
 refine af rfl ?_ ?_<;>intro c73
 ·
  obtain⟨q,hx⟩:=aj (l:=pg.procs) k0 c73
  refine dv ?_;refine ng ?_;refine zm0 ?_;refine ar (ab rfl rfl rfl rfl) (BS k hP k0 hx (hz q (List.mem_of_getElem? hx))) rfl (TL.alloc rfl (fun b6=>?_))
  refine oG ?_
  refine aV rfl ?_ ?_<;>intro c81
  ·
   refine lg ?_;refine iy ?_
   exact ao (.inr rfl) (ad rfl (RVal.cellA rfl (.h1) rfl)) (by rw [chk_1 hA0 (by rw [j9 k0 hx c81 hE];exact c81),j9 k0 hx c81 hE];rfl)
  refine d6 ?_
  exact aD (k+1) ⟨o2q,mO k0 hx c81 hE⟩ ky (fun w hw=>hw.drop) om
 have hE0:(cB (bf pg.procs) pg.procs 0).e=0:=by rw [pF k0 c73 hE];rfl
 refine fN ?_;refine nh ?_;refine ar (ab rfl rfl rfl rfl) (j6 cL hP) rfl (iM ?_)
 refine a7 (decide (dk pg.procs cL<0)||decide (0<((pC pg.procs (dk pg.procs cL)).params.length:Int))) 96 [(1,_),(2,_)] ⟨rfl,rfl,trivial⟩ ?_ ?_
 ·
  refine jN ?_
  refine ag (s:=87) rfl ?_ ?_<;>intro g87
  ·
   have q87:=of_decide_eq_true g87
   refine tB ?_
   exact aB rfl (by first | (rw [hgp];simp_all;done) | (simp_all;done) | (simp [*];done) | (simp_all;omega)) ⟨rfl,rfl,trivial⟩
  have q87:=of_decide_eq_false g87
  have hfr:=kx pg.procs cL
  obtain⟨x,hx⟩:=aj (l:=pg.procs) (i:=dk pg.procs cL) om om
  have hxp:=(hP.qs x (List.mem_of_getElem? hx)).pa.max
  have hgp:pC pg.procs (dk pg.procs cL)=x:=by unfold pC;rw [hx];rfl
  refine fl ?_;refine cv ?_;refine aw rfl rfl (ae rfl hP.q rfl om om) rfl (gM ?_);refine aw rfl rfl (aT hP.q hx rfl rfl) rfl (Eg ?_);refine ef ?_
  exact aB rfl (by first | (rw [hgp];simp_all;done) | (simp_all;done) | (simp [*];done) | (simp_all;omega)) ⟨rfl,rfl,trivial⟩
 refine TC.cond rfl ?_ ?_<;>intro c96
 ·
  refine zm2 ?_;refine ar (ab rfl rfl rfl rfl) (dL 1504 (-1) (-1)) rfl (tA ?_)
  exact ao (.inr rfl) (ad rfl (RVal.cellA rfl (.here _) rfl)) (by rw [chk_2 hA0 hE0 (by rw [zl c96];show ¬(1504:Int)=0;decide),zl c96];rfl)
 have hM0:(j5 pg.procs).e=0:=by rw [Dn c96];rfl
 refine jn ?_
 refine aK (V:=fun k v ob H1=>[(8,.int .i64 k)]) (K:=[(1,_),(2,_)]) (L:=fun k v ob H1=>St [] w0 H H1 ((b2,[.int .i64 0,.int .i64 0,.int .i64 0])::(b1,pg.cells)::[])) (I:=fun k v ob H1=>(0≤k∧k≤pg.procs.length)∧H.le H1∧cB (f6 pg) pg.procs 0=cB (f6 pg) (pg.procs.drop k.toNat) k) (μ:=fun k=>(pg.procs.length - k).toNat) 0 .nilFunc [] H ky ⟨o2q,Hp.le.refl _,rfl⟩ (fun w hw=>hw) (fun k v ob H1 hI=>?_)
 obtain⟨⟨k0,k1⟩,hle1,hE⟩:=hI
 replace hP:=hP.le hle1
 refine kU ?_;refine TL.run (ah rfl rfl hP.q) rfl (zm1 ?_)
 refine af rfl ?_ ?_<;>intro c102
 ·
  obtain⟨q,hx⟩:=aj (l:=pg.procs) k0 c102
  have hR:=Cg _ _ hE0 q (List.mem_of_getElem? hx)
  have hn80:=hR.n80
  refine wE ?_;refine Az ?_
  refine TL.run (aY hP.q hx rfl rfl) rfl (bD (ab rfl rfl rfl rfl) (pA q (hP.qs q (List.mem_of_getElem? hx)) (hz q (List.mem_of_getElem? hx)) hR.n1 hR.n80) rfl (fun v110 H110 ob110 hle110 hp110=>?_))
  have hO110:OwnSl 1 I64.cells v110 (gC q) ob110:=hp110
  obtain⟨a110,c110,rfl⟩:=hO110.form
  replace hP:=hP.le hle110
  replace hle1:=hle1.trans hle110
  refine TL.pubO hO110 (.skip _ (.skip _ .all)) sq (fun HP110 leP110 hR110=>?_)
  replace hP:=hP.le leP110
  replace hle1:=hle1.trans leP110
  refine zT ?_
  refine TC.loop (V:=fun m=>[(10,.int .i64 m)]) (K:=[(1,_),(2,_),(8,_),(9,_),(98,_),(99,_),(100,_),(101,_),(102,_),(105,_),(106,_),(107,_),(108,_),(109,_),(110,_)]) (L:=fun m=>_) (I:=fun m=>(0≤m∧m≤q.steps.length)∧Iq pg k q=fo pg q k (q.steps.drop m.toNat) m) (μ:=fun m=>(q.steps.length - m).toNat) (i:=(0:Int)) ky ⟨o2q,rfl⟩ (fun w hw=>hw) (fun m hI=>?_)
  obtain⟨⟨m0,m1⟩,hS⟩:=hI
  refine kU ?_;refine zm0 ?_;refine Az ?_;refine zm5 ?_;refine TL.run (aT hP.q hx rfl rfl) rfl (TL.run (ah rfl rfl (hP.qs q (List.mem_of_getElem? hx)).s) rfl (zm1 ?_))
  refine af rfl ?_ ?_<;>intro c119
  ·
   obtain⟨s,hs⟩:=aj (l:=q.steps) m0 c119
   refine nc ?_;refine TQ.run (bA rfl (.h1) rfl) rfl (zJ ?_);refine TQ.run (ae rfl hP.q rfl om om) rfl (TQ.run (aY hP.q hx rfl rfl) rfl (mV ?_))
   refine gJ (ab rfl rfl rfl rfl) (BT m hP (hP.qs q (List.mem_of_getElem? hx)) hR110 (EJ q) hR.lt (fun j h1 h2=>(hR.up j h1 h2).1) m0 hs hR.n80 hR.t160 hR.p6 (fun s hs2=>by obtain⟨i2,hi2⟩:=List.getElem?_of_mem hs2;exact(hR.s i2 s hi2).1)) rfl ?_
   refine k4 ?_;refine eE ?_
   refine aV rfl ?_ ?_<;>intro c132
   ·
    refine fO ?_;refine ar (ab rfl rfl rfl rfl) (dL _ k m) rfl (iV ?_);refine wW ?_
    exact ao (.inr rfl) (ad rfl (RVal.cellA rfl (.here _) rfl)) (by rw [E5 hA0 hE0 hM0,j9 (f:=f6 pg) k0 hx (by rw [← ui hR,Ii m0 hs c132 hS];exact c132) hE,← ui hR,Ii m0 hs c132 hS];rfl)
   refine d6 ?_
   exact aD (m+1) ⟨o2q,rn_next m0 hs c132 hS⟩ ky (fun w hw=>hw) om
  refine kJ ?_
  exact ay (k+1) .nilFunc [] HP110 ⟨o2q,hle1,mO k0 hx (by rw [← ui hR];rw [rn_end m0 c119 hS];rfl) hE⟩ ky (fun w hw=>hw) om
 refine re ?_;refine iV ?_
 exact ao (.inr rfl) (ad rfl (RVal.cellA rfl (.here _) rfl)) (by rw [E5 hA0 hE0 hM0,pF (f:=f6 pg) k0 c102 hE];rfl)
theorem mL {H:Hp}{pg:SProg}(hP:ProgOk H pg)(hz:∀q∈pg.procs,se q):
  Fn Tryz.prog 20 [.agg pg.cells.toArray] H (fun v H9=>∃pg2:SProg,v= .agg pg2.cells.toArray∧ProgOk H9 pg2∧pg2.bare=rO pg):=by
 have hmr:=hP.r.max
 have hml:=hP.l.max
 have hmq:=hP.q.max
 refine Fn.enter Tryz.func20 Tryz.ntmps20 rfl rfl (fun w0=>?_)
 refine zm2 ?_
 refine TL.box rfl rfl (fun b1=>?_)
 refine TL.alloc rfl (fun b2=>?_)
 refine TL.nil (ai (TC.seq (nh ?_)));refine ar (ab rfl rfl rfl rfl) (jh hP hz) rfl (TL.run (qm (off:=0) rfl kr rfl) rfl (zm1 ?_))
 refine aV rfl ?_ ?_<;>intro c10
 ·
  refine k9 ?_;refine tA ?_
  exact aR (.inr rfl) (ad rfl (RVal.cellA rfl (.here _) rfl)) ⟨nilPg,rfl,Dk _,Bg c10⟩
 have hck:=yu c10
 have hn1:=hck.r.1
 have hn2:=hck.l.1
 have hn3:=hck.q.1
 have hRE:=DB c10
 have hRF:=Gw c10
 refine lu ?_
 refine TL.alloc rfl (fun b3=>?_)
 refine qW ?_
 refine aK (V:=fun(ix:Int×List SProto) v1 ob1 H1=>[(4,.int .i64 ix.1)]) (K:=[(1,_),(2,_),(3,_)]) (L:=fun(ix:Int×List SProto) v1 ob1 H1=>St [] w0 H H1 ((b3,[v1,.slice none 0 0,.slice none 0 0])::(b2,[.slice none 0 0,.slice none 0 0,.slice none 0 0])::(b1,pg.cells)::ob1)) (I:=fun(ix:Int×List SProto) v1 ob1 H1=>(0≤ix.1∧ix.1≤pg.protos.length)∧H.le H1∧OwnSl 3 SProto.cells v1 ix.2 ob1∧ix.2.length=ix.1∧PrAll H1 ix.2∧ix.2.map SProto.bare=(pg.protos.take ix.1.toNat).map SProto.bare) (μ:=fun(ix:Int×List SProto)=>(pg.protos.length - ix.1).toNat) ((0:Int),[]) (.slice none 0 0) [] H ky ⟨o2q,Hp.le.refl _,OwnSl.nil,rfl,(fun _ h=>by cases h),rfl⟩ (fun w hw=>hw) (fun ix v1 ob1 H1 hI=>?_)
 obtain⟨⟨k01,k11⟩,hle1,hO1,hPl1,hPA1,hPm1⟩:=hI
 obtain⟨k1,P1⟩:=ix
 dsimp only at *
 obtain⟨va1,vc1,rfl⟩:=hO1.form
 replace hP:=hP.le hle1
 refine ww ?_;refine TL.run (ah rfl rfl hP.r) rfl (zm1 ?_)
 refine af rfl ?_ ?_<;>intro c16
 ·
  obtain⟨x,hk1⟩:=aj (l:=pg.protos) k01 c16
  have hz1:=Bm (hck.r.2 x (List.mem_of_getElem? hk1))
  refine qK ?_;refine Hh ?_;refine zm4 ?_;refine zU ?_;refine zm4 ?_;refine qO ?_;refine zm6 ?_
  refine az (ae rfl hP.r rfl om om) rfl (aO (S1 (S1 (S1 SN))) (Hp.le.refl _) (fun _ _=>aY hP.r hk1 rfl rfl) rfl (au rfl (TL.call (ab rfl rfl rfl rfl) (vg x (hP.rs x (List.mem_of_getElem? hk1)) hz1.1 hz1.2.1 hz1.2.2) rfl (fun v26 H26 hle26 hp26=>?_))))
  obtain⟨x26,rfl,hx26,hb26⟩:=hp26
  replace hle1:=hle1.trans hle26
  replace hPA1:=hPA1.le hle26
  refine ax (S1 (S1 (S1 SN))) hle26 (aJ rfl rfl rfl rfl (fun b27=>?_))
  refine au rfl (TL.append (enc:=SProto.cells) rfl rfl rfl hO1 (Src.own [x26] (.here _) rfl rfl) (by simp;omega) rfl (.s3 (.skip _ .all)) rfl (fun a28 c28 ob28 hO28=>?_))
  refine ax (S0 (S1 (S1 (S1 SN)))) hle26 (wQ ?_)
  exact ay (i:=(k1,P1)) (k1+1,P1++[x26]) _ ob28 H26 ⟨o2q,hle1,hO28,by simp only [List.length_append,List.length_cons,List.length_nil];omega,dG hPA1 hx26,eP k01 hk1 hPm1 hb26⟩ ky (fun w hw=>hw.drop) om
 refine tx ?_
 have hE1:=hPm1
 rw [aX c16 k01] at hE1
 refine TL.pubO hO1 (.s2 (.skip _ .all)) sq (fun HPob1 lePob1 hRP=>?_)
 replace hP:=hP.le lePob1
 replace hPA1:=hPA1.le lePob1
 refine aS (L':=(b3,_)::((b2,_)::((b1,_)::[]))) (List.Perm.refl _) (zm9 ?_)
 refine aK (V:=fun(ix:Int×List SLocal) v2 ob2 H2=>[(5,.int .i64 ix.1)]) (K:=[(1,_),(2,_),(3,_)]) (L:=fun(ix:Int×List SLocal) v2 ob2 H2=>St [] w0 H H2 ((b3,[.slice va1 P1.length vc1,v2,.slice none 0 0])::(b2,[.slice none 0 0,.slice none 0 0,.slice none 0 0])::(b1,pg.cells)::ob2)) (I:=fun(ix:Int×List SLocal) v2 ob2 H2=>(0≤ix.1∧ix.1≤pg.locals.length)∧HPob1.le H2∧OwnSl 2 SLocal.cells v2 ix.2 ob2∧ix.2.length=ix.1∧LoAll H2 ix.2∧ix.2.map SLocal.bare=(pg.locals.take ix.1.toNat).map SLocal.bare) (μ:=fun(ix:Int×List SLocal)=>(pg.locals.length - ix.1).toNat) ((0:Int),[]) (.slice none 0 0) [] HPob1 ky ⟨o2q,Hp.le.refl _,OwnSl.nil,rfl,(fun _ h=>by cases h),rfl⟩ (fun w hw=>hw) (fun ix v2 ob2 H2 hI=>?_)
 obtain⟨⟨k02,k12⟩,hle2,hO2,hPl2,hPA2,hPm2⟩:=hI
 obtain⟨k2,P2⟩:=ix
 dsimp only at *
 obtain⟨va2,vc2,rfl⟩:=hO2.form
 replace hP:=hP.le hle2
 replace hPA1:=hPA1.le hle2
 replace hRP:=hRP.le hle2
 refine ww ?_;refine TL.run (ah rfl rfl hP.l) rfl (zm1 ?_)
 refine af rfl ?_ ?_<;>intro c34
 ·
  obtain⟨x,hk2⟩:=aj (l:=pg.locals) k02 c34
  have hz1:=uY (hck.l.2 x (List.mem_of_getElem? hk2)).1
  refine qK ?_;refine Hh ?_;refine zm4 ?_;refine zU ?_;refine zm4 ?_;refine qO ?_;refine zm6 ?_
  refine az (ae rfl hP.l rfl om om) rfl (aO (S1 (S1 (S1 SN))) (Hp.le.refl _) (fun _ _=>aY hP.l hk2 rfl rfl) rfl (au rfl (TL.call (ab rfl rfl rfl rfl) (vh x (hP.ls x (List.mem_of_getElem? hk2)) hz1.1 hz1.2) rfl (fun v44 H44 hle44 hp44=>?_))))
  obtain⟨x44,rfl,hx44,hb44⟩:=hp44
  replace hle2:=hle2.trans hle44
  replace hPA2:=hPA2.le hle44
  refine ax (S1 (S1 (S1 SN))) hle44 (aJ rfl rfl rfl rfl (fun b45=>?_))
  refine au rfl (TL.append (enc:=SLocal.cells) rfl rfl rfl hO2 (Src.own [x44] (.here _) rfl rfl) (by simp;omega) rfl (.s3 (.skip _ .all)) rfl (fun a46 c46 ob46 hO46=>?_))
  refine ax (S0 (S1 (S1 (S1 SN)))) hle44 (wQ ?_)
  exact ay (i:=(k2,P2)) (k2+1,P2++[x44]) _ ob46 H44 ⟨o2q,hle2,hO46,by simp only [List.length_append,List.length_cons,List.length_nil];omega,dG hPA2 hx44,eP k02 hk2 hPm2 hb44⟩ ky (fun w hw=>hw.drop) om
 refine tx ?_
 have hE2:=hPm2
 rw [aX c34 k02] at hE2
 refine TL.pubO hO2 (.s2 (.skip _ .all)) sq (fun HPob2 lePob2 hRL=>?_)
 replace hP:=hP.le lePob2
 replace hPA1:=hPA1.le lePob2
 replace hRP:=hRP.le lePob2
 replace hPA2:=hPA2.le lePob2
 refine aS (L':=(b3,_)::((b2,_)::((b1,_)::[]))) (List.Perm.refl _) (zm9 ?_)
 refine aK (V:=fun(ix:Int×List SProc) v3 ob3 H3=>[(6,.int .i64 ix.1)]) (K:=[(1,_),(2,_),(3,_)]) (L:=fun(ix:Int×List SProc) v3 ob3 H3=>St [] w0 H H3 ((b3,[.slice va1 P1.length vc1,.slice va2 P2.length vc2,v3])::(b2,[.slice none 0 0,.slice none 0 0,.slice none 0 0])::(b1,pg.cells)::ob3)) (I:=fun(ix:Int×List SProc) v3 ob3 H3=>(0≤ix.1∧ix.1≤pg.procs.length)∧HPob2.le H3∧OwnSl 4 SProc.cells v3 ix.2 ob3∧ix.2.length=ix.1∧PcAll H3 ix.2∧ix.2.map SProc.bare=(pg.procs.take ix.1.toNat).map uo) (μ:=fun(ix:Int×List SProc)=>(pg.procs.length - ix.1).toNat) ((0:Int),[]) (.slice none 0 0) [] HPob2 ky ⟨o2q,Hp.le.refl _,OwnSl.nil,rfl,(fun _ h=>by cases h),rfl⟩ (fun w hw=>hw) (fun ix v3 ob3 H3 hI=>?_)
 obtain⟨⟨k03,k13⟩,hle3,hO3,hPl3,hPA3,hPm3⟩:=hI
 obtain⟨k3,P3⟩:=ix
 dsimp only at *
 obtain⟨va3,vc3,rfl⟩:=hO3.form
 replace hP:=hP.le hle3
 replace hPA1:=hPA1.le hle3
 replace hRP:=hRP.le hle3
 replace hPA2:=hPA2.le hle3
 replace hRL:=hRL.le hle3
 refine ww ?_;refine TL.run (ah rfl rfl hP.q) rfl (zm1 ?_)
 refine af rfl ?_ ?_<;>intro c52
 ·
  obtain⟨x,hk3⟩:=aj (l:=pg.procs) k03 c52
  have hF:=hRF x (List.mem_of_getElem? hk3)
  refine qK ?_;refine Hh ?_;refine zm4 ?_;refine zU ?_;refine zm4 ?_;refine qO ?_;refine zm6 ?_
  refine az (ae rfl hP.q rfl om om) rfl (aO (S1 (S1 (S1 SN))) (Hp.le.refl _) (fun _ _=>aY hP.q hk3 rfl rfl) rfl (au rfl (TL.call (ab rfl rfl rfl rfl) (vZ (hP.qs x (List.mem_of_getElem? hk3)) hF.1 hF.2.1 hF.2.2) rfl (fun v62 H62 hle62 hp62=>?_))))
  obtain⟨x62,rfl,hx62,hb62⟩:=hp62
  replace hle3:=hle3.trans hle62
  replace hPA3:=hPA3.le hle62
  refine ax (S1 (S1 (S1 SN))) hle62 (aJ rfl rfl rfl rfl (fun b63=>?_))
  refine au rfl (TL.append (enc:=SProc.cells) rfl rfl rfl hO3 (Src.own [x62] (.here _) rfl rfl) (by simp;omega) rfl (.s3 (.skip _ .all)) rfl (fun a64 c64 ob64 hO64=>?_))
  refine ax (S0 (S1 (S1 (S1 SN)))) hle62 (wQ ?_)
  exact ay (i:=(k3,P3)) (k3+1,P3++[x62]) _ ob64 H62 ⟨o2q,hle3,hO64,by simp only [List.length_append,List.length_cons,List.length_nil];omega,dG hPA3 hx62,eP k03 hk3 hPm3 hb62⟩ ky (fun w hw=>hw.drop) om
 refine fN ?_;refine lg ?_
 have hE3:=hPm3
 rw [aX c52 k03] at hE3
 refine TX.pubO hO3 (.s2 (.skip _ .all)) sq (fun HC leC hRQ=>?_)
 have hE4:pg.procs.map uo=pg.procs.map iO:=List.map_congr_left (fun q hq=>hRE q hq)
 exact aR (.inr rfl) (ad rfl (RVal.cellA rfl (.h1) rfl)) ⟨⟨P1,(va1,vc1),P2,(va2,vc2),P3,(va3,vc3)⟩,rfl,⟨hRP.le leC,PrAll.le hPA1 leC,hRL.le leC,LoAll.le hPA2 leC,hRQ,PcAll.le hPA3 leC⟩,by rw [qj c10,← hE4];unfold SProg.bare;simp only [hE1,hE2,hE3]⟩
end Go.Sx
