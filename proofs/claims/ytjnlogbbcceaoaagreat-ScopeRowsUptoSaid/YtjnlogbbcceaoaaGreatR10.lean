import Derived.Test.YtjnlogbbcceaoaaGreatR9
set_option linter.all false
set_option maxRecDepth 100000
set_option maxHeartbeats 32000000
namespace Go.Sx
open Go
theorem XA.cast {A B:XV}{ts us:List Term}{ss rs:List TStep}{a b:Int}(h:XA A B ts ss a)(e1:ts=us)(e2:ss=rs)(e3:a=b):XA A B us rs b:=by subst e1 e2 e3;exact h
structure HR where
 ws:List SWay
 a:Option Addr
 c:Nat
 ob:aj
 ts:List Term
 ss:List TStep
 xs:List SStep
 nm:Int
structure HearI (ps:List SProto)(arms:List SArm)(dp r names:Int)(n t:Nat)(k:Int)(ws:List SWay)(xs:List SStep)(ts:List Term)(nm:Int):Prop where
 lb:ws.map (·.label)=(arms.take k.toNat).map (·.label)
 nw:∀w∈ws,w.name=[]∨∃j,names<j∧j≤names+nm∧w.name=vnm j
 s:1≤r - 1 - xs.length∨(xs.length:Int)+1≤r+12 * (4 - dp)+3 * k
 t1:ts.length≤3 * xs.length
 t2:1≤r - 1 - xs.length∨(ts.length:Int)≤3 * r+7+7 * (4 - dp)+2 * k
 g:∀Γ,GI names Γ→SG ps (some ws) (5 - dp).toNat Γ (n+1) t xs ts
theorem HearI.nil {ps:List SProto}{arms:List SArm}{dp r names:Int}{n t:Nat}(hr:1≤r)(hd:dp≤4):HearI ps arms dp r names n t 0 [] [] [] 0:=
 ⟨by simp,by simp,by simp;omega,by simp,by simp;omega,fun Γ _=>.nil⟩
theorem HearI.step {ps:List SProto}{arms:List SArm}{dp r names nm nm2 r' names' k:Int}{n t n' t':Nat}{ws:List SWay}{w:SWay}{x:SArm}{xs ys zs:List SStep}{ts us vs:List Term}(h:HearI ps arms dp r names n t k ws xs ts nm)(k0:0≤k)(hx:arms[k.toNat]? =some x)(hl:w.label=x.label)(hn:w.next=((n+1+xs.length:Nat):Int))(hd:0≤dp∧dp≤4)(hr1:1≤r)
  (hb:BlkR ps (dp+1) r' names' n' t' zs vs) (er:r'=r - 1 - xs.length - ys.length) (es:n'=n+1+xs.length+ys.length) (et:t'=t+ts.length+us.length) (hy:ys.length≤1) (hu:us.length≤2 * ys.length) (hm:nm≤nm2)
  (hw:w.name=[]∨∃j,names<j∧j≤names+nm2∧w.name=vnm j)
  (hG:∀Γ,GI names Γ→GI names' (Γ++wnm w)∧Pre ps (n+1+xs.length) (t+ts.length) ys us (Γ++wnm w)):
  HearI ps arms dp r names n t (k+1) (ws++[w]) (xs++(ys++zs)) (ts++(us++vs)) nm2:=by
 subst er es et
 have h1:=h.s;have h2:=h.t1;have h3:=h.t2
 have b1:=hb.s;have b2:=hb.t1;have b3:=hb.t2
 unfold stB at b1;unfold tmB at b3
 refine⟨?_,fun v hv=>?_,?_,by simp;omega,?_,fun Γ hΓ=>?_⟩
 ·rw [List.map_append,h.lb,jx k0 hx,List.map_append,List.map_singleton,List.map_singleton,hl]
 ·rcases List.mem_append.1 hv with hv | hv
  ·rcases h.nw v hv with e | ⟨j,j1,j2,e⟩
   ·exact .inl e
   ·exact .inr ⟨j,j1,by omega,e⟩
  ·rw [List.mem_singleton.1 hv];exact hw
 ·simp only [List.length_append]
  split at b1<;>omega
 ·simp only [List.length_append]
  split at b1<;>split at b3<;>omega
 ·obtain⟨g1,g2⟩:=hG Γ hΓ
  have g3:=hb.g _ g1
  rw [show(6 - (dp+1)).toNat=(5 - dp).toNat by omega] at g3
  exact(h.g Γ hΓ).snoc hn (g2 _ _ _ g3)
structure HearE (ps:List SProto)(dp r names:Int)(n t:Nat)(ws:List SWay)(xs:List SStep)(ts:List Term):Prop where
 w1:1≤ws.length
 w7:ws.length≤7
 nd:(ws.map (·.label)).Nodup
 bad:∀w∈ws,dQ w=false
 nw:∀w∈ws,w.name=[]∨∃j,names<j∧w.name=vnm j
 s:(xs.length:Int)+1≤r+3+12 * (5 - dp)
 t1:ts.length≤3 * (xs.length+1)
 t2:(ts.length:Int)≤3 * (r+3)+7 * (5 - dp)
 g:∀Γ,GI names Γ→SG ps (some ws) (5 - dp).toNat Γ (n+1) t xs ts
theorem BA {s:Str}(h:au s=true):s≠[]:=fun e=>by subst e;exact absurd h dq
section
variable {ps:List SProto}{t:STurn}{T:SLocal}{dp r names nm k:Int}{n tt:Nat}{ws:List SWay}{xs:List SStep}{ts:List Term}(h:HearI ps t.arms dp r names n tt k ws xs ts nm)(ht:TGx T t)(hk0:t.kind≠0)(k0:0≤k)(he:¬k<t.arms.length)(k1:k≤t.arms.length)(hd:0≤dp∧dp≤4)(hr:1≤r)(hn0:0≤names)(hnm:names+nm≤100000000)
include h ht k0 he
theorem HearI.labs:ws.map (·.label)=t.arms.map (·.label):=by rw [h.lb,List.take_of_length_le om]
theorem HearI.lbs:∀w∈ws,au w.label=true:=fun w hw=>by
 have:w.label∈ws.map (·.label):=List.mem_map.2 ⟨w,hw,rfl⟩
 rw [h.labs ht k0 he] at this
 obtain⟨a,ha,e⟩:=List.mem_map.1 this
 rw [← e];exact ht.lb a ha
include hn0 hnm in
theorem HearI.wb:∀w∈ws,dQ w=false:=fun w hw=>by
 have h1:=h.lbs ht k0 he w hw
 have h2:=BA h1
 unfold dQ
 rcases h.nw w hw with e | ⟨j,j1,j2,e⟩
 ·simp [h1,h2,e]
 ·have h3:=mx (n:=j) om om
  rw [← e] at h3
  simp [h1,h2,h3]
include hk0 k1 hd hr hn0 hnm
theorem HearI.fin:HearE ps dp r names n tt ws xs ts:=by
 have h1:=h.s;have h2:=h.t1;have h3:=h.t2
 have hl:=congrArg List.length (h.labs ht k0 he)
 rw [List.length_map,List.length_map] at hl
 have ha:=ht.a1 hk0;have hb:=ht.a4
 exact⟨by omega,by omega,by rw [h.labs ht k0 he];exact ht.nd,h.wb ht k0 he hn0 hnm,fun w hw=>(h.nw w hw).imp id (fun⟨j,a,_,c⟩=>⟨j,a,c⟩),by omega,by omega,by omega,h.g⟩
theorem HearI.lost {tm nx:Int}{w:SWay}(ew:w=⟨[],[],((n+1+xs.length:Nat):Int)⟩)(etm:tm=((tt+ts.length:Nat):Int))(enx:nx=((n+1+xs.length:Nat):Int)+1):HearE ps dp r names n tt (ws++[w]) (xs++[iP tm nx,rD]) (ts++[⟨3,[],0,[108,111,115,116], -1, -1⟩]):=by
 have h1:=h.s;have h2:=h.t1;have h3:=h.t2
 have hlb:=h.labs ht k0 he
 have hl:=congrArg List.length hlb
 rw [List.length_map,List.length_map] at hl
 have ha:=ht.a1 hk0;have hb:=ht.a4
 subst ew etm enx
 refine⟨by simp,by simp;omega,?_,fun w hw=>?_,fun w hw=>?_,by simp;omega,by simp;omega,by simp;omega,fun Γ hΓ=>?_⟩
 ·rw [List.map_append,List.nodup_append,hlb]
  refine⟨ht.nd,by simp,fun a hx b hb e=>?_⟩
  have e2:b=[]:=by simpa using hb
  subst e2
  obtain⟨c,hc,rfl⟩:=List.mem_map.1 hx
  exact BA (ht.lb c hc) e
 ·rcases List.mem_append.1 hw with hw | hw
  ·exact h.wb ht k0 he hn0 hnm w hw
  ·rw [List.mem_singleton.1 hw];rfl
 ·rcases List.mem_append.1 hw with hw | hw
  ·exact(h.nw w hw).imp id (fun⟨j,a,_,c⟩=>⟨j,a,c⟩)
  ·rw [List.mem_singleton.1 hw];exact .inl rfl
 ·refine(h.g Γ hΓ).snoc rfl ?_
  show SG ps none _ (Γ++[]) _ _ _ _
  rw [List.append_nil]
  have:=u7 (ps:=ps) (d:=(5 - dp).toNat) (n:=n+1+xs.length) (t:=tt+ts.length) (Γ:=Γ) (s:=iP ((tt+ts.length:Nat):Int) (((n+1+xs.length:Nat):Int)+1)) (u5 (ou Γ (s:=[108,111,115,116]) dq)) rfl (by simp [iP]) rfl (Bm (ps:=ps))
  exact this
end
theorem HearE.blk {ps:List SProto}{dp r names:Int}{n tt:Nat}{ws:List SWay}{xs:List SStep}{ts:List Term}{peer:Str}{wp:Sp}(h:HearE ps dp r names n tt ws xs ts)(hp:au peer=true)(hd:0≤dp∧dp≤4)(hr:1≤r)(hn0:0≤names):BlkR ps dp r names n tt (pD peer ws wp::xs) ts:=by
 have h1:=h.s;have h2:=h.t1;have h3:=h.t2
 refine⟨by simp,by unfold stB;rw [if_neg om];simp;omega,by simpa using h2,by unfold tmB;rw [if_neg om];omega,fun Γ hG=>?_⟩
 rw [show(6 - dp).toNat=(5 - dp).toNat+1 by omega]
 have hs:SOk ps Γ tt (pD peer ws wp) []:=DY hp hG.c h.w1 h.w7 h.bad h.nd (fun w hw hne=>by
  rcases h.nw w hw with e | ⟨j,j1,e⟩
  ·exact absurd e hne
  ·rw [e];exact hG.v.new hn0 j1)
 exact SG.fork hs (.inr rfl) (h.g Γ hG)
theorem SayR.blk {ps:List SProto}{dp r names:Int}{n t:Nat}{xs:List SStep}{ts:List Term}(h:SayR ps dp r names n t xs ts)(hd:0≤dp∧dp≤4)(hr:1≤r):BlkR ps dp r names n t xs ts:=by
 have h1:=h.s;have h2:=h.t1;have h3:=h.t2
 rw [if_neg om] at h1 h3
 exact⟨h.n1,by unfold stB;rw [if_neg om];omega,h2,by unfold tmB;rw [if_neg om];omega,fun Γ hG=>(h.g Γ hG).up om⟩
theorem two_blk {ps:List SProto}{dp r r1 r2 names nm1 nm2 a b tm rb x:Int}{n t n1 n2 t1 t2:Nat}{xs ys:List SStep}{us vs:List Term}{wp:Sp}(ha:SayR ps dp r1 nm1 n1 t1 xs us)(hb:SayR ps dp r2 nm2 n2 t2 ys vs)(e1:r1=r - 1)(e2:r2=r - 1 - xs.length)(m1:names≤nm1)(m2:names≤nm2)(p1:n1=n+1)(p2:n2=n+1+xs.length)(q1:t1=t+3)(q2:t2=t+3+us.length)
  (wa:a=((n+1:Nat):Int)) (wb:b=((n+1+xs.length:Nat):Int)) (et:tm=((t+2:Nat):Int)) (eb:rb=(t:Int)+1) (hd:0≤dp∧dp≤4) (hr:8<r):
  BlkR ps dp r names n t (ifX tm [⟨[],[],a⟩,⟨[],[],b⟩] wp::(xs++ys)) ([⟨1,[],x,[], -1, -1⟩,⟨0,[110],0,[], -1, -1⟩,⟨12,[],0,[],(t:Int),rb⟩]++(us++vs)):=by
 subst e1 e2 p1 p2 q1 q2 eb
 have h1:=ha.s;have h2:=ha.t1;have h3:=ha.t2
 have g1:=hb.s;have g2:=hb.t1;have g3:=hb.t2
 rw [if_neg om] at h1 h3
 refine⟨by simp,?_,by simp;omega,?_,fun Γ hG=>?_⟩
 ·unfold stB;rw [if_neg om];simp only [List.length_cons,List.length_append]
  split at g1<;>omega
 ·unfold tmB;rw [if_neg om];simp only [List.length_cons,List.length_append,List.length_nil]
  split at g3<;>omega
 ·rw [show(6 - dp).toNat=(5 - dp).toNat+1 by omega]
  exact yJ (Bl et (wj (eo _ _) (dC mY hG.m) rfl rfl dq rfl rfl) dq) rfl rfl wa wb (ha.g Γ (hG.more m1)) (hb.g Γ (hG.more m2))
end Go.Sx
namespace Go.Sx
open Go
theorem PSl.mir {v:Value}{ss:List TStep}{xs:List SStep}{B:aj}(h:PSl 10 TStep.cells v ss B)(hm:Mir B ss xs):PSl 10 SStep.cells v xs B:=by
 have hl:=hm.len
 have hf:ss.flatMap TStep.cells=xs.flatMap SStep.cells:=by
  rw [List.flatMap_def,List.flatMap_def,hm.c]
 rcases h with ⟨h1,h2⟩ | ⟨b,cap,cs,h1,h2,h3,h4,h5,h6⟩
 ·subst h2
  have:xs=[]:=List.length_eq_zero_iff.1 (by simpa using hl.symm)
  exact .inl ⟨h1,this⟩
 ·rw [hl] at h1 h4 h5
  rw [hf] at h4
  exact .inr ⟨b,cap,cs,h1,h2,h3,h4,h5,h6⟩
theorem PSl.rd {α:Type}{k:Nat}{enc:α→List Value}[hc:Cells k enc]{v:Value}{l:List α}{B:aj}{H:Hp}(h:PSl k enc v l B)(hB:∀p∈B,∀(o:Nat) (u:Value),p.2[o]? =some u→H p.1 o=some u):RdSl H k enc v l:=by
 rcases h with ⟨rfl,rfl⟩ | ⟨b,cap,cs,rfl,hb,hcl,htk,hle,hcm⟩
 ·exact RdSl.nil
 ·refine⟨⟨_,_,rfl⟩,by omega,fun _=>⟨_,rfl⟩,fun i x hx j u hu=>?_,fun a n c e=>by injection e with _ _ e;omega⟩
  have h2:=nh (k:=k) (fun x _=>hc.len x) i x hx j u hu
  rw [← htk,List.getElem?_take] at h2
  simp only [blk,off,Nat.zero_add]
  split at h2
  ·exact hB _ hb _ _ h2
  ·cases h2
structure PQ (H:Hp)(B:aj)(q:SProc):Prop where
 pa:RdSl H 3 SParam.cells (.slice q.pp.1 q.params.length q.pp.2) q.params
 pz:∀x∈q.params,x.cn.length≤4294960000
 pl:q.params.length≤2000000
 t:PSl 6 Term.cells (.slice q.tp.1 q.terms.length q.tp.2) q.terms B
 s:PSl 10 SStep.cells (.slice q.sp.1 q.steps.length q.sp.2) q.steps B
 ss:∀s∈q.steps,StepP B s
theorem PQ.pub {H H':Hp}{B:aj}{q:SProc}(h:PQ H B q)(hl:H.le H')(hB:∀p∈B,∀(o:Nat) (u:Value),p.2[o]? =some u→H' p.1 o=some u)(ht:∀t∈q.terms,bF t=true):ProcOk H' q:=
 ⟨h.pa.le hl,h.pz,h.pl,h.t.rd hB,fun t hh=>by have:=Ax (ht t hh);omega,h.s.rd hB,fun s hs=>by
  have k:=h.ss s hs
  exact⟨k.a.rd hB,k.c.rd hB,fun c hc=>(k.cs c hc).rd hB,k.w.rd hB⟩⟩
theorem PQ.of {H:Hp}{F:Fx}{V:XV}{m:Nat}{B:aj}{nm:Str}{pa:List SParam}{pp:Sp}{xs:List SStep}(hW:XI F V m)(hM:Mir V.oN V.st xs)(hB:B=V.oT++(V.oS++V.oN))(hp:RdSl H 3 SParam.cells (.slice pp.1 pa.length pp.2) pa)(hz:∀x∈pa,x.cn.length≤4294960000)(hl:pa.length≤2000000):PQ H B ⟨nm,pa,pp,V.tm,(V.ta,V.tc),xs,(V.sa,V.sc)⟩:=by
 subst hB
 have hM2:Mir (V.oT++(V.oS++V.oN)) V.st xs:=hM.le (fun p hp=>List.mem_append_right _ (List.mem_append_right _ hp))
 have hs:=(PSl.own hW.s (B:=V.oT++(V.oS++V.oN)) (fun p hp=>List.mem_append_right _ (List.mem_append_left _ hp))).mir hM2
 rw [hM.len] at hs
 exact⟨hp,hz,hl,.own hW.t (fun p hp=>List.mem_append_left _ hp),hs,hM2.k⟩
structure MR where
 ts:List Term
 ss:List TStep
 xs:List SStep
structure MainI (ps:List SProto)(k n:Int)(xs:List SStep)(ts:List Term):Prop where
 a:k<n→∃Γ,GV k Γ∧∀(d:Nat) (ys:List SStep) (us:List Term),SG ps none d Γ xs.length ts.length ys us→SG ps none d [] 0 0 (xs++ys) (ts++us)
 z:k=n→∀d,SG ps none d [] 0 0 xs ts
 xl:(xs.length:Int)=2 * k
 tl:(ts.length:Int)≤6 * k
theorem MainI.zero {ps:List SProto}{n:Int}(hn:0<n):MainI ps 0 n [] []:=
 ⟨fun _=>⟨[],(fun x hx=>by cases hx),fun d ys us h=>h⟩,fun h=>by omega,rfl,by simp⟩
theorem MainI.step {ps:List SProto}{k n kd nx:Int}{xs:List SStep}{ts to:List Term}{x:SStep}{pr:Str}{z r1 r2:Int}{ap:Sp}(h:MainI ps k n xs ts)(k0:0≤k)(k1:k<n)(kb:k≤1000)(ho:OpenR ps ts.length xs.length (vnm (k+1)) to x)(hm:au pr=true)(hc:CallOk ps pr)
  (e1:r1=((ts.length+to.length:Nat):Int)) (e2:r2=((ts.length+to.length+1:Nat):Int)) (hk:(kd=6∧nx= -1∧k+1=n)∨(kd=7∧k+1<n∧nx=((xs.length+1:Nat):Int)+1)):
  MainI ps (k+1) n (xs++[x,callX kd pr [r1,r2] ap nx]) (ts++(to++[⟨0,vnm (k+1),0,[], -1, -1⟩,kv z])):=by
 have hxl:=h.xl;have htl:=h.tl;have hln:=ho.ln
 obtain⟨Γ,hΓ,hS⟩:=h.a k1
 have hso:SOk ps (Γ++[vnm (k+1)]) (ts.length+to.length) (callX kd pr [r1,r2] ap nx) ([⟨0,vnm (k+1),0,[], -1, -1⟩]++[kv z]):=
  nT e1 e2 (hk.imp (fun h=>⟨h.1,h.2.1⟩) (fun h=>h.1)) hm hc ((dC (mx om om) (List.mem_append_right _ (List.mem_singleton.2 rfl))).ts _) dq ((eo _ _).ts _) dq
 refine⟨fun hlt=>?_,fun hz d=>?_,by simp;omega,by simp;omega⟩
 ·rcases hk with ⟨_,_,h3⟩ | ⟨rfl,_,h3⟩
  ·omega
  ·refine⟨Γ++[vnm (k+1)],hΓ.add k0 om,fun d ys us hr=>?_⟩
   have h4:SG ps none d (Γ++[vnm (k+1)]) (xs.length+1) (ts.length+to.length) (callX 7 pr [r1,r2] ap nx::ys) (([⟨0,vnm (k+1),0,[], -1, -1⟩]++[kv z])++us):=u7 hso rfl (by show ¬((7:Int)=1∨(7:Int)=8);decide) (by show nx=_;omega) (by
    have e:xs.length+1+1=(xs++[x,callX 7 pr [r1,r2] ap nx]).length:=by simp
    have e':ts.length+to.length+([(⟨0,vnm (k+1),0,[], -1, -1⟩:Term)]++[kv z]).length=(ts++(to++[⟨0,vnm (k+1),0,[], -1, -1⟩,kv z])).length:=by simp;omega
    rw [e,e'];exact hr)
   have h5:=hS d _ _ (ho.go (hΓ.new k0 om) h4)
   simpa [List.append_assoc] using h5
 ·rcases hk with ⟨rfl,rfl,h3⟩ | ⟨_,h3,_⟩
  ·have h4:SG ps none d (Γ++[vnm (k+1)]) (xs.length+1) (ts.length+to.length) [callX 6 pr [r1,r2] ap (-1)] ([⟨0,vnm (k+1),0,[], -1, -1⟩]++[kv z]):=SG.fin hso rfl ⟨by show(6:Int)≠3;decide,by show(6:Int)≠5;decide⟩
   have h5:=hS d _ _ (ho.go (hΓ.new k0 om) h4)
   simpa [List.append_assoc] using h5
  ·omega
end Go.Sx
namespace Go.Sx
open Go
def kH (p:SProto):Prop:=∃Ls:List Str,Ls.length≤4∧∀x∈p.points,∀a∈x.arms,a.label∈Ls
theorem AnyP.lab {types:List Str}{p:SProto}(h:AnyP types p):kH p:=by
 obtain⟨l,he,hp,_,_⟩:=h.pts
 refine⟨labelsL,by decide,fun x hx a ha=>?_⟩
 rw [he] at hx
 rcases List.mem_append.1 hx with hx | hx
 ·obtain⟨f,hf⟩:=(hp.am x hx).lb
  obtain⟨i,hi⟩:=List.getElem?_of_mem ha
  exact List.mem_of_getElem? (hf i a hi)
 ·rw [List.mem_singleton.1 hx] at ha;cases ha
theorem di {H:Hp}{b:Nat}{a c:Str}{k d:Int}(rd:∀o v,[gs a,.int .i64 k,gs c,.int .i64 d][o]? =some v→H b o=some v)(hc:c.length≤3):∃l:List SArm,l.length=1∧RdSl H 4 SArm.cells (.slice (some ⟨b,0,none⟩) 1 1) l∧(∀a∈l,a.cn.length≤4294960000)∧∀x∈l,x.label=a:=
 ⟨[⟨a,k,c,d⟩],rfl,RdSl.blk (l:=[⟨a,k,c,d⟩]) (enc:=SArm.cells) rd (by intro x hx;rfl) rfl (by show 1≤9223372036854775807;decide),by intro x hx;rw [List.mem_singleton.1 hx];exact Nat.le_trans hc dq,by intro x hx;rw [List.mem_singleton.1 hx]⟩
theorem jb {H:Hp}{b:Nat}{a c a' c':Str}{k d k' d':Int}(rd:∀o v,[gs a,.int .i64 k,gs c,.int .i64 d,gs a',.int .i64 k',gs c',.int .i64 d'][o]? =some v→H b o=some v)(hc:c.length≤3)(hc':c'.length≤3):∃l:List SArm,l.length=2∧RdSl H 4 SArm.cells (.slice (some ⟨b,0,none⟩) 2 2) l∧(∀a∈l,a.cn.length≤4294960000)∧∀x∈l,x.label=a∨x.label=a':=
 ⟨[⟨a,k,c,d⟩,⟨a',k',c',d'⟩],rfl,RdSl.blk (l:=[⟨a,k,c,d⟩,⟨a',k',c',d'⟩]) (enc:=SArm.cells) rd (by intro x hx;rfl) rfl (by show 2≤9223372036854775807;decide),by
  intro x hx
  simp only [List.mem_cons,List.not_mem_nil,or_false] at hx
  rcases hx with rfl | rfl
  ·exact Nat.le_trans hc dq
  ·exact Nat.le_trans hc' dq,by
  intro x hx
  simp only [List.mem_cons,List.not_mem_nil,or_false] at hx
  rcases hx with rfl | rfl
  ·exact .inl rfl
  ·exact .inr rfl⟩
theorem uP {p:SProto}{role:Str}{set:List Int}:∀(l:List Str) (sets:List (List Int)) (acc:List SArm),(turnA p role set l sets acc).2.1=0→(turnA p role set l sets acc).1.map (·.label)=acc.map (·.label)++l
 | [],sets,acc,_=>by simp [turnA]
 | lb::r,sets,acc,h=>by
  unfold turnA at h ⊢
  split
  ·rename_i hb;rw [if_pos hb] at h;exact absurd h hb
  ·rename_i hb
   rw [if_neg hb] at h
   rw [uP r _ _ h];simp
theorem vD:∀(l:List SArm) (o:List Str),Rise o→Rise (gO o l)
 | [],o,h=>h
 | a::r,o,h=>vD r (o.foldl cv [a.label]) (wQ o [a.label] (by unfold Rise;simp))
theorem vC {p:SProto}:∀(l:List Int) (o:List Str),Rise o→Rise (kw p o l)
 | [],o,h=>h
 | j::r,o,h=>vC r (match p.points[j.toNat]? with | some x=>gO o x.arms | none=>o) (by split;exact vD _ _ h;exact h)
theorem Rise.nodup {l:List Str}(h:Rise l):l.Nodup:=List.Pairwise.imp (fun h e=>by subst e;exact absurd h (List.lt_irrefl _)) h
theorem RPOk.pt2 {p:SProto}(h:RPOk p){x:SPoint}(hx:x∈p.points)(hne:x.frm≠[]∨x.to≠[]):au x.frm=true∧au x.to=true∧x.arms≠[]:=by
 have hp:=h.pt x hx
 unfold cb dy dH cj dv at hp
 simp only [Bool.or_eq_true,Bool.and_eq_true,decide_eq_true_eq] at hp
 rcases hp with ⟨h1,h2,h3⟩ | ⟨⟨h1,h2,_⟩,⟨h3,_⟩,h5,_⟩
 ·exact absurd hne (by simp [h1,h2])
 ·exact⟨h.rn _ h1,h.rn _ h2,fun e=>by rw [e] at h3;simp at h3⟩
theorem RPOk.labs {p:SProto}(h:RPOk p){x:SPoint}(hx:x∈p.points):∀a∈x.arms,au a.label=true:=by
 have hp:=h.pt x hx
 unfold cb dy dH cj dv at hp
 simp only [Bool.or_eq_true,Bool.and_eq_true,decide_eq_true_eq] at hp
 rcases hp with ⟨h1,h2,h3⟩ | ⟨⟨h1,h2,_⟩,⟨h3,_⟩,h5,_⟩
 ·intro a ha
  rw [List.length_eq_zero_iff.1 (show x.arms.length=0 by omega)] at ha;cases ha
 ·intro a ha
  have:=List.all_eq_true.1 h5 a ha
  unfold fa at this
  simp only [Bool.and_eq_true] at this
  exact this.1
theorem EY {p:SProto}{role:Str}(hP:RPOk p)(hr:role≠[]){j:Int}(h:inP p role j=true):∃x,p.points[j.toNat]? =some x∧au x.frm=true∧au x.to=true∧x.arms≠[]:=by
 unfold inP at h
 split at h
 ·rename_i x hx
  refine⟨x,hx,hP.pt2 (List.mem_of_getElem? hx) ?_⟩
  unfold d7 at h
  simp only [Bool.or_eq_true,decide_eq_true_eq] at h
  rcases h with h | h
  ·exact .inl (by rw [h];exact hr)
  ·exact .inr (by rw [h];exact hr)
 ·cases h
theorem rq {p:SProto}{role:Str}(hP:RPOk p)(hr:role≠[]):∀(l:List Int) (i:Nat) (kind:Int) (peer:Str),(∀j∈l,inP p role j=true)→(l≠[]∨au peer=true)→(ez p role i kind peer l).2.2=0→au (ez p role i kind peer l).2.1=true
 | [],_,_,_,_,h,_=>by
  rcases h with h | h
  ·exact absurd rfl h
  ·exact h
 | j::r,i,kind,peer,hj,_,h0=>by
  obtain⟨x,hx,h1,h2,_⟩:=EY hP hr (hj j sq)
  unfold ez at h0 ⊢
  rw [hx] at h0 ⊢
  dsimp only at h0 ⊢
  by_cases hc:0<i∧¬((if x.to=role then 2 else 1)=kind∧(if x.to=role then x.frm else x.to)=peer)
  ·rw [if_pos hc] at h0;cases h0
  ·rw [if_neg hc] at h0 ⊢
   exact rq hP hr r _ _ _ (fun j' hj'=>hj j' (by simp [hj'])) (.inr (by split;exact h1;exact h2)) h0
theorem y6 {α:Type}[DecidableEq α]:∀{l m:List α},l.Nodup→l ⊆ m→l.length≤m.length
 | [],m,_,_=>Nat.zero_le _
 | x::r,m,hn,hs=>by
  rw [List.nodup_cons] at hn
  have hx:x∈m:=hs sq
  have h1:r.length≤(m.erase x).length:=y6 hn.2 (fun y hy=>(List.mem_erase_of_ne (fun(e:y=x)=>hn.1 (by rw [← e];exact hy))).2 (hs (by simp [hy])))
  rw [List.length_erase_of_mem hx] at h1
  have:=List.length_pos_of_mem hx
  simp only [List.length_cons];omega
structure TTx (Ls:List Str)(t:TT):Prop where
 p:t.1≠0→au t.2.1=true
 a:t.1≠0→1≤t.2.2.length
 l:∀a∈t.2.2,au a.label=true
 n:(t.2.2.map (·.label)).Nodup
 s:∀a∈t.2.2,a.label∈Ls
theorem DO {Ls:List Str}:TTx Ls (0,[],[]):=⟨fun h=>absurd rfl h,fun h=>absurd rfl h,by simp,by simp,by simp⟩
theorem turnS_x {p:SProto}{role:Str}{Ls:List Str}(hP:RPOk p)(hr:role≠[])(hL:∀x∈p.points,∀a∈x.arms,a.label∈Ls){sets:List (List Int)}{set:List Int}(hin:∀j∈set,inP p role j=true)(h0:(bD p role sets set).2.1=0):TTx Ls (bD p role sets set).1:=by
 unfold bD at h0 ⊢
 by_cases c1:set.length=0
 ·rw [if_pos c1];exact DO
 rw [if_neg c1] at h0 ⊢
 by_cases c2:(cL p role set).2.2≠0
 ·rw [if_pos c2];exact DO
 rw [if_neg c2] at h0 ⊢
 by_cases c3:(cL p role set).1=1∧jO p set=false
 ·rw [if_pos c3];exact DO
 rw [if_neg c3] at h0 ⊢
 by_cases c4:6<(cY p set).length
 ·rw [if_pos c4];exact DO
 rw [if_neg c4] at h0 ⊢
 by_cases c5:(cY p set).all (k8 p set)=false
 ·rw [if_pos c5];exact DO
 rw [if_neg c5] at h0 ⊢
 by_cases c6:(turnA p role set (cY p set) sets []).2.1≠0
 ·rw [if_pos c6] at h0;exact absurd h0 c6
 rw [if_neg c6]
 have hlab:(turnA p role set (cY p set) sets []).1.map (·.label)=cY p set:=by rw [uP _ _ _ (Decidable.of_not_not c6)];rfl
 have hne:set≠[]:=fun e=>c1 (by rw [e];rfl)
 have hlen:(turnA p role set (cY p set) sets []).1.length=(cY p set).length:=by have:=congrArg List.length hlab;rwa [List.length_map] at this
 have hall:∀a∈(turnA p role set (cY p set) sets []).1,∃q∈p.points,∃b∈q.arms,a.label=b.label:=fun a ha=>by
  have h1:a.label∈cY p set:=by rw [← hlab];exact List.mem_map.2 ⟨a,ha,rfl⟩
  rcases sB h1 with h | ⟨q,hq,b,hb,e⟩
  ·simp at h
  ·exact⟨q,hq,b,hb,e⟩
 refine⟨fun _=>?_,fun _=>?_,fun a ha=>?_,?_,fun a ha=>?_⟩
 ·exact rq hP hr set 0 0 [] hin (.inl hne) (Decidable.of_not_not c2)
 ·dsimp only
  rw [hlen]
  obtain⟨j,r,e⟩:∃j r,set=j::r:=by
   cases set with
   | nil=>exact absurd rfl hne
   | cons j r=>exact⟨j,r,rfl⟩
  obtain⟨x,hx,_,_,h4⟩:=EY hP hr (hin j (by rw [e];simp))
  exact List.length_pos_iff.2 (wM (.inr ⟨j,by rw [e];simp,x,hx,h4⟩))
 ·obtain⟨q,hq,b,hb,e⟩:=hall a ha
  rw [e];exact hP.labs hq b hb
 ·dsimp only
  rw [hlab]
  exact(vC set [] (by unfold Rise;simp)).nodup
 ·obtain⟨q,hq,b,hb,e⟩:=hall a ha
  rw [e];exact hL q hq b hb
theorem Eg {p:SProto}{role:Str}{Ls:List Str}(hP:RPOk p)(hr:role≠[])(hL:∀x∈p.points,∀a∈x.arms,a.label∈Ls):∀(f i:Nat) (sets:List (List Int)) (acc:List TT),InP p role sets→(∀t∈acc,TTx Ls t)→(jB p role f i sets acc).1=0→∀t∈(jB p role f i sets acc).2,TTx Ls t
 | 0,i,sets,acc,_,hT,_=>hT
 | f+1,i,sets,acc,hI,hT,h0=>by
  cases hs:sets[i]? with
  | none=>rw [mK (List.getElem?_eq_none_iff.1 hs)];exact hT
  | some s=>
   by_cases hb:(bD p role sets s).2.1≠0
   ·rw [rO hs hb] at h0;exact absurd h0 hb
   ·rw [kO hs hb] at h0 ⊢
    exact Eg hP hr hL f (i+1) _ _ (yu hI) (fj hT (turnS_x hP hr hL (hI s (List.mem_of_getElem? hs)) (Decidable.of_not_not hb))) h0
theorem roleS_x {p:SProto}{role:Str}{Ls:List Str}(hL:∀x∈p.points,∀a∈x.arms,a.label∈Ls)(h0:(cN p role).1=0):∀t∈(cN p role).2,TTx Ls t:=by
 unfold cN at h0 ⊢
 by_cases c1:(ci p&&cj p.roles role)=false
 ·rw [if_pos c1] at h0;cases h0
 rw [if_neg c1] at h0 ⊢
 by_cases c2:(bR p role [] [0]).2.1≠0
 ·rw [if_pos c2] at h0;exact absurd h0 c2
 rw [if_neg c2] at h0 ⊢
 have c1:ci p=true∧cj p.roles role=true:=by simpa using c1
 have hP:=RPOk.of c1.1
 have hr:=(sr (hP.rn role (of_decide_eq_true c1.2))).2
 exact Eg hP hr hL 41 0 _ [] (m7 (by intro s hs;simp at hs)) sq h0
theorem LsOk.tgx {H:Hp}{p:SProto}{ls:List SLocal}(h:LsOk H p p.roles.length ls)(hz:(jk p).1=0)(hL:kH p){k:Int}{T:SLocal}(hk:ls[k.toNat]? =some T):∀t∈T.turns,TGx T t:=fun t ht=>by
 obtain⟨Ls,h4,hLs⟩:=hL
 obtain⟨r,hr,hnm,hok,htt⟩:=h.at_ _ _ hk
 have h2:=roleS_x hLs (sW hz r (List.mem_of_getElem? hr))
 rw [← htt] at h2
 have hx:=h2 (tt t) (List.mem_map.2 ⟨t,ht,rfl⟩)
 refine⟨hx.p,?_,hx.a,hx.l,hx.n⟩
 have hs:(t.arms.map (·.label)) ⊆ Ls:=fun s hs=>by
  obtain⟨a,ha,rfl⟩:=List.mem_map.1 hs
  exact hx.s a ha
 have:=y6 hx.n hs
 rw [show(tt t).2.2=t.arms from rfl,List.length_map] at this
 omega
end Go.Sx
namespace Go.Sx
open Go
abbrev nS:Sp:=(none,0)
def CK:SStep:=⟨0,[],[],[],[], -1,[],nS,[],nS,[],nS, -1⟩
def lx (sp qp:Sp):SProg:=⟨[],nS,[],nS,[⟨cy,[],nS,[],nS,[CK],sp⟩],qp⟩
theorem rC (sp qp:Sp):bZ (lx sp qp)=okF:=by rfl
theorem Cp:bZ nilPg=⟨1504, -1, -1⟩:=by rfl
theorem i7 (sp qp:Sp):dm (lx sp qp).procs cy=0:=by rfl
theorem mB (sp qp:Sp):dm (lx sp qp).procs [120]= -1:=by rfl
theorem B4 {sp qp:Sp}{pg:SProg}(h:pg.bare=fX (lx sp qp)):pg.procs.length=1:=by
 have h1:pg.bare.procs.length=(fX (lx sp qp)).procs.length:=by rw [h]
 rw [vd (by rw [rC];rfl)] at h1
 simpa [SProg.bare,lx] using h1
theorem end_ok (H:Hp):StepOk H CK:=⟨RdSl.nil,RdSl.nil,(fun _ h=>by cases h),RdSl.nil⟩
theorem B5 {H:Hp}{sp qp:Sp}(h1:RdSl H 10 SStep.cells (.slice sp.1 1 sp.2) [CK])(h2:RdSl H 4 SProc.cells (.slice qp.1 1 qp.2) [⟨cy,[],nS,[],nS,[CK],sp⟩]):ProgOk H (lx sp qp):=
 ⟨RdSl.nil,(fun _ h=>by cases h),RdSl.nil,(fun _ h=>by cases h),h2,fun q hq=>by
  simp [lx] at hq;subst hq
  exact⟨RdSl.nil,(fun _ h=>by cases h),by simp,RdSl.nil,(fun _ h=>by cases h),h1,fun s hs=>by simp at hs;subst hs;exact end_ok H⟩⟩
section
variable {name:Str}
variable (sf tp sp qp ap cp:Sp)
section
variable (n:Str)(t x:Int)(k:Int)(d:List Int)(pr:Str)(args:List Int)
end
end
end Go.Sx
namespace Go.Sx
open Go
theorem gT {f:Int→SProc→SFault}:∀{r:List SProc} {i:Int},(cJ f r i).e=0↔∀(j:Nat) (q:SProc),r[j]? =some q→(f (i+j) q).e=0
 | [],i=>⟨fun _ j q h=>by simp at h,fun _=>rfl⟩
 | x::r,i=>by
  rw [cJ]
  constructor
  ·intro h
   split at h
   ·rename_i h1;exact absurd h h1
   ·rename_i h1
    intro j q hq
    cases j with
    | zero=>
     simp at hq;subst hq
     simpa using h1
    | succ j=>
     have:=(gT.1 h) j q (by simpa using hq)
     rw [show i+((j+1:Nat):Int)=i+1+j by omega];exact this
  ·intro h
   have h0:=h 0 x rfl
   rw [if_neg (by simpa using h0)]
   refine gT.2 (fun j q hq=>?_)
   have:=h (j+1) q (by simpa using hq)
   rwa [show i+((j+1:Nat):Int)=i+1+j by omega] at this
end Go.Sx
namespace Go.Sx
open Go
section
variable {P:SProg}{ts:List Term}{s:SStep}{hv:List Str}
end
section
variable {P:SProg}{q:SProc}{i k:Int}{s:SStep}{F:SFault}
end
theorem At {x:SPoint}(he:dy x=false):dU x=⟨1,x.to,x.arms,x.ap⟩:=by
 unfold dU
 rw [if_pos]
 unfold dy at he
 simp only [Bool.and_eq_false_iff,decide_eq_false_iff_not] at he
 rcases he with h | h | h
 ·exact .inl h
 ·exact .inr (.inl h)
 ·exact .inr (.inr om)
theorem rV {roles:List Str}{n:Int}{x:SPoint}(hr:roles.all au=true):(eA roles x&&ek n (dU x))=cb roles n x:=by
 unfold eA cb
 cases he:dy x with
 | true=>
  unfold dy at he
  simp only [Bool.and_eq_true,decide_eq_true_eq] at he
  have:ek n (dU x)=true:=by
   unfold dU
   rw [if_neg (by rintro(h | h | h);exact h he.1;exact h he.2.1;omega)]
   unfold ek
   have h0:¬(0<(x.arms.length:Int)):=by omega
   rw [if_pos rfl,decide_eq_false h0];rfl
  rw [this];rfl
 | false=>
  rw [At he,Bool.false_or,Bool.false_or]
  unfold ek
  simp only [reduceCtorEq,if_false,true_or,if_true,Int.one_ne_zero]
  cases hp:dH roles x with
  | false=>rfl
  | true=>
   have:au x.to=true:=by
    unfold dH cj at hp
    simp only [Bool.and_eq_true,decide_eq_true_eq] at hp
    exact List.all_eq_true.1 hr _ hp.2.1
   rw [this];rfl
theorem Ce (p:SProto):ci p=cW p:=by
 unfold ci cW
 cases hr:p.roles.all au with
 | false=>simp
 | true=>
  rw [Bool.true_and,Bool.true_and]
  have e1:p.points.all (cb p.roles p.points.length)=(p.points.all (eA p.roles)&&(p.points.map dU).all (ek p.points.length)):=by
   rw [Bool.eq_iff_iff,Bool.and_eq_true,List.all_eq_true,List.all_eq_true,List.all_eq_true]
   constructor
   ·intro h
    refine⟨fun x hx=>?_,fun t ht=>?_⟩
    ·have:=h x hx
     rw [← rV hr,Bool.and_eq_true] at this;exact this.1
    ·obtain⟨x,hx,rfl⟩:=List.mem_map.1 ht
     have:=h x hx
     rw [← rV hr,Bool.and_eq_true] at this;exact this.2
   ·rintro⟨h1,h2⟩ x hx
    rw [← rV hr,Bool.and_eq_true]
    exact⟨h1 x hx,h2 _ (List.mem_map_of_mem hx)⟩
  rw [e1]
  unfold cX iH cR
  dsimp only
  rw [List.length_map]
  by_cases h1:(1:Int)≤p.points.length
  ·by_cases h2:(p.points.length:Int)≤24
   ·rw [decide_eq_true h1,decide_eq_true h2,decide_eq_false (show ¬(24:Int)<p.points.length by omega),decide_eq_true (show 1≤p.points.length by omega),decide_eq_true (show p.points.length≤40 by omega)]
    simp [Bool.and_assoc]
   ·rw [decide_eq_false h2,decide_eq_true (show(24:Int)<p.points.length by omega)];simp
  ·rw [decide_eq_false h1,decide_eq_false (show ¬1≤p.points.length by omega)];simp
end Go.Sx
namespace Go.Sx
open Go
theorem GP.prx {H:Hp}{nm:Str}{p:SProto}(h:GP H nm p)(hn:nm=[112]∨nm=[113]):PrX p:=⟨by rw [h.nm];exact hn,h.rs⟩
theorem PsOk.prx {H:Hp}{ps:List SProto}(h:PsOk H ps):∀p∈ps,PrX p:=by
 obtain⟨p,hp,rfl | ⟨q,hq,rfl⟩⟩:=h<;>intro x hx<;>simp only [List.mem_cons,List.not_mem_nil,or_false] at hx
 ·subst hx;exact hp.prx (.inl rfl)
 ·rcases hx with rfl | rfl
  ·exact hp.prx (.inl rfl)
  ·exact hq.prx (.inr rfl)
theorem PsOk.names {H:Hp}{ps:List SProto}(h:PsOk H ps):(ps.map (·.name)).Nodup:=by
 obtain⟨p,hp,rfl | ⟨q,hq,rfl⟩⟩:=h
 ·simp
 ·simp only [List.map_cons,List.map_nil,hp.nm,hq.nm];decide
def pnS (p:SProto):List Str:=p.roles.map (fun r=>p.name++r)
def jF (ps:List SProto):List Str:=ps.flatMap pnS
theorem By {ps:List SProto}{s:Str}:s∈jF ps↔CallOk ps s:=by
 unfold jF pnS CallOk
 simp only [List.mem_flatMap,List.mem_map]
 constructor
 ·rintro⟨p,hp,r,hr,e⟩;exact⟨p,hp,r,hr,e.symm⟩
 ·rintro⟨p,hp,r,hr,e⟩;exact⟨p,hp,r,hr,e.symm⟩
theorem PrX.nm1 {p:SProto}(h:PrX p):∃c,p.name=[c]:=by rcases h.1 with e | e<;>exact⟨_,e⟩
theorem n8 {p:SProto}(h:PrX p):(pnS p).Nodup:=by
 unfold pnS List.Nodup
 rw [List.pairwise_map]
 exact List.Pairwise.imp (fun h e=>h (List.append_cancel_left e)) h.nd
theorem Ck {H:Hp}{ps:List SProto}(h:PsOk H ps):(jF ps).Nodup:=by
 have hx:=h.prx
 obtain⟨p,hp,rfl | ⟨q,hq,rfl⟩⟩:=h
 ·show(pnS p++[]).Nodup
  rw [List.append_nil];exact n8 (hx p sq)
 ·show(pnS p++(pnS q++[])).Nodup
  rw [List.append_nil,List.nodup_append]
  refine⟨n8 (hx p sq),n8 (hx q sq),fun a ha b hb e=>?_⟩
  subst e
  unfold pnS at ha hb
  obtain⟨r,_,e1⟩:=List.mem_map.1 ha
  obtain⟨r',_,e2⟩:=List.mem_map.1 hb
  rw [hp.nm] at e1;rw [hq.nm] at e2
  have:=congrArg List.head? (e1.trans e2.symm)
  simp at this
theorem lS {ps:List SProto}{s:Str}(hp:∀p∈ps,PrX p)(h:CallOk ps s):s.length=2:=by
 obtain⟨p,hp1,r,hr,rfl⟩:=h
 have hX:=hp p hp1
 obtain⟨c,e⟩:=hX.nm1
 obtain⟨n,_,_,e2⟩:=hX.2
 rw [e2] at hr
 rw [e,List.length_append,mJ hr];rfl
def paA (carry:Str):List SParam:=[⟨[99],5,carry⟩,⟨[110],1,[]⟩]
inductive XQ (ps:List SProto)(q:SProc):Prop
 | part (p:SProto) (r:Str) (hp:p∈ps) (hr:r∈p.roles) (hn:q.name=p.name++r) (hq:q.params=paA ((p.name++[46])++r)) (h:SgOk ps q 6 [[99],[110]])
 | main (hn:q.name=cy) (hq:q.params=[]) (h:SgOk ps q 6 [])
theorem XQ.sg {ps:List SProto}{q:SProc}(h:XQ ps q):SgOk ps q 6 (q.params.map (·.name)):=by
 cases h with
 | part p r hp hr hn hq h=>rw [hq];exact h
 | main hn hq h=>rw [hq];exact h
structure GX (ps:List SProto)(P:SProg):Prop where
 pr:∀p∈ps,PrX p
 al:Fs ps
 l1:1≤ps.length
 l2:ps.length≤2
 pn:(ps.map (·.name)).Nodup
 nn:(jF ps).Nodup
 e:P.protos=ps
 l:P.locals=[]
 n:P.procs.map (·.name)=jF ps++[cy]
 q:∀q∈P.procs,XQ ps q
theorem PrX.carry {p:SProto}(h:PrX p){r:Str}(hr:r∈p.roles):cD 5 ((p.name++[46])++r)=true:=by
 have:=jA (h.in_ hr)
 rcases h.1 with e | e<;>rw [e]<;>rcases this with rfl | rfl | rfl | rfl | rfl<;>decide
section
variable {ps:List SProto}{P:SProg}(h:GX ps P)
include h
theorem GX.sMain_not:cy∉jF ps:=fun hm=>by
 have:=lS h.pr (By.1 hm)
 exact absurd this dq
theorem GX.nd:(P.procs.map (·.name)).Nodup:=by
 rw [h.n,List.nodup_append]
 exact⟨h.nn,by simp,fun a ha b hb e=>by rw [List.mem_singleton.1 hb] at e;rw [e] at ha;exact h.sMain_not ha⟩
theorem GX.len:P.procs.length≤11:=by
 have h1:=congrArg List.length h.n
 rw [List.length_map,List.length_append] at h1
 have key:∀l:List SProto,(∀p∈l,PrX p)→(jF l).length≤5 * l.length:=by
  intro l
  induction l with
  | nil=>intro _;simp [jF]
  | cons p l ih=>
   intro hp
   have h2:=ih (fun x hx=>hp x (List.mem_cons_of_mem _ hx))
   have h3:=(hp p sq).len
   have:(jF (p::l)).length=(pnS p).length+(jF l).length:=by unfold jF;rw [List.flatMap_cons,List.length_append]
   rw [this]
   unfold pnS
   simp only [List.length_map,List.length_cons];omega
 have h2:=key ps h.pr
 have h3:=h.l2
 simp at h1;omega
theorem GX.find {j:Nat}{q:SProc}(hq:P.procs[j]? =some q):dm P.procs q.name=j:=by
 refine dI om (by rw [List.getElem?_map,show((j:Int)).toNat=j by omega,hq];rfl) (fun i hi hx=>?_)
 have hnd:=h.nd
 have hj:(P.procs.map (·.name))[j]? =some q.name:=by rw [List.getElem?_map,hq];rfl
 have:=(List.getElem?_inj (List.getElem?_eq_some_iff.1 hx).1 hnd).1 (hx.trans hj.symm)
 omega
theorem GX.ex {s:Str}(hs:s∈jF ps++[cy]):∃(j:Nat) (q:SProc),P.procs[j]? =some q∧q.name=s:=by
 rw [← h.n] at hs
 obtain⟨q,hq,e⟩:=List.mem_map.1 hs
 obtain⟨j,hj⟩:=List.getElem?_of_mem hq
 exact⟨j,q,hj,e⟩
theorem GX.pg:PgFor ps P:=by
 refine⟨fun s hs=>?_,fun s ⟨p,hp,hl,hc,hn,hr⟩=>?_⟩
 ·obtain⟨j,q,hq,e⟩:=h.ex (List.mem_append_left _ (By.2 hs))
  have hf:=h.find hq
  rw [e] at hf
  unfold ct nc
  rw [hf,show((j:Int)).toNat=j by omega,hq]
  have hl:q.params.length=2:=by
   cases h.q q (List.mem_of_getElem? hq) with
   | part p r hp hr hn hq h=>rw [hq];rfl
   | main hn hq2 h2=>
    have h1:=lS h.pr hs
    rw [← e,hn] at h1
    exact absurd h1 dq
  show(decide ((0:Int)≤(j:Int))&&decide (((q.params.length:Nat):Int)=2))=true
  rw [hl];simp
 ·unfold dk
  rw [h.e]
  have key:∀l:List SProto,(l.map (·.name)).Nodup→p∈l→eG s l=true:=by
   intro l
   induction l with
   | nil=>intro _ hm;cases hm
   | cons x l ih=>
    intro hnd hm
    rw [List.map_cons,List.nodup_cons] at hnd
    unfold eG
    rcases List.mem_cons.1 hm with rfl | hm
    ·rw [if_pos hl.symm]
     unfold wF
     simp only [Bool.and_eq_true,decide_eq_true_eq,List.all_eq_true]
     exact⟨by omega,by unfold de;exact decide_eq_true hn,fun r hr2=>decide_eq_true (hr r hr2)⟩
    ·rw [if_neg (fun e=>hnd.1 (by rw [e,hl];exact List.mem_map.2 ⟨p,hm,rfl⟩))]
     exact ih hnd.2 hm
  exact key ps h.pn hp
theorem GX.protos:P.protos.all cW=true:=by
 rw [h.e,List.all_eq_true]
 intro p hp
 have hX:=h.pr p hp
 have h2:=hX.len
 have hz:=sW (h.al p hp)
 obtain⟨r,hr⟩:∃r,r∈p.roles:=List.exists_mem_of_length_pos om
 have h0:=hz r hr
 rw [← Ce]
 unfold cN at h0
 split at h0
 ·cases h0
 ·rename_i hc
  have:ci p=true∧cj p.roles r=true:=by simpa using hc
  exact this.1
theorem GX.head {j:Nat}{q:SProc}(hq:P.procs[j]? =some q):eX P.procs j q=okF:=by
 have hf:=h.find hq
 have hx:=h.q q (List.mem_of_getElem? hq)
 have hs:=hx.sg
 have h1:=hs.n1;have h8:=hs.n80;have h16:=hs.t160
 refine sH ?_ ?_
 ·unfold bP
  cases hx with
  | part p r hp hr hn hqp h2=>
   rw [hn,hqp,(h.pr p hp).pm hr]
   have e1:(1:Int)≤q.steps.length:=by omega
   have e2:(q.steps.length:Int)≤80:=by omega
   have e3:(q.terms.length:Int)≤160:=by omega
   have e4:dJ ⟨[99],5,(p.name++[46])++r⟩=true:=by unfold dJ;rw [(h.pr p hp).carry hr];show(au [99]&&true)=true;decide
   have e5:dJ ⟨[110],1,[]⟩=true:=by decide
   have e6:((paA ((p.name++[46])++r)).length:Int)≤6:=by show(2:Int)≤6;decide
   simp only [decide_eq_true e6,decide_eq_true e1,decide_eq_true e2,decide_eq_true e3]
   simp only [paA,List.all_cons,List.all_nil,e4,e5];rfl
  | main hn hqp h2=>
   rw [hn,hqp]
   have e1:(1:Int)≤q.steps.length:=by omega
   have e2:(q.steps.length:Int)≤80:=by omega
   have e3:(q.terms.length:Int)≤160:=by omega
   simp only [List.all_nil,decide_eq_true e1,decide_eq_true e2,decide_eq_true e3];decide
 ·rw [hf,decide_eq_false om]
  cases hx with
  | part p r hp hr hn hqp h2=>rw [hqp];simp only [paA,List.map_cons,List.map_nil];decide
  | main hn hqp h2=>rw [hqp];decide
theorem GX.all:(iv P).e=0:=by
 have h1:=h.len;have h2:=h.l2
 rw [zB ?_ h.protos ?_]; · rfl
 ·rw [h.e,h.l,decide_eq_false om,decide_eq_false sq,decide_eq_false om];rfl
 ·rw [h.l];rfl
theorem GX.main:(iJ P.procs).e=0:=by
 obtain⟨j,q,hq,e⟩:=h.ex (List.mem_append_right _ (List.mem_singleton.2 rfl))
 have hf:=h.find hq
 rw [e] at hf
 rw [An ?_]; · rfl
 ·unfold nc
  rw [hf,show((j:Int)).toNat=j by omega,hq]
  have hl:q.params=[]:=by
   cases h.q q (List.mem_of_getElem? hq) with
   | part p r hp hr hn hq2 h2=>
    have h1:=lS h.pr (PrX.call hp hr)
    rw [← hn,e] at h1
    exact absurd h1 dq
   | main hn hq2 h2=>exact hq2
  rw [decide_eq_false om]
  simp [hl]
theorem GX.check:bZ P=okF:=by
 refine AC (gT.2 fun j q hq=>?_) h.all (gT.2 fun j q hq=>?_) h.main
 ·rw [(h.q q (List.mem_of_getElem? hq)).sg.sense h.pg];rfl
 ·unfold bh
  rw [Int.zero_add,h.head hq,if_neg dq,(h.q q (List.mem_of_getElem? hq)).sg.shape];rfl
end
end Go.Sx
namespace Go.Sx
open Go
theorem LsG.all2 {H:Hp}{p:SProto}{lv:Value}(hG:GPr p)(hz:(jk p).1=0)(h1:(jk p).1=0→∃ls,RdSl H 2 SLocal.cells lv ls∧LsOk H p p.roles.length ls):∃ls,LsG H p lv ls∧ls.length=p.roles.length∧LsOk H p p.roles.length ls:=by
 obtain⟨ls,hr,hk⟩:=h1 hz
 have hl:ls.length=p.roles.length:=by have:=hk.len;omega
 refine⟨ls,⟨hr,by omega,fun l hl=>?_,fun k T k0 hT=>hk.tg hz k0 hT⟩,hl,hk⟩
 obtain⟨i,hi⟩:=List.getElem?_of_mem hl
 obtain⟨r,hr,hn,hok,_⟩:=hk.at_ i l hi
 refine⟨hok,?_⟩
 have e1:=hG.rs r (List.mem_of_getElem? hr)
 have e2:=hG.n1
 rw [hn];simp only [List.length_append,List.length_cons,List.length_nil];omega
structure PSx where
 k:Int
 h:Hp
 a:Int
 v:Value
 qs:List SProc
 ob:aj
structure PIx (ps:List SProto)(H:Hp)(dl:Value)(nm:List Str)(m:Int)(q:PSx):Prop where
 le:H.le q.h
 d:DiceOk q.h dl q.a
 o:OwnSl 4 SProc.cells q.v q.qs q.ob
 g:∀x∈q.qs,ProcOk q.h x∧XQ ps x
 n:(q.qs.length:Int)≤m
 nm:q.qs.map (·.name)=nm
theorem PIx.add {ps:List SProto}{H h':Hp}{dl:Value}{nm nm':List Str}{m m' k a':Int}{q:PSx}{v':Value}{x:SProc}{ob':aj}(h:PIx ps H dl nm m q)(hl:q.h.le h')(hd:DiceOk h' dl a')(hO:OwnSl 4 SProc.cells v' (q.qs++[x]) ob')(hx:ProcOk h' x∧XQ ps x)(hm:m+1≤m')(hn:nm'=nm++[x.name]):
  PIx ps H dl nm' m' ⟨k,h',a',v',q.qs++[x],ob'⟩:=
 ⟨h.le.trans hl,hd,hO,fj (fun y hy=>⟨(h.g y hy).1.le hl,(h.g y hy).2⟩) hx,by
  have:=h.n
  simp only [List.length_append,List.length_cons,List.length_nil];omega,by
  rw [List.map_append,h.nm,hn];rfl⟩
theorem vq (X:aj)(y:Nat×List Value)(Y B:aj):(X++y::(Y++B)).Perm (B++(X++y::Y)):=by
 have:X++y::(Y++B)=(X++y::Y)++B:=by simp
 rw [this];exact List.perm_append_comm
theorem EC {ps:List SProto}{p:SProto}{k:Int}(k0:0≤k)(hx:ps[k.toNat]? =some p):jF (ps.take (k+1).toNat)=jF (ps.take k.toNat)++pnS p:=by
 rw [jx k0 hx];unfold jF;rw [List.flatMap_append,List.flatMap_cons,List.flatMap_nil,List.append_nil]
theorem pn_take {p:SProto}{r:Str}{k:Int}(k0:0≤k)(hx:p.roles[k.toNat]? =some r):(p.roles.take (k+1).toNat).map (fun r=>p.name++r)=(p.roles.take k.toNat).map (fun r=>p.name++r)++[p.name++r]:=by
 rw [jx k0 hx,List.map_append];rfl
section
variable {P:Program}{n:Nat}{ops:Array Oper}{Q:Exit→Act→World→Prop}{E:Env}{M:List Nat}{w0:World}{H0 H:Hp}{L:aj}
theorem BS {l:List Oper}{A B:aj}(hp:L.Perm (B++A))(hM:∀p∈B,p.1∉M)(h:∀H',H.le H'→(∀p∈B,∀(o:Nat) (u:Value),p.2[o]? =some u→H' p.1 o=some u)→TL P n ops Q l E (St M w0 H0 H' A)):TL P n ops Q l E (St M w0 H0 H L):=by
 intro a w he hw
 obtain⟨H',h1,h2,h3⟩:=St.pubL (hw.perm hp) hM
 exact h H' h1 h2 a w he h3
end
end Go.Sx
namespace Go.Sx
open Go
structure NFd (P:SProg)(q:SProc)(D:Int→Int)(G:Int→List Str):Prop where
 n1:1≤q.steps.length
 n80:q.steps.length≤80
 t160:q.terms.length≤160
 sh:bK q
 tr:gb q
 tm:iL q
 nd:(q.steps.flatMap (fun s=>(a8 s).flatMap (bi q.terms))).Nodup
 dp:DeepOk q D
 e:∀(k:Nat) (s:SStep),q.steps[k]? =some s→d5 P q.terms s (G k)=0
 g0:G 0=q.params.map (·.name)
 gx:∀(k:Nat) (s:SStep),q.steps[k]? =some s→∀(j:Nat) (x:Int) (m:Str),(aG s)[j]? =some x→(bz s)[j]? =some m→G x=G k++(if m=[] then [] else [m])
theorem SgOk.nf {ps:List SProto}{q:SProc}{d:Nat}{P:SProg}(h:SgOk ps q d (q.params.map (·.name)))(hP:PgFor ps P):∃D G,NFd P q D G:=by
 obtain⟨D,G,hG⟩:=h.g.ghost q.terms (Lies.self _) 0 om
 refine⟨D,G,h.n1,h.n80,h.t160,h.shapeOk,h.treeOk,h.termsOk,h.nd,⟨fun x h0 h1=>?_,?_,fun p x hP=>?_⟩,fun k s hs=>?_,?_,fun k s hs j x m hj hm=>?_⟩
 ·obtain⟨s,hs⟩:=gP h0 h1
  have:=hG.d0 x.toNat s hs
  rw [Nat.zero_add,show((x.toNat:Nat):Int)=x by omega] at this
  have:=h.d24
  omega
 ·obtain⟨s,hs⟩:=gP (q:=q) (x:=0) om (by have:=h.n1;omega)
  have:=(hG.r rfl).2 s (by simpa using hs)
  rw [hs]
  simpa using this
 ·obtain⟨p0,s,hs,hx⟩:=hP
  have hl:=ko h.shapeOk ⟨p0,s,hs,hx⟩
  obtain⟨j,hj⟩:=List.getElem?_of_mem hx
  have hjl:=(List.getElem?_eq_some_iff.1 hj).1
  obtain⟨m,hm⟩:∃m,(bz s)[j]? =some m:=⟨_,List.getElem?_eq_getElem (by rw [gU];exact hjl)⟩
  obtain⟨y,hy⟩:=gP (q:=q) (x:=x) om hl.2
  have:=(hG.nx p.toNat s hs j x m hj hm).2 y (by simpa using hy)
  rw [Nat.zero_add,show((p.toNat:Nat):Int)=p by omega] at this
  rw [hy];exact this
 ·have hG0:=hG.s k s hs
  rw [Nat.zero_add] at hG0
  exact yF hP (h.termsOk k s hs) hG0
 ·have:=(hG.r rfl).1
  rwa [show((0:Nat):Int)=0 from rfl] at this
 ·have h1:=(hG.nx k s hs j x m hj hm).1
  rwa [Nat.zero_add] at h1
section
variable {P:SProg}{q:SProc}{D:Int→Int}{G:Int→List Str}(h:NFd P q D G)
include h
theorem NFd.shape (i:Int):eZ i q=okF:=u6 h.sh h.n80 h.tr h.dp h.tm h.nd
theorem NFd.sense (i:Int):gy P i q=okF:=by
 have hS:=h.sh
 have hT:=h.tr
 have key:∀(l:List SStep) (k:Nat) (b:List (List Str)),l=q.steps.drop k→b.length=q.steps.length→(∀x:Nat,k≤x→x<q.steps.length→(x=0∨∃p:Nat,p<k∧Par q p x)→b[x]? =some (G x))→dO P q i l k b=okF:=by
  intro l
  induction l with
  | nil=>intros;rfl
  | cons s r ih=>
   intro k b hl hb hg
   have hx:q.steps[k]? =some s:=by
    have h1:(q.steps.drop k)[0]? =some s:=by rw [← hl];rfl
    rwa [List.getElem?_drop,Nat.add_zero] at h1
   have hr:r=q.steps.drop (k+1):=by
    have h1:(q.steps.drop k).drop 1=r:=by rw [← hl];rfl
    rw [← h1,List.drop_drop]
   have hkn:=(List.getElem?_eq_some_iff.1 hx).1
   have hin:=(hS k s hx).2
   have hbk:b[k]? =some (G k):=by
    refine hg k (Nat.le_refl _) hkn ?_
    rcases Nat.eq_zero_or_pos k with e | e
    ·exact .inl e
    ·right
     have h1:=hT k e hkn
     have hm:(k:Int)∈k9 q:=List.count_pos_iff.1 om
     obtain⟨sp,hsp,hm2⟩:=List.mem_flatMap.1 hm
     obtain⟨p,hp⟩:=List.getElem?_of_mem hsp
     have:=(hS p sp hp).2 _ hm2
     exact⟨p,by omega,⟨by omega,sp,by simpa using hp,hm2⟩⟩
   have he:=h.e k s hx
   rw [dO,show b[((k:Int)).toNat]?.getD []=G k by rw [show((k:Int)).toNat=k by omega,hbk];rfl]
   rw [if_neg (by rw [he];decide),show((k:Int)+1)=((k+1:Nat):Int) by omega]
   have hnd:=kq hS hT hx
   refine ih (k+1) _ hr (by rw [kE,hb]) (fun x hkx hxn hpar=>?_)
   by_cases hm:(x:Int)∈aG s
   ·obtain⟨j,hj⟩:=List.getElem?_of_mem hm
    have hjl:=(List.getElem?_eq_some_iff.1 hj).1
    obtain⟨m,hmm⟩:∃m,(bz s)[j]? =some m:=⟨_,List.getElem?_eq_getElem (by rw [gU];exact hjl)⟩
    have h1:=h.gx k s hx j x m hj hmm
    have h2:=lT (k:=k) (aG s) (bz s) b hj hmm hnd (fun t ht=>⟨(hin t ht).1,by have:=hin t ht;omega⟩) om
    rw [show((x:Int)).toNat=x by omega] at h2
    rw [h2,h1]
    rw [show((k:Int)).toNat=k by omega,hbk];rfl
   ·rw [gf (aG s) _ _ x (fun t ht e=>hm (by
     have:=hin t ht
     rw [show(x:Int)=t by omega];exact ht))]
    refine hg x om hxn ?_
    rcases hpar with e | ⟨p,hp,hP2⟩
    ·exact .inl e
    ·right
     refine⟨p,?_,hP2⟩
     by_cases e:p=k
     ·subst e
      obtain⟨_,s',hs',hm'⟩:=hP2
      rw [show((p:Int)).toNat=p by omega,hx] at hs'
      obtain rfl:=Option.some.inj hs'
      exact absurd hm' hm
     ·omega
 refine key q.steps 0 _ rfl (lU q) (fun x _ hxn hpar=>?_)
 have hx0:x=0:=by
  rcases hpar with e | ⟨p,hp,_⟩
  ·exact e
  ·omega
 subst hx0
 have:=h.g0
 unfold kF
 rw [List.getElem?_set,if_pos rfl,if_pos (by have:=h.n1;simp;omega)]
 rw [← this];rfl
end
def sig (k x:Int):Int:=if x=k∨x=k+1 then 2 * k+1 - x else x
theorem gI (k x:Int):sig k (sig k x)=x:=by
 unfold sig
 by_cases h:x=k∨x=k+1
 ·rw [if_pos h,if_pos om];omega
 ·rw [if_neg h,if_neg h]
theorem wt {k x y:Int}(h:sig k x=sig k y):x=y:=by rw [← gI k x,h,gI]
theorem eY {k x:Int}(hk:x≠k)(hk1:x≠k+1):sig k x=x:=by unfold sig;rw [if_neg om]
theorem D0 (k:Int):sig k k=k+1:=by unfold sig;rw [if_pos (.inl rfl)];omega
theorem zS (k:Int):sig k (k+1)=k:=by unfold sig;rw [if_pos (.inr rfl)];omega
theorem gJ {k x n:Int}(hk:0≤k)(hn:k+1<n)(h0:0≤x)(h1:x<n):0≤sig k x∧sig k x<n:=by
 unfold sig;split<;>omega
def jv (k:Int)(w:SWay):SWay:={w with next:=sig k w.next}
def StepT (k:Int)(s s':SStep):Prop:=∃wp:Sp,s'={s with next:=sig k s.next,ways:=s.ways.map (jv k),wp:=wp}
section
variable {k:Int}{s s':SStep}(h:StepT k s s')(hk:0≤k)
include h
theorem StepT.nexts:aG s'=(aG s).map (sig k):=by
 obtain⟨wp,rfl⟩:=h
 unfold aG
 dsimp only
 split
 ·rfl
 ·rw [List.map_map,List.map_map];rfl
theorem StepT.binds:bz s'=bz s:=by
 have hl:=congrArg List.length h.nexts
 rw [List.length_map] at hl
 unfold bz
 rw [hl]
 obtain⟨wp,rfl⟩:=h
 dsimp only
 rw [List.map_map];rfl
theorem StepT.terms:a8 s'=a8 s:=by obtain⟨wp,rfl⟩:=h;rfl
theorem StepT.deep:fZ (some s')=fZ (some s):=by obtain⟨wp,rfl⟩:=h;rfl
theorem StepT.err {P:SProg}{ts:List Term}{Γ:List Str}:d5 P ts s' Γ=d5 P ts s Γ:=by
 have hb:=h.binds
 have ht:=h.terms
 have ho:dk P s'=dk P s:=by
  obtain⟨wp,rfl⟩:=h
  unfold dk
  induction P.protos with
  | nil=>rfl
  | cons x l ih=>unfold eG;rw [ih];rfl
 unfold d5 dr
 rw [hb,ht,ho]
 obtain⟨wp,rfl⟩:=h
 rfl
include hk
theorem StepT.may:dg s'=dg s:=by
 obtain⟨wp,rfl⟩:=h
 have e1:(sig k s.next= -1)↔s.next= -1:=by
  constructor
  ·intro e
   have:sig k s.next=sig k (-1):=by rw [e,eY om om]
   exact wt this
  ·intro e;rw [e,eY om om]
 have hw:∀(c:Int) (x:SStep),eI {x with next:=sig k x.next,ways:=x.ways.map (jv k),wp:=wp}=eI x:=fun c x=>by
  unfold eI
  dsimp only
  split
  ·rw [List.length_map,List.getElem?_map,List.getElem?_map]
   cases x.ways[0]? <;>cases x.ways[1]? <;>rfl
  ·rw [List.length_map,List.all_map,List.map_map];rfl
 have hb:gA (dD {s with next:=sig k s.next,ways:=s.ways.map (jv k),wp:=wp})=gA (dD s):=by
  unfold gA dD
  dsimp only
  have e3:((if s.kind=3∨s.kind=5 then([]:List SWay) else s.ways.map (jv k)).length)=((if s.kind=3∨s.kind=5 then([]:List SWay) else s.ways).length):=by split<;>simp
  have e4:decide ((if cd s.kind=true then(-1:Int) else sig k s.next)= -1)=decide ((if cd s.kind=true then(-1:Int) else s.next)= -1):=by
   split
   ·rfl
   ·by_cases e:s.next= -1
    ·rw [e,eY om om]
    ·rw [decide_eq_false e,decide_eq_false (fun h=>e (e1.1 h))]
  rw [e3,e4]
 unfold dg
 rw [hb,hw 0 s]
end
end Go.Sx
namespace Go.Sx
open Go
structure Trn (k:Int)(q q':SProc):Prop where
 nm:q'.name=q.name
 pa:q'.params=q.params
 te:q'.terms=q.terms
 ln:q'.steps.length=q.steps.length
 at_:∀x:Nat,x<q.steps.length→∃s s',q.steps[(sig k x).toNat]? =some s∧q'.steps[x]? =some s'∧StepT k s s'
theorem zf {α:Type}:∀(l:List α) (k:Nat),k+1<l.length→∃A a b C,l=A++a::b::C∧A.length=k
 | x::y::r,0,_=>⟨[],x,y,r,rfl,rfl⟩
 | [x],0,h=>by simp at h
 | [],k,h=>by simp at h
 | x::r,k+1,h=>by
  obtain⟨A,a,b,C,e,hA⟩:=zf r k (by simp at h;omega)
  exact⟨x::A,a,b,C,by rw [e];rfl,by simp [hA]⟩
theorem vQ {k x:Int}:∀{l:List Int},(l.map (sig k)).count (sig k x)=l.count x
 | []=>rfl
 | y::r=>by
  rw [List.map_cons,List.count_cons,List.count_cons,vQ]
  by_cases e:y=x
  ·subst e;simp
  ·have:¬sig k y=sig k x:=fun h=>e (wt h)
   simp [e,this]
theorem n9 {k x:Int}:∀{l:List Int},co (l.map (sig k)) (sig k x)=co l x
 | []=>rfl
 | y::r=>by
  rw [List.map_cons,co,co,n9]
  by_cases e:y=x
  ·subst e;rw [if_pos rfl,if_pos rfl]
  ·rw [if_neg e,if_neg (fun h=>e (wt h))]
section
variable {k:Int}{q q':SProc}(h:Trn k q q')(k0:0≤k)(k1:k+1<q.steps.length)
include h k0 k1
theorem Trn.get {x:Nat}{s':SStep}(hx:q'.steps[x]? =some s'):∃s,q.steps[(sig k x).toNat]? =some s∧StepT k s s':=by
 have hl:=(List.getElem?_eq_some_iff.1 hx).1
 rw [h.ln] at hl
 obtain⟨s,s2,h1,h2,h3⟩:=h.at_ x hl
 rw [h2] at hx
 obtain rfl:=Option.some.inj hx
 exact⟨s,h1,h3⟩
theorem Trn.put {x:Nat}{s:SStep}(hx:q.steps[x]? =some s):∃s',q'.steps[(sig k x).toNat]? =some s'∧StepT k s s':=by
 have hl:=(List.getElem?_eq_some_iff.1 hx).1
 have hr:=gJ (x:=(x:Int)) k0 k1 om om
 obtain⟨s1,s2,h1,h2,h3⟩:=h.at_ (sig k x).toNat om
 rw [show(((sig k x).toNat:Nat):Int)=sig k x by omega,gI,show((x:Int)).toNat=x by omega,hx] at h1
 obtain rfl:=Option.some.inj h1
 exact⟨s2,h2,h3⟩
theorem Trn.flat {α:Type}{f g:SStep→List α}(hf:∀s s',StepT k s s'→f s'=g s):(q'.steps.flatMap f).Perm (q.steps.flatMap g):=by
 obtain⟨A,a,b,C,e,hA⟩:=zf q.steps k.toNat om
 have e2:q'.steps.map f=(A++b::a::C).map g:=by
  refine List.ext_getElem? (fun i=>?_)
  rw [List.getElem?_map,List.getElem?_map]
  by_cases hi:i<q.steps.length
  ·obtain⟨s,s',h1,h2,h3⟩:=h.at_ i hi
   rw [h2,Option.map_some,hf s s' h3]
   have hg:(A++b::a::C)[i]? =some s:=by
    rw [e] at h1
    by_cases c1:i<k.toNat
    ·rw [eY om om,show((i:Int)).toNat=i by omega,List.getElem?_append_left om] at h1
     rw [List.getElem?_append_left om];exact h1
    ·by_cases c2:(i:Int)=k
     ·rw [c2,D0,List.getElem?_append_right om,show(k+1).toNat - A.length=1 by omega] at h1
      rw [List.getElem?_append_right om,show i - A.length=0 by omega]
      simpa using h1
     ·by_cases c3:(i:Int)=k+1
      ·rw [c3,zS,List.getElem?_append_right om,show k.toNat - A.length=0 by omega] at h1
       rw [List.getElem?_append_right om,show i - A.length=1 by omega]
       simpa using h1
      ·rw [eY c2 c3,show((i:Int)).toNat=i by omega,List.getElem?_append_right om] at h1
       rw [List.getElem?_append_right om]
       obtain⟨j,hj⟩:∃j,i - A.length=j+2:=⟨i - A.length - 2,by omega⟩
       rw [hj] at h1 ⊢
       simpa using h1
   rw [hg];rfl
  ·rw [List.getElem?_eq_none (by rw [h.ln];omega),List.getElem?_eq_none (by rw [e] at hi;simp at hi ⊢;omega)];rfl
 have e3:q'.steps.flatMap f=(A++b::a::C).flatMap g:=by rw [List.flatMap_def,e2,← List.flatMap_def]
 rw [e3,e]
 have hp:(A++b::a::C).Perm (A++a::b::C):=List.Perm.append_left A (List.Perm.swap a b C)
 exact hp.flatMap_right g
theorem Trn.nf {P:SProg}{D:Int→Int}{G:Int→List Str}(hk1:1≤k)(hno:∀s,q.steps[k.toNat]? =some s→k+1∉aG s)(hN:NFd P q D G):NFd P q' (fun x=>D (sig k x)) (fun x=>G (sig k x)):=by
 have hn1:=hN.n1
 have sh:bK q':=fun x s' hx=>by
  obtain⟨s,hs,hT⟩:=h.get k0 k1 hx
  have hxl:=(List.getElem?_eq_some_iff.1 hx).1
  rw [h.ln] at hxl
  have hr:=gJ (x:=(x:Int)) k0 k1 om om
  obtain⟨hm,hnx⟩:=hN.sh _ s hs
  refine⟨by rw [hT.may k0];exact hm,fun t ht=>?_⟩
  rw [hT.nexts] at ht
  obtain⟨t0,ht0,rfl⟩:=List.mem_map.1 ht
  have h2:=hnx t0 ht0
  have h3:=gJ (x:=t0) k0 k1 om om
  rw [h.ln]
  refine⟨?_,h3.2⟩
  by_cases c1:(x:Int)=k
  ·rw [c1,D0] at h2
   rw [eY om om];omega
  ·by_cases c2:(x:Int)=k+1
   ·rw [c2,zS] at h2 hs
    have:t0≠k+1:=fun e=>hno s hs (e▸ht0)
    rw [eY om this];omega
   ·rw [eY c1 c2] at h2
    unfold sig
    split<;>omega
 refine⟨by rw [h.ln];exact hn1,by rw [h.ln];exact hN.n80,by rw [h.te];exact hN.t160,sh,fun x x0 hx=>?_,fun x s' hx t ht=>?_,?_,⟨fun x x0 hx=>?_,?_,fun p x hP=>?_⟩,fun x s' hx=>?_,?_,fun x s' hx j y m hj hm=>?_⟩
 ·rw [h.ln] at hx
  have hr:=gJ (x:=(x:Int)) k0 k1 om om
  have hp:(k9 q').Perm (q.steps.flatMap (fun s=>(aG s).map (sig k))):=h.flat k0 k1 (fun s s' hT=>hT.nexts)
  have e:q.steps.flatMap (fun s=>(aG s).map (sig k))=(k9 q).map (sig k):=by unfold k9;rw [List.map_flatMap]
  rw [hp.count_eq,e]
  have e2:(x:Int)=sig k (sig k x):=(gI k x).symm
  rw [e2,vQ]
  have hz:sig k (x:Int)≠0:=fun e=>by
   have h0:sig k (sig k (x:Int))=sig k 0:=by rw [e]
   rw [gI,eY om om] at h0;omega
  have:=hN.tr (sig k x).toNat om om
  rwa [show(((sig k x).toNat:Nat):Int)=sig k x by omega] at this
 ·obtain⟨s,hs,hT⟩:=h.get k0 k1 hx
  rw [hT.terms] at ht
  rw [h.te];exact hN.tm _ s hs t ht
 ·have hp:(q'.steps.flatMap (fun s=>(a8 s).flatMap (bi q'.terms))).Perm (q.steps.flatMap (fun s=>(a8 s).flatMap (bi q.terms))):=h.flat k0 k1 (fun s s' hT=>by rw [hT.terms,h.te])
  exact hp.nodup_iff.2 hN.nd
 ·rw [h.ln] at hx
  have hr:=gJ (x:=x) k0 k1 x0 hx
  exact hN.dp.r _ hr.1 hr.2
 ·show D (sig k 0)=_
  rw [eY om om,hN.dp.z]
  obtain⟨s,s',h1,h2,h3⟩:=h.at_ 0 om
  rw [show((0:Nat):Int)=0 from rfl,eY om om] at h1
  rw [h1,show((0:Int)).toNat=0 from rfl,h2,h3.deep]
 ·obtain⟨p0,s',hs',hx⟩:=hP
  obtain⟨s,hs,hT⟩:=h.get k0 k1 hs'
  rw [show((p.toNat:Nat):Int)=p by omega] at hs
  have hl:=ko sh ⟨p0,s',hs',hx⟩
  rw [hT.nexts] at hx
  obtain⟨t,ht,rfl⟩:=List.mem_map.1 hx
  have hpl:=(List.getElem?_eq_some_iff.1 hs').1
  rw [h.ln] at hpl
  have hr:=gJ (x:=p) k0 k1 p0 om
  have h1:=hN.dp.n (sig k p) t ⟨hr.1,s,hs,ht⟩
  show D (sig k (sig k t))=_+D (sig k p)
  rw [gI,h1]
  have htr:=(hN.sh _ s hs).2 t ht
  obtain⟨y,hy⟩:=gP (q:=q) (x:=t) om htr.2
  obtain⟨y',hy',hT2⟩:=h.put k0 k1 hy
  rw [show((t.toNat:Nat):Int)=t by omega] at hy'
  rw [hy,hy',hT2.deep]
 ·obtain⟨s,hs,hT⟩:=h.get k0 k1 hx
  have hxl:=(List.getElem?_eq_some_iff.1 hx).1
  rw [h.ln] at hxl
  have hr:=gJ (x:=(x:Int)) k0 k1 om om
  have:=hN.e _ s hs
  rw [hT.err,h.te]
  rwa [show(((sig k x).toNat:Nat):Int)=sig k x by omega] at this
 ·show G (sig k 0)=_
  rw [eY om om,hN.g0,h.pa]
 ·obtain⟨s,hs,hT⟩:=h.get k0 k1 hx
  have hxl:=(List.getElem?_eq_some_iff.1 hx).1
  rw [h.ln] at hxl
  have hr:=gJ (x:=(x:Int)) k0 k1 om om
  rw [hT.nexts,List.getElem?_map] at hj
  rw [hT.binds] at hm
  cases e:(aG s)[j]? with
  | none=>rw [e] at hj;cases hj
  | some t=>
   rw [e] at hj
   have ey:sig k t=y:=Option.some.inj hj
   have:=hN.gx _ s hs j t m e hm
   rw [show(((sig k x).toNat:Nat):Int)=sig k x by omega] at this
   show G (sig k y)=G (sig k x)++_
   rw [← ey,gI];exact this
theorem Trn.ordW {P:SProg}{D:Int→Int}{G:Int→List Str}(hN:NFd P q D G):∀(f:Nat) (x:Int),0≤x→x<q.steps.length→Sx.ordW q' f x=(Sx.ordW q f (sig k x)).map (sig k)
 | 0,_,_,_=>rfl
 | f+1,x,x0,hx=>by
  obtain⟨s,s',h1,h2,hT⟩:=h.at_ x.toNat om
  rw [show((x.toNat:Nat):Int)=x by omega] at h1
  rw [kS h2,kS h1,List.map_cons,gI,hT.nexts,List.flatMap_map,List.map_flatMap]
  congr 1
  have hnx:=(hN.sh _ s h1).2
  have key:∀l:List Int,(∀t∈l,t∈aG s)→l.flatMap (fun t=>Sx.ordW q' f (sig k t))=l.flatMap (fun t=>(Sx.ordW q f t).map (sig k)):=by
   intro l
   induction l with
   | nil=>intro _;rfl
   | cons t r ih=>
    intro hl
    rw [List.flatMap_cons,List.flatMap_cons,ih (fun y hy=>hl y (List.mem_cons_of_mem _ hy))]
    have ht:=hnx t (hl t sq)
    have hr:=gJ (x:=t) k0 k1 om ht.2
    rw [Trn.ordW hN f (sig k t) hr.1 hr.2,gI]
  exact key _ (fun t ht=>ht)
theorem Trn.ord {P:SProg}{D:Int→Int}{G:Int→List Str}(hk1:1≤k)(hN:NFd P q D G):dx q'=(dx q).map (sig k):=by
 have hn1:=hN.n1
 unfold dx
 rw [h.ln,h.ordW k0 k1 hN _ 0 om om,eY om om]
theorem Trn.termL {P:SProg}{D:Int→Int}{G:Int→List Str}(hk1:1≤k)(hN:NFd P q D G):Sx.termL q'=Sx.termL q:=by
 unfold Sx.termL
 rw [h.ord k0 k1 hk1 hN,List.flatMap_map]
 have key:∀l:List Int,(∀t∈l,0≤t∧t<q.steps.length)→l.flatMap (fun t=>match q'.steps[(sig k t).toNat]? with | some s=>gk q'.terms s | none=>[])=l.flatMap (fun t=>match q.steps[t.toNat]? with | some s=>gk q.terms s | none=>[]):=by
  intro l
  induction l with
  | nil=>intro _;rfl
  | cons t r ih=>
   intro hl
   rw [List.flatMap_cons,List.flatMap_cons,ih (fun y hy=>hl y (List.mem_cons_of_mem _ hy))]
   have ht:=hl t sq
   obtain⟨s,hs⟩:=gP (q:=q) ht.1 ht.2
   obtain⟨s',hs',hT⟩:=h.put k0 k1 hs
   rw [show((t.toNat:Nat):Int)=t by omega] at hs'
   rw [hs,hs']
   have e:gk q'.terms s'=gk q.terms s:=by
    unfold gk
    rw [h.te]
    obtain⟨wp,rfl⟩:=hT
    rfl
   show gk q'.terms s'++_=gk q.terms s++_
   rw [e]
 exact key _ (fun t ht=>ol hN.sh ht)
theorem Trn.rise {P:SProg}{D:Int→Int}{G:Int→List Str}(hk1:1≤k)(hN:NFd P q D G):mL q'=mL q:=by
 have ho:=h.ord k0 k1 hk1 hN
 have ht:=h.termL k0 k1 hk1 hN
 have hs:iO q' (dx q')=iO q (dx q):=by
  unfold iO
  rw [ht]
  conv=>lhs;arg 2;rw [ho]
  rw [List.filterMap_map]
  have key:∀l:List Int,(∀t∈l,0≤t∧t<q.steps.length)→l.filterMap ((fun j:Int=>q'.steps[j.toNat]?.map (pq (dx q') (Sx.termL q))) ∘ sig k)=l.filterMap (fun j:Int=>q.steps[j.toNat]?.map (pq (dx q) (Sx.termL q))):=by
   intro l
   induction l with
   | nil=>intro _;rfl
   | cons t r ih=>
    intro hl
    rw [List.filterMap_cons,List.filterMap_cons,ih (fun y hy=>hl y (List.mem_cons_of_mem _ hy))]
    have htr:=hl t sq
    obtain⟨s,hs⟩:=gP (q:=q) htr.1 htr.2
    obtain⟨s',hs',hT⟩:=h.put k0 k1 hs
    rw [show((t.toNat:Nat):Int)=t by omega] at hs'
    have e:pq (dx q') (Sx.termL q) s'=pq (dx q) (Sx.termL q) s:=by
     obtain⟨wp,rfl⟩:=hT
     unfold pq
     dsimp only
     rw [ho,n9,List.map_map]
     have hw:s.ways.map (zM ((dx q).map (sig k)) ∘ jv k)=s.ways.map (zM (dx q)):=List.map_congr_left (fun w _=>by
      show zM _ (jv k w)=_
      unfold zM jv
      dsimp only
      rw [n9])
     rw [hw]
    simp only [Function.comp_apply,hs,hs',Option.map_some,e]
  exact key _ (fun t ht=>ol hN.sh ht)
 unfold mL
 rw [hs,ht,h.nm,h.pa,h.te]
end
structure TI (P:SProg)(q q':SProc):Prop where
 nm:q'.name=q.name
 pa:q'.params=q.params
 nf:∃D G,NFd P q' D G
 ri:mL q'=mL q
theorem TI.same {P:SProg}{q q' q2:SProc}(h:TI P q q')(hn:q2.name=q'.name)(hp:q2.params=q'.params)(ht:q2.terms=q'.terms)(hs:q2.steps=q'.steps):TI P q q2:=by
 obtain⟨D,G,hN⟩:=h.nf
 have e:k9 q2=k9 q':=by unfold k9;rw [hs]
 refine⟨hn.trans h.nm,hp.trans h.pa,⟨D,G,by rw [hs];exact hN.n1,by rw [hs];exact hN.n80,by rw [ht];exact hN.t160,?_,?_,?_,by rw [hs,ht];exact hN.nd,⟨by rw [hs];exact hN.dp.r,by rw [hs];exact hN.dp.z,?_⟩,by rw [hs,ht];exact hN.e,by rw [hp];exact hN.g0,by rw [hs];exact hN.gx⟩,?_⟩
 ·intro k s hk;rw [hs] at hk ⊢;exact hN.sh k s hk
 ·intro x h0 hx;rw [hs] at hx;rw [e];exact hN.tr x h0 hx
 ·intro k s hk;rw [hs] at hk;rw [ht];exact hN.tm k s hk
 ·intro p x hP;rw [hs];refine hN.dp.n p x ⟨hP.1,?_⟩;obtain⟨_,s,h1,h2⟩:=hP;exact⟨s,by rw [← hs];exact h1,h2⟩
 ·rw [← h.ri]
  have ho:∀(f:Nat) (x:Int),ordW q2 f x=ordW q' f x:=by
   intro f
   induction f with
   | zero=>intro x;rfl
   | succ f ih=>
    intro x
    rw [ordW,ordW,hs,show ordW q2 f=ordW q' f from funext ih]
  have h1:dx q2=dx q':=by unfold dx;rw [hs];exact ho _ _
  have h2:termL q2=termL q':=by unfold termL;rw [h1,hs,ht]
  have h3:iO q2=iO q':=by funext L;unfold iO;rw [h1,h2,hs]
  unfold mL
  rw [h2,h3,h1,hn,hp,ht]
theorem TI.turn {P:SProg}{q q' q2:SProc}{k:Int}(h:TI P q q')(hT:Trn k q' q2)(k1:1≤k)(k2:k+1<q'.steps.length)(hno:∀s,q'.steps[k.toNat]? =some s→k+1∉aG s):TI P q q2:=by
 obtain⟨D,G,hN⟩:=h.nf
 exact⟨hT.nm.trans h.nm,hT.pa.trans h.pa,⟨_,_,hT.nf om k2 k1 hno hN⟩,(hT.rise om k2 k1 hN).trans h.ri⟩
section
variable {ps:List SProto}{P P':SProg}(h:GX ps P)(hp:P'.protos=P.protos)(hl:P'.locals=P.locals)(hn:P'.procs.length=P.procs.length)(hq:∀(j:Nat) (q':SProc),P'.procs[j]? =some q'→∃q,P.procs[j]? =some q∧TI P q q')
include h hp hl hn hq
theorem nI {j:Nat}{q:SProc}(hj:P.procs[j]? =some q):∃q',P'.procs[j]? =some q'∧TI P q q':=by
 have hlt:=(List.getElem?_eq_some_iff.1 hj).1
 have e:=List.getElem?_eq_getElem (l:=P'.procs) (i:=j) om
 obtain⟨q0,h1,h2⟩:=hq j _ e
 rw [hj] at h1
 obtain rfl:=Option.some.inj h1
 exact⟨_,e,h2⟩
theorem wi:P'.procs.map (·.name)=P.procs.map (·.name):=by
 refine List.ext_getElem? (fun j=>?_)
 rw [List.getElem?_map,List.getElem?_map]
 cases e:P.procs[j]? with
 | none=>rw [List.getElem?_eq_none (by have:=List.getElem?_eq_none_iff.1 e;omega)]
 | some q=>
  obtain⟨q',h1,h2⟩:=nI h hp hl hn hq e
  rw [h1];simp [h2.nm]
theorem j9 (s:Str):dm P'.procs s=dm P.procs s:=by unfold dm;rw [wi h hp hl hn hq]
theorem pi (j:Int):(nc P'.procs j).params.length=(nc P.procs j).params.length:=by
 unfold nc
 cases e:P.procs[j.toNat]? with
 | none=>rw [List.getElem?_eq_none (by have:=List.getElem?_eq_none_iff.1 e;omega)]
 | some q=>
  obtain⟨q',h1,h2⟩:=nI h hp hl hn hq e
  rw [h1];simp [h2.pa]
theorem zN {ts:List Term}{s:SStep}{Γ:List Str}:d5 P' ts s Γ=d5 P ts s Γ:=by
 have hc:∀s n,ct P'.procs s n=ct P.procs s n:=fun s n=>by
  unfold ct
  rw [j9 h hp hl hn hq,pi h hp hl hn hq]
 have ho:dk P' s=dk P s:=by unfold dk;rw [hp]
 unfold d5
 simp only [hc,ho]
theorem BX {q:SProc}{D:Int→Int}{G:Int→List Str}(hN:NFd P q D G):NFd P' q D G:=
 ⟨hN.n1,hN.n80,hN.t160,hN.sh,hN.tr,hN.tm,hN.nd,hN.dp,fun k s hs=>by rw [zN h hp hl hn hq];exact hN.e k s hs,hN.g0,hN.gx⟩
theorem fP:bZ P'=okF:=by
 refine AC (gT.2 fun j q' hj=>?_) ?_ (gT.2 fun j q' hj=>?_) ?_
 ·obtain⟨q,h1,h2⟩:=hq j q' hj
  obtain⟨D,G,hN⟩:=h2.nf
  rw [(BX h hp hl hn hq hN).sense];rfl
 ·have:=h.all
  unfold iv at this ⊢
  rw [hp,hl,hn];exact this
 ·obtain⟨q,h1,h2⟩:=hq j q' hj
  obtain⟨D,G,hN⟩:=h2.nf
  have hh:eX P'.procs ((0:Int)+j) q'=okF:=by
   rw [Int.zero_add]
   have h0:=h.head h1
   have hx:=h.q q (List.mem_of_getElem? h1)
   have hg:(bP q&&q.params.all dJ)=true:=by
    cases e:(bP q&&q.params.all dJ) with
    | true=>rfl
    | false=>unfold eX at h0;rw [if_pos e] at h0;cases h0
   have hg2:(decide (dm P.procs q.name<(j:Int))|| !de (q.params.map (·.name)))=false:=by
    cases e:(decide (dm P.procs q.name<(j:Int))|| !de (q.params.map (·.name))) with
    | false=>rfl
    | true=>unfold eX at h0;rw [if_neg (by rw [hg];decide),if_pos e] at h0;cases h0
   refine sH ?_ (by rw [j9 h hp hl hn hq,h2.nm,h2.pa];exact hg2)
   unfold bP at hg ⊢
   have e1:(1:Int)≤q'.steps.length:=by have:=hN.n1;omega
   have e2:(q'.steps.length:Int)≤80:=by have:=hN.n80;omega
   have e3:(q'.terms.length:Int)≤160:=by have:=hN.t160;omega
   rw [h2.nm,h2.pa,decide_eq_true e1,decide_eq_true e2,decide_eq_true e3]
   simp only [Bool.and_eq_true] at hg ⊢
   exact⟨⟨hg.1.1,hg.1.2.1,by simp⟩,hg.2⟩
  unfold bh
  rw [hh,if_neg dq,hN.shape];rfl
 ·have:=h.main
  unfold iJ at this ⊢
  rw [j9 h hp hl hn hq,pi h hp hl hn hq];exact this
theorem iz:fX P'=fX P:=by
 have c1:=fP h hp hl hn hq
 have c0:=h.check
 unfold fX
 rw [if_neg (by rw [c1];decide),if_neg (by rw [c0];decide),hp,hl]
 congr 1
 refine List.ext_getElem? (fun j=>?_)
 rw [List.getElem?_map,List.getElem?_map]
 cases e:P.procs[j]? with
 | none=>rw [List.getElem?_eq_none (by have:=List.getElem?_eq_none_iff.1 e;omega)]
 | some q=>
  obtain⟨q',h1,h2⟩:=nI h hp hl hn hq e
  rw [h1,Option.map_some,Option.map_some,← sR (by rw [c1];rfl) q' (List.mem_of_getElem? h1),← sR (by rw [c0];rfl) q (List.mem_of_getElem? e),h2.ri]
end
end Go.Sx
namespace Go.Sx
open Go
theorem OwnSl.recellL {α:Type}{k:Nat}{enc:α→List Value}{v:Value}{xs ys:List α}{ob:aj}(h:OwnSl k enc v xs ob)(e:xs.map enc=ys.map enc):OwnSl k enc v ys ob:=by
 have hl:xs.length=ys.length:=by have:=congrArg List.length e;simpa using this
 have hf:xs.flatMap enc=ys.flatMap enc:=by rw [List.flatMap_def,List.flatMap_def,e]
 rcases h with ⟨h1,h2,h3⟩ | ⟨b,cap,cs,h1,h2,h3,h4,h5,h6⟩
 ·subst h2
  exact .inl ⟨h1,List.length_eq_zero_iff.1 (by simpa using hl.symm),h3⟩
 ·rw [hl] at h1 h4 h5
  rw [hf] at h4
  exact .inr ⟨b,cap,cs,h1,h2,h3,h4,h5,h6⟩
theorem Ee {α:Type}{k i:Nat}{enc:α→List Value}[hc:Cells k enc]{xs:List α}{a':α}{cs:List Value}(hi:i<xs.length)(h:cs.take (xs.length * k)=xs.flatMap enc)(hl:xs.length * k≤cs.length):(bY cs (i * k) (enc a')).take (xs.length * k)=(xs.set i a').flatMap enc:=by
 have hx:xs=xs.take i++(xs[i]::xs.drop (i+1)):=by rw [List.getElem_cons_drop,List.take_append_drop]
 have hA:(xs.take i).length=i:=by rw [List.length_take];omega
 have flen:∀l:List α,(l.flatMap enc).length=l.length * k:=fun l=>ji (fun x _=>hc.len x)
 have hset:xs.set i a'=xs.take i++(a'::xs.drop (i+1)):=by
  conv=>lhs;rw [hx]
  rw [List.set_append_right _ _ om,hA,Nat.sub_self];rfl
 have hcs:cs=(xs.take i).flatMap enc++(enc xs[i]++((xs.drop (i+1)).flatMap enc++cs.drop (xs.length * k))):=by
  conv=>lhs;rw [← List.take_append_drop (xs.length * k) cs,h]
  conv=>lhs;arg 1;rw [hx]
  rw [List.flatMap_append,List.flatMap_cons,List.append_assoc,List.append_assoc]
 have hfA:((xs.take i).flatMap enc).length=i * k:=by rw [flen,hA]
 have hea:(enc a').length=k:=hc.len a'
 have hex:(enc xs[i]).length=k:=hc.len _
 have hik:(i+1) * k≤xs.length * k:=Nat.mul_le_mul_right k om
 rw [Nat.succ_mul] at hik
 rw [gm _ _ _ (by rw [hea];omega),hset,List.flatMap_append,List.flatMap_cons]
 have h1:cs.take (i * k)=(xs.take i).flatMap enc:=by
  conv=>lhs;rw [hcs]
  exact List.take_left' hfA
 have h2:cs.drop (i * k+(enc a').length)=(xs.drop (i+1)).flatMap enc++cs.drop (xs.length * k):=by
  conv=>lhs;rw [hcs,← List.append_assoc]
  exact List.drop_left' (by rw [List.length_append,hfA,hex,hea])
 rw [h1,h2,← List.append_assoc,← List.append_assoc]
 have hd:((xs.drop (i+1)).flatMap enc).length=(xs.length - (i+1)) * k:=by rw [flen,List.length_drop]
 have hz:xs.length * k=i * k+k+(xs.length - (i+1)) * k:=by
  have:xs.length=i+1+(xs.length - (i+1)):=by omega
  conv=>lhs;rw [this]
  rw [Nat.add_mul,Nat.succ_mul]
 rw [List.take_append_of_le_length (by simp only [List.length_append];omega),List.take_of_length_le (by simp only [List.length_append];omega),List.append_assoc]
section
variable {P:Program}{n:Nat}{ops:Array Oper}{Q:Exit→Act→World→Prop}{E:Env}{M:List Nat}{w0:World}{H0 H:Hp}{L:aj}{rest:List Oper}{dst:Option Nat}{ty:TypeId}{pos:String}{aft:Array Edge}
theorem iq {α:Type}{t k i:Nat}{enc:α→List Value}[hc:Cells k enc]{x y:Operand}{v u:Value}{xs:List α}{ob:aj}{F:aj→aj}{a':α}(hx:ev E x=some (.pointer (some ⟨ogb ob,i * k,none⟩)))(hy:ev E y=some u)(hu:u.cells.toList=enc a')(h1:(enc a').all (·.oneCell')=true)
  (hO:OwnSl k enc v xs ob) (hU:Tl ob L F) (hi:i<xs.length) [ht:Ty P t true k] (hd:cu dst n=true)
  (h:∀ob',ogb ob'=ogb ob→OwnSl k enc v (xs.set i a') ob'→TL P n ops Q rest (cr dst undef E) (St M w0 H0 H (F ob'))):
  TL P n ops Q ({dst:=dst,op:=.store t x y,type:=ty,pos:=pos,after:=aft,guard:=none}::rest) E (St M w0 H0 H L):=by
 obtain⟨R,hp,hF⟩:=hU.perm
 rcases hO with ⟨rfl,rfl,rfl⟩ | ⟨b,cap,cs,rfl,rfl,hcl,htk,hle,hcm⟩
 ·simp at hi
 ·have hz:xs.length * k≤cs.length:=by rw [hcl];exact Nat.mul_le_mul_right k hle
  have hik:(i+1) * k≤xs.length * k:=Nat.mul_le_mul_right k om
  rw [Nat.succ_mul] at hik
  refine aM hp (jl (b:=b) (o:=i * k) hx hy hu (hc.len a') h1 (.here _) om hd ?_)
  refine aM (hF [(b,bY cs (i * k) (enc a'))]).symm (h [(b,bY cs (i * k) (enc a'))] rfl (.inr ⟨b,cap,_,by rw [List.length_set],rfl,?_,?_,by rw [List.length_set];exact hle,hcm⟩))
  ·rw [← hcl,gm _ _ _ (by rw [hc.len];omega)]
   simp only [List.length_append,List.length_take,List.length_drop,hc.len];omega
  ·rw [List.length_set];exact Ee hi htk hz
end
def WaT (k:Int)(old W:List SWay)(i:Int):Prop:=W=(old.take i.toNat).map (jv k)++old.drop i.toNat
theorem WaT.at_ {k:Int}{old W:List SWay}{i:Int}{c:SWay}(h:WaT k old W i)(hx:old[i.toNat]? =some c):W[i.toNat]? =some c:=by
 have hl:=(List.getElem?_eq_some_iff.1 hx).1
 rw [h,List.getElem?_append_right (by simp;omega),List.getElem?_drop]
 simpa [show min i.toNat old.length=i.toNat by omega] using hx
theorem WaT.len {k:Int}{old W:List SWay}{i:Int}(h:WaT k old W i):W.length=old.length:=by rw [h];simp;omega
theorem WaT.put {k:Int}{old W:List SWay}{i:Int}{c:SWay}(h:WaT k old W i)(i0:0≤i)(hx:old[i.toNat]? =some c):WaT k old (W.set i.toNat (jv k c)) (i+1):=by
 have hl:=(List.getElem?_eq_some_iff.1 hx).1
 have hd:old.drop i.toNat=c::old.drop (i.toNat+1):=by rw [List.drop_eq_getElem?_toList_append,hx];rfl
 unfold WaT at *
 have hn:((old.take i.toNat).map (jv k)).length=i.toNat:=by rw [List.length_map,List.length_take];omega
 rw [h,hd,List.set_append_right _ _ om,hn,Nat.sub_self,List.set_cons_zero,jx i0 hx,List.map_append,show(i+1).toNat=i.toNat+1 by omega]
 simp
theorem WaT.skip {k:Int}{old W:List SWay}{i:Int}{c:SWay}(h:WaT k old W i)(i0:0≤i)(hx:old[i.toNat]? =some c)(h1:c.next≠k)(h2:c.next≠k+1):WaT k old W (i+1):=by
 have:=h.put i0 hx
 have e:jv k c=c:=by unfold jv;rw [eY h1 h2]
 rw [e] at this
 have hw:=h.at_ hx
 have hs:W.set i.toNat c=W:=by
  refine List.ext_getElem? (fun j=>?_)
  rw [List.getElem?_set]
  split
  ·rename_i ej
   subst ej
   split
   ·exact hw.symm
   ·rename_i hn;exact absurd (List.getElem?_eq_some_iff.1 hw).1 hn
  ·rfl
 rwa [hs] at this
theorem WaT.end_ {k:Int}{old W:List SWay}{i:Int}(h:WaT k old W i)(i0:0≤i)(he:¬i<old.length):W=old.map (jv k):=by
 rw [h,List.take_of_length_le om,List.drop_of_length_le om,List.append_nil]
def mA (l:List SStep)(k:Int)(a b:SStep):List SStep:=(l.set k.toNat b).set (k+1).toNat a
theorem yE {l:List SStep}{k:Int}{a b:SStep}(k0:0≤k)(k1:k+1<l.length)(ha:l[k.toNat]? =some a)(hb:l[(k+1).toNat]? =some b)(x:Nat):(mA l k a b)[x]? =l[(sig k x).toNat]? :=by
 unfold mA
 rw [List.getElem?_set,List.getElem?_set]
 by_cases c1:(x:Int)=k
 ·rw [c1,D0,if_neg om,if_pos om,if_pos om,hb]
 ·by_cases c2:(x:Int)=k+1
  ·rw [c2,zS,if_pos om,if_pos (by rw [List.length_set];omega),ha]
  ·rw [eY c1 c2,if_neg om,if_neg om,show((x:Int)).toNat=x by omega]
theorem nO {l:List SStep}{k:Int}{a b:SStep}:(mA l k a b).length=l.length:=by unfold mA;rw [List.length_set,List.length_set]
structure TwI (H:Hp)(k:Int)(W S:List SStep)(i:Int):Prop where
 ln:S.length=W.length
 d:∀(x:Nat),(x:Int)<i→∀s',S[x]? =some s'→∃s,W[x]? =some s∧StepT k s s'∧StepOk H s'
 r:∀(x:Nat),i≤x→S[x]? =W[x]?
theorem TwI.zero {H:Hp}{k:Int}{W:List SStep}:TwI H k W W 0:=⟨rfl,fun x h=>by omega,fun x _=>rfl⟩
theorem TwI.le {H H':Hp}{k i:Int}{W S:List SStep}(h:TwI H k W S i)(hl:H.le H'):TwI H' k W S i:=⟨h.ln,fun x hx s' hs=>by
 obtain⟨s,a,b,c⟩:=h.d x hx s' hs
 exact⟨s,a,b,c.le hl⟩,h.r⟩
theorem TwI.put {H:Hp}{k i:Int}{W S:List SStep}{s s':SStep}(h:TwI H k W S i)(i0:0≤i)(hx:W[i.toNat]? =some s)(hT:StepT k s s')(hk:StepOk H s'):TwI H k W (S.set i.toNat s') (i+1):=by
 have hl:=(List.getElem?_eq_some_iff.1 hx).1
 refine⟨by rw [List.length_set];exact h.ln,fun x hxi s2 hs=>?_,fun x hxi=>?_⟩
 ·rw [List.getElem?_set] at hs
  split at hs
  ·rename_i e
   subst e
   split at hs
   ·obtain rfl:=Option.some.inj hs
    exact⟨s,hx,hT,hk⟩
   ·cases hs
  ·rename_i e
   exact h.d x om s2 hs
 ·rw [List.getElem?_set,if_neg om]
  exact h.r x om
theorem TwI.fin {H:Hp}{k i:Int}{q:SProc}{a b:SStep}{S:List SStep}{sp:Sp}(h:TwI H k (mA q.steps k a b) S i)(k0:0≤k)(k1:k+1<q.steps.length)(ha:q.steps[k.toNat]? =some a)(hb:q.steps[(k+1).toNat]? =some b)(he:¬i<q.steps.length):Trn k q ⟨q.name,q.params,q.pp,q.terms,q.tp,S,sp⟩∧∀s∈S,StepOk H s:=by
 have hln:S.length=q.steps.length:=by rw [h.ln,nO]
 refine⟨⟨rfl,rfl,rfl,hln,fun x hx=>?_⟩,fun s hs=>?_⟩
 ·have e:=List.getElem?_eq_getElem (l:=S) (i:=x) om
  obtain⟨s,h1,h2,_⟩:=h.d x om _ e
  rw [yE k0 k1 ha hb] at h1
  exact⟨s,_,h1,e,h2⟩
 ·obtain⟨x,hx⟩:=List.getElem?_of_mem hs
  have hl:=(List.getElem?_eq_some_iff.1 hx).1
  obtain⟨_,_,_,h3⟩:=h.d x om _ hx
  exact h3
inductive TurnR (q q2:SProc):Prop
 | same (hn:q2.name=q.name) (hp:q2.params=q.params) (ht:q2.terms=q.terms) (hs:q2.steps=q.steps)
 | turn (k:Int) (h:Trn k q q2) (k1:1≤k) (k2:k+1<q.steps.length) (hno:∀s,q.steps[k.toNat]? =some s→k+1∉aG s)
theorem TurnR.ti {P:SProg}{q0 q q2:SProc}(h:TurnR q q2)(hT:TI P q0 q):TI P q0 q2:=by
 cases h with
 | same hn hp ht hs=>exact hT.same hn hp ht hs
 | turn k h k1 k2 hno=>exact hT.turn h k1 k2 hno
end Go.Sx
