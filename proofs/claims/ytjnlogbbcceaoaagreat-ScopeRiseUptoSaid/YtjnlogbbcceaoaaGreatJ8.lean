import Derived.Test.YtjnlogbbcceaoaaGreatJ7
import Derived.Shelf.Small.Bits
import Derived.Shelf.Strconv.Itoa0
import Derived.Shelf.Strings.Search1
import Derived.Shelf.Strings.Search2
import Derived.Shelf.Strings.Cut
import Derived.Shelf.LaysM
import Derived.Shelf.Strings.Shaped
import Derived.Shelf.Sort.Plain
import Derived.Shelf.Slices.CompactS
import Derived.Shelf.Slices.Cells
import Derived.Shelf.Slices.In.SortNone
import Derived.Test.YtjnlogbbcceaoaaGreatProg
set_option linter.all false
set_option maxRecDepth 100000
set_option maxHeartbeats 32000000
namespace Go.Sx
open Go
theorem vp (s:SStep):aL s.bare=aL s:=rfl
theorem A8 (s:SStep):bK s.bare=bK s:=rfl
theorem Ay (s:SStep):a8 s.bare=a8 s:=by
 unfold a8 SStep.bare
 simp only [List.flatMap_map]
 rfl
theorem roots_b (s:SStep):dF s.bare=dF s:=by
 unfold dF SStep.bare
 simp only [List.flatMap_map]
 rfl
theorem mayS_b (s:SStep):dO s.bare=dO s:=by
 have e1:je (dr s.bare)=je (dr s):=by
  have h:(dr s.bare).casts.length=(dr s).casts.length:=by
   unfold dr
   show(if s.kind=8 then [] else s.casts.map SCast.bare).length=(if s.kind=8 then [] else s.casts).length
   split<;>simp
  unfold je
  rw [h]
  rfl
 have e2:eA s.bare=eA s:=rfl
 have e3:s.bare.casts.all (fun c=>!dD c)=s.casts.all (fun c=>!dD c):=by
  rw [show s.bare.casts=s.casts.map SCast.bare from rfl,List.all_map];rfl
 have e4:s.bare.casts.length=s.casts.length:=by rw [show s.bare.casts=s.casts.map SCast.bare from rfl,List.length_map]
 unfold dO
 rw [e1,e2,e3,e4]
 rfl
theorem tY {q:SProc}(i:Int):∀(l:List SStep) (a:Int) (c d:List Int) (u:List Bool),bB q.bare i (l.map SStep.bare) a c d u=bB q i l a c d u
 | [],_,_,_,_=>rfl
 | s::r,a,c,d,u=>by
  have e2:q.bare.steps.length=q.steps.length:=by simp [SProc.bare]
  rw [List.map_cons]
  unfold bB
  rw [mayS_b,e2,vp,Ay,show cR s.bare a d=cR s a d from rfl,show q.bare.terms=q.terms from rfl]
  split
  ·rfl
  ·split
   ·rfl
   ·split
    ·rfl
    ·split
     ·rfl
     ·split
      ·rfl
      ·exact tY i r _ _ _ _
theorem shape_b (q:SProc)(i:Int):d9 i q.bare=d9 i q:=by
 unfold d9
 rw [show q.bare.steps=q.steps.map SStep.bare from rfl,List.length_map]
 exact tY i _ _ _ _ _
theorem zA (l:List SProc)(s:Str):cf (l.map SProc.bare) s=cf l s:=by unfold cf;rw [List.map_map];rfl
theorem EC (l:List SProc)(k:Int):(lR (l.map SProc.bare) k).params.length=(lR l k).params.length:=by
 unfold lR
 rw [List.getElem?_map]
 cases l[k.toNat]? <;>rfl
theorem A7 (l:List SProc)(s:Str)(n:Int):br (l.map SProc.bare) s n=br l s n:=by
 unfold br;rw [zA,EC]
theorem head_b (l:List SProc)(i:Int)(q:SProc):dM (l.map SProc.bare) i q.bare=dM l i q:=by
 have e1:bG q.bare=bG q:=by
  unfold bG
  rw [show q.bare.steps=q.steps.map SStep.bare from rfl,List.length_map]
  rfl
 unfold dM
 rw [e1,zA]
 rfl
theorem yD (s:SStep):dv s.bare=dv s:=by
 unfold dv
 rw [show s.bare.casts=s.casts.map SCast.bare from rfl,List.map_map]
 rfl
theorem nD (s:SStep):∀l:List SProto,dk s.bare (l.map SProto.bare)=dk s l
 | []=>rfl
 | x::r=>by
  rw [List.map_cons]
  unfold dk
  rw [nD s r]
  have:lP x.bare s.bare=lP x s:=by unfold lP;rw [yD];rfl
  rw [this]
  rfl
theorem stepE_b (P:SProg)(ts:List Term)(s:SStep)(bd:List Str):stepE P.bare ts s.bare bd=stepE P ts s bd:=by
 have e1:cu ts s.bare=cu ts s:=by unfold cu;rw [Ay];rfl
 have e4:(s.casts.map SCast.bare).all (fun c=>br (P.procs.map SProc.bare) c.proc (c.args.length+1))=s.casts.all (fun c=>br P.procs c.proc (c.args.length+1)):=by
  rw [List.all_map]
  congr 1
  funext c
  exact A7 _ _ _
 unfold stepE
 rw [e1,A8]
 show(if _ then _ else if _ then _ else if(!decide (s.proc=[])&& !br (P.procs.map SProc.bare) s.proc s.args.length)=true then _ else if(s.casts.map SCast.bare).all (fun c=>br (P.procs.map SProc.bare) c.proc (c.args.length+1))=false then _ else if(decide (s.kind=8)&& !dk s.bare (P.protos.map SProto.bare))=true then _ else _)=_
 rw [e4,A7,nD]
 rfl
theorem tZ (P:SProg)(q:SProc)(i:Int):∀(l:List SStep) (a:Int) (b:List (List Str)),dz P.bare q.bare i (l.map SStep.bare) a b=dz P q i l a b
 | [],_,_=>rfl
 | s::r,a,b=>by
  rw [List.map_cons]
  unfold dz
  rw [show q.bare.terms=q.terms from rfl,stepE_b,vp,A8,tZ P q i r]
theorem sense_b (P:SProg)(q:SProc)(i:Int):er P.bare i q.bare=er P i q:=by
 have e:ij q.bare=ij q:=by
  unfold ij
  rw [show q.bare.steps=q.steps.map SStep.bare from rfl,List.length_map]
  rfl
 unfold er
 rw [e]
 exact tZ P q i _ _ _
theorem pH (l:SLocal):bP l.bare=bP l:=by
 unfold bP
 rw [show l.bare.turns=l.turns.map SArms.bare from rfl,List.length_map,List.all_map]
 rfl
theorem AJ (p:SProto):cy p.bare=cy p:=by
 have e1:cB p.bare=cB p:=by
  unfold cB
  rw [show p.bare.points=p.points.map SPoint.bare from rfl,List.length_map]
  rfl
 have e2:p.bare.points.all (eE p.bare.roles)=p.points.all (eE p.roles):=by
  rw [show p.bare.points=p.points.map SPoint.bare from rfl,List.all_map];rfl
 have e3:bP ⟨[],p.bare.points.map dH,(none,0)⟩=bP ⟨[],p.points.map dH,(none,0)⟩:=by
  rw [← pH ⟨[],p.bare.points.map dH,(none,0)⟩,← pH ⟨[],p.points.map dH,(none,0)⟩]
  congr 1
  unfold SLocal.bare
  simp only [show p.bare.points=p.points.map SPoint.bare from rfl,List.map_map]
  congr 1
  refine List.map_congr_left (fun x _=>?_)
  show SArms.bare (dH x.bare)=SArms.bare (dH x)
  unfold dH SPoint.bare SArms.bare
  dsimp only
  split<;>rfl
 unfold cy
 rw [e1,e2,e3]
 rfl
theorem vG (P:SProg):bJ P.bare=bJ P:=by
 have e0:gk P.bare=gk P:=by
  have h1:(P.protos.map SProto.bare).all cy=P.protos.all cy:=by rw [List.all_map];congr 1;funext x;exact AJ x
  have h2:(P.locals.map SLocal.bare).all (fun l=>bP l&&aH l.name)=P.locals.all (fun l=>bP l&&aH l.name):=by rw [List.all_map];congr 1;funext x;show(bP x.bare&&aH x.name)=_;rw [pH]
  unfold gk
  rw [show P.bare.procs=P.procs.map SProc.bare from rfl,show P.bare.protos=P.protos.map SProto.bare from rfl,show P.bare.locals=P.locals.map SLocal.bare from rfl,List.length_map,List.length_map,List.length_map,h1,h2]
 have e1:cb (aS P.bare.procs) P.bare.procs 0=cb (aS P.procs) P.procs 0:=rJ _ _ (fun j q hq=>by unfold aS;rw [show P.bare.procs=P.procs.map SProc.bare from rfl,head_b,shape_b])
 have e2:fT P.bare.procs=fT P.procs:=by
  unfold fT
  rw [show P.bare.procs=P.procs.map SProc.bare from rfl,zA,EC]
 have e3:cb (er P.bare) P.bare.procs 0=cb (er P) P.procs 0:=rJ _ _ (fun j q hq=>sense_b P q _)
 unfold bJ
 rw [e0,e1,e2,e3]
end Go.Sx
namespace Go.Sx
open Go
theorem pt_bb (p:SProto):p.bare.bare=p.bare:=by
 unfold SProto.bare
 simp only [List.map_map]
 rfl
theorem lo_bb (p:SLocal):p.bare.bare=p.bare:=by
 unfold SLocal.bare
 simp only [List.map_map]
 rfl
theorem Eb (q:SProc):∀(f:Nat) (a:Int),ordW q.bare f a=ordW q f a
 | 0,_=>rfl
 | f+1,a=>by
  have ih:ordW q.bare f=ordW q f:=funext (Eb q f)
  rw [ordW,ordW,show q.bare.steps=q.steps.map SStep.bare from rfl,List.getElem?_map]
  cases q.steps[a.toNat]? with
  | none=>rfl
  | some s=>simp only [Option.map_some];rw [vp,ih]
theorem zi (q:SProc):bu q.bare=bu q:=by unfold bu;rw [Eb,show q.bare.steps=q.steps.map SStep.bare from rfl,List.length_map]
theorem gT_b (q:SProc)(k:Int):gT q.bare k=gT q k:=by
 unfold gT jK
 rw [show q.bare.steps=q.steps.map SStep.bare from rfl,List.getElem?_map]
 cases q.steps[k.toNat]? with
 | none=>rfl
 | some s=>simp only [Option.map_some];rw [roots_b];rfl
theorem Az (q:SProc):termL q.bare=termL q:=by
 rw [← kA,← kA,zi]
 congr 1
 exact funext (gT_b q)
theorem stepP_b (O T:List Int)(s:SStep):cC O T s.bare=cC O T s:=by
 unfold cC SStep.bare
 simp only [List.map_map]
 rfl
theorem riseP_b (q:SProc):bf q.bare=bf q:=by
 have e:gr q.bare (bu q)=gr q (bu q):=by
  unfold gr
  rw [zi,Az]
  congr 1
  funext k
  rw [show q.bare.steps=q.steps.map SStep.bare from rfl,List.getElem?_map,Option.map_map]
  congr 1
  exact funext (stepP_b _ _)
 unfold bf
 rw [zi,Az,e]
 rfl
theorem prog_eq {a b:SProg}(h:a.bare=b.bare):a.protos.map SProto.bare=b.protos.map SProto.bare∧a.locals.map SLocal.bare=b.locals.map SLocal.bare∧a.procs.map SProc.bare=b.procs.map SProc.bare:=by
 unfold SProg.bare at h
 injection h with h1 _ h2 _ h3 _
 exact⟨h1,h2,h3⟩
end Go.Sx
namespace Go.Sx
open Go
theorem cN {l:List Int}(hn:l.Nodup){x:Int}(h:x∈l):0≤ax l x∧ax l x<l.length∧l[(ax l x).toNat]? =some x:=by
 obtain⟨i,hi⟩:=List.getElem?_of_mem h
 have h1:=(List.getElem?_eq_some_iff.1 hi).1
 rw [ep hn hi]
 exact⟨by omega,by omega,by simpa using hi⟩
theorem kH {l:List Int}(hn:l.Nodup){x y:Int}(hx:x∈l)(hy:y∈l)(h:ax l x=ax l y):x=y:=by
 have h1:=(cN hn hx).2.2
 have h2:=(cN hn hy).2.2
 rw [h,h2] at h1
 exact(Option.some.inj h1).symm
def ec (n:Nat):List Int:=(List.range n).map Int.ofNat
theorem jw (n:Nat):(ec n).length=n:=by simp [ec]
theorem iY {n:Nat}{k:Nat}(h:k<n):(ec n)[k]? =some (k:Int):=by
 unfold ec;rw [List.getElem?_map,List.getElem?_range h];rfl
theorem nv (n:Nat):(ec n).Nodup:=by
 unfold ec List.Nodup
 rw [List.pairwise_map]
 exact List.Pairwise.imp (fun h e=>h (Int.ofNat.inj e)) List.nodup_range
theorem jv {n:Nat}{x:Int}:x∈ec n↔0≤x∧x<n:=by
 unfold ec
 rw [List.mem_map]
 constructor
 ·rintro⟨a,ha,rfl⟩
  have:=List.mem_range.1 ha
  exact⟨by simp,by simpa using this⟩
 ·intro h
  exact⟨x.toNat,List.mem_range.2 omq,by simp;omega⟩
theorem nA {l:List Int}(hn:l.Nodup):l.map (ax l)=ec l.length:=by
 refine List.ext_getElem? (fun i=>?_)
 rw [List.getElem?_map]
 by_cases h:i<l.length
 ·have hx:=List.getElem?_eq_getElem h
  rw [hx,iY h,Option.map_some,ep hn hx]
 ·rw [List.getElem?_eq_none omq,List.getElem?_eq_none (by rw [jw];omega)];rfl
theorem D8 {n:Nat}{y:Int}(h:y= -1∨(0≤y∧y<n)):ax (ec n) y=y:=by
 rcases h with rfl | h
 ·exact gJ (fun hm=>by have:=jv.1 hm;omega)
 ·have h1:=iY (n:=n) (k:=y.toNat) omq
  have h2:=ep (nv n) h1
  rw [show((y.toNat:Nat):Int)=y by omega] at h2
  exact h2
theorem eF (l:List Int)(y:Int):ax (ec l.length) (ax l y)=ax l y:=D8 (lN l y)
theorem eI {α β:Type}{f g:α→List β}:∀{l:List α},(∀x∈l,f x=g x)→l.flatMap f=l.flatMap g
 | [],_=>rfl
 | a::r,h=>by rw [List.flatMap_cons,List.flatMap_cons,h a sq,eI (fun x hx=>h x (by simp [hx]))]
structure RW (q:SProc):Prop where
 r:RefOk q
 m:jF q
 t:TOk q.terms (termL q)
 d:∀x:Int,0≤x→x<q.steps.length→ig q (fJ q) x≤24
section
variable {q:SProc}(h:RW q)
include h
theorem RW.on:(bu q).Nodup:=i3 h.r.s h.r.t _ _ omq
theorem RW.ol:(bu q).length=q.steps.length:=zh h.r.s h.r.t
theorem RW.om {x:Int}:x∈bu q↔0≤x∧x<q.steps.length:=by
 constructor
 ·intro hx;exact q6 h.r.s hx
 ·intro hx
  have:=vh h.r.s h.r.t x.toNat omq
  rwa [show((x.toNat:Nat):Int)=x by omega] at this
theorem RW.on1:ax (bu q) (-1)= -1:=gJ (fun hm=>by have:=h.om.1 hm;omega)
theorem RW.tn1:ax (termL q) (-1)= -1:=gJ (fun hm=>by have:=h.t.rg _ hm;omega)
theorem RW.st:(bf q).steps=(bu q).map (jt q):=lG (fun k hk=>h.om.1 hk)
theorem RW.sl:(bf q).steps.length=q.steps.length:=by rw [h.st,List.length_map,h.ol]
theorem RW.at_ {x:Int}{s:SStep}(h0:0≤x)(hs:q.steps[x.toNat]? =some s):(bf q).steps[(ax (bu q) x).toNat]? =some (cC (bu q) (termL q) s):=by
 have hlt:=(List.getElem?_eq_some_iff.1 hs).1
 have h1:=(cN h.on (h.om.2 ⟨h0,by omega⟩)).2.2
 rw [h.st,List.getElem?_map,h1]
 unfold jt Cm
 rw [Option.map_some,hs];rfl
theorem RW.of {k:Nat}{s':SStep}(hk:(bf q).steps[k]? =some s'):∃(x:Int) (s:SStep),0≤x∧x<q.steps.length∧ax (bu q) x=k∧q.steps[x.toNat]? =some s∧s'=cC (bu q) (termL q) s:=by
 rw [h.st,List.getElem?_map] at hk
 cases hx:(bu q)[k]? with
 | none=>rw [hx] at hk;cases hk
 | some x=>
  rw [hx] at hk
  have hm:=h.om.1 (List.mem_of_getElem? hx)
  have hs:=List.getElem?_eq_getElem (l:=q.steps) (i:=x.toNat) omq
  refine⟨x,_,hm.1,hm.2,ep h.on hx,hs,?_⟩
  have:=(Option.some.inj hk).symm
  rw [this]
  unfold jt Cm
  rw [hs];rfl
end
theorem kK (O T:List Int)(s:SStep):aL (cC O T s)=(aL s).map (ax O):=by
 unfold aL
 show(if fA s.kind=true then [ax O s.next] else(s.ways.map (jp O)).map (·.next))=_
 split
 ·rfl
 ·rw [List.map_map,List.map_map];rfl
theorem iA {q:SProc}{x:Int}(h0:0≤x)(h1:x<q.steps.length):∃s,q.steps[x.toNat]? =some s:=⟨_,List.getElem?_eq_getElem omq⟩
theorem RW.ordW {q:SProc}(h:RW q):∀(f:Nat) (a:Int),0≤a→a<q.steps.length→Sx.ordW (bf q) f (ax (bu q) a)=(Sx.ordW q f a).map (ax (bu q))
 | 0,_,_,_=>rfl
 | f+1,a,h0,h1=>by
  obtain⟨s,hs⟩:=iA h0 h1
  rw [iy (h.at_ h0 hs),iy hs,kK,List.map_cons,List.flatMap_map,List.map_flatMap]
  congr 1
  refine eI (fun t ht=>?_)
  have:=(h.r.s _ _ hs).2 t ht
  exact RW.ordW h f t omq omq
theorem RW.p0 {q:SProc}(h:RW q):ax (bu q) 0=0:=by
 have hn:=h.r.n1
 obtain⟨s,hs⟩:=iA (q:=q) (x:=0) omq omq
 unfold bu
 rw [show q.steps.length=(q.steps.length - 1)+1 by omega,iy hs,ax,if_pos rfl]
theorem RW.ord {q:SProc}(h:RW q):bu (bf q)=ec q.steps.length:=by
 have h1:=h.ordW q.steps.length 0 omq (by have:=h.r.n1;omega)
 rw [h.p0] at h1
 unfold bu
 rw [h.sl,h1]
 have:=nA h.on
 rw [h.ol] at this
 exact this
theorem roots_P {O T:List Int}{s:SStep}(hn:ax T (-1)= -1)(hr:∀r∈dF s,r∈T):dF (cC O T s)=(dF s).map (ax T):=by
 unfold dF at hr ⊢
 show((if ax T s.term= -1 then [] else [ax T s.term])++s.args.map (ax T))++(s.casts.map (gj T)).flatMap (·.args)=_
 rw [List.map_append,List.map_append,List.flatMap_map,List.map_flatMap]
 congr 2
 by_cases hs:s.term= -1
 ·rw [hs,hn];rfl
 ·have hin:s.term∈T:=hr _ (by rw [if_neg hs];simp)
  have:ax T s.term≠ -1:=by
   obtain⟨i,hi⟩:=List.getElem?_of_mem hin
   rcases lN T s.term with e | e
   ·exfalso
    have:∀l:List Int,s.term∈l→ax l s.term≠ -1:=by
     intro l
     induction l with
     | nil=>intro h;cases h
     | cons y r ih=>
      intro hm
      unfold ax
      split
      ·omega
      ·rename_i hy
       have h2:=ih ((List.mem_cons.1 hm).resolve_left (fun e=>hy e.symm))
       rcases lN r s.term with e2 | e2
       ·exact absurd e2 h2
       ·rw [if_neg omq];omega
    exact this T hin e
   ·omega
  rw [if_neg hs,if_neg this];rfl
theorem RW.root {q:SProc}(h:RW q){k:Int}{s:SStep}(h0:0≤k)(hs:q.steps[k.toNat]? =some s):(∀r∈dF s,cq q.terms r=true)∧∀r∈dF s,∀x∈postS q.terms r,x∈termL q:=by
 have hlt:=(List.getElem?_eq_some_iff.1 hs).1
 have e:=dX (h.r.s _ _ hs).1 (h.r.ro _ _ hs)
 refine⟨fun r hr=>h.m _ _ hs r (by rw [← e];exact hr),fun r hr x hx=>?_⟩
 rw [← kA]
 refine List.mem_flatMap.2 ⟨k,h.om.2 ⟨h0,by omega⟩,?_⟩
 rw [A0 hs]
 exact List.mem_flatMap.2 ⟨r,hr,hx⟩
theorem BA {ts:List Term}{r:Int}(h:cq ts r=true):r∈postS ts r:=by
 obtain⟨h0,t,ht,_⟩:=iz h
 exact BM omq ht
theorem RW.rootT {q:SProc}(h:RW q){k:Int}{s:SStep}(h0:0≤k)(hs:q.steps[k.toNat]? =some s):∀r∈dF s,r∈termL q:=fun r hr=>
 (h.root h0 hs).2 r hr r (BA ((h.root h0 hs).1 r hr))
def BefO (L:List Int)(i:Nat)(t:Term):Prop:=(1≤ah t.kind→∃j,j<i∧L[j]? =some t.l)∧(2≤ah t.kind→∃j,j<i∧L[j]? =some t.r)∧(ah t.kind<1→t.l= -1)∧(ah t.kind<2→t.r= -1)
def pi (ts:List Term)(L:List Int):Prop:=∀(i:Nat) (k:Int),L[i]? =some k→∃t,ts[k.toNat]? =some t∧BefO L i t
theorem vH (ts:List Term):pi ts []:=fun i k h=>by simp at h
theorem Ba {ts:List Term}{A B:List Int}(hA:pi ts A)(hB:pi ts B):pi ts (A++B):=fun i k hk=>by
 by_cases hi:i<A.length
 ·rw [List.getElem?_append_left hi] at hk
  obtain⟨t,ht,o1,o2,o3⟩:=hA i k hk
  refine⟨t,ht,fun ho=>?_,fun ho=>?_,o3⟩
  ·obtain⟨j,hj,e⟩:=o1 ho
   exact⟨j,hj,by rw [List.getElem?_append_left omq];exact e⟩
  ·obtain⟨j,hj,e⟩:=o2 ho
   exact⟨j,hj,by rw [List.getElem?_append_left omq];exact e⟩
 ·rw [List.getElem?_append_right omq] at hk
  obtain⟨t,ht,o1,o2,o3⟩:=hB _ k hk
  refine⟨t,ht,fun ho=>?_,fun ho=>?_,o3⟩
  ·obtain⟨j,hj,e⟩:=o1 ho
   exact⟨A.length+j,by omega,by rw [List.getElem?_append_right omq,Nat.add_sub_cancel_left];exact e⟩
  ·obtain⟨j,hj,e⟩:=o2 ho
   exact⟨A.length+j,by omega,by rw [List.getElem?_append_right omq,Nat.add_sub_cancel_left];exact e⟩
theorem EW {ts:List Term}{A:List Int}{a:Int}{t:Term}(hA:pi ts A)(ht:ts[a.toNat]? =some t)(h1:1≤ah t.kind→t.l∈A)(h2:2≤ah t.kind→t.r∈A)(h3:(ah t.kind<1→t.l= -1)∧(ah t.kind<2→t.r= -1)):pi ts (A++[a]):=fun i k hk=>by
 by_cases hi:i<A.length
 ·rw [List.getElem?_append_left hi] at hk
  obtain⟨t,ht,o1,o2,o3⟩:=hA i k hk
  refine⟨t,ht,fun ho=>?_,fun ho=>?_,o3⟩
  ·obtain⟨j,hj,e⟩:=o1 ho
   exact⟨j,hj,by rw [List.getElem?_append_left omq];exact e⟩
  ·obtain⟨j,hj,e⟩:=o2 ho
   exact⟨j,hj,by rw [List.getElem?_append_left omq];exact e⟩
 ·have hl:=(List.getElem?_eq_some_iff.1 hk).1
  rw [List.length_append,List.length_singleton] at hl
  rw [List.getElem?_append_right omq,show i - A.length=0 by omega] at hk
  obtain rfl:a=k:=by simpa using hk
  refine⟨t,ht,fun ho=>?_,fun ho=>?_,h3⟩
  ·obtain⟨j,hj⟩:=List.getElem?_of_mem (h1 ho)
   have:=(List.getElem?_eq_some_iff.1 hj).1
   exact⟨j,by omega,by rw [List.getElem?_append_left this];exact hj⟩
  ·obtain⟨j,hj⟩:=List.getElem?_of_mem (h2 ho)
   have:=(List.getElem?_eq_some_iff.1 hj).1
   exact⟨j,by omega,by rw [List.getElem?_append_left this];exact hj⟩
theorem rT {α:Type}{ts:List Term}{f:α→List Int}:∀{l:List α},(∀x∈l,pi ts (f x))→pi ts (l.flatMap f)
 | [],_=>vH ts
 | a::r,h=>by rw [List.flatMap_cons];exact Ba (h a sq) (rT (fun x hx=>h x (by simp [hx])))
theorem kv {ts:List Term}:∀(f:Nat) (a:Int),Tr ts f a→pi ts (cv ts f a)∧a∈cv ts f a
 | 0,_,h=>h.elim
 | f+1,a,h=>by
  obtain⟨h0,t,ht,_,_,hl0,hl1,hr0,hr1⟩:=h
  rw [fe omq ht]
  have hL:pi ts (cv ts f t.l)∧(1≤ah t.kind→t.l∈cv ts f t.l):=by
   rcases Int.lt_or_le (ah t.kind) 1 with h1 | h1
   ·rw [hl1 h1,db dq];exact⟨vH ts,fun ho=>by omega⟩
   ·exact⟨(kv f _ (hl0 h1)).1,fun _=>(kv f _ (hl0 h1)).2⟩
  have hR:pi ts (cv ts f t.r)∧(2≤ah t.kind→t.r∈cv ts f t.r):=by
   rcases Int.lt_or_le (ah t.kind) 2 with h1 | h1
   ·rw [hr1 h1,db dq];exact⟨vH ts,fun ho=>by omega⟩
   ·exact⟨(kv f _ (hr0 h1)).1,fun _=>(kv f _ (hr0 h1)).2⟩
  rw [← List.append_assoc]
  exact⟨EW (Ba hL.1 hR.1) ht (fun ho=>List.mem_append_left _ (hL.2 ho)) (fun ho=>List.mem_append_right _ (hR.2 ho)) ⟨hl1,hr1⟩,by simp⟩
theorem RW.bef {q:SProc}(h:RW q):pi q.terms (termL q):=by
 rw [← kA]
 refine rT (fun k hk=>?_)
 have hr:=h.om.1 hk
 obtain⟨s,hs⟩:=iA hr.1 hr.2
 rw [A0 hs]
 exact rT (fun r hr2=>(kv _ _ (iz ((h.root hr.1 hs).1 r hr2))).1)
structure TAt (q:SProc)(k:Int)(t:Term):Prop where
 a:q.terms[k.toNat]? =some t
 b:(bf q).terms[(ax (termL q) k).toNat]? =some (mvP (termL q) t)
 p0:0≤ax (termL q) k
 l1:1≤ah t.kind→t.l∈termL q∧0≤ax (termL q) t.l∧ax (termL q) t.l<ax (termL q) k
 r1:2≤ah t.kind→t.r∈termL q∧0≤ax (termL q) t.r∧ax (termL q) t.r<ax (termL q) k
 l0:ah t.kind<1→t.l= -1
 r0:ah t.kind<2→t.r= -1
theorem RW.tAt {q:SProc}(h:RW q){k:Int}(hk:k∈termL q):∃t,TAt q k t:=by
 obtain⟨i,hi⟩:=List.getElem?_of_mem hk
 obtain⟨t,ht,o1,o2,o3,o4⟩:=h.bef i k hi
 have hp:=ep h.t.nd hi
 refine⟨t,ht,?_,by omega,fun ho=>?_,fun ho=>?_,o3,o4⟩
 ·have h1:=(cN h.t.nd hk).2.2
  show((termL q).map (fun k=>mvP (termL q) (vA q.terms k)))[(ax (termL q) k).toNat]? =_
  rw [List.getElem?_map,h1,Option.map_some,AZ ht]
 ·obtain⟨j,hj,e⟩:=o1 ho
  rw [ep h.t.nd e,hp]
  exact⟨List.mem_of_getElem? e,by omega,by omega⟩
 ·obtain⟨j,hj,e⟩:=o2 ho
  rw [ep h.t.nd e,hp]
  exact⟨List.mem_of_getElem? e,by omega,by omega⟩
theorem RW.post {q:SProc}(h:RW q):∀(f:Nat) (a:Int),Tr q.terms f a→a∈termL q→∀g:Nat,(ax (termL q) a).toNat<g→cv (bf q).terms g (ax (termL q) a)=(cv q.terms f a).map (ax (termL q))∧dJ (bf q).terms g (ax (termL q) a)=dJ q.terms f a
 | 0,_,hT,_,_,_=>hT.elim
 | f+1,a,hT,ha,0,hg=>by omega
 | f+1,a,hT,ha,g+1,hg=>by
  obtain⟨h0,t,ht,_,_,hl0,hl1,hr0,hr1⟩:=hT
  obtain⟨t',hA⟩:=h.tAt ha
  have e:=hA.a
  rw [ht] at e
  obtain rfl:=Option.some.inj e
  have hp0:=hA.p0
  have hL:cv (bf q).terms g (ax (termL q) t.l)=(cv q.terms f t.l).map (ax (termL q))∧dJ (bf q).terms g (ax (termL q) t.l)=dJ q.terms f t.l:=by
   rcases Int.lt_or_le (ah t.kind) 1 with h1 | h1
   ·rw [hl1 h1,h.tn1,db dq,db dq,eP dq,eP dq];exact⟨rfl,rfl⟩
   ·have hm:=hA.l1 h1
    exact h.post f _ (hl0 h1) hm.1 g omq
  have hR:cv (bf q).terms g (ax (termL q) t.r)=(cv q.terms f t.r).map (ax (termL q))∧dJ (bf q).terms g (ax (termL q) t.r)=dJ q.terms f t.r:=by
   rcases Int.lt_or_le (ah t.kind) 2 with h1 | h1
   ·rw [hr1 h1,h.tn1,db dq,db dq,eP dq,eP dq];exact⟨rfl,rfl⟩
   ·have hm:=hA.r1 h1
    exact h.post f _ (hr0 h1) hm.1 g omq
  rw [fe omq hA.b,fe omq ht,gS omq hA.b,gS omq ht]
  unfold mvP
  dsimp only
  rw [hL.1,hL.2,hR.1,hR.2]
  exact⟨by simp,rfl⟩
theorem RW.pre {q:SProc}(h:RW q):∀(f a:Nat) (dp:Int) (p:List Nat),bV q.terms f a dp=some p→(a:Int)∈termL q→∀g:Nat,(ax (termL q) a).toNat<g→
  bV (bf q).terms g (ax (termL q) a).toNat dp=some (p.map (fun k:Nat=>(ax (termL q) k).toNat))∧∀k∈p,(k:Int)∈termL q
 | 0,_,_,_,hp,_,_,_=>by simp [bV] at hp
 | f+1,a,dp,p,hp,ha,0,hg=>by omega
 | f+1,a,dp,p,hp,ha,g+1,hg=>by
  obtain⟨t,p0,q0,hx,hok,h0,h1,rfl⟩:=cG hp
  obtain⟨t',hA⟩:=h.tAt ha
  have e:=hA.a
  rw [show((a:Int)).toNat=a by omega,hx] at e
  obtain rfl:=Option.some.inj e
  have hp0:=hA.p0
  have hops:=vn hok
  have hok':okT (mvP (termL q) t) ((ax (termL q) a).toNat:Nat) dp=true:=by
   have hf:ce (mvP (termL q) t)=ce t:=rfl
   unfold okT
   rw [hf,hops.2.1]
   simp only [Bool.and_eq_true,decide_eq_true_eq,Bool.and_true]
   refine⟨hops.1,hops.2.2.1,?_,?_⟩
   ·show(if ah t.kind<1 then decide (ax (termL q) t.l= -1) else _)=true
    split
    ·rename_i ho;rw [hA.l0 ho,h.tn1];rfl
    ·rename_i ho
     have:=hA.l1 omq
     show(decide (0≤ax (termL q) t.l)&&decide (ax (termL q) t.l<_))=true
     rw [decide_eq_true this.2.1,decide_eq_true omq];rfl
   ·show(if ah t.kind<2 then decide (ax (termL q) t.r= -1) else _)=true
    split
    ·rename_i ho;rw [hA.r0 ho,h.tn1];rfl
    ·rename_i ho
     have:=hA.r1 omq
     show(decide (0≤ax (termL q) t.r)&&decide (ax (termL q) t.r<_))=true
     rw [decide_eq_true this.2.1,decide_eq_true omq];rfl
  have k0:(if ah (mvP (termL q) t).kind<1 then some [] else bV (bf q).terms g (mvP (termL q) t).l.toNat (dp+1))=some (p0.map (fun k:Nat=>(ax (termL q) k).toNat))∧∀k∈p0,(k:Int)∈termL q:=by
   show(if ah t.kind<1 then some [] else bV (bf q).terms g (ax (termL q) t.l).toNat (dp+1))=_∧_
   split
   ·rename_i ho;rw [if_pos ho] at h0;obtain rfl:=Option.some.inj h0;exact⟨rfl,by simp⟩
   ·rename_i ho
    rw [if_neg ho] at h0
    have hm:=hA.l1 omq
    have h00:=(h.t.rg _ hm.1).1
    have e:((t.l.toNat:Nat):Int)=t.l:=by omega
    have:=h.pre f t.l.toNat (dp+1) p0 h0 (by rw [e];exact hm.1) g (by rw [e];omega)
    rw [e] at this
    exact this
  have k1:(if ah (mvP (termL q) t).kind<2 then some [] else bV (bf q).terms g (mvP (termL q) t).r.toNat (dp+1))=some (q0.map (fun k:Nat=>(ax (termL q) k).toNat))∧∀k∈q0,(k:Int)∈termL q:=by
   show(if ah t.kind<2 then some [] else bV (bf q).terms g (ax (termL q) t.r).toNat (dp+1))=_∧_
   split
   ·rename_i ho;rw [if_pos ho] at h1;obtain rfl:=Option.some.inj h1;exact⟨rfl,by simp⟩
   ·rename_i ho
    rw [if_neg ho] at h1
    have hm:=hA.r1 omq
    have h00:=(h.t.rg _ hm.1).1
    have e:((t.r.toNat:Nat):Int)=t.r:=by omega
    have:=h.pre f t.r.toNat (dp+1) q0 h1 (by rw [e];exact hm.1) g (by rw [e];omega)
    rw [e] at this
    exact this
  refine⟨?_,fun k hk=>?_⟩
  ·rw [mC hA.b hok' k0.1 k1.1]
   simp
  ·rcases List.mem_cons.1 hk with rfl | hk
   ·exact ha
   ·rcases List.mem_append.1 hk with hk | hk
    ·exact k0.2 k hk
    ·exact k1.2 k hk
theorem RW.tl {q:SProc}:(bf q).terms.length=(termL q).length:=by
 show((termL q).map _).length=_
 rw [List.length_map]
theorem RW.may {q:SProc}(h:RW q){r:Int}(hm:cq q.terms r=true)(hr:r∈termL q):cq (bf q).terms (ax (termL q) r)=true:=by
 obtain⟨h1,p,hp,hn⟩:=mK.1 hm
 have hpl:=cN h.t.nd hr
 have e:((r.toNat:Nat):Int)=r:=by omega
 obtain⟨hp2,hin⟩:=h.pre _ _ _ _ hp (by rw [e];exact hr) ((ax (termL q) r).toNat+1) (by rw [e];omega)
 rw [e] at hp2
 have hl:=h.t.len
 refine mK.2 ⟨⟨by rw [RW.tl];omega,hpl.1,by rw [RW.tl];exact hpl.2.1⟩,_,hp2,?_⟩
 unfold List.Nodup at hn ⊢
 rw [List.pairwise_map]
 refine fK (fun a ha b hb hne e=>hne ?_) hn
 have h2:=cN h.t.nd (hin a ha)
 have h3:=cN h.t.nd (hin b hb)
 have:=kH h.t.nd (hin a ha) (hin b hb) omq
 omega
theorem RW.postS {q:SProc}(h:RW q){r:Int}(hm:cq q.terms r=true)(hr:r∈termL q):Sx.postS (bf q).terms (ax (termL q) r)=(Sx.postS q.terms r).map (ax (termL q))∧fH (bf q).terms (ax (termL q) r)=fH q.terms r:=by
 obtain⟨h1,h2⟩:=h.post _ _ (iz hm) hr ((ax (termL q) r).toNat+1) omq
 refine⟨h1,?_⟩
 unfold fH
 rw [if_pos (h.may hm hr),if_pos hm,h2]
theorem RW.gT {q:SProc}(h:RW q){x:Int}(h0:0≤x)(h1:x<q.steps.length):Sx.gT (bf q) (ax (bu q) x)=(Sx.gT q x).map (ax (termL q)):=by
 obtain⟨s,hs⟩:=iA h0 h1
 obtain⟨r1,r2⟩:=h.root h0 hs
 have r3:=h.rootT h0 hs
 rw [A0 hs,A0 (h.at_ h0 hs),roots_P h.tn1 r3,List.flatMap_map,List.map_flatMap]
 exact eI (fun r hr=>(h.postS (r1 r hr) (r3 r hr)).1)
theorem RW.termL {q:SProc}(h:RW q):Sx.termL (bf q)=ec (Sx.termL q).length:=by
 have e:Sx.termL (bf q)=(Sx.termL q).map (ax (Sx.termL q)):=by
  rw [← kA,← kA,h.ord,← h.ol,← nA h.on,List.flatMap_map,List.map_flatMap]
  exact eI (fun x hx=>h.gT (h.om.1 hx).1 (h.om.1 hx).2)
 rw [e,nA h.t.nd]
theorem RW.own {q:SProc}(h:RW q):bf (bf q)=bf q:=by
 have e1:∀s,cC (ec (bu q).length) (ec (Sx.termL q).length) (cC (bu q) (Sx.termL q) s)=cC (bu q) (Sx.termL q) s:=fun s=>by
  unfold cC
  dsimp only
  rw [eF,eF,List.map_map,List.map_map,List.map_map]
  congr 1
  ·exact List.map_congr_left (fun x _=>eF _ _)
  ·refine List.map_congr_left (fun c _=>?_)
   show gj _ (gj _ c)=gj _ c
   unfold gj
   dsimp only
   rw [List.map_map]
   congr 1
   exact List.map_congr_left (fun x _=>eF _ _)
  ·refine List.map_congr_left (fun w _=>?_)
   show jp _ (jp _ w)=jp _ w
   unfold jp
   dsimp only
   rw [eF]
 have e2:gr (bf q) (ec (bf q).steps.length)=(bf q).steps:=by
  rw [lG (fun k hk=>jv.1 hk)]
  refine List.ext_getElem? (fun i=>?_)
  rw [List.getElem?_map]
  by_cases hi:i<(bf q).steps.length
  ·rw [iY hi,Option.map_some]
   have hx:=List.getElem?_eq_getElem hi
   obtain⟨x,s,_,_,_,_,hs⟩:=h.of hx
   have:jt (bf q) i=cC (bu q) (Sx.termL q) s:=by
    unfold jt Cm
    rw [show((i:Int)).toNat=i by omega,hx,h.ord,h.termL,← h.ol,Option.getD_some,hs,e1]
   rw [this,hx,hs]
  ·rw [List.getElem?_eq_none (by rw [jw];omega),List.getElem?_eq_none omq];rfl
 have e3:(ec (Sx.termL q).length).map (fun k=>mvP (ec (Sx.termL q).length) (vA (bf q).terms k))=(bf q).terms:=by
  refine List.ext_getElem? (fun i=>?_)
  rw [List.getElem?_map]
  by_cases hi:i<(Sx.termL q).length
  ·rw [iY hi,Option.map_some]
   have hx:(bf q).terms[i]? =some (mvP (Sx.termL q) (vA q.terms (Sx.termL q)[i])):=by
    show((Sx.termL q).map _)[i]? =_
    rw [List.getElem?_map,List.getElem?_eq_getElem hi];rfl
   rw [AZ (by rw [show((i:Int)).toNat=i by omega];exact hx),hx]
   unfold mvP
   dsimp only
   rw [eF,eF]
  ·rw [List.getElem?_eq_none (by rw [jw];omega),List.getElem?_eq_none (by rw [RW.tl];omega)];rfl
 have e:∀x:SProc,bf x=⟨x.name,x.params,(none,0),(Sx.termL x).map (fun k=>mvP (Sx.termL x) (vA x.terms k)),(none,0),gr x (bu x),(none,0)⟩:=fun _=>rfl
 rw [e (bf q),h.ord,h.termL,e3,← h.sl,e2]
 rfl
end Go.Sx
namespace Go.Sx
open Go
theorem ut {n at_:Int}:∀{L c d c2 d2:List Int},bO n at_ L c d=some (c2,d2)→n=d.length→0≤at_→d2.length=d.length∧aG d2 at_=aG d at_∧∀j:Int,0≤j→aG d2 j=if j∈L then aG d at_ else aG d j
 | [],c,d,c2,d2,h,_,_=>by
  simp only [bO,Option.some.injEq,Prod.mk.injEq] at h
  obtain⟨rfl,rfl⟩:=h
  exact⟨rfl,rfl,fun j _=>by simp⟩
 | t::r,c,d,c2,d2,h,hn,h0=>by
  rw [bO] at h
  split at h
  ·cases h
  ·rename_i ht
   obtain⟨e1,e2,e3⟩:=ut h (by rw [List.length_set];exact hn) h0
   have hs:∀j:Int,0≤j→aG (d.set t.toNat (aG d at_)) j=if j=t then aG d at_ else aG d j:=fun j hj=>ek omq omq hj
   have ha:aG (d.set t.toNat (aG d at_)) at_=aG d at_:=by rw [hs at_ h0,if_neg omq]
   refine⟨by rw [e1,List.length_set],by rw [e2,ha],fun j hj=>?_⟩
   rw [e3 j hj,ha,hs j hj]
   by_cases h1:j=t
   ·subst h1;simp
   ·simp [h1]
theorem xn:∀{L:List Int} {u:List Bool},L.Nodup→(∀k∈L,0≤k∧k<u.length)→(∀k∈L,u[k.toNat]?.getD false=false)→∃u2,eR L u=some u2∧u2.length=u.length∧∀i:Nat,u2[i]?.getD false=true→u[i]?.getD false=true∨(i:Int)∈L
 | [],u,_,_,_=>⟨u,rfl,rfl,fun i h=>.inl h⟩
 | k::r,u,hn,hr,hf=>by
  rw [List.nodup_cons] at hn
  have hk:=hr k sq
  obtain⟨u2,e1,e2,e3⟩:=xn (u:=u.set k.toNat true) hn.2 (fun j hj=>by rw [List.length_set];exact hr j (by simp [hj])) (fun j hj=>by
   have hj2:=hr j (by simp [hj])
   rw [List.getElem?_set,if_neg (fun e=>hn.1 (by rw [show k=j by omega];exact hj))]
   exact hf j (by simp [hj]))
  refine⟨u2,by rw [eR,if_neg (by rw [hf k sq];decide),e1],by rw [e2,List.length_set],fun i hi=>?_⟩
  rcases e3 i hi with h | h
  ·rw [List.getElem?_set] at h
   by_cases e:k.toNat=i
   ·exact .inr (by simp;left;omega)
   ·rw [if_neg e] at h;exact .inl h
  ·exact .inr (by simp [h])
theorem qO {ts:List Term}:∀{L:List Int} {u:List Bool},u.length=ts.length→(∀t∈L,cq ts t=true)→(L.flatMap (postS ts)).Nodup→(∀k∈L.flatMap (postS ts),u[k.toNat]?.getD false=false)→∃u2,bT ts L u=some u2∧u2.length=u.length∧∀i:Nat,u2[i]?.getD false=true→u[i]?.getD false=true∨(i:Int)∈L.flatMap (postS ts)
 | [],u,_,_,_,_=>⟨u,rfl,rfl,fun i h=>.inl h⟩
 | t::r,u,hu,hm,hn,hf=>by
  rw [List.flatMap_cons] at hn hf
  have hn2:=List.nodup_append.1 hn
  obtain⟨u1,a1,a2,a3⟩:=xn (L:=postS ts t) (u:=u) hn2.1 (fun k hk=>by have:=gF _ _ k hk;rw [hu];exact this) (fun k hk=>hf k (by simp [hk]))
  obtain⟨u2,b1,b2,b3⟩:=qO (ts:=ts) (L:=r) (u:=u1) (by rw [a2,hu]) (fun x hx=>hm x (by simp [hx])) hn2.2.1 (fun k hk=>by
   cases e:u1[k.toNat]?.getD false with
   | false=>rfl
   | true=>
    rcases a3 _ e with h | h
    ·have:=hf k (List.mem_append_right _ hk)
     rw [h] at this;cases this
    ·have h0:0≤k:=by
      obtain⟨x,_,hx⟩:=List.mem_flatMap.1 hk
      exact(gF _ _ k hx).1
     rw [show((k.toNat:Nat):Int)=k by omega] at h
     exact absurd rfl (hn2.2.2 k h k hk))
  refine⟨u2,?_,by rw [b2,a2],fun i hi=>?_⟩
  ·rw [bT,if_neg (by rw [hm t sq];decide),a1];exact b1
  ·rw [List.flatMap_cons]
   rcases b3 i hi with h | h
   ·rcases a3 i h with h | h
    ·exact .inl h
    ·exact .inr (List.mem_append_left _ h)
   ·exact .inr (List.mem_append_right _ h)
structure DeepOk (q:SProc)(dp:Int→Int):Prop where
 r:∀x:Int,0≤x→x<q.steps.length→0≤dp x∧dp x≤24
 z:dp 0=ko q.steps[(0:Int).toNat]?
 n:∀p x:Int,Par q p x→dp x=ko q.steps[x.toNat]? +dp p
theorem kd_s (s:SStep):ko (some s)=if s.kind=3∨s.kind=5 then 1 else 0:=rfl
theorem Cv {s:SStep}{k:Int}{d:List Int}(h0:0≤k)(h1:k<d.length)(hb: -1000≤aG d k∧aG d k≤1000):(∀j:Int,0≤j→j≠k→aG (cR s k d) j=aG d j)∧aG (cR s k d) k=ko (some s)+aG d k:=by
 unfold cR
 rw [kd_s]
 split
 ·unfold fZ
  refine⟨fun j hj hne=>by rw [ek h0 h1 hj,if_neg hne],?_⟩
  rw [ek h0 h1 h0,if_pos rfl,mS omq omq];omega
 ·exact⟨fun j _ _=>rfl,by omega⟩
theorem DD {q:SProc}{i:Int}{dp:Int→Int}(hS:bI q)(hn:q.steps.length≤80)(hT:f4 q)(hD:DeepOk q dp)(hm:jF q):∀(l:List SStep) (k:Nat) (c d:List Int) (u:List Bool),l=q.steps.drop k→c.length=q.steps.length→d.length=q.steps.length→u.length=q.terms.length→
  (∀j:Int,0≤j→aG c j=(((q.steps.take k).flatMap aL).count j:Int))→(∀p x:Int,Par q p x→p<k→k≤x→aG d x=dp p)→(k=0→aG d 0=0)→
  (l.flatMap (fun s=>(a8 s).flatMap (postS q.terms))).Nodup→(∀x∈l.flatMap (fun s=>(a8 s).flatMap (postS q.terms)),u[x.toNat]?.getD false=false)→bB q i l k c d u=okF:=by
 intro l
 induction l with
 | nil=>intros;rfl
 | cons s r ih=>
  intro k c d u hl hc hd hu hcc hdd hz hnd hf
  have hx:q.steps[k]? =some s:=by
   have h1:(q.steps.drop k)[0]? =some s:=by rw [← hl];rfl
   rwa [List.getElem?_drop,Nat.add_zero] at h1
  have hr:r=q.steps.drop (k+1):=by
   have h1:(q.steps.drop k).drop 1=r:=by rw [← hl];rfl
   rw [← h1,List.drop_drop]
  have hkn:=(List.getElem?_eq_some_iff.1 hx).1
  obtain⟨hms,hns⟩:=hS k s hx
  have hck:(0:Int)<k→aG c k=1:=fun h0=>by
   have h1:=hT k omq hkn
   have h2:=rL hS k
   have h3:=hcc k omq
   unfold vN at h1
   rw [← List.take_append_drop k q.steps,List.flatMap_append,List.count_append,h2] at h1
   omega
  have hdk:aG d k=dp k - ko (some s)∧(-1000≤aG d k∧aG d k≤1000):=by
   have hkd:=uy (some s)
   by_cases h0:(0:Int)<k
   ·have h1:=hck h0
    have h3:=hcc k omq
    have hin:(k:Int)∈(q.steps.take k).flatMap aL:=List.count_pos_iff.1 omq
    obtain⟨sp,hsp,hin2⟩:=List.mem_flatMap.1 hin
    obtain⟨p,hp⟩:=List.getElem?_of_mem hsp
    have hpk:p<k:=by have:=(List.getElem?_eq_some_iff.1 hp).1;simp at this;omega
    rw [List.getElem?_take_of_lt hpk] at hp
    have hP:Par q p k:=⟨by omega,sp,by simpa using hp,hin2⟩
    have e:=hdd p k hP omq omq
    have e2:=hD.n p k hP
    have e3:=hD.r p omq omq
    rw [show((k:Int)).toNat=k by omega,hx] at e2
    omega
   ·have e:k=0:=by omega
    subst e
    have e2:=hD.z
    rw [show((0:Int)).toNat=0 from rfl,hx] at e2
    have:=hz rfl
    simp only [Int.natCast_zero,Int.ofNat_zero] at *
    omega
  obtain⟨g1,g2⟩:=Cv (s:=s) (k:=k) (d:=d) omq omq hdk.2
  have hall:(aL s).all (fun t=>!(decide (t≤k)||decide ((q.steps.length:Int)≤t)))=true:=List.all_eq_true.2 (fun t ht=>by
   have:=hns t ht
   rw [decide_eq_false omq,decide_eq_false omq];rfl)
  rw [jz (c:=c) (d:=cR s k d)] at hall
  obtain⟨⟨c2,d2⟩,hng⟩:=Option.isSome_iff_exists.1 hall
  have hbd:=zx hS k omq
  have hnl:=mI _ hms
  have hneg:∀(c:List Int) (j:Int),¬0≤j→aG c j=aG c 0:=fun c j hj=>by unfold aG;rw [show j.toNat=0 by omega];rfl
  have hcl:∀j:Int,((q.steps.take k).flatMap aL).count j≤7 * k:=fun j=>Nat.le_trans List.count_le_length hbd
  obtain⟨c1,c3⟩:=iI hng (by rw [hc]) omq (fun j=>by
   by_cases hj:0≤j
   ·rw [hcc j hj];have:=hcl j;omega
   ·rw [hneg _ _ hj,hcc 0 omq];have:=hcl 0;omega)
  obtain⟨d1,d3,d4⟩:=ut hng (by rw [vD,hd]) omq
  rw [List.flatMap_cons] at hnd hf
  have hnd2:=List.nodup_append.1 hnd
  obtain⟨u2,u1,u3,u4⟩:=qO hu (hm k s hx) hnd2.1 (fun x hx=>hf x (List.mem_append_left _ hx))
  have hgd:aG d2 k=dp k:=by rw [d3,g2,hdk.1];omega
  have hrg:=hD.r k omq omq
  rw [bB,if_neg (by rw [hms];decide),if_neg (fun e=>e.2 (hck e.1)),hng]
  dsimp only
  rw [if_neg omq,u1]
  dsimp only
  rw [show((k:Int)+1)=((k+1:Nat):Int) by omega]
  refine ih (k+1) c2 d2 u2 hr (by rw [c1,hc]) (by rw [d1,vD,hd]) (by rw [u3,hu]) (fun j hj=>?_) (fun p x hP hpk hkx=>?_) (fun e=>by omega) hnd2.2.1 (fun x hx=>?_)
  ·rw [c3 j hj,hcc j hj,vC hx,List.count_append];omega
  ·have hlx:=iH hS hP
   have hp0:=hP.1
   rw [d4 x omq]
   by_cases hpe:p=k
   ·subst hpe
    obtain⟨_,s',hs',hm'⟩:=hP
    rw [show((k:Int)).toNat=k by omega,hx] at hs'
    obtain rfl:=Option.some.inj hs'
    rw [if_pos hm',g2,hdk.1];omega
   ·have hnin:¬x∈aL s:=fun hm'=>hpe (kf hS hT hP ⟨by omega,s,by simpa using hx,hm'⟩)
    rw [if_neg hnin,g1 x omq omq]
    exact hdd p x hP omq omq
  ·cases e:u2[x.toNat]?.getD false with
   | false=>rfl
   | true=>
    rcases u4 _ e with h | h
    ·have:=hf x (List.mem_append_right _ hx)
     rw [h] at this;cases this
    ·have h0:0≤x:=by
      obtain⟨_,_,hx⟩:=List.mem_flatMap.1 hx
      obtain⟨_,_,hx⟩:=List.mem_flatMap.1 hx
      exact(gF _ _ x hx).1
     rw [show((x.toNat:Nat):Int)=x by omega] at h
     exact absurd rfl (hnd2.2.2 x h x hx)
theorem By {q:SProc}{i:Int}{dp:Int→Int}(hS:bI q)(hn:q.steps.length≤80)(hT:f4 q)(hD:DeepOk q dp)(hm:jF q)(hd:(q.steps.flatMap (fun s=>(a8 s).flatMap (postS q.terms))).Nodup):d9 i q=okF:=
 DD hS hn hT hD hm q.steps 0 _ _ _ rfl sq sq sq (fun j _=>by rw [eD];simp) (fun p x hP h1 _=>by have:=hP.1;omega) (fun _=>eD) hd (fun x hx=>by rw [List.getElem?_replicate];split<;>rfl)
theorem bare_P {O T:List Int}{s:SStep}(hO:ax O (-1)= -1)(hT:ax T (-1)= -1)(h:je (dr s)=false):je (dr (cC O T s))=false:=by
 simp only [je,Bool.or_eq_false_iff,decide_eq_false_iff_not,Bool.not_eq_false'] at h ⊢
 obtain⟨h1,h2,h3,h4,h5,h6,h7,h8,h9⟩:=h
 refine⟨h1,h2,h3,h4,?_,?_,?_,?_,?_⟩
 ·have h5:=of_decide_eq_true h5
  refine decide_eq_true ?_
  unfold dr at h5 ⊢
  show(if s.kind=1∨s.kind=2∨s.kind=3∨s.kind=4 then -1 else ax T s.term)= -1
  dsimp only at h5
  split
  ·rfl
  ·rename_i hk;rw [if_neg hk] at h5;rw [h5,hT]
 ·intro e;apply h6
  unfold dr at e ⊢
  dsimp only at e ⊢
  revert e
  show 0<((if s.kind=6∨s.kind=7 then [] else s.args.map (ax T)).length:Int)→_
  split
  ·exact id
  ·rw [List.length_map];exact id
 ·intro e;apply h7
  unfold dr at e ⊢
  dsimp only at e ⊢
  revert e
  show 0<((if s.kind=8 then [] else s.casts.map (gj T)).length:Int)→_
  split
  ·exact id
  ·rw [List.length_map];exact id
 ·intro e;apply h8
  unfold dr at e ⊢
  dsimp only at e ⊢
  revert e
  show 0<((if s.kind=3∨s.kind=5 then [] else s.ways.map (jp O)).length:Int)→_
  split
  ·exact id
  ·rw [List.length_map];exact id
 ·have h9:=of_decide_eq_true h9
  refine decide_eq_true ?_
  unfold dr at h9 ⊢
  show(if fA s.kind=true then -1 else ax O s.next)= -1
  dsimp only at h9
  split
  ·rfl
  ·rename_i hk;rw [if_neg hk] at h9;rw [h9,hO]
theorem ways_P (O T:List Int)(s:SStep):eA (cC O T s)=eA s:=by
 have hb:∀i:Nat,lu ((s.ways.map (jp O))[i]?.getD w00)=lu (s.ways[i]?.getD w00):=fun i=>by
  rw [List.getElem?_map]
  cases s.ways[i]? with
  | none=>rfl
  | some w=>rfl
 unfold eA
 show(if s.kind=3 then decide (((s.ways.map (jp O)).length:Int)=2)&&(lu ((s.ways.map (jp O))[0]?.getD w00)&&lu ((s.ways.map (jp O))[1]?.getD w00)) else decide ((1:Int)≤(s.ways.map (jp O)).length)&&(decide (((s.ways.map (jp O)).length:Int)≤7)&&((s.ways.map (jp O)).all (fun w=>!eS w)&&dT ((s.ways.map (jp O)).map (·.label)))))=_
 rw [hb,hb,List.length_map,List.map_map,List.all_map]
 rfl
theorem Eo {O T:List Int}{s:SStep}(hO:ax O (-1)= -1)(hT:ax T (-1)= -1)(h:dO s=true):dO (cC O T s)=true:=by
 have e2:=ways_P O T s
 have e3:(cC O T s).casts.all (fun c=>!dD c)=s.casts.all (fun c=>!dD c):=by
  show(s.casts.map (gj T)).all _=_
  rw [List.all_map]
  congr 1
  funext c
  show(!dD (gj T c))=_
  unfold dD gj
  simp
 have e4:(cC O T s).casts.length=s.casts.length:=by show(s.casts.map (gj T)).length=_;rw [List.length_map]
 have e5:(cC O T s).args.length=s.args.length:=by show(s.args.map (ax T)).length=_;rw [List.length_map]
 unfold dO at h ⊢
 rw [e2,e3,e4,e5]
 split at h
 ·cases h
 ·rename_i hk
  split at h
  ·cases h
  ·rename_i hb
   have e1:=bare_P hO hT (by simpa using hb)
   have hk':¬((cC O T s).kind<0∨10<(cC O T s).kind):=hk
   rw [if_neg hk',e1,if_neg dq]
   exact h
theorem binds_P (O T:List Int)(s:SStep):bK (cC O T s)=bK s:=by
 unfold bK
 rw [kK,List.length_map]
 show(if s.kind=1∨s.kind=8 then [s.name] else if s.kind=5 then(s.ways.map (jp O)).map (·.name) else _)=_
 rw [List.map_map]
 rfl
theorem terms_P {O T:List Int}{s:SStep}(hn:ax T (-1)= -1)(hi:s.term≠ -1→ax T s.term≠ -1):a8 (cC O T s)=(a8 s).map (ax T):=by
 unfold a8
 show((if s.kind=1∨s.kind=2∨s.kind=3∨(s.kind=4∧ax T s.term≠ -1) then [ax T s.term] else [])++s.args.map (ax T))++(s.casts.map (gj T)).flatMap (·.args)=_
 rw [List.map_append,List.map_append,List.flatMap_map,List.map_flatMap]
 congr 2
 have e:(ax T s.term≠ -1)↔(s.term≠ -1):=⟨fun h e=>h (by rw [e,hn]),hi⟩
 by_cases hc:s.kind=1∨s.kind=2∨s.kind=3∨(s.kind=4∧s.term≠ -1)
 ·rw [if_pos hc,if_pos (by rw [e];exact hc)];rfl
 ·rw [if_neg hc,if_neg (by rw [e];exact hc)];rfl
theorem tV:∀{l:List Int} {p x:Int},[p,x].Sublist l→l.Nodup→ax l p<ax l x
 | [],p,x,h,_=>by cases h
 | y::r,p,x,h,hn=>by
  rw [List.nodup_cons] at hn
  rcases h with h | h
  ·rename_i h
   have hp:p∈r:=h.subset sq
   have hx:x∈r:=h.subset sq
   have ih:=tV h hn.2
   have h1:=cN hn.2 hp
   have h2:=cN hn.2 hx
   unfold ax
   rw [if_neg (show ¬y=p from fun e=>hn.1 (by rw [e];exact hp)),if_neg (show ¬y=x from fun e=>hn.1 (by rw [e];exact hx)),if_neg omq,if_neg omq]
   omega
  ·rename_i h
   have hx:x∈r:=h.subset sq
   have h2:=cN hn.2 hx
   unfold ax
   rw [if_pos rfl,if_neg (show ¬y=x from fun e=>hn.1 (by rw [e];exact hx)),if_neg omq]
   omega
theorem EG {α β:Type}{f:α→List β}{l:List α}{x:α}(h:x∈l):(f x).Sublist (l.flatMap f):=by
 obtain⟨A,B,rfl⟩:=List.append_of_mem h
 rw [List.flatMap_append,List.flatMap_cons]
 exact(List.sublist_append_left _ _).trans (List.sublist_append_right _ _)
theorem AN {q:SProc}(hS:bI q):∀(f:Nat) (a:Int),0≤a→a<q.steps.length→q.steps.length≤a.toNat+f→∀{p x:Int},p∈ordW q f a→Par q p x→[p,x].Sublist (ordW q f a)
 | 0,a,_,_,_,p,x,hp,_=>by cases hp
 | f+1,a,h0,h1,h2,p,x,hp,hP=>by
  have hx:=ra hS (f+1) a h0 h1 h2 hp hP
  obtain⟨s,hs⟩:=iA h0 h1
  have hl:=iH hS hP
  rw [iy hs] at hp hx ⊢
  rcases List.mem_cons.1 hp with e | hp
  ·subst e
   refine List.Sublist.cons_cons _ (List.singleton_sublist.2 ?_)
   exact(List.mem_cons.1 hx).resolve_left (fun e=>by omega)
  ·obtain⟨t,ht,hpt⟩:=List.mem_flatMap.1 hp
   have:=(hS _ _ hs).2 t ht
   exact List.Sublist.cons _ ((AN hS f t omq omq omq hpt hP).trans (EG ht))
theorem RW.lt {q:SProc}(h:RW q){p x:Int}(hP:Par q p x):ax (bu q) p<ax (bu q) x:=by
 have hl:=iH h.r.s hP
 refine tV (AN h.r.s _ 0 omq (by have:=h.r.n1;omega) omq (h.om.2 ⟨hP.1,by omega⟩) hP) h.on
theorem RW.shapeOk {q:SProc}(h:RW q):bI (bf q):=fun k s' hk=>by
 obtain⟨x,s,h0,h1,hx,hs,rfl⟩:=h.of hk
 obtain⟨hm,hn⟩:=h.r.s _ _ hs
 refine⟨Eo h.on1 h.tn1 hm,fun t ht=>?_⟩
 rw [kK] at ht
 obtain⟨y,hy,rfl⟩:=List.mem_map.1 ht
 have hP:Par q x y:=⟨h0,s,hs,hy⟩
 have h2:=h.lt hP
 have h3:=hn y hy
 have h4:=cN h.on (h.om.2 ⟨by omega,h3.2⟩)
 rw [h.sl]
 rw [h.ol] at h4
 omega
theorem RW.perm {q:SProc}(h:RW q):(bf q).steps.Perm (q.steps.map (cC (bu q) (Sx.termL q))):=by
 have e:q.steps.map (cC (bu q) (Sx.termL q))=(ec q.steps.length).map (jt q):=by
  refine List.ext_getElem? (fun i=>?_)
  rw [List.getElem?_map,List.getElem?_map]
  by_cases hi:i<q.steps.length
  ·have hx:=List.getElem?_eq_getElem hi
   rw [iY hi,hx]
   unfold jt Cm
   rw [Option.map_some,Option.map_some,show((i:Int)).toNat=i by omega,hx];rfl
  ·rw [List.getElem?_eq_none omq,List.getElem?_eq_none (by rw [jw];omega)];rfl
 rw [e,h.st]
 refine List.Perm.map _ ?_
 rw [List.perm_iff_count]
 intro a
 by_cases ha:a∈bu q
 ·rw [h.on.count,(nv _).count,if_pos ha,if_pos (jv.2 (h.om.1 ha))]
 ·rw [h.on.count,(nv _).count,if_neg ha,if_neg (fun hm=>ha (h.om.2 (jv.1 hm)))]
theorem uH {f:Int→Int}{y:Int}:∀{l:List Int},(∀a∈l,f a=f y→a=y)→(l.map f).count (f y)=l.count y
 | [],_=>rfl
 | a::r,h=>by
  rw [List.map_cons,List.count_cons,List.count_cons,uH (fun b hb=>h b (by simp [hb]))]
  congr 1
  by_cases e:a=y
  ·subst e;simp
  ·have:¬f a=f y:=fun e2=>e (h a sq e2)
   simp [e,this]
theorem RW.treeOk {q:SProc}(h:RW q):f4 (bf q):=fun x h0 hx=>by
 rw [h.sl] at hx
 obtain⟨y,hy⟩:∃y,(bu q)[x]? =some y:=⟨_,List.getElem?_eq_getElem (by rw [h.ol];exact hx)⟩
 have hyx:=ep h.on hy
 have hym:=h.om.1 (List.mem_of_getElem? hy)
 have e1:(vN (bf q)).count (x:Int)=((vN q).map (ax (bu q))).count (ax (bu q) y):=by
  rw [hyx]
  refine List.Perm.count_eq ?_ _
  refine(List.Perm.flatMap_right _ h.perm).trans ?_
  rw [List.flatMap_map,List.map_flatMap]
  refine List.Perm.of_eq (eI (fun s _=>kK _ _ s))
 rw [e1,uH]
 ·have h1:y≠0:=fun e=>by
   rw [e,h.p0] at hyx;omega
  have:=h.r.t y.toNat omq omq
  rwa [show((y.toNat:Nat):Int)=y by omega] at this
 ·intro a ha e
  obtain⟨s,hs,ha⟩:=List.mem_flatMap.1 ha
  obtain⟨k,hk⟩:=List.getElem?_of_mem hs
  have:=(h.r.s k s hk).2 a ha
  exact kH h.on (h.om.2 ⟨by omega,this.2⟩) (h.om.2 hym) e
theorem RW.par {q:SProc}(h:RW q){p' x':Int}(hP:Par (bf q) p' x'):∃p x,Par q p x∧p'=ax (bu q) p∧x'=ax (bu q) x:=by
 obtain⟨h0,s',hs',hx'⟩:=hP
 obtain⟨p,s,a0,a1,hp,hs,rfl⟩:=h.of hs'
 rw [kK] at hx'
 obtain⟨x,hx,rfl⟩:=List.mem_map.1 hx'
 exact⟨p,x,⟨a0,s,hs,hx⟩,by omega,rfl⟩
theorem RW.deepOk {q:SProc}(h:RW q):DeepOk (bf q) (fun x=>ig q (fJ q) ((bu q)[x.toNat]?.getD 0)):=by
 have hn:=h.r.n1
 have get:∀x:Int,0≤x→x<q.steps.length→(bu q)[(ax (bu q) x).toNat]?.getD 0=x:=fun x h0 h1=>by
  rw [(cN h.on (h.om.2 ⟨h0,h1⟩)).2.2];rfl
 refine⟨fun x h0 h1=>?_,?_,fun p' x' hP=>?_⟩
 ·rw [h.sl] at h1
  have hx:=List.getElem?_eq_getElem (l:=bu q) (i:=x.toNat) (by rw [h.ol];omega)
  rw [hx,Option.getD_some]
  have:=h.om.1 (List.getElem_mem (l:=bu q) (n:=x.toNat) (by rw [h.ol];omega))
  exact⟨(Cu q _ _ this.1).1,h.d _ this.1 this.2⟩
 ·have e:=get 0 omq omq
  rw [h.p0] at e
  rw [e,rN h.r.lt omq omq]
  have h1:=h.r.lt 0 omq omq
  rw [if_pos h1]
  obtain⟨s,hs⟩:=iA (q:=q) (x:=0) omq omq
  have h2:=h.at_ omq hs
  rw [h.p0] at h2
  rw [hs,h2,Int.add_zero];rfl
 ·obtain⟨p,x,hQ,rfl,rfl⟩:=h.par hP
  have hl:=iH h.r.s hQ
  have hp0:=hQ.1
  rw [get x omq hl.2,get p hp0 omq,rN h.r.lt omq hl.2]
  have hu:=h.r.up x omq hl.2
  have e:aG (fJ q) x=p:=kf h.r.s h.r.t hu.2 hQ
  rw [e,if_neg omq]
  obtain⟨s,hs⟩:=iA (q:=q) (x:=x) omq hl.2
  rw [hs,h.at_ omq hs];rfl
theorem RW.term1 {q:SProc}(h:RW q){k:Int}{s:SStep}(h0:0≤k)(hs:q.steps[k.toNat]? =some s):s.term≠ -1→ax (Sx.termL q) s.term≠ -1:=fun hn e=>by
 have hin:s.term∈Sx.termL q:=h.rootT h0 hs _ (by unfold dF;rw [if_neg hn];simp)
 have:=cN h.t.nd hin
 omega
theorem RW.termsP {q:SProc}(h:RW q){k:Int}{s:SStep}(h0:0≤k)(hs:q.steps[k.toNat]? =some s):a8 (cC (bu q) (Sx.termL q) s)=(a8 s).map (ax (Sx.termL q)):=terms_P h.tn1 (h.term1 h0 hs)
theorem RW.termsIn {q:SProc}(h:RW q){k:Int}{s:SStep}(h0:0≤k)(hs:q.steps[k.toNat]? =some s):∀r∈a8 s,cq q.terms r=true∧r∈Sx.termL q:=fun r hr=>by
 have e:=dX (h.r.s _ _ hs).1 (h.r.ro _ _ hs)
 exact⟨h.m _ _ hs r hr,h.rootT h0 hs r (by rw [e];exact hr)⟩
theorem RW.termsOk {q:SProc}(h:RW q):jF (bf q):=fun k s' hk t ht=>by
 obtain⟨x,s,h0,h1,hx,hs,rfl⟩:=h.of hk
 rw [h.termsP h0 hs] at ht
 obtain⟨r,hr,rfl⟩:=List.mem_map.1 ht
 have:=h.termsIn h0 hs r hr
 exact h.may this.1 this.2
theorem RW.shape {q:SProc}(h:RW q)(i:Int)(hd:(q.steps.flatMap (fun s=>(a8 s).flatMap (Sx.postS q.terms))).Nodup):d9 i (bf q)=okF:=by
 refine By h.shapeOk (by rw [h.sl];exact h.r.n80) h.treeOk h.deepOk h.termsOk ?_
 have e1:((bf q).steps.flatMap (fun s=>(a8 s).flatMap (Sx.postS (bf q).terms))).Perm ((q.steps.flatMap (fun s=>(a8 s).flatMap (Sx.postS q.terms))).map (ax (Sx.termL q))):=by
  refine(List.Perm.flatMap_right _ h.perm).trans ?_
  rw [List.flatMap_map,List.map_flatMap]
  refine List.Perm.of_eq (eI (fun s hs=>?_))
  obtain⟨k,hk⟩:=List.getElem?_of_mem hs
  have hk':q.steps[((k:Int)).toNat]? =some s:=by simpa using hk
  rw [h.termsP omq hk',List.flatMap_map,List.map_flatMap]
  refine eI (fun r hr=>?_)
  have:=h.termsIn omq hk' r hr
  exact(h.postS this.1 this.2).1
 rw [e1.nodup_iff]
 unfold List.Nodup at hd ⊢
 rw [List.pairwise_map]
 have hin:∀a∈q.steps.flatMap (fun s=>(a8 s).flatMap (Sx.postS q.terms)),a∈Sx.termL q:=fun a ha=>by
  obtain⟨s,hs,ha⟩:=List.mem_flatMap.1 ha
  obtain⟨r,hr,ha⟩:=List.mem_flatMap.1 ha
  obtain⟨k,hk⟩:=List.getElem?_of_mem hs
  have hk':q.steps[((k:Int)).toNat]? =some s:=by simpa using hk
  have e:=dX (h.r.s _ _ hk).1 (h.r.ro _ _ hk)
  exact(h.root omq hk').2 r (by rw [e];exact hr) a ha
 exact fK (fun a ha b hb hne e=>hne (kH h.t.nd (hin a ha) (hin b hb) e)) hd
end Go.Sx
namespace Go.Sx
open Go
theorem f2 {f:Int→SProc→SFault}:∀{r:List SProc} {i:Int},(cb f r i).e=0↔∀(j:Nat) (q:SProc),r[j]? =some q→(f (i+j) q).e=0
 | [],i=>⟨fun _ j q h=>by simp at h,fun _=>rfl⟩
 | x::r,i=>by
  rw [cb]
  constructor
  ·intro h
   split at h
   ·rename_i h1;exact absurd h h1
   ·rename_i h1
    intro j q hq
    cases j with
    | zero=>
     simp at hq;subst hq
     simpa using h1
    | succ j=>
     have:=(f2.1 h) j q (by simpa using hq)
     rw [show i+((j+1:Nat):Int)=i+1+j by omega];exact this
  ·intro h
   have h0:=h 0 x rfl
   rw [if_neg (by simpa using h0)]
   refine f2.2 (fun j q hq=>?_)
   have:=h (j+1) q (by simpa using hq)
   rwa [show i+((j+1:Nat):Int)=i+1+j by omega] at this
theorem BG {P:SProg}{q:SProc}{i:Int}(h:∀(k:Nat) (s:SStep),q.steps[k]? =some s→lK P q.terms s (lT q (fJ q) k)=0):y9 P i q=okF:=by
 have key:∀(l:List SStep) (k:Nat),l=q.steps.drop k→gf P q i l k=okF:=by
  intro l
  induction l with
  | nil=>intros;rfl
  | cons s r ih=>
   intro k hl
   have hx:q.steps[k]? =some s:=by
    have h1:(q.steps.drop k)[0]? =some s:=by rw [← hl];rfl
    rwa [List.getElem?_drop,Nat.add_zero] at h1
   have hr:r=q.steps.drop (k+1):=by
    have h1:(q.steps.drop k).drop 1=r:=by rw [← hl];rfl
    rw [← h1,List.drop_drop]
   rw [gf,if_neg (by simpa using h k s hx)]
   exact ih (k+1) hr
 exact key _ 0 rfl
theorem BH {P:SProg}{q:SProc}{i:Int}(h:(y9 P i q).e=0):∀(k:Nat) (s:SStep),q.steps[k]? =some s→lK P q.terms s (lT q (fJ q) k)=0:=by
 have key:∀(l:List SStep) (k:Nat),l=q.steps.drop k→(gf P q i l k).e=0→∀(j:Nat) (s:SStep),k≤j→q.steps[j]? =some s→lK P q.terms s (lT q (fJ q) j)=0:=by
  intro l
  induction l with
  | nil=>
   intro k hl _ j s hj hs
   have h1:=(List.getElem?_eq_some_iff.1 hs).1
   have h2:(q.steps.drop k).length=0:=by rw [← hl];rfl
   rw [List.length_drop] at h2;omega
  | cons x r ih=>
   intro k hl h j s hj hs
   have hx:q.steps[k]? =some x:=by
    have h1:(q.steps.drop k)[0]? =some x:=by rw [← hl];rfl
    rwa [List.getElem?_drop,Nat.add_zero] at h1
   have hr:r=q.steps.drop (k+1):=by
    have h1:(q.steps.drop k).drop 1=r:=by rw [← hl];rfl
    rw [← h1,List.drop_drop]
   rw [gf] at h
   split at h
   ·rename_i h1;exact absurd h h1
   ·rename_i h1
    by_cases e:j=k
    ·subst e
     rw [hx] at hs
     obtain rfl:=Option.some.inj hs
     simpa using h1
    ·exact ih (k+1) hr h j s omq hs
 exact fun k s hs=>key _ 0 rfl h k s (Nat.zero_le _) hs
theorem xy {q:SProc}(h:RW q){k:Int}{s:SStep}(h0:0≤k)(hs:q.steps[k.toNat]? =some s){x:Int}(hx:0≤x∧x<q.steps.length):fp (cC (bu q) (Sx.termL q) s) (ax (bu q) x)=fp s x:=by
 unfold fp
 show(if s.kind=1∨s.kind=8 then [s.name] else [])++(if s.kind=5 then((s.ways.map (jp (bu q))).filter (wbF (ax (bu q) x))).map (·.name) else [])=_
 congr 1
 split
 ·rw [List.filter_map,List.map_map]
  show(s.ways.filter _).map (·.name)=_
  congr 1
  refine List.filter_congr (fun w hw=>?_)
  show(decide (ax (bu q) w.next=ax (bu q) x)&& !decide (w.name=[]))=(decide (w.next=x)&& !decide (w.name=[]))
  congr 1
  rw [decide_eq_decide]
  have hn:=(h.r.s _ _ hs).2 _ (mo (h.r.s _ _ hs).1 hw)
  exact⟨fun e=>kH h.on (h.om.2 ⟨by omega,hn.2⟩) (h.om.2 hx) e,fun e=>by rw [e]⟩
 ·rfl
theorem RW.bnd {q:SProc}(h:RW q)(hR:RefOk (bf q)):∀(n:Nat) (x:Int),x.toNat=n→0≤x→x<q.steps.length→∀v,v∈lT (bf q) (fJ (bf q)) (ax (bu q) x)↔v∈lT q (fJ q) x:=by
 intro n
 induction n using Nat.strongRecOn with
 | ind n ih=>
  intro x hn h0 h1 v
  by_cases hx:x=0
  ·subst hx
   rw [h.p0,kj,kj]
   simp [chW]
   rfl
  ·obtain⟨u0,hP⟩:=h.r.up x omq h1
   have hl:=iH h.r.s hP
   obtain⟨p0,s,hs,hm⟩:=hP
   have e1:=nR h.r hs p0 hm v
   have hpm:=cN h.on (h.om.2 ⟨p0,by omega⟩)
   have e2:=nR hR (h.at_ p0 hs) hpm.1 (by rw [kK];exact List.mem_map.2 ⟨x,hm,rfl⟩) v
   rw [e1,e2,xy h p0 hs ⟨h0,h1⟩,ih _ omq _ rfl p0 omq v]
theorem RW.asked {q:SProc}(h:RW q){k:Int}{s:SStep}(h0:0≤k)(hs:q.steps[k.toNat]? =some s):cu (bf q).terms (cC (bu q) (Sx.termL q) s)=cu q.terms s:=by
 unfold cu
 rw [h.termsP h0 hs,List.flatMap_map]
 show _++(if s.kind=4∨s.kind=5∨s.kind=9 then [s.name] else [])=_
 congr 1
 refine eI (fun r hr=>?_)
 have:=h.termsIn h0 hs r hr
 exact(h.postS this.1 this.2).2
theorem DK {q:SProc}(h:RW q){k:Int}{s:SStep}(h0:0≤k)(hs:q.steps[k.toNat]? =some s):dA (cC (bu q) (Sx.termL q) s)=true:=by
 have e:=h.r.ro _ _ hs
 have h1:=h.term1 h0 hs
 unfold dA at e ⊢
 show(!(decide (s.kind=1)||(decide (s.kind=2)||decide (s.kind=3)))|| !decide (ax (Sx.termL q) s.term= -1))=true
 by_cases ht:s.term= -1
 ·rw [decide_eq_true ht,Bool.not_true,Bool.or_false] at e
  rw [e];rfl
 ·rw [decide_eq_false (h1 ht)];simp
theorem uq {s s2:SStep}(h1:s.label=s2.label)(h2:dv s=dv s2):∀l,dk s l=dk s2 l
 | []=>rfl
 | x::r=>by
  unfold dk lP
  rw [uq h1 h2 r,h1,h2]
theorem RW.stepE {q:SProc}(h:RW q){P P':SProg}(hp:P'.protos=P.protos.map SProto.bare)(hc:∀s n,br P'.procs s n=br P.procs s n){k:Int}{s:SStep}(h0:0≤k)(hs:q.steps[k.toNat]? =some s)(bd:List Str):
  Sx.stepE P' (bf q).terms (cC (bu q) (Sx.termL q) s) bd=Sx.stepE P q.terms s bd:=by
 have e1:=h.asked h0 hs
 have e2:=binds_P (bu q) (Sx.termL q) s
 have e3:br P'.procs (cC (bu q) (Sx.termL q) s).proc (cC (bu q) (Sx.termL q) s).args.length=br P.procs s.proc s.args.length:=by
  rw [hc]
  show br P.procs s.proc ((s.args.map _).length:Nat)=_
  rw [List.length_map]
 have e4:(cC (bu q) (Sx.termL q) s).casts.all (fun c=>br P'.procs c.proc (c.args.length+1))=s.casts.all (fun c=>br P.procs c.proc (c.args.length+1)):=by
  show(s.casts.map (gj _)).all _=_
  rw [List.all_map]
  congr 1
  funext c
  show br P'.procs c.proc (((c.args.map _).length:Nat)+1)=_
  rw [hc,List.length_map]
 have e5:eg P' (cC (bu q) (Sx.termL q) s)=eg P s:=by
  unfold eg
  rw [hp,← nD s]
  refine uq (s:=cC (bu q) (Sx.termL q) s) (s2:=s.bare) rfl ?_ _
  rw [yD]
  show s.peer::(s.casts.map (gj _)).map (·.role)=s.peer::s.casts.map (·.role)
  rw [List.map_map];rfl
 unfold Sx.stepE
 rw [e1,e2,e3,e4,e5]
 rfl
theorem RW.sense {q:SProc}(h:RW q)(hR:RefOk (bf q)){P P':SProg}{i i':Int}(hp:P'.protos=P.protos.map SProto.bare)(hc:∀s n,br P'.procs s n=br P.procs s n)(hs:(er P i q).e=0):er P' i' (bf q)=okF:=by
 rw [← xD h.r] at hs
 rw [← xD hR]
 refine BG (fun k s' hk=>?_)
 obtain⟨x,s,h0,h1,hx,hsx,rfl⟩:=h.of hk
 have hm:=(h.r.s _ _ hsx).1
 have e:=BH hs x.toNat s hsx
 rw [show((x.toNat:Nat):Int)=x by omega] at e
 rw [nw (bd:=lT q (fJ q) x) hm (h.r.ro _ _ hsx) (fun _=>Iff.rfl)] at e
 rw [← hx,nw (bd:=lT q (fJ q) x) (Eo h.on1 h.tn1 hm) (DK h h0 hsx) (fun v=>h.bnd hR _ x rfl h0 h1 v),h.stepE hp hc h0 hsx]
 exact e
theorem AC {l:List SProc}{i:Int}{q:SProc}(h:(aS l i q).e=0):RW q∧(q.steps.flatMap (fun s=>(a8 s).flatMap (Sx.postS q.terms))).Nodup:=by
 have hR:=u7 h
 have hsh:(d9 i q).e=0:=by
  unfold aS at h
  split at h
  ·rename_i h2;exact absurd h h2
  ·exact h
 have hsh2:=hsh
 rw [← xz hR.n80 hR.n1] at hsh2
 have htr:=qS _ 0 _ rfl hsh2
 refine⟨⟨hR,j3 (fV _ _ _ _ _ hsh),xw h,fun x h0 h1=>?_⟩,(lI q.steps 0 _ _ _ sq hsh).1⟩
 obtain⟨s,hs⟩:=iA h0 h1
 have h2:=(htr x.toNat s (Nat.zero_le _) hs).1
 unfold ud at h2
 simp only [Bool.and_eq_true,decide_eq_true_eq] at h2
 have:=h2.2.2
 rwa [show((x.toNat:Nat):Int)=x by omega] at this
theorem head_P {l l':List SProc}{i:Int}{q:SProc}(h:RW q)(hf:∀s,cf l' s=cf l s)(hh:(dM l i q).e=0):dM l' i (bf q)=okF:=by
 have hl:=h.t.len
 have ht:=h.r.t160
 have e2:bG (bf q)=true:=by
  have h1:bG q=true:=by
   unfold dM at hh
   split at hh
   ·cases hh
   ·rename_i h1;simp only [Bool.not_eq_false,Bool.and_eq_true] at h1;exact h1.1
  unfold bG at h1 ⊢
  rw [h.sl,RW.tl]
  simp only [Bool.and_eq_true,decide_eq_true_eq] at h1 ⊢
  exact⟨h1.1,h1.2.1,h1.2.2.1,h1.2.2.2.1,by omega⟩
 unfold dM at hh ⊢
 split at hh
 ·cases hh
 ·rename_i h1
  split at hh
  ·cases hh
  ·rename_i h2
   simp only [Bool.not_eq_false,Bool.and_eq_true] at h1
   rw [e2,show(bf q).params=q.params from rfl,h1.2,if_neg dq,show(bf q).name=q.name from rfl,hf,if_neg h2]
theorem names_P {p:SProg}(h:(bJ p).e=0):(p.procs.map bU).map (·.name)=p.procs.map (·.name):=by
 rw [List.map_map];rfl
theorem zB {p:SProg}(h:(bJ p).e=0)(s:Str):cf (p.procs.map bU) s=cf p.procs s:=by
 unfold cf;rw [names_P h]
theorem ED (l:List SProc)(k:Int):(lR (l.map bU) k).params.length=(lR l k).params.length:=by
 unfold lR
 rw [List.getElem?_map]
 cases l[k.toNat]? <;>rfl
theorem calls_P {p:SProg}(h:(bJ p).e=0)(s:Str)(n:Int):br (p.procs.map bU) s n=br p.procs s n:=by
 unfold br;rw [zB h,ED]
theorem A6 {p:SProg}(h:(bJ p).e=0):bJ (dn p)=okF:=by
 obtain⟨g0,g1,g2,g3⟩:=ii h
 have hq:(dn p).procs=p.procs.map bU:=by rw [dS h]
 have hpr:(dn p).protos=p.protos.map SProto.bare:=by rw [dS h]
 have hlo:(dn p).locals=p.locals.map SLocal.bare:=by rw [dS h]
 have b0:gk (dn p)=gk p:=by
  have h1:(p.protos.map SProto.bare).all cy=p.protos.all cy:=by rw [List.all_map];congr 1;funext x;exact AJ x
  have h2:(p.locals.map SLocal.bare).all (fun l=>bP l&&aH l.name)=p.locals.all (fun l=>bP l&&aH l.name):=by rw [List.all_map];congr 1;funext x;show(bP x.bare&&aH x.name)=_;rw [pH]
  unfold gk
  rw [hq,hpr,hlo,List.length_map,List.length_map,List.length_map,h1,h2]
 have key:∀(j:Nat) (x:SProc),(dn p).procs[j]? =some x→∃q,p.procs[j]? =some q∧x=bf q∧(aS p.procs j q).e=0:=fun j x hx=>by
  rw [hq,List.getElem?_map] at hx
  cases hy:p.procs[j]? with
  | none=>rw [hy] at hx;cases hx
  | some q=>
   rw [hy] at hx
   refine⟨q,rfl,?_,?_⟩
   ·rw [f3 h q (List.mem_of_getElem? hy)];exact(Option.some.inj hx).symm
   ·have:=(f2.1 g1) j q hy
    rwa [Int.zero_add] at this
 have hs:∀(j:Nat) (x:SProc),(dn p).procs[j]? =some x→aS (dn p).procs j x=okF:=fun j x hx=>by
  obtain⟨q,hy,rfl,hh⟩:=key j x hx
  obtain⟨hW,hnd⟩:=AC hh
  have hd:(dM p.procs j q).e=0:=by
   unfold aS at hh
   split at hh
   ·assumption
   ·rename_i h2;simpa using h2
  unfold aS
  rw [head_P hW (fun s=>by rw [hq];exact zB h s) hd,if_neg dq]
  exact hW.shape j hnd
 refine EN ?_ (by rw [b0];exact g0) ?_ ?_
 ·refine f2.2 (fun j x hx=>?_)
  have hx2:=hs j x hx
  obtain⟨q,hy,rfl,hh⟩:=key j x hx
  obtain⟨hW,_⟩:=AC hh
  have hR:RefOk (bf q):=u7 (l:=(dn p).procs) (i:=j) (by rw [hx2];rfl)
  have:=(f2.1 g3) j q hy
  rw [hW.sense hR hpr (fun s n=>by rw [hq];exact calls_P h s n) this];rfl
 ·refine f2.2 (fun j x hx=>?_)
  rw [Int.zero_add,hs j x hx];rfl
 ·have:fT (dn p).procs=fT p.procs:=by
   unfold fT
   rw [hq,zB h,ED]
  rw [this];exact g2
theorem riseS_b (p:SProg):dn p.bare=dn p:=by
 by_cases he:(bJ p).e=0
 ·have he8:(bJ p.bare).e=0:=by rw [vG];exact he
  rw [dS he,dS he8]
  have h1:p.bare.procs.map bU=p.procs.map bU:=by
   rw [show p.bare.procs.map bU=p.bare.procs.map bf from List.map_congr_left (fun q hq=>(f3 he8 q hq).symm),show p.procs.map bU=p.procs.map bf from List.map_congr_left (fun q hq=>(f3 he q hq).symm)]
   show(p.procs.map SProc.bare).map bf=_
   rw [List.map_map]
   exact List.map_congr_left (fun q _=>riseP_b q)
  rw [h1]
  show(⟨(p.protos.map SProto.bare).map SProto.bare,(none,0),(p.locals.map SLocal.bare).map SLocal.bare,(none,0),p.procs.map bU,(none,0)⟩:SProg)=_
  rw [List.map_map,List.map_map]
  congr 1
  ·exact List.map_congr_left (fun x _=>pt_bb x)
  ·exact List.map_congr_left (fun x _=>lo_bb x)
 ·have he8:¬(bJ p.bare).e=0:=by rw [vG];exact he
  rw [← mz he,← mz he8]
theorem DM {p:SProg}(h:(bJ p).e=0):dn (dn p)=dn p:=by
 have hc:(bJ (dn p)).e=0:=by rw [A6 h];rfl
 rw [dS hc,dS h]
 have h1:(p.procs.map bU).map bU=p.procs.map bU:=by
  have e:p.procs.map bU=p.procs.map bf:=List.map_congr_left (fun q hq=>(f3 h q hq).symm)
  have hc2:∀x∈p.procs.map bU,bf x=bU x:=fun x hx=>f3 hc x (by rw [dS h];exact hx)
  rw [show(p.procs.map bU).map bU=(p.procs.map bU).map bf from List.map_congr_left (fun q hq=>(hc2 q hq).symm),e,List.map_map]
  refine List.map_congr_left (fun q hq=>?_)
  obtain⟨j,hj⟩:=nN _ _ (ii h).2.1 q hq
  exact(AC hj).1.own
 rw [h1]
 dsimp only
 rw [List.map_map,List.map_map]
 congr 1
 ·exact List.map_congr_left (fun x _=>pt_bb x)
 ·exact List.map_congr_left (fun x _=>lo_bb x)
theorem yB {p r:SProg}(hr:r.bare=dn p)(h:(bJ p).e=0):bJ r=okF:=by rw [← vG,hr];exact A6 h
theorem qP {p r r2:SProg}(hr:r.bare=dn p)(hr2:r2.bare=dn r)(h:(bJ p).e=0):r2.bare=r.bare:=by
 rw [hr2,← riseS_b,hr];exact DM h
theorem qQ {p r:SProg}(hr:r.bare=dn p)(h:(bJ p).e=0):r.procs.map SProc.bare=p.procs.map bf:=by
 have e:r.bare.procs=r.procs.map SProc.bare:=rfl
 rw [← e,hr,dS h]
 exact List.map_congr_left (fun q hq=>(f3 h q hq).symm)
theorem BC {p r:SProg}(hr:r.bare=dn p)(h:(bJ p).e=0):r.procs.length=p.procs.length:=by
 have:=congrArg List.length (qQ hr h)
 simpa using this
theorem rise_at {p r : SProg} (hr : r.bare = dn p) (h : (bJ p).e = 0) {k : Int} {q q' : SProc} (k0 : 0 ≤ k) (hq : p.procs[k.toNat]? = some q) (hq' : r.procs[k.toNat]? = some q') : q'.steps.length = q.steps.length ∧ q'.terms.length ≤ q.terms.length ∧ cf r.procs q.name = k := by
 have e := qQ hr h
 have e1 : q'.bare = bf q := by
  have h1 : (r.procs.map SProc.bare)[k.toNat]? = (p.procs.map bf)[k.toNat]? := by rw [e]
  rw [List.getElem?_map, List.getElem?_map, hq, hq'] at h1
  exact Option.some.inj h1
 have hh : (aS p.procs k q).e = 0 := by
  have := (f2.1 (ii h).2.1) k.toNat q hq
  rwa [Int.zero_add, show ((k.toNat : Nat) : Int) = k by omega] at this
 obtain ⟨hW, _⟩ := AC hh
 refine ⟨?_, ?_, ?_⟩
 ·have h1 : q'.bare.steps.length = (bf q).steps.length := by rw [e1]
  rw [hW.sl] at h1
  have h2 : q'.bare.steps = q'.steps.map SStep.bare := rfl
  rw [h2, List.length_map] at h1
  exact h1
 ·have h1 : q'.bare.terms.length = (bf q).terms.length := by rw [e1]
  rw [RW.tl] at h1
  have h2 : q'.bare.terms = q'.terms := rfl
  rw [h2] at h1
  have := hW.t.len
  omega
 ·have e2 : cf r.procs q.name = cf p.procs q.name := by
   unfold cf
   have : r.procs.map (·.name) = p.procs.map (·.name) := by
    have h1 : (r.procs.map SProc.bare).map (·.name) = (p.procs.map bf).map (·.name) := by rw [e]
    rw [List.map_map, List.map_map] at h1
    exact h1
   rw [this]
  rw [e2]
  have hd : (dM p.procs k q).e = 0 := by
   unfold aS at hh
   split at hh
   ·assumption
   ·rename_i h2; simpa using h2
  have hlt : ¬ cf p.procs q.name < k := by
   unfold dM at hd
   split at hd
   ·cases hd
   ·split at hd
    ·cases hd
    ·rename_i h2
     intro hl
     rw [decide_eq_true hl] at h2
     exact h2 rfl
  have hin : q.name ∈ p.procs.map (·.name) := List.mem_map.2 ⟨q, List.mem_of_getElem? hq, rfl⟩
  have h0 : 0 ≤ cf p.procs q.name := qZ.2 hin
  rcases Int.lt_or_le k (cf p.procs q.name) with hk | hk
  ·exfalso
   -- the first place of the name is not behind k
   have : ∀ (l : List Str) (s : Str) (i : Nat), l[i]? = some s → ci l s ≤ i := by
    intro l s i hi
    have hm : s ∈ l := List.mem_of_getElem? hi
    obtain ⟨i0, hi0, hmin⟩ : ∃ i0 : Nat, l[i0]? = some s ∧ ∀ j : Nat, j < i0 → l[j]? ≠ some s := by
     clear hm
     induction i using Nat.strongRecOn with
     | ind i ih =>
      by_cases hex : ∃ j, j < i ∧ l[j]? = some s
      ·obtain ⟨j, hj, hjs⟩ := hex
       exact ih j hj hjs
      ·exact ⟨i, hi, fun j hj e => hex ⟨j, hj, e⟩⟩
    by_cases hle : i0 ≤ i
    ·rw [dG (k := i0) omq (by simpa using hi0) (fun j hj => hmin j omq)]; omega
    ·exact absurd hi (hmin i omq)
   have h1 := this (p.procs.map (·.name)) q.name k.toNat (by rw [List.getElem?_map, hq]; rfl)
   unfold cf at hk
   omega
  ·unfold cf at *
   omega
theorem DN {p r:SProg}(hr:r.bare=dn p)(h:¬(bJ p).e=0):r.procs.length=0∧r.protos.length=0:=by
 rw [← mz h] at hr
 have h1:r.bare.procs.length=0:=by rw [hr];rfl
 have h2:r.bare.protos.length=0:=by rw [hr];rfl
 have e1:r.bare.procs=r.procs.map SProc.bare:=rfl
 have e2:r.bare.protos=r.protos.map SProto.bare:=rfl
 rw [e1,List.length_map] at h1
 rw [e2,List.length_map] at h2
 exact⟨h1,h2⟩
end Go.Sx
namespace Go.Sx
open Go Go.Proofs
theorem ki {H:Hp}(c:UInt8):
  FnS Tryz.prog 136 [.int .u8 (c.toNat:Int)] H (.bool (fh c)):=by
 refine FnS.enter Tryz.func136 Tryz.ntmps136 rfl rfl (fun w0=>?_)
 refine kS ?_;refine im ?_
 refine aj (s:=5) rfl ?_ ?_<;>intro g5
 ·
  have q5:=of_decide_eq_true g5
  refine xi ?_
  exact aR (.inr rfl) (ad rfl (RVal.tmp rfl)) ⟨congrArg Value.bool (by simp [fh,g5]),rfl⟩
 have q5:=of_decide_eq_false g5
 refine ji ?_;refine fQ ?_
 exact aR (.inr rfl) (ad rfl (RVal.tmp rfl)) ⟨congrArg Value.bool (by simp [fh,g5]),rfl⟩
theorem zn {H:Hp}(c:UInt8):
  FnS Tryz.prog 138 [.int .u8 (c.toNat:Int)] H (.bool (jC c)):=by
 refine FnS.enter Tryz.func138 Tryz.ntmps138 rfl rfl (fun w0=>?_)
 refine kS ?_;refine im ?_
 refine aj (s:=5) rfl ?_ ?_<;>intro g5
 ·
  have q5:=of_decide_eq_true g5
  refine xi ?_
  exact aR (.inr rfl) (ad rfl (RVal.tmp rfl)) ⟨congrArg Value.bool (by simp [jC,g5]),rfl⟩
 have q5:=of_decide_eq_false g5
 refine ji ?_;refine fQ ?_
 exact aR (.inr rfl) (ad rfl (RVal.tmp rfl)) ⟨congrArg Value.bool (by simp [jC,g5]),rfl⟩
theorem mJ {H:Hp}(s:Str):
  FnS Tryz.prog 137 [gs s] H (.bool (eH s)):=by
 refine FnS.enter Tryz.func137 Tryz.ntmps137 rfl rfl (fun w0=>?_)
 refine jR ?_
 refine bY (kw1 s) 4 [(2,_),(3,_)] ⟨rfl,rfl,trivial⟩ ?_ ?_
 ·
  refine Ao ?_;refine zN ?_
  exact eX (bW rfl rfl rfl) rfl rfl ⟨rfl,rfl,trivial⟩
 refine TC.cond rfl ?_ ?_<;>intro c4
 ·
  refine pd ?_
  exact aR (.inr rfl) (ad rfl (RVal.tmp rfl)) ⟨congrArg Value.bool (by simp_all [eH]),rfl⟩
 refine bY (kw2 s) 18 [(2,_),(3,_)] ⟨rfl,rfl,trivial⟩ ?_ ?_
 ·
  refine Ao ?_;refine zN ?_
  exact eX (bW rfl rfl rfl) rfl rfl ⟨rfl,rfl,trivial⟩
 refine TC.cond rfl ?_ ?_<;>intro c18
 ·
  refine pd ?_
  exact aR (.inr rfl) (ad rfl (RVal.tmp rfl)) ⟨congrArg Value.bool (by simp_all [eH]),rfl⟩
 refine bY (kw3 s) 32 [(2,_)] ⟨rfl,trivial⟩ ?_ ?_
 ·
  refine Df ?_;refine CS ?_
  exact eX (bW rfl rfl rfl) rfl rfl ⟨rfl,trivial⟩
 refine TC.cond rfl ?_ ?_<;>intro c32
 ·
  refine pd ?_
  exact aR (.inr rfl) (ad rfl (RVal.tmp rfl)) ⟨congrArg Value.bool (by simp_all [eH]),rfl⟩
 refine xh ?_
 exact aR (.inr rfl) (ad rfl (RVal.tmp rfl)) ⟨congrArg Value.bool (by simp_all [eH]),rfl⟩
theorem Ej {H:Hp}(s:Str)(hmax:s.length≤9223372036854775807):
  FnS Tryz.prog 79 [gs s] H (.bool (aH s)):=by
 refine FnS.enter Tryz.func79 Tryz.ntmps79 rfl rfl (fun w0=>?_)
 refine n9 ?_;refine TL.run (em rfl rfl) rfl (zm3 ?_)
 refine aj (s:=7) rfl ?_ ?_<;>intro g7
 · exact zq42
 have q7:=of_decide_eq_false g7
 refine cQ ?_;refine az rfl rfl (em rfl rfl) rfl (dg ?_)
 refine aj (s:=12) rfl ?_ ?_<;>intro g12
 ·
  have q12:=of_decide_eq_true g12
  exact zq44
 have q12:=of_decide_eq_false g12
 refine cQ ?_
 have hlen:(0:Int)<s.length:=by have:=of_decide_eq_false g7;omega
 obtain⟨c0,hc0⟩:=al (l:=s) (i:=0) omq hlen
 refine az rfl rfl (gg rfl rfl omq hc0) rfl (aM rfl rfl (ab rfl rfl rfl rfl) (ki c0) rfl (dg ?_))
 refine aj (s:=18) rfl ?_ ?_<;>intro g18
 · exact zq50
 refine cQ ?_;refine aM rfl rfl (ab rfl rfl rfl rfl) (mJ s) rfl (zm1 ?_)
 refine TC.cond rfl ?_ ?_<;>intro c21
 · exact zq56
 have hn:=nF g7 g12 hc0 g18 c21
 exact zq0
theorem oN {H:Hp}(c:UInt8):
  FnS Tryz.prog 99 [.int .u8 (c.toNat:Int)] H (.bool (fh c)):=by
 refine FnS.enter Tryz.func99 Tryz.ntmps99 rfl rfl (fun w0=>?_)
 refine kS ?_;refine im ?_
 refine aj (s:=5) rfl ?_ ?_<;>intro g5
 ·
  have q5:=of_decide_eq_true g5
  refine xi ?_
  exact aR (.inr rfl) (ad rfl (RVal.tmp rfl)) ⟨congrArg Value.bool (by simp [fh,g5]),rfl⟩
 have q5:=of_decide_eq_false g5
 refine ji ?_;refine fQ ?_
 exact aR (.inr rfl) (ad rfl (RVal.tmp rfl)) ⟨congrArg Value.bool (by simp [fh,g5]),rfl⟩
theorem y7 {H:Hp}(c:UInt8):
  FnS Tryz.prog 101 [.int .u8 (c.toNat:Int)] H (.bool (jC c)):=by
 refine FnS.enter Tryz.func101 Tryz.ntmps101 rfl rfl (fun w0=>?_)
 refine kS ?_;refine im ?_
 refine aj (s:=5) rfl ?_ ?_<;>intro g5
 ·
  have q5:=of_decide_eq_true g5
  refine xi ?_
  exact aR (.inr rfl) (ad rfl (RVal.tmp rfl)) ⟨congrArg Value.bool (by simp [jC,g5]),rfl⟩
 have q5:=of_decide_eq_false g5
 refine ji ?_;refine fQ ?_
 exact aR (.inr rfl) (ad rfl (RVal.tmp rfl)) ⟨congrArg Value.bool (by simp [jC,g5]),rfl⟩
theorem u9 {H:Hp}(s:Str):
  FnS Tryz.prog 100 [gs s] H (.bool (eH s)):=by
 refine FnS.enter Tryz.func100 Tryz.ntmps100 rfl rfl (fun w0=>?_)
 refine jR ?_
 refine bY (rkw1 s) 4 [(2,_),(3,_)] ⟨rfl,rfl,trivial⟩ ?_ ?_
 ·
  refine Ao ?_;refine Ao ?_
  exact cz (bW rfl rfl rfl) rfl rfl ⟨rfl,rfl,trivial⟩ (cz (bW rfl rfl rfl) rfl rfl ⟨rfl,rfl,trivial⟩ (cz (bW rfl rfl rfl) rfl rfl ⟨rfl,rfl,trivial⟩ (eX (bW rfl rfl rfl) rfl rfl ⟨rfl,rfl,trivial⟩)))
 refine TC.cond rfl ?_ ?_<;>intro c4
 ·
  refine pd ?_
  exact aR (.inr rfl) (ad rfl (RVal.tmp rfl)) ⟨congrArg Value.bool (by simp_all [← y5]),rfl⟩
 refine bY (rkw2 s) 25 [(2,_)] ⟨rfl,trivial⟩ ?_ ?_
 · refine Df ?_;refine Df ?_;exact cz (bW rfl rfl rfl) rfl rfl ⟨rfl,trivial⟩ (cz (bW rfl rfl rfl) rfl rfl ⟨rfl,trivial⟩ (eX (bW rfl rfl rfl) rfl rfl ⟨rfl,trivial⟩))
 refine TC.cond rfl ?_ ?_<;>intro c25
 ·
  refine pd ?_
  exact aR (.inr rfl) (ad rfl (RVal.tmp rfl)) ⟨congrArg Value.bool (by simp_all [← y5]),rfl⟩
 refine xh ?_
 exact aR (.inr rfl) (ad rfl (RVal.tmp rfl)) ⟨congrArg Value.bool (by simp_all [← y5]),rfl⟩
end Go.Sx
