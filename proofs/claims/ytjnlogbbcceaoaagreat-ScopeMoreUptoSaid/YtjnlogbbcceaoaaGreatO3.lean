import Derived.Test.YtjnlogbbcceaoaaGreatO2
import Derived.Maps.Own
import Derived.Laws.StructEq
import Derived.Test.YtjnlogbbcceaoaaGreatProg
import Derived.Test.YtjnlogbbcceaoaaGreatRows
set_option linter.all false
set_option maxRecDepth 100000
set_option maxHeartbeats 32000000
namespace Go.Sx
open Go
theorem zk {x:Int}(h0: -1000000000≤x)(h1:x≤1000000000):IntKind.i64.wrap x=x:=by
 simp only [IntKind.wrap,IntKind.signed,IntKind.bits];simp;omega
theorem zn {c:List Int}{t j x:Int}(h0:0≤t)(h1:t<c.length)(hj:0≤j):bS (c.set t.toNat x) j=if j=t then x else bS c j:=by
 unfold bS
 rw [List.getElem?_set]
 by_cases e:j=t
 ·subst e;rw [if_pos rfl,if_pos rfl,if_pos om];rfl
 ·rw [if_neg om,if_neg e]
theorem jn {n at_:Int}:∀{L:List Int} {c d c2 d2:List Int},cG n at_ L c d=some (c2,d2)→(n=c.length)→0≤at_→(∀j:Int,0≤bS c j∧bS c j+L.length≤1000000)→
  c2.length=c.length∧∀j:Int,0≤j→bS c2 j=bS c j+L.count j
 | [],c,d,c2,d2,h,hn,h0,hb=>by
  simp only [cG,Option.some.injEq,Prod.mk.injEq] at h
  obtain⟨rfl,rfl⟩:=h
  exact⟨rfl,fun j _=>by simp⟩
 | t::r,c,d,c2,d2,h,hn,h0,hb=>by
  rw [cG] at h
  split at h
  ·cases h
  ·rename_i ht
   have hw:IntKind.i64.wrap (bS c t+1)=bS c t+1:=by
    have:=hb t
    simp only [List.length_cons] at this
    exact zk om om
   have hg:∀j:Int,0≤j→bS (n8 c t) j=if j=t then bS c t+1 else bS c j:=fun j hj=>by
    unfold n8;rw [hw];exact zn om om hj
   have hneg:∀(c:List Int) (j:Int),¬0≤j→bS c j=bS c 0:=fun c j hj=>by unfold bS;rw [show j.toNat=0 by omega];rfl
   have:=jn h (by rw [q3];exact hn) h0 (fun j=>by
    have h1:=hb j
    have h2:=hb t
    simp only [List.length_cons] at h1 h2
    by_cases hj:0≤j
    ·rw [hg j hj];split<;>omega
    ·rw [hneg _ j hj,hg 0 om]
     have h3:=hb 0
     simp only [List.length_cons] at h3
     split<;>omega)
   obtain⟨h1,h2⟩:=this
   refine⟨by rw [h1,q3],fun j hj=>?_⟩
   rw [h2 j hj,hg j hj,List.count_cons]
   by_cases e:j=t
   ·subst e;simp;omega
   ·rw [if_neg e,if_neg (by simpa using fun h=>e h.symm)];simp
abbrev zQ (q:SProc):List Int:=q.steps.flatMap aT
theorem ws {q:SProc}{k:Nat}{s:SStep}(h:q.steps[k]? =some s):(q.steps.take (k+1)).flatMap aT=(q.steps.take k).flatMap aT++aT s:=by
 rw [List.take_add_one,h,List.flatMap_append];simp
theorem tC (s:SStep)(h:gv s=true):(aT s).length≤7:=by
 have:=(fF h).1
 unfold aT;split<;>simp<;>omega
theorem zp {q:SProc}(hS:cj q):∀k:Nat,k≤q.steps.length→((q.steps.take k).flatMap aT).length≤7 * k
 | 0,_=>by simp
 | k+1,h=>by
  have hx:=List.getElem?_eq_getElem (l:=q.steps) (i:=k) om
  have:=zp hS k om
  have:=tC _ (hS k _ hx).1
  rw [ws hx,List.length_append];omega
theorem oM {q:SProc}{i:Int}(hS:cj q)(hn:q.steps.length≤80):∀(l:List SStep) (k:Nat) (c d:List Int) (u:List Bool),l=q.steps.drop k→bH q i l k c d u=okF→c.length=q.steps.length→
  (∀j:Int,0≤j→bS c j=(((q.steps.take k).flatMap aT).count j:Int))→∀x:Nat,k≤x→x<q.steps.length→0<x→((q.steps.take x).flatMap aT).count (x:Int)=1:=by
 intro l
 induction l with
 | nil=>
  intro k c d u hl _ _ _ x hx hx2
  have h2:(q.steps.drop k).length=0:=by rw [← hl];rfl
  rw [List.length_drop] at h2;omega
 | cons s r ih=>
  intro k c d u hl h hc hcc x hkx hxn hx0
  have hx:q.steps[k]? =some s:=by
   have h1:(q.steps.drop k)[0]? =some s:=by rw [← hl];rfl
   rwa [List.getElem?_drop,Nat.add_zero] at h1
  have hr:r=q.steps.drop (k+1):=by
   have h1:(q.steps.drop k).drop 1=r:=by rw [← hl];rfl
   rw [← h1,List.drop_drop]
  rw [bH] at h
  split at h
  ·cases h
  ·split at h
   ·cases h
   ·rename_i hm ht
    split at h
    ·cases h
    ·rename_i c2 d2 hng
     split at h
     ·cases h
     ·split at h
      ·cases h
      ·rename_i u2 _
       rcases Nat.lt_or_ge k x with hlt | hge
       ·have hbd:=zp hS k om
        have hnl:=tC _ (hS k _ hx).1
        have hneg:∀(c:List Int) (j:Int),¬0≤j→bS c j=bS c 0:=fun c j hj=>by unfold bS;rw [show j.toNat=0 by omega];rfl
        have hcl:∀j:Int,((q.steps.take k).flatMap aT).count j≤7 * k:=fun j=>Nat.le_trans List.count_le_length hbd
        obtain⟨e1,e2⟩:=jn hng (by rw [hc]) om (fun j=>by
         by_cases hj:0≤j
         ·rw [hcc j hj];have:=hcl j;omega
         ·rw [hneg _ _ hj,hcc 0 om];have:=hcl 0;omega)
        exact ih (k+1) c2 d2 u2 hr h (by rw [e1,hc]) (fun j hj=>by rw [e2 j hj,hcc j hj,ws hx,List.count_append];omega) x hlt hxn hx0
       ·have:x=k:=by omega
        subst this
        have h1:=hcc x om
        have h2:bS c x=1:=by
         by_cases e:bS c x=1
         ·exact e
         ·exact absurd ⟨by omega,e⟩ ht
        omega
theorem uC {n:Nat}{j:Int}:bS (List.replicate n (0:Int)) j=0:=by
 unfold bS;rw [List.getElem?_replicate];split<;>rfl
theorem sO {q:SProc}{i:Int}(hS:cj q)(hn:q.steps.length≤80)(h:gc i q=okF)(x:Nat)(hx:x<q.steps.length)(h0:0<x):((q.steps.take x).flatMap aT).count (x:Int)=1:=
 oM hS hn _ 0 _ _ _ rfl h sq (fun j _=>by rw [uC];simp) x (Nat.zero_le _) hx h0
theorem u5 {q:SProc}(hS:cj q)(x:Nat):((q.steps.drop x).flatMap aT).count (x:Int)=0:=by
 rw [List.count_eq_zero]
 intro hm
 obtain⟨s,hs,ht⟩:=List.mem_flatMap.1 hm
 obtain⟨j,hj⟩:=List.mem_iff_getElem?.1 hs
 rw [List.getElem?_drop] at hj
 have:=(hS _ _ hj).2 _ ht
 omega
def jK (q:SProc):Prop:=∀x:Nat,0<x→x<q.steps.length→(zQ q).count (x:Int)=1
theorem uv {q:SProc}{i:Int}(hS:cj q)(hn:q.steps.length≤80)(h:gc i q=okF):jK q:=fun x h0 hx=>by
 have h1:=sO hS hn h x hx h0
 have h2:=u5 hS x
 unfold zQ
 rw [← List.take_append_drop x q.steps,List.flatMap_append,List.count_append,h1,h2]
def Par (q:SProc)(p x:Int):Prop:=0≤p∧∃s,q.steps[p.toNat]? =some s∧x∈aT s
theorem qH {q:SProc}(hS:cj q){p x:Int}(h:Par q p x):p<x∧x<q.steps.length:=by
 obtain⟨h0,s,hs,hx⟩:=h
 have:=(hS _ _ hs).2 _ hx
 omega
theorem oR {q:SProc}{p:Nat}{s:SStep}{x:Int}(hs:q.steps[p]? =some s):((aT s).count x)≤(zQ q).count x:=by
 unfold zQ
 have h1:=List.getElem?_eq_some_iff.1 hs
 rw [← List.take_append_drop p q.steps,List.flatMap_append,List.count_append,List.drop_eq_getElem_cons h1.1,List.flatMap_cons,List.count_append,h1.2]
 omega
theorem tu {q:SProc}(hS:cj q)(hT:jK q){p p' x:Int}(h:Par q p x)(h':Par q p' x):p=p':=by
 have hl:=qH hS h
 have key:∀{p p':Int},Par q p x→Par q p' x→p<p'→False:=by
  intro p p' h h' hlt
  have hl:=qH hS h
  have hl2:=qH hS h'
  obtain⟨h0,s,hs,hx⟩:=h
  obtain⟨h0',s',hs',hx'⟩:=h'
  have h1:=hT x.toNat om om
  rw [show((x.toNat:Nat):Int)=x by omega] at h1
  unfold zQ at h1
  have hg:=List.getElem?_eq_some_iff.1 hs'
  rw [← List.take_append_drop p'.toNat q.steps,List.flatMap_append,List.count_append,List.drop_eq_getElem_cons hg.1,List.flatMap_cons,List.count_append,hg.2] at h1
  have h2:0<(aT s').count x:=List.count_pos_iff.2 hx'
  have h3:0<((q.steps.take p'.toNat).flatMap aT).count x:=List.count_pos_iff.2 (List.mem_flatMap.2 ⟨s,List.mem_iff_getElem?.2 ⟨p.toNat,by rw [List.getElem?_take,if_pos om];exact hs⟩,hx⟩)
  omega
 rcases Int.lt_trichotomy p p' with h1 | h1 | h1
 ·exact(key h h' h1).elim
 ·exact h1
 ·exact(key h' h h1).elim
theorem tB {q:SProc}(hS:cj q)(hT:jK q){p:Nat}{s:SStep}(hs:q.steps[p]? =some s):(aT s).Nodup:=by
 rw [List.nodup_iff_count]
 intro x
 by_cases hx:x∈aT s
 ·have h1:=(hS _ _ hs).2 _ hx
  have h2:=hT x.toNat om om
  rw [show((x.toNat:Nat):Int)=x by omega] at h2
  have:=oR (x:=x) hs
  omega
 ·rw [List.count_eq_zero.2 hx];omega
inductive Anc (q:SProc):Int→Int→Prop
 | refl (a:Int):Anc q a a
 | step {a p x:Int}:Anc q a p→Par q p x→Anc q a x
theorem q4 {q:SProc}(hS:cj q){a x:Int}(h:Anc q a x):a≤x:=by
 induction h with
 | refl=>omega
 | step _ hp ih=>have:=qH hS hp;omega
theorem anc_lin {q:SProc}(hS:cj q)(hT:jK q){a b x:Int}(h:Anc q a x)(h':Anc q b x):Anc q a b∨Anc q b a:=by
 induction h with
 | refl=>exact .inr h'
 | @step p x ha hp ih=>
  cases h' with
  | refl=>exact .inl (.step ha hp)
  | @step p' _ hb hp'=>
   have:=tu hS hT hp hp'
   subst this
   exact ih hb
theorem xJ {q:SProc}{a b c:Int}(h:Anc q a b)(h':Anc q b c):Anc q a c:=by
 induction h' with
 | refl=>exact h
 | step _ hp ih=>exact .step ih hp
def kv (q:SProc):Nat→Int→List Int
 | 0,_=>[]
 | f+1,at_=>match q.steps[at_.toNat]? with
  | none=>[]
  | some s=>at_::(aT s).flatMap (kv q f)
def jE (q:SProc):List Int:=kv q q.steps.length 0
theorem ordW_at {q:SProc}{f:Nat}{at_:Int}{s:SStep}(hs:q.steps[at_.toNat]? =some s):kv q (f+1) at_=at_::(aT s).flatMap (kv q f):=by rw [kv,hs]
theorem iW {q:SProc}(hS:cj q):∀(f:Nat) (a:Int),0≤a→∀x∈kv q f a,Anc q a x∧x<q.steps.length
 | 0,_,_,x,h=>by cases h
 | f+1,a,h0,x,h=>by
  rw [kv] at h
  split at h
  ·cases h
  ·rename_i s hs
   rcases List.mem_cons.1 h with rfl | h
   ·exact⟨.refl _,by have:=(List.getElem?_eq_some_iff.1 hs).1;omega⟩
   ·obtain⟨t,ht,hx⟩:=List.mem_flatMap.1 h
    have h1:=(hS _ _ hs).2 _ ht
    obtain⟨h2,h3⟩:=iW hS f t om x hx
    exact⟨xJ (.step (.refl a) ⟨h0,s,hs,ht⟩) h2,h3⟩
theorem jm {α β:Type}{R:β→β→Prop}{f:α→List β}:∀{l:List α},(∀a∈l,(f a).Pairwise R)→l.Pairwise (fun a b=>∀x∈f a,∀y∈f b,R x y)→(l.flatMap f).Pairwise R
 | [],_,_=>List.Pairwise.nil
 | a::l,h,hp=>by
  rw [List.flatMap_cons,List.pairwise_append]
  obtain⟨h1,h2⟩:=List.pairwise_cons.1 hp
  refine⟨h a sq,jm (fun b hb=>h b (by simp [hb])) h2,fun x hx y hy=>?_⟩
  obtain⟨b,hb,hy⟩:=List.mem_flatMap.1 hy
  exact h1 b hb x hx y hy
theorem gO {α:Type}{R S:α→α→Prop}:∀{l:List α},(∀a∈l,∀b∈l,R a b→S a b)→l.Pairwise R→l.Pairwise S
 | [],_,_=>List.Pairwise.nil
 | a::l,h,hp=>by
  obtain⟨h1,h2⟩:=List.pairwise_cons.1 hp
  exact List.pairwise_cons.2 ⟨fun b hb=>h a sq b (by simp [hb]) (h1 b hb),gO (fun x hx y hy=>h x (by simp [hx]) y (by simp [hy])) h2⟩
theorem p7 {q:SProc}(hS:cj q)(hT:jK q):∀(f:Nat) (a:Int),0≤a→(kv q f a).Nodup
 | 0,_,_=>List.Pairwise.nil
 | f+1,a,h0=>by
  rw [kv]
  split
  ·exact List.Pairwise.nil
  ·rename_i s hs
   have hch:∀t∈aT s,a<t∧t<q.steps.length:=fun t ht=>by have:=(hS _ _ hs).2 _ ht;omega
   refine List.nodup_cons.2 ⟨fun hm=>?_,jm (fun t ht=>p7 hS hT f t (by have:=hch t ht;omega)) ?_⟩
   ·obtain⟨t,ht,hx⟩:=List.mem_flatMap.1 hm
    have h1:=hch t ht
    have:=q4 hS (iW hS f t om a hx).1
    omega
   ·refine gO (fun t ht t' ht' hne x hx y hy e=>?_) (tB hS hT hs)
    subst e
    have h1:=hch t ht
    have h2:=hch t' ht'
    have key:∀{t t':Int},t∈aT s→t'∈aT s→t≠t'→Anc q t t'→False:=by
     intro t t' ht ht' hne h
     cases h with
     | refl=>exact hne rfl
     | @step p _ hp hpar=>
      have:=tu hS hT hpar ⟨h0,s,hs,ht'⟩
      subst this
      have:=q4 hS hp
      have:=hch t ht
      omega
    rcases anc_lin hS hT (iW hS f t om x hx).1 (iW hS f t' om x hy).1 with h | h
    ·exact key ht ht' hne h
    ·exact key ht' ht (fun e=>hne e.symm) h
theorem nP:∀(n:Nat) (l:List Int),l.Nodup→(∀x∈l,0≤x∧x<n)→l.length≤n
 | 0,l,_,h=>by
  cases l with
  | nil=>simp
  | cons x l=>have:=h x sq;omega
 | n+1,l,hn,h=>by
  have h1:(l.filter (fun x=>decide (x≠(n:Int)))).length≤n:=nP n _ (hn.sublist List.filter_sublist) (fun x hx=>by
   obtain⟨h2,h3⟩:=List.mem_filter.1 hx
   have:=h x h2
   have h3:x≠(n:Int):=by simpa using h3
   omega)
  have h2:l.length≤(l.filter (fun x=>decide (x≠(n:Int)))).length+1:=by
   have h3:=List.length_eq_countP_add_countP (fun x=>decide (x≠(n:Int))) (l:=l)
   rw [List.countP_eq_length_filter] at h3
   have h4:List.countP (fun a=>decide ¬decide (a≠(n:Int))=true) l=l.count (n:Int):=by
    unfold List.count
    apply List.countP_congr
    intro x _
    simp
   have h5:l.count (n:Int)≤1:=List.nodup_iff_count.1 hn _
   omega
  omega
theorem ord_len {q:SProc}(hS:cj q)(hT:jK q)(f:Nat)(a:Int)(h0:0≤a):(kv q f a).length≤q.steps.length:=
 nP _ _ (p7 hS hT f a h0) (fun x hx=>by
  obtain⟨h1,h2⟩:=iW hS f a h0 x hx
  have:=q4 hS h1
  omega)
end Go.Sx
namespace Go.Sx
open Go
def ProcAt (H:Hp)(b:Nat)(q:SProc):Prop:=∀(j:Nat) v,q.cells[j]? =some v→H b j=some v
theorem ProcAt.le {H H':Hp}{b:Nat}{q:SProc}(h:ProcAt H b q)(hl:H.le H'):ProcAt H' b q:=fun j v hv=>hl _ _ _ (h j v hv)
def mvT (m:List Int)(t:Term):Term:={t with l:=if 0≤t.l then bS m t.l else t.l,r:=if 0≤t.r then bS m t.r else t.r}
abbrev RS:=List Int×List Term
def ei (ts:List Term):List Int→RS→RS
 | [],s=>s
 | k::r,s=>match ts[k.toNat]? with
  | none=>ei ts r s
  | some t=>ei ts r (s.1.set k.toNat s.2.length,s.2++[mvT s.1 t])
def eq (ts:List Term)(root:Int)(s:RS):RS:=ei ts (eJ ts root) s
def bf (ts:List Term):List Int→List Int→RS→List Int×RS
 | [],acc,s=>(acc,s)
 | root::r,acc,s=>bf ts r (acc++[bS (eq ts root s).1 root]) (eq ts root s)
def SCast.bare (c:SCast):SCast:={c with ap:=(none,0)}
def du (ts:List Term):List SCast→List SCast→RS→List SCast×RS
 | [],acc,s=>(acc,s)
 | c::r,acc,s=>du ts r (acc++[{c with args:=(bf ts c.args [] s).1,ap:=(none,0)}]) (bf ts c.args [] s).2
def gW (pl:List Int)(w:SWay):SWay:={w with next:=bS pl w.next}
def SStep.bare (s:SStep):SStep:={s with ap:=(none,0),casts:=s.casts.map SCast.bare,cp:=(none,0),wp:=(none,0)}
def dF (ts:List Term)(s:SStep)(st:RS):RS:=if 0≤s.term then eq ts s.term st else st
def dw (ts:List Term)(s:SStep)(st:RS):List Int×RS:=bf ts s.args [] (dF ts s st)
def iv (ts:List Term)(s:SStep)(st:RS):List SCast×RS:=du ts s.casts [] (dw ts s st).2
def iu (ts:List Term)(pl:List Int)(s:SStep)(st:RS):SStep:=
 {s with
  term:=if 0≤s.term then bS (dF ts s st).1 s.term else s.term
  args:=(dw ts s st).1
  ap:=(none,0)
  casts:=(iv ts s st).1
  cp:=(none,0)
  ways:=s.ways.map (gW pl)
  wp:=(none,0)
  next:=if iE s.kind=true then bS pl s.next else s.next}
def eH (q:SProc)(pl:List Int):List Int→List SStep→RS→List SStep×RS
 | [],acc,st=>(acc,st)
 | at_::r,acc,st=>match q.steps[at_.toNat]? with
  | none=>eH q pl r acc st
  | some s=>eH q pl r (acc++[iu q.terms pl s st]) (iv q.terms s st).2
def fA:List Int→Int→List Int→List Int
 | [],_,pl=>pl
 | at_::r,i,pl=>fA r (i+1) (pl.set at_.toNat i)
def bI (q:SProc):List Int:=fA (jE q) 0 (List.replicate q.steps.length 0)
def ko (q:SProc):SProc:=
 let r:=eH q (bI q) (jE q) [] (List.replicate q.terms.length 0,[])
 {name:=q.name,params:=q.params,pp:=(none,0),terms:=r.2.2,tp:=(none,0),steps:=r.1,sp:=(none,0)}
def SArms.bare (t:STurn):STurn:={t with ap:=(none,0)}
def SLocal.bare (l:SLocal):SLocal:={l with turns:=l.turns.map SArms.bare,tp:=(none,0)}
def SPoint.bare (p:SPoint):SPoint:={p with ap:=(none,0)}
def SProto.bare (p:SProto):SProto:={p with rp:=(none,0),points:=p.points.map SPoint.bare,pp:=(none,0)}
def SProc.bare (q:SProc):SProc:={q with pp:=(none,0),tp:=(none,0),steps:=q.steps.map SStep.bare,sp:=(none,0)}
def SProg.bare (p:SProg):SProg:={p with protos:=p.protos.map SProto.bare,rp:=(none,0),locals:=p.locals.map SLocal.bare,lp:=(none,0),procs:=p.procs.map SProc.bare,qp:=(none,0)}
def nilPg:SProg:=⟨[],(none,0),[],(none,0),[],(none,0)⟩
def nI (p:SProg):SProg:=
 if(bU p).e≠0 then nilPg
 else⟨p.protos.map SProto.bare,(none,0),p.locals.map SLocal.bare,(none,0),p.procs.map ko,(none,0)⟩
theorem l3 {ts:List Term}:∀{L:List Int} {u u2:List Bool},cY ts L u=some u2→∀t∈L,dH ts t=true
 | [],_,_,_,t,ht=>by cases ht
 | x::r,u,u2,h,t,ht=>by
  rw [cY] at h
  split at h
  ·cases h
  ·rename_i hm
   split at h
   ·cases h
   ·rcases List.mem_cons.1 ht with rfl | ht
    ·simpa using hm
    ·exact l3 h t ht
def wH (q:SProc):Prop:=∀(k:Nat) (s:SStep),q.steps[k]? =some s→∀t∈cq s,dH q.terms t=true
theorem oL {q:SProc}{i:Int}:∀(l:List SStep) (k:Nat) (c d:List Int) (u:List Bool),l=q.steps.drop k→bH q i l k c d u=okF→∀(j:Nat) (s:SStep),k≤j→q.steps[j]? =some s→∀t∈cq s,dH q.terms t=true:=by
 intro l
 induction l with
 | nil=>
  intro k c d u hl _ j s hj hs
  have h1:=(List.getElem?_eq_some_iff.1 hs).1
  have h2:(q.steps.drop k).length=0:=by rw [← hl];rfl
  rw [List.length_drop] at h2;omega
 | cons x r ih=>
  intro k c d u hl h j s hj hs
  have hx:q.steps[k]? =some x:=by
   have h1:(q.steps.drop k)[0]? =some x:=by rw [← hl];rfl
   rwa [List.getElem?_drop,Nat.add_zero] at h1
  have hr:r=q.steps.drop (k+1):=by
   have h1:(q.steps.drop k).drop 1=r:=by rw [← hl];rfl
   rw [← h1,List.drop_drop]
  rw [bH] at h
  split at h
  ·cases h
  ·split at h
   ·cases h
   ·split at h
    ·cases h
    ·rename_i c2 d2 hn
     split at h
     ·cases h
     ·split at h
      ·cases h
      ·rename_i u2 hro
       rcases Nat.lt_or_ge k j with hlt | hge
       ·exact ih (k+1) c2 d2 u2 hr (by rw [← h];rfl) j s hlt hs
       ·have:j=k:=by omega
        subst this
        rw [hx] at hs;cases hs
        exact l3 hro
theorem sR {q:SProc}{i:Int}(h:gc i q=okF):wH q:=fun k s hs=>oL _ 0 _ _ _ rfl h k s (Nat.zero_le _) hs
theorem yG {l:List Term}:∀{f:Nat} {a:Int},Tr l f a→a<l.length
 | 0,_,h=>h.elim
 | f+1,a,h=>by
  obtain⟨h0,t,ht,_⟩:=h
  have:=(List.getElem?_eq_some_iff.1 ht).1;omega
theorem nM {l:List Term}:∀(f:Nat) (a:Int),(a<0∨Tr l f a)→∀k∈ff l f a,∃t,l[k.toNat]? =some t∧0≤k∧t.l<l.length∧t.r<l.length
 | 0,_,_,k,h=>by cases h
 | f+1,a,h,k,hk=>by
  by_cases hn:a<0
  ·rw [iU hn] at hk;cases hk
  ·obtain⟨h0,t,hx,_,_,hl0,hl1,hr0,hr1⟩:=h.resolve_left hn
   have hlt:=(List.getElem?_eq_some_iff.1 hx).1
   have hL:t.l<0∨Tr l f t.l:=by
    rcases Int.lt_or_le (aH t.kind) 1 with h1 | h1
    ·exact .inl (by have:=hl1 h1;omega)
    ·exact .inr (hl0 h1)
   have hR:t.r<0∨Tr l f t.r:=by
    rcases Int.lt_or_le (aH t.kind) 2 with h1 | h1
    ·exact .inl (by have:=hr1 h1;omega)
    ·exact .inr (hr0 h1)
   rw [ku hn hx] at hk
   rcases List.mem_append.1 hk with hk | hk
   ·exact nM f _ hL k hk
   ·rcases List.mem_append.1 hk with hk | hk
    ·exact nM f _ hR k hk
    ·simp at hk;subst hk
     refine⟨t,hx,h0,?_,?_⟩
     ·rcases hL with h1 | h1
      ·omega
      ·exact yG h1
     ·rcases hR with h1 | h1
      ·omega
      ·exact yG h1
section
variable {ts:List Term}{L:List Int}{k x:Int}{t:Term}{m:List Int}{o:List Term}{N:RS}
theorem tg_next (k0:0≤k)(hx:L[k.toNat]? =some x)(ht:ts[x.toNat]? =some t)(h:N=ei ts (L.drop k.toNat) (m,o)):N=ei ts (L.drop (k+1).toNat) (m.set x.toNat o.length,o++[mvT m t]):=by
 rw [h,bu hx,ei,ht,show(k+1).toNat=k.toNat+1 by omega]
theorem tg_end (k0:0≤k)(hk:¬k<L.length)(h:N=ei ts (L.drop k.toNat) (m,o)):N=(m,o):=by
 rw [h,List.drop_of_length_le om];rfl
end
theorem jz {ts:List Term}:∀{L:List Int} {s:RS},(ei ts L s).1.length=s.1.length
 | [],_=>rfl
 | k::r,s=>by
  rw [ei];split
  ·exact jz
  ·rw [jz];simp
theorem it {ts:List Term}:∀{L:List Int} {s:RS},(ei ts L s).2.length≤s.2.length+L.length
 | [],_=>by simp [ei]
 | k::r,s=>by
  rw [ei];split
  ·have:=it (ts:=ts) (L:=r) (s:=s);simp only [List.length_cons];omega
  ·rename_i t _
   have:=it (ts:=ts) (L:=r) (s:=(s.1.set k.toNat s.2.length,s.2++[mvT s.1 t]))
   simp only [List.length_cons,List.length_append,List.length_nil] at *;omega
theorem kX {ts:List Term}{root:Int}{s:RS}:(eq ts root s).1.length=s.1.length:=jz
theorem jy {ts:List Term}{root:Int}{s:RS}(h:dH ts root=true):(eq ts root s).2.length≤s.2.length+33554432:=by
 have h1:=it (ts:=ts) (L:=eJ ts root) (s:=s)
 have h2:=ln h
 unfold eq eJ at *;omega
theorem dI {ts:List Term}:∀{L acc:List Int} {s:RS},(bf ts L acc s).2.1.length=s.1.length
 | [],_,_=>rfl
 | r::L,acc,s=>by rw [bf,dI,kX]
theorem dm {ts:List Term}:∀{L acc:List Int} {s:RS},(∀t∈L,dH ts t=true)→(bf ts L acc s).2.2.length≤s.2.length+33554432 * L.length
 | [],_,_,_=>by simp [bf]
 | r::L,acc,s,h=>by
  rw [bf]
  have h1:=dm (ts:=ts) (L:=L) (acc:=acc++[bS (eq ts r s).1 r]) (s:=eq ts r s) (fun t ht=>h t (by simp [ht]))
  have h2:=jy (s:=s) (h r sq)
  simp only [List.length_cons];omega
theorem md {ts:List Term}:∀{L acc:List SCast} {s:RS},(du ts L acc s).2.1.length=s.1.length
 | [],_,_=>rfl
 | r::L,acc,s=>by rw [du,md,dI]
theorem kI {ts:List Term}:∀{L acc:List SCast} {s:RS},(∀c∈L,c.args.length≤6∧∀t∈c.args,dH ts t=true)→(du ts L acc s).2.2.length≤s.2.length+201326592 * L.length
 | [],_,_,_=>by simp [du]
 | r::L,acc,s,h=>by
  rw [du]
  have h1:=kI (ts:=ts) (L:=L) (acc:=acc++[{r with args:=(bf ts r.args [] s).1,ap:=(none,0)}]) (s:=(bf ts r.args [] s).2) (fun t ht=>h t (by simp [ht]))
  have h0:=h r sq
  have h2:=dm (acc:=[]) (s:=s) h0.2
  simp only [List.length_cons];omega
section
variable {ts:List Term}{L:List Int}{k x:Int}{acc:List Int}{s:RS}{N:List Int×RS}
theorem ta_next (k0:0≤k)(hx:L[k.toNat]? =some x)(h:N=bf ts (L.drop k.toNat) acc s):N=bf ts (L.drop (k+1).toNat) (acc++[bS (eq ts x s).1 x]) (eq ts x s):=by
 rw [h,bu hx,bf,show(k+1).toNat=k.toNat+1 by omega]
theorem ta_end (k0:0≤k)(hk:¬k<L.length)(h:N=bf ts (L.drop k.toNat) acc s):N=(acc,s):=by
 rw [h,List.drop_of_length_le om];rfl
end
section
variable {ts:List Term}{L acc:List SCast}{k:Int}{c:SCast}{s:RS}{N:List SCast×RS}
theorem mD (k0:0≤k)(hx:L[k.toNat]? =some c)(h:N=du ts (L.drop k.toNat) acc s):N=du ts (L.drop (k+1).toNat) (acc++[{c with args:=(bf ts c.args [] s).1,ap:=(none,0)}]) (bf ts c.args [] s).2:=by
 rw [h,bu hx,du,show(k+1).toNat=k.toNat+1 by omega]
theorem zD (k0:0≤k)(hk:¬k<L.length)(h:N=du ts (L.drop k.toNat) acc s):N=(acc,s):=by
 rw [h,List.drop_of_length_le om];rfl
end
section
variable {q:SProc}{pl:List Int}{L:List Int}{k x:Int}{s:SStep}{acc:List SStep}{st:RS}{N:List SStep×RS}
theorem st_next (k0:0≤k)(hx:L[k.toNat]? =some x)(hs:q.steps[x.toNat]? =some s)(h:N=eH q pl (L.drop k.toNat) acc st):N=eH q pl (L.drop (k+1).toNat) (acc++[iu q.terms pl s st]) (iv q.terms s st).2:=by
 rw [h,bu hx,eH,hs,show(k+1).toNat=k.toNat+1 by omega]
theorem st_end (k0:0≤k)(hk:¬k<L.length)(h:N=eH q pl (L.drop k.toNat) acc st):N=(acc,st):=by
 rw [h,List.drop_of_length_le om];rfl
end
section
variable {L:List Int}{k x:Int}{pl N:List Int}
theorem pg_next (k0:0≤k)(hx:L[k.toNat]? =some x)(h:N=fA (L.drop k.toNat) k pl):N=fA (L.drop (k+1).toNat) (k+1) (pl.set x.toNat k):=by
 rw [h,bu hx,fA,show(k+1).toNat=k.toNat+1 by omega]
theorem pg_end (k0:0≤k)(hk:¬k<L.length)(h:N=fA (L.drop k.toNat) k pl):N=pl:=by
 rw [h,List.drop_of_length_le om];rfl
end
theorem l5:∀{L:List Int} {i:Int} {pl:List Int},(fA L i pl).length=pl.length
 | [],_,_=>rfl
 | x::L,i,pl=>by rw [fA,l5];simp
theorem w5 (q:SProc):(bI q).length=q.steps.length:=by unfold bI;rw [l5];simp
theorem fm_room {α β:Type}{l:List α}{k:Int}{x:α}{f:α→List β}(k0:0≤k)(hx:l[k.toNat]? =some x):((l.take k.toNat).flatMap f).length+(f x).length≤(l.flatMap f).length:=by
 have h1:(l.take k.toNat).flatMap f++(f x++(l.drop (k.toNat+1)).flatMap f)=l.flatMap f:=by
  conv=>rhs;rw [← List.take_append_drop k.toNat l,List.flatMap_append,bu hx,List.flatMap_cons]
 rw [← h1];simp only [List.length_append];omega
def Nm (o:List Term):Prop:=∀t∈o,t.name.length≤9223372036854775807
theorem wi {ts:List Term}(hn:Nm ts):∀{L:List Int} {s:RS},Nm s.2→Nm (ei ts L s).2
 | [],_,h=>h
 | k::r,s,h=>by
  rw [ei];split
  ·exact wi hn h
  ·rename_i t ht
   refine wi hn (fun x hx=>?_)
   rcases List.mem_append.1 hx with hx | hx
   ·exact h x hx
   ·simp at hx;subst hx;exact hn t (List.mem_of_getElem? ht)
theorem nR {ts:List Term}(hn:Nm ts):∀{L acc:List Int} {s:RS},Nm s.2→Nm (bf ts L acc s).2.2
 | [],_,_,h=>h
 | r::L,acc,s,h=>by rw [bf];exact nR hn (wi hn h)
theorem tA {ts:List Term}(hn:Nm ts):∀{L acc:List SCast} {s:RS},Nm s.2→Nm (du ts L acc s).2.2
 | [],_,_,h=>h
 | r::L,acc,s,h=>by rw [du];exact tA hn (nR hn h)
theorem y6 {ts:List Term}(hn:Nm ts){s:SStep}{st:RS}(h:Nm st.2):Nm (dF ts s st).2:=by
 unfold dF;split
 ·exact wi hn h
 ·exact h
theorem nT {q:SProc}{pl:List Int}(hn:Nm q.terms):∀{L:List Int} {acc:List SStep} {st:RS},Nm st.2→Nm (eH q pl L acc st).2.2
 | [],_,_,h=>h
 | r::L,acc,st,h=>by
  rw [eH];split
  ·exact nT hn h
  ·exact nT hn (tA hn (nR hn (y6 hn h)))
structure RiseOk (q:SProc):Prop where
 s:cj q
 t:jK q
 m:wH q
 p:q.params.length≤6
 n1:1≤q.steps.length
 n2:q.steps.length≤80
 n3:q.terms.length≤160
theorem y3 {q:SProc}(hS:cj q){x:Int}(h:x∈jE q):0≤x∧x<q.steps.length:=by
 obtain⟨h1,h2⟩:=iW hS _ 0 om x h
 have:=q4 hS h1;omega
theorem ir {s:SStep}{t:Int}(h:t∈s.args):t∈cq s:=by unfold cq;simp [h]
theorem iq {s:SStep}{c:SCast}{t:Int}(hc:c∈s.casts)(h:t∈c.args):t∈cq s:=by unfold cq;simp only [List.mem_append,List.mem_flatMap];exact .inr ⟨c,hc,h⟩
theorem lZ {s:SStep}(hm:gv s=true)(h:0≤s.term):s.term∈cq s:=by
 have hk:s.kind=1∨s.kind=2∨s.kind=3∨s.kind=4:=by
  unfold gv at hm
  split at hm; · cases hm
  split at hm; · cases hm
  rename_i hk hb
  have hb:ov (fV s)=false:=by simpa using hb
  simp only [ov,Bool.or_eq_false_iff,decide_eq_false_iff_not,Bool.not_eq_false'] at hb
  have h1:(fV s).term= -1:=of_decide_eq_true hb.2.2.2.2.1
  have h2:(fV s).term=(if s.kind=1∨s.kind=2∨s.kind=3∨s.kind=4 then -1 else s.term):=rfl
  rw [h2] at h1
  by_cases e:s.kind=1∨s.kind=2∨s.kind=3∨s.kind=4
  ·exact e
  ·rw [if_neg e] at h1;omega
 unfold cq
 rw [if_pos om];simp
theorem sJ {s:SStep}(hm:gv s=true){w:SWay}(hw:w∈s.ways):w.next∈aT s:=by
 have hk:s.kind=3∨s.kind=5:=by
  unfold gv at hm
  split at hm; · cases hm
  split at hm; · cases hm
  rename_i hk hb
  have hb:ov (fV s)=false:=by simpa using hb
  simp only [ov,Bool.or_eq_false_iff,decide_eq_false_iff_not,Bool.not_eq_false'] at hb
  have h1:=hb.2.2.2.2.2.2.2.1
  by_cases e:s.kind=3∨s.kind=5
  ·exact e
  ·have h2:(fV s).ways=(if s.kind=3∨s.kind=5 then [] else s.ways):=rfl
   rw [h2,if_neg e] at h1
   have:=List.length_pos_of_mem hw
   omega
 unfold aT
 rw [if_neg (by rcases hk with h | h<;>simp [iE,h])]
 exact List.mem_map_of_mem hw
theorem qd {s:SStep}(h:iE s.kind=true):s.next∈aT s:=by unfold aT;rw [if_pos h];simp
theorem fN {q:SProc}{s:SStep}{st:RS}(hm:gv s=true)(ht:∀t∈cq s,dH q.terms t=true):(dF q.terms s st).2.length≤st.2.length+33554432∧(dw q.terms s st).2.2.length≤st.2.length+234881024∧(iv q.terms s st).2.2.length≤st.2.length+3355443200:=by
 have hz:=fF hm
 have h1:(dF q.terms s st).2.length≤st.2.length+33554432:=by
  unfold dF;split
  ·rename_i h;exact jy (ht _ (lZ hm h))
  ·omega
 have h2:=dm (acc:=[]) (s:=dF q.terms s st) (L:=s.args) (fun t h=>ht t (ir h))
 have h3:=kI (acc:=[]) (s:=(dw q.terms s st).2) (L:=s.casts) (fun c hc=>⟨hz.2.2.2 c hc,fun t h=>ht t (iq hc h)⟩)
 have e2:(dw q.terms s st).2.2.length≤st.2.length+234881024:=by unfold dw;omega
 exact⟨h1,e2,by unfold iv;omega⟩
theorem iP {q:SProc}{s:SStep}{st:RS}:(dF q.terms s st).1.length=st.1.length∧(dw q.terms s st).2.1.length=st.1.length∧(iv q.terms s st).2.1.length=st.1.length:=by
 have h1:(dF q.terms s st).1.length=st.1.length:=by unfold dF;split;exact kX;rfl
 have h2:(dw q.terms s st).2.1.length=st.1.length:=by unfold dw;rw [dI,h1]
 exact⟨h1,h2,by unfold iv;rw [md,h2]⟩
structure CaIx (H:Hp)(old C:List SCast)(k:Int):Prop where
 n:C.length=old.length
 r:∀c∈C,RdSl H 1 I64.cells (.slice c.ap.1 c.args.length c.ap.2) c.args
 d:C.drop k.toNat=old.drop k.toNat
theorem CaIx.le {H H':Hp}{old C:List SCast}{k:Int}(h:CaIx H old C k)(hl:H.le H'):CaIx H' old C k:=⟨h.n,fun c hc=>(h.r c hc).le hl,h.d⟩
theorem CaIx.at_ {H:Hp}{old C:List SCast}{k:Int}{c:SCast}(h:CaIx H old C k)(hx:old[k.toNat]? =some c):C[k.toNat]? =some c:=by
 have h1:(C.drop k.toNat)[0]? =(old.drop k.toNat)[0]? :=by rw [h.d]
 rw [List.getElem?_drop,List.getElem?_drop,Nat.add_zero] at h1
 rw [h1,hx]
theorem CaIx.put {H:Hp}{old C:List SCast}{k:Int}{c:SCast}(h:CaIx H old C k)(k0:0≤k)(hc:RdSl H 1 I64.cells (.slice c.ap.1 c.args.length c.ap.2) c.args):CaIx H old (C.set k.toNat c) (k+1):=by
 refine⟨by rw [List.length_set,h.n],fun x hx=>?_,?_⟩
 ·rcases List.mem_or_eq_of_mem_set hx with hx | rfl
  ·exact h.r x hx
  ·exact hc
 ·rw [show(k+1).toNat=k.toNat+1 by omega,List.drop_set_of_lt om]
  have:=congrArg (List.drop 1) h.d
  rwa [List.drop_drop,List.drop_drop] at this
theorem yK {α:Type}{l:List α}{k:Int}{x y:α}(k0:0≤k)(hx:l[k.toNat]? =some x):(l.set k.toNat y).take (k+1).toNat=l.take k.toNat++[y]:=by
 have hlt:=(List.getElem?_eq_some_iff.1 hx).1
 rw [show(k+1).toNat=k.toNat+1 by omega,List.take_add_one,List.take_set_of_le (Nat.le_refl _),List.getElem?_set,if_pos rfl,if_pos hlt];rfl
def WaIx (pl:List Int)(old W:List SWay)(k:Int):Prop:=W=(old.take k.toNat).map (gW pl)++old.drop k.toNat
theorem WaIx.at_ {pl:List Int}{old W:List SWay}{k:Int}{c:SWay}(h:WaIx pl old W k)(hx:old[k.toNat]? =some c):W[k.toNat]? =some c:=by
 have hlt:=(List.getElem?_eq_some_iff.1 hx).1
 rw [h,List.getElem?_append_right (by simp;omega),List.getElem?_drop]
 simp only [List.length_map,List.length_take]
 rw [Nat.min_eq_left om,Nat.sub_self,Nat.add_zero,hx]
theorem WaIx.put {pl:List Int}{old W:List SWay}{k:Int}{c:SWay}(h:WaIx pl old W k)(k0:0≤k)(hx:old[k.toNat]? =some c):WaIx pl old (W.set k.toNat (gW pl c)) (k+1):=by
 have hlt:=(List.getElem?_eq_some_iff.1 hx).1
 unfold WaIx at *
 rw [h,List.set_append_right _ _ (by simp;omega)]
 simp only [List.length_map,List.length_take]
 rw [Nat.min_eq_left om,Nat.sub_self,bu hx,List.set_cons_zero,bF k0 hx,show(k+1).toNat=k.toNat+1 by omega,List.append_assoc];rfl
theorem WaIx.len {pl:List Int}{old W:List SWay}{k:Int}(h:WaIx pl old W k):W.length=old.length:=by rw [h];simp;omega
theorem kJ {C:List SCast}{k:Int}{c:SCast}{xs:List Int}{ap:Sp}(k0:0≤k)(hx:C[k.toNat]? =some c):((C.set k.toNat {c with args:=xs,ap:=ap}).take (k+1).toNat).map SCast.bare=(C.take k.toNat).map SCast.bare++[{c with args:=xs,ap:=(none,0)}]:=by
 rw [yK k0 hx,List.map_append];rfl
def StAll (H:Hp)(S:List SStep):Prop:=∀s∈S,StepOk H s
theorem StAll.le {H H':Hp}{S:List SStep}(h:StAll H S)(hl:H.le H'):StAll H' S:=fun s hs=>(h s hs).le hl
theorem StAll.snoc {H:Hp}{S:List SStep}{s:SStep}(h:StAll H S)(hs:StepOk H s):StAll H (S++[s]):=fun x hx=>by
 rcases List.mem_append.1 hx with hx | hx
 ·exact h x hx
 ·simp at hx;subst hx;exact hs
theorem iO {ts:List Term}{pl:List Int}{s:SStep}{st rs:RS}{C:List SCast}{W:List SWay}{tm nx:Int}{ap cp wp:Sp}(hC:iv ts s st=(C.map SCast.bare,rs))(hW:W=s.ways.map (gW pl))
  (ht:tm=if 0≤s.term then bS (dF ts s st).1 s.term else s.term) (hn:nx=if iE s.kind=true then bS pl s.next else s.next):
  (⟨s.kind,s.name,s.peer,s.label,s.proc,tm,(dw ts s st).1,ap,C,cp,W,wp,nx⟩:SStep).bare=iu ts pl s st:=by
 subst ht hn hW;unfold SStep.bare iu;rw [hC]
end Go.Sx
namespace Go.Sx
open Go
theorem arms_le {l:List SArm}{n:Int}(h:cV l n=true):l.length≤6:=by
 unfold cV at h
 simp only [Bool.and_eq_true,decide_eq_true_eq] at h;omega
theorem turn_le {t:STurn}{n:Int}(h:ep n t=true):t.arms.length≤6:=by
 unfold ep at h
 split at h
 ·simp only [Bool.and_eq_true,decide_eq_true_eq,Bool.not_eq_true',decide_eq_false_iff_not] at h;omega
 ·split at h
  ·simp only [Bool.and_eq_true] at h;exact arms_le h.2
  ·cases h
theorem tL {l:SLocal}(h:cH l=true):l.turns.length≤40∧∀t∈l.turns,t.arms.length≤6:=by
 unfold cH at h
 simp only [Bool.and_eq_true,decide_eq_true_eq] at h
 exact⟨h.1.2,fun t ht=>turn_le (List.all_eq_true.1 h.2 t ht)⟩
theorem uY (x:SPoint):(eL x).arms=x.arms:=by unfold eL;split<;>rfl
theorem yY {p:SProto}(h:cO p=true):p.roles.length≤5∧p.points.length≤24∧∀x∈p.points,x.arms.length≤6:=by
 unfold cO at h
 simp only [Bool.and_eq_true] at h
 obtain⟨h1,_,_,h4⟩:=h
 unfold cK at h1
 simp only [Bool.and_eq_true,decide_eq_true_eq,Bool.not_eq_true',decide_eq_false_iff_not] at h1
 refine⟨by omega,by omega,fun x hx=>?_⟩
 have:=(tL h4).2 (eL x) (List.mem_map_of_mem hx)
 rwa [uY] at this
theorem rise_of {l:List SProc}{i:Int}{q:SProc}(h:(aK l i q).e=0):RiseOk q:=by
 unfold aK at h
 split at h
 ·rename_i h2;exact absurd h h2
 ·rename_i h2
  have h2:(dc l i q).e=0:=by simpa using h2
  obtain⟨n1,n2,n3⟩:=jF h2
  have hs:=jA _ _ _ _ _ h
  have hS:cj q:=nB (i:=i) hs
  refine⟨hS,uv hS n2 hs,sR hs,?_,n1,n2,n3⟩
  unfold dc at h2
  split at h2
  ·cases h2
  ·rename_i hg
   have hg:(bQ q&&q.params.all el)=true:=by simpa using hg
   simp only [Bool.and_eq_true] at hg
   have h1:=hg.1
   unfold bQ at h1
   simp only [Bool.and_eq_true,decide_eq_true_eq] at h1
   omega
theorem qh {l:List SProc}:∀(r:List SProc) (i:Int),(br (aK l) r i).e=0→∀q∈r,RiseOk q
 | [],_,_,q,hq=>by cases hq
 | x::r,i,h,q,hq=>by
  rw [br] at h
  split at h
  ·rename_i h1;exact absurd h h1
  ·rename_i h1
   rcases List.mem_cons.1 hq with rfl | hq
   ·exact rise_of (by simpa using h1)
   ·exact qh r (i+1) h q hq
structure CheckOk (pg:SProg):Prop where
 r:pg.protos.length≤6∧∀p∈pg.protos,cO p=true
 l:pg.locals.length≤12∧∀p∈pg.locals,cH p=true∧aG p.name=true
 q:pg.procs.length≤24∧∀q∈pg.procs,RiseOk q
theorem xy {pg:SProg}(h:(bU pg).e=0):CheckOk pg:=by
 obtain⟨h1,h2,h3,h4⟩:=jI h
 unfold fk at h1
 split at h1
 ·cases h1
 ·rename_i hz
  split at h1
  ·cases h1
  ·rename_i hp
   split at h1
   ·cases h1
   ·rename_i hl
    have hp:pg.protos.all cO=true:=by simpa using hp
    have hl:pg.locals.all (fun l=>cH l&&aG l.name)=true:=by simpa using hl
    refine⟨⟨by omega,List.all_eq_true.1 hp⟩,⟨by omega,fun p hp=>?_⟩,⟨by omega,qh _ _ h2⟩⟩
    have:=List.all_eq_true.1 hl p hp
    simpa using this
def PtAll (H:Hp)(S:List SPoint):Prop:=∀s∈S,PointOk H s
theorem PtAll.le {H H':Hp}{S:List SPoint}(h:PtAll H S)(hl:H.le H'):PtAll H' S:=fun s hs=>(h s hs).le hl
def TuAll (H:Hp)(S:List STurn):Prop:=∀s∈S,TurnOk H s
theorem TuAll.le {H H':Hp}{S:List STurn}(h:TuAll H S)(hl:H.le H'):TuAll H' S:=fun s hs=>(h s hs).le hl
def PrAll (H:Hp)(S:List SProto):Prop:=∀s∈S,ProtoOk H s
theorem PrAll.le {H H':Hp}{S:List SProto}(h:PrAll H S)(hl:H.le H'):PrAll H' S:=fun s hs=>(h s hs).le hl
def LoAll (H:Hp)(S:List SLocal):Prop:=∀s∈S,LocalOk H s
theorem LoAll.le {H H':Hp}{S:List SLocal}(h:LoAll H S)(hl:H.le H'):LoAll H' S:=fun s hs=>(h s hs).le hl
def PcAll (H:Hp)(S:List SProc):Prop:=∀s∈S,ProcOk H s
theorem PcAll.le {H H':Hp}{S:List SProc}(h:PcAll H S)(hl:H.le H'):PcAll H' S:=fun s hs=>(h s hs).le hl
theorem fG {α:Type}{p:α→Prop}{S:List α}{s:α}(h:∀x∈S,p x)(hs:p s):∀x∈S++[s],p x:=fun x hx=>by
 rcases List.mem_append.1 hx with hx | hx
 ·exact h x hx
 ·simp at hx;subst hx;exact hs
theorem gw {α β:Type}{f g:α→β}{S l:List α}{k:Int}{x y:α}(k0:0≤k)(hx:l[k.toNat]? =some x)(h:S.map f=(l.take k.toNat).map g)(hy:f y=g x):(S++[y]).map f=(l.take (k+1).toNat).map g:=by
 rw [List.map_append,h,bB k0 hx,List.map_append];simp [hy]
theorem yR {pg:SProg}(h:¬(bU pg).e=0):nilPg.bare=nI pg:=by unfold nI;rw [if_pos h];rfl
theorem pU {pg:SProg}(h:(bU pg).e=0):nI pg=⟨pg.protos.map SProto.bare,(none,0),pg.locals.map SLocal.bare,(none,0),pg.procs.map ko,(none,0)⟩:=by unfold nI;rw [if_neg (by simpa using h)]
theorem y7 (H:Hp):ProgOk H nilPg:=⟨RdSl.nil,(fun _ h=>by cases h),RdSl.nil,(fun _ h=>by cases h),RdSl.nil,(fun _ h=>by cases h)⟩
end Go.Sx
namespace Go.Sx
open Go
def MapAt (b:Nat)(ks:List (List UInt8))(w:World):Prop:=∃es ck,w.heap[b]? =some (.map es ck)∧es.toList.map (fun e=>(e.key,e.val))=ks.map (fun k=>(gs k,Value.bool true))
def StM (M:List Nat)(w0:World)(H0 H:Hp)(L:aj)(b:Nat)(ks:List (List UInt8))(w:World):Prop:=St M w0 H0 H L w∧MapAt b ks w∧w0.heap.size≤b
theorem xF (s k:List UInt8):(ByteArray.mk s.toArray==ByteArray.mk k.toArray)=decide (s=k):=by
 show(s.toArray==k.toArray)=_
 by_cases h:s=k
 ·subst h;simp
 ·rw [decide_eq_false h];simpa using h
theorem ma (s:List UInt8):∀(l:List MapEntry) (ks:List (List UInt8)) (i:Nat),l.map (fun e=>(e.key,e.val))=ks.map (fun k=>(gs k,Value.bool true))→
  (s∉ks∧Instr.findNow .string (gs s) l i=some none)∨(s∈ks∧∃j,Instr.findNow .string (gs s) l i=some (some (j,.bool true))):=by
 intro l
 induction l with
 | nil=>intro ks i h;cases ks with
  | nil=>exact .inl ⟨by simp,rfl⟩
  | cons k ks=>cases h
 | cons e l ih=>
  intro ks i h
  cases ks with
  | nil=>cases h
  | cons k ks=>
   simp only [List.map_cons,List.cons.injEq,Prod.mk.injEq] at h
   obtain⟨⟨h1,h2⟩,h3⟩:=h
   have hs:Instr.sameNow .string (gs s) e.key=some (decide (s=k)):=by rw [h1];simp only [gs,Instr.sameNow,xF]
   by_cases hk:s=k
   ·right
    refine⟨by simp [hk],i,?_⟩
    unfold Instr.findNow
    rw [hs,decide_eq_true hk,h2]
   ·have hn:Instr.findNow .string (gs s) (e::l) i=Instr.findNow .string (gs s) l (i+1):=by
     rw [Instr.findNow,hs,decide_eq_false hk]
    rcases ih ks (i+1) h3 with ⟨a,c⟩ | ⟨a,j,c⟩
    ·exact .inl ⟨by simp [hk,a],hn.trans c⟩
    ·exact .inr ⟨by simp [a],j,hn.trans c⟩
section
variable {P:Program}{n:Nat}{ops:Array Oper}{Q:Exit→Act→World→Prop}{E E':Env}{M:List Nat}{w0:World}{H0 H:Hp}{L:aj}{rest:List Oper}{dst:Option Nat}{op:Op}{ty:TypeId}{pos:String}{aft:Array Edge}{b:Nat}{ks:List (List UInt8)}
def zb (P:Program)(t:TypeId):Bool:=match P.underlying t with
 | some (.map k e)=>(match P.underlying k with
  | some .string=>true
  | _=>false)&&(match P.info? e with
  | some i=>(match i.zero with
   | some (.bool false)=>true
   | _=>false)
  | none=>false)
 | _=>false
class MapTB (P:Program) (t:TypeId):Prop where
 outB:zb P t=true
theorem MapTB.out {t:TypeId}(h:MapTB P t):∃k e,P.underlying t=some (.map k e)∧P.underlying k=some .string∧∀w,(zeroValue e).run P w= .ok (.bool false) w:=by
 have h:=h.outB
 unfold zb at h
 split at h
 ·rename_i k e ht
  simp only [Bool.and_eq_true] at h
  obtain⟨h1,h2⟩:=h
  split at h1
  ·rename_i hk
   refine⟨k,e,ht,hk,fun w=>?_⟩
   split at h2
   ·rename_i i hi
    split at h2
    ·rename_i hz
     simp [zeroValue,typeInfo,hi,hz]
    ·cases h2
   ·cases h2
  ·cases h1
 ·cases h
theorem MapAt.kept {w w':World}(h:MapAt b ks w)(hk:∀i,i<w.heap.size→i=b→w'.heap[i]? =w.heap[i]?):MapAt b ks w':=by
 obtain⟨es,ck,h1,h2⟩:=h
 exact⟨es,ck,(hk b (cr h1) rfl).trans h1,h2⟩
theorem kH {e:Bool}{m k:Nat}{s:List UInt8}{w:World}(hk:P.underlying k=some .string):(Instr.checkKey e (m+1) k (gs s)).run P w= .ok () w:=by
 simp [Instr.checkKey,run_underlying hk,gs]
theorem StM.notin {w:World}(h:StM M w0 H0 H L b ks w):b∉keys L:=fun hm=>by
 obtain⟨p,hp,rfl⟩:=List.mem_map.1 hm
 obtain⟨t,ht⟩:=h.1.own p hp
 obtain⟨es,ck,h1,_⟩:=h.2.1
 rw [ht] at h1;cases h1
theorem StM.over {w1 w:World}{L':aj}{H':Hp}(h:StM M w0 H0 H L b ks w1)(hw:St (keys L) w1 H H' L' w):StM M w0 H0 H' L' b ks w:=by
 refine⟨?_,h.2.1.kept (fun i hi e=>hw.old i hi (by subst e;exact h.notin)),h.2.2⟩
 have:=St.pastX (L1:=L) (L1':=L') (L2:=[]) (by simpa using h.1) hw
 simpa using this
theorem StM.drop {x:Nat×List Value}{w:World}(h:StM M w0 H0 H (x::L) b ks w):StM M w0 H0 H L b ks w:=⟨h.1.drop,h.2⟩
theorem xN {c:Code}(h:∀w1,StM M w0 H0 H L b ks w1→TC P n c Q E (St (keys L) w1 H H L)):TC P n c Q E (StM M w0 H0 H L b ks):=fun a w he hw=>h w hw a w he (St.pass1 (L1:=L) (L2:=[]) (by simpa using hw.1))
theorem qn {q:Act→World→Prop}{w1:World}{L':aj}{H':Hp}(hm:StM M w0 H0 H L b ks w1)(h:TX n q E (St M w0 H0 H' L')):TX n q E (St (keys L) w1 H H' L'):=fun a w he hw=>h a w he (hm.over hw).1
theorem w3 {t:TypeId}[hT:MapTB P t]{x y:Operand}{s:List UInt8}{w1:World}{L':aj}{H':Hp}(hm:StM M w0 H0 H L b ks w1)(hx:ev E x=some (.map (some b)))(hy:ev E y=some (gs s)):PR P E (St (keys L) w1 H H' L') (.lookup t x y false) (.bool (decide (s∈ks))):=by
 intro n a w o ho he hw
 obtain⟨es,ck,h1,h2⟩:=(hm.over hw).2.1
 obtain⟨k,e,ht,hk,hz⟩:=hT.out
 have hck:∀b,(Instr.checkKey b 10000 k (gs s)).run P w= .ok () w:=fun b=>kH (m:=9999) hk
 unfold execOp
 rw [ho]
 rcases ma s es.toList ks 0 h2 with ⟨hn,hf⟩ | ⟨hn,j,hf⟩
 ·rw [decide_eq_false hn]
  simp [he.eval hx,he.eval hy,Instr.lookup,run_underlying ht,MapKept.run_getObj_map h1,hck,Instr.findKey,run_underlying hk,hf,hz,Result.andThen]
 ·rw [decide_eq_true hn]
  simp [he.eval hx,he.eval hy,Instr.lookup,run_underlying ht,MapKept.run_getObj_map h1,hck,Instr.findKey,run_underlying hk,hf,hz,Result.andThen]
theorem StM.put {w:World}{es:Array MapEntry}{ck:Nat}{s:List UInt8}(hw:StM M w0 H0 H L b ks w)(h1:w.heap[b]? =some (.map es ck))(h2:es.toList.map (fun e=>(e.key,e.val))=ks.map (fun k=>(gs k,Value.bool true))):
  StM M w0 H0 H L b (ks++[s]) {w with heap:=w.heap.setIfInBounds b (.map (es.push {key:=gs s,val:=.bool true,born:=ck}) (ck+1))}:=by
 have hlt:=cr h1
 have hoth:∀i,i≠b→(w.heap.setIfInBounds b (.map (es.push {key:=gs s,val:=.bool true,born:=ck}) (ck+1)))[i]? =w.heap[i]? :=fun i hi=>by
  rw [Array.getElem?_setIfInBounds,if_neg (fun e=>hi e.symm)]
 have hcell:∀o,w.cell? ⟨b,o,none⟩=none:=fun o=>by simp [World.cell?,h1]
 have h:=hw.1
 refine⟨⟨h.os,h.tape,h.output,by simpa using h.size,fun i hi hM=>?_,fun c o v hv=>?_,fun p hp=>?_,h.sep,h.nd,h.mine,h.fr⟩,⟨es.push {key:=gs s,val:=.bool true,born:=ck},ck+1,?_,?_⟩,hw.2.2⟩
 ·rw [← h.old i hi hM];exact hoth i (by have:=hw.2.2;omega)
 ·have hc:=h.hp c o v hv
  have hne:c≠b:=fun e=>by subst e;rw [hcell] at hc;cases hc
  rw [eM (hoth c hne)];exact hc
 ·obtain⟨t,ht⟩:=h.own p hp
  have hne:p.1≠b:=fun e=>by rw [e,h1] at ht;cases ht
  exact⟨t,(hoth _ hne).trans ht⟩
 ·show(w.heap.setIfInBounds b _)[b]? =_
  rw [Array.getElem?_setIfInBounds,if_pos rfl,if_pos hlt]
 ·simp [h2]
theorem xK {t:TypeId}[hT:MapTB P t]{x y z:Operand}{s:List UInt8}(hx:ev E x=some (.map (some b)))(hy:ev E y=some (gs s))(hz:ev E z=some (.bool true))(hs:s∉ks)(hd:bR dst n=true){w1:World}{L':aj}{H':Hp}(hm:StM M w0 H0 H L b ks w1)
  (h:TL P n ops Q rest (bN dst undef E) (StM M w0 H0 H' L' b (ks++[s]))):
  TL P n ops Q ({dst:=dst,op:=.mapUpdate t x y z,type:=ty,pos:=pos,after:=aft,guard:=none}::rest) E (St (keys L) w1 H H' L'):=by
 intro a w he hw0
 have hw:=hm.over hw0
 refine bW rfl (fun K hK=>?_)
 obtain⟨es,ck,h1,h2⟩:=hw.2.1
 obtain⟨k,e,ht,hk,hzv⟩:=hT.out
 have hck:∀b,(Instr.checkKey b 10000 k (gs s)).run P w= .ok () w:=fun b=>kH (m:=9999) hk
 rcases ma s es.toList ks 0 h2 with ⟨hn,hf⟩ | ⟨hn,j,hf⟩
 ·have hrun:(execOp a.eval {dst:=dst,op:=.mapUpdate t x y z,type:=ty,pos:=pos,after:=aft,guard:=none}).run P w= .ok .skip {w with heap:=w.heap.setIfInBounds b (.map (es.push {key:=gs s,val:=.bool true,born:=ck}) (ck+1))}:=by
   simp [execOp,he.eval hx,he.eval hy,he.eval hz,Instr.mapUpdate,run_underlying ht,MapKept.run_getObj_map h1,hck,Instr.findKey,run_underlying hk,hf,MapKept.run_setObj_map _ h1,Result.andThen]
  unfold Oper.wp
  rw [hrun]
  exact hK _ _ (h _ _ (he.put hd) (hw.put h1 h2))
 ·exact absurd hn hs
theorem vf {t:TypeId}[hT:MapTB P t](hd:bR dst n=true)(h:∀b w1,StM M w0 H0 H L b [] w1→TL P n ops Q rest (bN dst (.map (some b)) E) (St (keys L) w1 H H L)):
  TL P n ops Q ({dst:=dst,op:=.makeMap t none,type:=ty,pos:=pos,after:=aft,guard:=none}::rest) E (St M w0 H0 H L):=by
 intro a w he hw
 refine bW rfl (fun K hK=>?_)
 have hrun:(execOp a.eval {dst:=dst,op:=.makeMap t none,type:=ty,pos:=pos,after:=aft,guard:=none}).run P w= .ok (.value (.map (some w.heap.size))) (w.alloc (.map #[] 0)):=by
  simp [execOp,Instr.makeMap,newObj,Result.andThen];rfl
 unfold Oper.wp
 rw [hrun]
 have hm:StM M w0 H0 H L w.heap.size [] (w.alloc (.map #[] 0)):=⟨(Ext.alloc w _).st hw,⟨#[],0,heap_alloc_new w _,rfl⟩,hw.size⟩
 exact hK _ _ (h _ _ hm _ _ (he.put hd) (St.pass1 (L1:=L) (L2:=[]) (by simpa using hm.1)))
end
end Go.Sx
namespace Go.Sx
open Go
def cat:List aj→aj
 | []=>[]
 | [a]=>a
 | a::b::r=>a++cat (b::r)
theorem ot:∀l:List aj,cat l=l.flatten
 | []=>rfl
 | [a]=>by simp [cat]
 | a::b::r=>by rw [cat,ot (b::r)];rfl
theorem y2 {α:Type}(ps:List α):(List.range ps.length).filterMap (fun i=>ps[i]?)=ps:=by
 induction ps with
 | nil=>rfl
 | cons p ps ih=>
  rw [List.length_cons,List.range_succ_eq_map,List.filterMap_cons]
  simp only [List.getElem?_cons_zero,List.filterMap_map]
  congr 1
theorem dx (ps:List aj)(js:List Nat)(h:js.isPerm (List.range ps.length)=true):(cat ps).Perm (cat (js.filterMap fun i=>ps[i]?)):=by
 rw [ot,ot]
 have h1:(js.filterMap fun i=>ps[i]?).Perm ps:=by
  have:=(List.isPerm_iff.1 h).filterMap (fun i=>ps[i]?)
  rwa [y2] at this
 exact h1.symm.flatten
theorem gN (X:aj){A B C:aj}:(X++((A++B)++C)).Perm (X++(A++(B++C))):=by rw [List.append_assoc]
theorem uJ (X:aj){A B D C:aj}:(X++((A++(B++D))++C)).Perm (X++(A++(B++(D++C)))):=by rw [List.append_assoc,List.append_assoc]
theorem gr (X:aj){A:aj}:(X++(A++[])).Perm (X++A):=by rw [List.append_nil]
theorem w6 (X:aj){A B:aj}:(X++(A++(B++[]))).Perm (X++(A++B)):=by rw [List.append_nil]
theorem eu {x y:Nat×List Value}{A B C:aj}:(x::y::((A++B)++C)).Perm (x::y::(A++(B++C))):=by rw [List.append_assoc]
section
variable {P:Program}{n:Nat}{ops:Array Oper}{Ri:World→Prop}{Q:Exit→Act→World→Prop}{E:Env}{M:List Nat}{w0:World}{H0 H:Hp}{L:aj}{C:World→Prop}{rest:List Oper}{dst:Option Nat}{op:Op}{ty:TypeId}{pos:String}{aft:Array Edge}
theorem aP {L':aj}{l:List Oper}(hp:L.Perm L')(h:TL P n ops Q l E (St M w0 H0 H L')):TL P n ops Q l E (St M w0 H0 H L):=fun a w he hw=>h a w he (hw.perm hp)
theorem oz {L':aj}{q:Act→World→Prop}(hp:L.Perm L')(h:TX n q E (St M w0 H0 H L')):TX n q E (St M w0 H0 H L):=fun a w he hw=>h a w he (hw.perm hp)
theorem oC {L':aj}{c:Code}(hp:L.Perm L')(h:TC P n c Q E (St M w0 H0 H L')):TC P n c Q E (St M w0 H0 H L):=fun a w he hw=>h a w he (hw.perm hp)
theorem pT {α:Type}{k j:Nat}{enc:α→List Value}{u:Value}{a':α}(hk:∀x,(enc x).length=k)(hj:j<k):∀(xs:List α) (i:Nat) (a:α),xs[i]? =some a→enc a'=(enc a).set j u→(xs.flatMap enc).set (i * k+j) u=(xs.set i a').flatMap enc
 | [],_,_,h,_=>by simp at h
 | y::xs,0,a,h,he=>by
  simp only [List.getElem?_cons_zero,Option.some.injEq] at h
  subst h
  simp only [List.flatMap_cons,List.set_cons_zero,Nat.zero_mul,Nat.zero_add]
  rw [List.set_append_left _ _ (by rw [hk];exact hj),he]
 | y::xs,i+1,a,h,he=>by
  simp only [List.flatMap_cons,List.set_cons_succ]
  rw [List.set_append_right _ _ (by rw [hk,Nat.succ_mul];omega),hk,show(i+1) * k+j - k=i * k+j by rw [Nat.succ_mul];omega]
  rw [pT hk hj xs i a (by simpa using h) he]
theorem OwnSl.put {α:Type}{k j i:Nat}{enc:α→List Value}[hc:Cells k enc]{b cap:Nat}{cs:List Value}{u:Value}{xs:List α}{a a':α}(hcl:cs.length=cap * k)(htk:cs.take (xs.length * k)=xs.flatMap enc)(hle:xs.length≤cap)(hcm:cap≤9223372036854775807)
  (hi:xs[i]? =some a) (he:enc a'=(enc a).set j u) (hj:j<k):OwnSl k enc (.slice (some ⟨b,0,none⟩) xs.length cap) (xs.set i a') [(b,cs.set (i * k+j) u)]:=by
 refine .inr ⟨b,cap,cs.set (i * k+j) u,by rw [List.length_set],rfl,by rw [List.length_set];exact hcl,?_,by rw [List.length_set];exact hle,hcm⟩
 rw [List.length_set,List.take_set,htk]
 exact pT hc.len hj xs i a hi he
theorem fI {α:Type}{t k k1 j i:Nat}{enc:α→List Value}[hc:Cells k enc]{x y:Operand}{v u:Value}{xs:List α}{ob:aj}{F:aj→aj}{a a':α}(hx:ev E x=some (.pointer (some ⟨ogb ob,i * k+j,none⟩)))(hy:ev E y=some u)
  (hO:OwnSl k enc v xs ob) (hU:Tl ob L F) (hi:xs[i]? =some a) (he:enc a'=(enc a).set j u) (hj:Nat.blt j k=true) [ht:Ty P t false k1] [h1:One u] (hk:k1=1) (hd:bR dst n=true)
  (h:∀ob',ogb ob'=ogb ob→OwnSl k enc v (xs.set i a') ob'→TL P n ops Q rest (bN dst undef E) (St M w0 H0 H (F ob'))):
  TL P n ops Q ({dst:=dst,op:=.store t x y,type:=ty,pos:=pos,after:=aft,guard:=none}::rest) E (St M w0 H0 H L):=by
 obtain⟨R,hp,hF⟩:=hU.perm
 rcases hO with ⟨rfl,rfl,rfl⟩ | ⟨b,cap,cs,rfl,rfl,hcl,htk,hle,hcm⟩
 ·simp at hi
 ·have hjk:j<k:=by rwa [Nat.blt_eq] at hj
  have hil:i<xs.length:=(List.getElem?_eq_some_iff.1 hi).1
  have hlt:i * k+j<cs.length:=by
   rw [hcl]
   have:(i+1) * k≤cap * k:=Nat.mul_le_mul_right k om
   rw [Nat.succ_mul] at this;omega
  refine aP hp (aZ (b:=b) (o:=i * k+j) hx hy hk (.here _) (by rw [Nat.blt_eq];exact hlt) hd ?_)
  exact aP (hF [(b,cs.set (i * k+j) u)]).symm (h [(b,cs.set (i * k+j) u)] rfl (OwnSl.put hcl htk hle hcm hi he hjk))
theorem FnX.enterM {f:FuncId}{args:List Value}{L1:aj}{Φ:Value→Hp→aj→Prop}{fn:Func}{c:Code}
  (hf:P.funcs[f]? =some fn) (hn:fn.ntmps=n) (hb:fn.body=some c) (hl:Nat.ble args.length n=true)
  (h:∀w0 M,(∀b∈M,b<w0.heap.size)→TC P n c (bodyPost P fn (qq M w0 H Φ)) (hY 0 args) (St M w0 H H L1)):FnX P f args H L1 Φ:=by
 intro w hw
 refine calls_of_wp hf hb (h w (keys L1) (fun b hm=>?_) _ w ⟨?_,rfl,fun t v ht=>?_⟩ hw)
 ·obtain⟨p,hp,rfl⟩:=List.mem_map.1 hm
  exact hw.lt hp
 ·have:=Nat.le_of_ble_eq_true hl
  simp [hn]
  omega
 ·have h1:=(iD args 0 t v ht).2
  simp only [Nat.sub_zero] at h1
  have h2:t<args.length:=(List.getElem?_eq_some_iff.1 h1).1
  rw [Array.getElem?_append_left (by simpa using h2)]
  simpa using h1
theorem i6 {f:FuncId}{args:List Value}{Φ:Value→Hp→aj→Prop}(hE:cB P E op f args)(hF:FnO P f args H Φ)(hd:bR dst n=true)
  (h:∀v H' ob,(∀p∈ob,w0.heap.size≤p.1)→H.le H'→Φ v H' ob→TL P n ops Q rest (bN dst v E) (St M w0 H0 H' (L++ob))):
  TL P n ops Q ({dst:=dst,op:=op,type:=ty,pos:=pos,after:=aft,guard:=none}::rest) E (St M w0 H0 H L):=by
 intro a w he hw
 refine bW rfl (fun K hK=>?_)
 unfold Oper.wp
 rw [hE n a w _ rfl he]
 refine(hF w (St.pass1 (L1:=[]) (L2:=L) hw)).mono ?_
 rintro e w' ⟨v,H',ob,rfl,hst,hΦ⟩
 exact hK _ _ (h v H' ob (fun p hp=>Nat.le_trans hw.size ((hst.mine p hp).resolve_left sq)) hst.fr.1 hΦ _ _ (he.put hd) (hw.pastO hst))
def fl1B (P:Program)(s f:Nat):Option Nat:=match P.underlying s with
 | some (.struct fs)=>match fs[f]? with
  | some fd=>match tyB P fd.type with
   | some (false,_)=>some fd.offset
   | _=>none
  | none=>none
 | _=>none
theorem lh {s f off:Nat}{x:Operand}{cs:List Value}{v:Value}(hx:ev E x=some (.agg cs.toArray))(hf:fl1B P s f=some off)(hv:cs[off]? =some v):PR P E C (.field s x f) v:=by
 intro n a w o' ho he hw
 unfold execOp
 rw [ho]
 unfold fl1B at hf
 split at hf
 ·rename_i fs hs
  split at hf
  ·rename_i fd hfd
   split at hf
   ·rename_i k hk
    simp only [Option.some.injEq] at hf
    subst hf
    have hA:=k8 (P:=P) (t:=fd.type) (agg:=false) (n:=k) ⟨hk⟩ w
    simp [he.eval hx,Instr.field,run_underlying hs,hfd,asAgg,part,hA,hv]
   ·cases hf
  ·cases hf
 ·cases hf
end
end Go.Sx
namespace Go.Sx
open Go
def iF (P:Program)(xs:List Value)(f:Field):List Value:=(xs.drop f.offset).take (P.cellsOf f.type)
def jG (P:Program):Nat→TypeId→List Value→List Value→Option Bool
 | 0,_,_,_=>none
 | d+1,t,xs,ys=>
  match P.underlying t with
  | some .bool=>match xs,ys with
   | [.bool a],[.bool b]=>some (a==b)
   | _,_=>none
  | some (.int _)=>match xs,ys with
   | [.int k a],[.int k' b]=>if k=k' then some (a==b) else none
   | _,_=>none
  | some .string=>match xs,ys with
   | [.string a],[.string b]=>some (a.toList==b.toList)
   | _,_=>none
  | some (.struct fs)=>if P.stoodInHeld t=true then none else
   fs.toList.foldr (fun f acc=>match acc,(if f.name= "_" then none else jG P d f.type (iF P xs f) (iF P ys f)) with
    | some r,some b=>some (b&&r)
    | _,_=>none) (some true)
  | _=>none
def ofC (P:Program)(t:TypeId)(xs:List Value):Value:=match P.underlying t with
 | some (.struct _)=>.agg xs.toArray
 | _=>xs.headD .nilFunc
theorem y4 {xs:List Value}{o n:Nat}{v:Value}(h:(xs.drop o).take n=[v]):xs[o]? =some v:=by
 have h1:((xs.drop o).take n)[0]? =some v:=by rw [h];rfl
 rw [List.getElem?_take] at h1
 split at h1
 ·rwa [List.getElem?_drop,Nat.add_zero] at h1
 ·cases h1
def vR:TypeDesc→Bool | .struct _ | .array _ _=>true | _=>false
theorem qC {P:Program}{e:TypeId}{kd:TypeDesc}{xs:List Value}{o:Nat}{v:Value}(w:World)(hu:P.underlying e=some kd)(hk:vR kd=false)(h:xs[o]? =some v):(part e xs.toArray o).run P w= .ok v w:=by
 have hA:(isAgg e).run P w= .ok false w:=by
  unfold isAgg
  rw [Sem.run_bind,run_underlying hu w]
  cases kd<;>simp_all [vR]
 simp [part,hA,h]
theorem qB {P:Program}{e:TypeId}{fs:Array Field}{xs:List Value}{o:Nat}(w:World)(hu:P.underlying e=some (.struct fs)):(part e xs.toArray o).run P w= .ok (.agg ((xs.drop o).take (P.cellsOf e)).toArray) w:=by
 obtain⟨i,hi⟩:=info_of_underlying hu
 have hA:(isAgg e).run P w= .ok true w:=by
  unfold isAgg
  rw [Sem.run_bind,run_underlying hu w]
  simp
 have hS:(sizeOf e).run P w= .ok (P.cellsOf e) w:=by simp [sizeOf,typeInfo,hi,Program.cellsOf]
 have hE:xs.toArray.extract o (o+P.cellsOf e)=((xs.drop o).take (P.cellsOf e)).toArray:=by
  apply Array.ext'
  rw [Array.toList_extract]
  simp [List.extract_eq_take_drop]
 simp only [part,Sem.run_bind,hA,Result.andThen_ok,if_true,hS,Sem.run_pure,hE]
theorem uw {P:Program}{e:TypeId}{d:Nat}{xs ys:List Value}{f:Field}{b:Bool}(w:World)(h:jG P d f.type (iF P xs f) (iF P ys f)=some b):
  (part f.type xs.toArray f.offset).run P w= .ok (ofC P f.type (iF P xs f)) w∧(part f.type ys.toArray f.offset).run P w= .ok (ofC P f.type (iF P ys f)) w:=by
 cases d with
 | zero=>simp [jG] at h
 | succ d=>
  unfold jG at h
  have one:∀{zs:List Value} {kd:TypeDesc} {v:Value},P.underlying f.type=some kd→vR kd=false→iF P zs f=[v]→(part f.type zs.toArray f.offset).run P w= .ok (ofC P f.type (iF P zs f)) w:=by
   intro zs kd v hu hk hz
   rw [qC w hu hk (y4 hz)]
   unfold ofC
   rw [hu,hz]
   cases kd<;>simp_all [vR]
  split at h
  ·rename_i hu
   split at h
   ·rename_i a b' h1 h2
    exact⟨one hu rfl h1,one hu rfl h2⟩
   ·cases h
  ·rename_i hu
   split at h
   ·rename_i a b' h1 h2
    exact⟨one hu rfl h1,one hu rfl h2⟩
   ·cases h
  ·rename_i hu
   split at h
   ·rename_i a b' h1 h2
    exact⟨one hu rfl h1,one hu rfl h2⟩
   ·cases h
  ·rename_i fs hu
   refine⟨?_,?_⟩<;>
   ·rw [qB w hu];unfold ofC;rw [hu];rfl
  ·cases h
theorem wd {P:Program}:∀(d dd:Nat),d≤dd→∀(t:TypeId) (xs ys:List Value) (r:Bool) (w:World),jG P d t xs ys=some r→(Op.equalIn dd t (ofC P t xs) (ofC P t ys)).run P w= .ok r w
 | 0,_,_,_,_,_,_,_,h=>by simp [jG] at h
 | d+1,0,hd,_,_,_,_,_,_=>by omega
 | d+1,dd+1,hd,t,xs,ys,r,w,h=>by
  unfold jG at h
  unfold ofC
  split at h
  ·rename_i hu
   rw [hu]
   split at h
   ·cases h;exact run_equalIn_bool w dd t _ _ hu
   ·cases h
  ·rename_i hu
   rw [hu]
   split at h
   ·split at h
    ·rename_i hk
     subst hk
     cases h;exact run_equalIn_int w dd t _ _ _ _ hu
    ·cases h
   ·cases h
  ·rename_i hu
   rw [hu]
   split at h
   ·cases h;exact run_equalIn_string w dd t _ _ hu
   ·cases h
  ·rename_i fs hu
   rw [hu]
   split at h
   ·cases h
   ·rename_i hs
    have hfs:P.fieldsOf t=fs:=by simp [Program.fieldsOf,hu]
    show(Op.equalIn (dd+1) t (.agg xs.toArray) (.agg ys.toArray)).run P w=_
    rw [run_equalIn_struct w dd t xs.toArray ys.toArray (by rw [hfs];exact hu) (by simpa using hs),hfs]
    clear hu hfs
    generalize fs.toList=l at h
    induction l generalizing r with
    | nil=>simp only [List.foldr_nil,Option.some.injEq] at h;subst h;simp [Op.eqFields]
    | cons f l ih=>
     rw [List.foldr_cons] at h
     split at h
     ·rename_i r' b' hr hb
      split at hb
      ·cases hb
      ·rename_i hn
       simp only [Option.some.injEq] at h
       subst h
       obtain⟨p1,p2⟩:=uw (e:=t) w hb
       have p3:=wd d dd om f.type _ _ _ w hb
       simp only [Op.eqFields,hn,ne_eq,not_false_eq_true,if_true,Sem.run_bind,p1,p2,p3,Result.andThen_ok]
       cases b'
       ·simp
       ·simpa using ih _ hr
     ·cases h
  ·cases h
section
variable {P:Program}{E:Env}{C:World→Prop}
theorem wb {P:Program}{t:TypeId}{xs ys:List Value}{r:Bool}{d:Nat}(w:World)(hd:d≤10000)(hs:∃fs,P.underlying t=some (.struct fs))(h:jG P d t xs ys=some r):(Op.equal t (.agg xs.toArray) (.agg ys.toArray)).run P w= .ok r w:=by
 obtain⟨fs,hu⟩:=hs
 have:=wd d 10000 hd t xs ys r w h
 unfold ofC at this
 rw [hu] at this
 exact this
def wm (P:Program)(t:TypeId):Bool:=match P.underlying t with | some (.struct _)=>true | _=>false
theorem qF {t t':TypeId}{x y:Operand}{xs ys:List Value}{r:Bool}(hx:ev E x=some (.agg xs.toArray))(hy:ev E y=some (.agg ys.toArray))(hs:wm P t=true)(hg:P.eqGuardType P.depth t=false)(h:jG P 4 t xs ys=some r):PR P E C (.binOp .eql t x y t') (.bool r):=by
 intro n ac w o ho he hw
 unfold execOp
 rw [ho]
 have hs':∃fs,P.underlying t=some (.struct fs):=by
  unfold wm at hs;split at hs
  ·exact⟨_,by assumption⟩
  ·cases hs
 have h1:=wb w dq hs' h
 have hgd:(eqGuard .eql t x y (.agg xs.toArray) (.agg ys.toArray)).run P w= .ok () w:=by simp [eqGuard,hg]
 simp only [he.eval hx,he.eval hy,Sem.run_bind,hgd,Result.andThen_ok,binOp,h1,Sem.run_pure]
theorem pr_neA {t t':TypeId}{x y:Operand}{xs ys:List Value}{r:Bool}(hx:ev E x=some (.agg xs.toArray))(hy:ev E y=some (.agg ys.toArray))(hs:wm P t=true)(hg:P.eqGuardType P.depth t=false)(h:jG P 4 t xs ys=some r):PR P E C (.binOp .neq t x y t') (.bool (!r)):=by
 intro n ac w o ho he hw
 unfold execOp
 rw [ho]
 have hs':∃fs,P.underlying t=some (.struct fs):=by
  unfold wm at hs;split at hs
  ·exact⟨_,by assumption⟩
  ·cases hs
 have h1:=wb w dq hs' h
 have hgd:(eqGuard .neq t x y (.agg xs.toArray) (.agg ys.toArray)).run P w= .ok () w:=by simp [eqGuard,hg]
 simp only [he.eval hx,he.eval hy,Sem.run_bind,hgd,Result.andThen_ok,binOp,h1,Sem.run_pure]
end
end Go.Sx
namespace Go.Sx
open Go Go.Proofs
instance :El Tryz.prog 22 3 1:=kz
instance :El Tryz.prog 24 80 3:=kz
instance :El Tryz.prog 25 84 2:=kz
instance :El Tryz.prog 26 53 4:=kz
instance :El Tryz.prog 43 42 3:=kz
instance :El Tryz.prog 46 45 6:=kz
instance :El Tryz.prog 47 72 3:=kz
instance :El Tryz.prog 48 66 3:=kz
instance :El Tryz.prog 51 50 10:=kz
instance :El Tryz.prog 60 61 1:=kz
instance :El Tryz.prog 61 9 1:=kz
instance :El Tryz.prog 78 98 3:=kz
instance :El Tryz.prog 82 101 3:=kz
instance :El Tryz.prog 87 89 1:=kz
instance :El Tryz.prog 92 88 1:=kz
instance :El Tryz.prog 96 175 4:=kz
instance :El Tryz.prog 133 4 1:=kz
instance :El Tryz.prog 162 22 1:=kz
instance :El Tryz.prog 225 5 1:=kz
instance :Plc Tryz.prog 28 [(0,1),(1,1),(2,1)]:=kz
instance :Plc Tryz.prog 35 [(0,1),(1,1),(2,1)]:=kz
instance :Plc Tryz.prog 40 [(0,1),(1,1)]:=kz
instance :Plc Tryz.prog 42 [(0,1),(1,2)]:=kz
instance :Plc Tryz.prog 45 [(0,1),(1,1),(2,1),(3,1),(4,1),(5,1)]:=kz
instance :Plc Tryz.prog 50 [(0,1),(1,1),(2,1),(3,1),(4,1),(5,1),(6,1),(7,1),(8,1),(9,1)]:=kz
instance :Plc Tryz.prog 53 [(0,1),(1,1),(2,1),(3,1)]:=kz
instance :Plc Tryz.prog 66 [(0,1),(1,1),(2,1)]:=kz
instance :Plc Tryz.prog 72 [(0,1),(1,1),(2,1)]:=kz
instance :Plc Tryz.prog 80 [(0,1),(1,1),(2,1)]:=kz
instance :Plc Tryz.prog 84 [(0,1),(1,1)]:=kz
instance :Plc Tryz.prog 98 [(0,1),(1,1),(2,1)]:=kz
instance :Plc Tryz.prog 101 [(0,1),(1,1),(2,1)]:=kz
instance :Plc Tryz.prog 115 [(0,1),(1,1)]:=kz
instance :Plc Tryz.prog 124 [(0,1),(1,1),(2,4),(6,1),(7,1),(8,1),(9,1),(10,1)]:=kz
instance :Plc Tryz.prog 164 [(0,3),(3,1),(4,1)]:=kz
instance :Plc Tryz.prog 175 [(0,1),(1,2),(3,1)]:=kz
instance :Elz Tryz.prog 22 3 1 8 [Value.int IntKind.i64 0]:=⟨by kernel_rfl,rfl⟩
instance :Elz Tryz.prog 24 80 3 64 [gs [],Value.slice none 0 0,Value.slice none 0 0]:=⟨by kernel_rfl,rfl⟩
instance :Elz Tryz.prog 25 84 2 40 [gs [],Value.slice none 0 0]:=⟨by kernel_rfl,rfl⟩
instance :Elz Tryz.prog 26 53 4 88 [gs [],Value.slice none 0 0,Value.slice none 0 0,Value.slice none 0 0]:=⟨by kernel_rfl,rfl⟩
instance :Elz Tryz.prog 43 42 3 40 [gs [],Value.int IntKind.i64 0,gs []]:=⟨by kernel_rfl,rfl⟩
instance :Elz Tryz.prog 46 45 6 64 [Value.int IntKind.i64 0,gs [],Value.int IntKind.i64 0,gs [],Value.int IntKind.i64 0,Value.int IntKind.i64 0]:=⟨by kernel_rfl,rfl⟩
instance :Elz Tryz.prog 47 72 3 56 [gs [],gs [],Value.slice none 0 0]:=⟨by kernel_rfl,rfl⟩
instance :Elz Tryz.prog 48 66 3 40 [gs [],gs [],Value.int IntKind.i64 0]:=⟨by kernel_rfl,rfl⟩
instance :Elz Tryz.prog 51 50 10 160 [Value.int IntKind.i64 0,gs [],gs [],gs [],gs [],Value.int IntKind.i64 0,Value.slice none 0 0,Value.slice none 0 0,Value.slice none 0 0,Value.int IntKind.i64 0]:=⟨by kernel_rfl,rfl⟩
instance :Elz Tryz.prog 60 61 1 24 [Value.slice none 0 0]:=⟨by kernel_rfl,rfl⟩
instance :Elz Tryz.prog 61 9 1 16 [gs []]:=⟨by kernel_rfl,rfl⟩
instance :Elz Tryz.prog 78 98 3 56 [gs [],gs [],Value.slice none 0 0]:=⟨by kernel_rfl,rfl⟩
instance :Elz Tryz.prog 82 101 3 48 [Value.int IntKind.i64 0,gs [],Value.slice none 0 0]:=⟨by kernel_rfl,rfl⟩
instance :Elz Tryz.prog 87 89 1 8 [Value.nilFunc]:=⟨by kernel_rfl,rfl⟩
instance :Elz Tryz.prog 92 88 1 8 [Value.nilFunc]:=⟨by kernel_rfl,rfl⟩
instance :Elz Tryz.prog 96 175 4 48 [gs [],Value.int IntKind.i64 0,gs [],Value.int IntKind.i64 0]:=⟨by kernel_rfl,rfl⟩
instance :Elz Tryz.prog 133 4 1 1 [Value.bool false]:=⟨by kernel_rfl,rfl⟩
instance :Elz Tryz.prog 162 22 1 24 [Value.slice none 0 0]:=⟨by kernel_rfl,rfl⟩
instance :Elz Tryz.prog 225 5 1 1 [Value.int IntKind.u8 0]:=⟨by kernel_rfl,rfl⟩
instance :Ty Tryz.prog 2 false 1:=kz
instance :Ty Tryz.prog 3 false 1:=kz
instance :Ty Tryz.prog 4 false 1:=kz
instance :Ty Tryz.prog 9 false 1:=kz
instance :Ty Tryz.prog 22 false 1:=kz
instance :Ty Tryz.prog 24 false 1:=kz
instance :Ty Tryz.prog 25 false 1:=kz
instance :Ty Tryz.prog 26 false 1:=kz
instance :Ty Tryz.prog 28 true 3:=kz
instance :Ty Tryz.prog 33 false 1:=kz
instance :Ty Tryz.prog 35 true 3:=kz
instance :Ty Tryz.prog 40 true 2:=kz
instance :Ty Tryz.prog 42 true 3:=kz
instance :Ty Tryz.prog 43 false 1:=kz
instance :Ty Tryz.prog 45 true 6:=kz
instance :Ty Tryz.prog 46 false 1:=kz
instance :Ty Tryz.prog 47 false 1:=kz
instance :Ty Tryz.prog 48 false 1:=kz
instance :Ty Tryz.prog 50 true 10:=kz
instance :Ty Tryz.prog 51 false 1:=kz
instance :Ty Tryz.prog 53 true 4:=kz
instance :Ty Tryz.prog 61 false 1:=kz
instance :Ty Tryz.prog 66 true 3:=kz
instance :Ty Tryz.prog 72 true 3:=kz
instance :Ty Tryz.prog 73 false 1:=kz
instance :Ty Tryz.prog 78 false 1:=kz
instance :Ty Tryz.prog 80 true 3:=kz
instance :Ty Tryz.prog 82 false 1:=kz
instance :Ty Tryz.prog 84 true 2:=kz
instance :Ty Tryz.prog 87 false 1:=kz
instance :Ty Tryz.prog 88 false 1:=kz
instance :Ty Tryz.prog 89 false 1:=kz
instance :Ty Tryz.prog 96 false 1:=kz
instance :Ty Tryz.prog 98 true 3:=kz
instance :Ty Tryz.prog 101 true 3:=kz
instance :Ty Tryz.prog 110 false 1:=kz
instance :Ty Tryz.prog 117 false 1:=kz
instance :Ty Tryz.prog 133 false 1:=kz
instance :Ty Tryz.prog 156 false 1:=kz
instance :Ty Tryz.prog 162 false 1:=kz
instance :Ty Tryz.prog 175 true 4:=kz
instance :Zero Tryz.prog 22 [Value.slice none 0 0]:=kz
instance :Zero Tryz.prog 28 [Value.slice none 0 0,Value.slice none 0 0,Value.slice none 0 0]:=kz
instance :Zero Tryz.prog 35 [Value.int IntKind.i64 0,Value.int IntKind.i64 0,Value.int IntKind.i64 0]:=kz
instance :Zero Tryz.prog 40 [Value.int IntKind.i64 0,gs []]:=kz
instance :Zero Tryz.prog 42 [gs [],Value.int IntKind.i64 0,gs []]:=kz
instance :Zero Tryz.prog 45 [Value.int IntKind.i64 0,gs [],Value.int IntKind.i64 0,gs [],Value.int IntKind.i64 0,Value.int IntKind.i64 0]:=kz
instance :Zero Tryz.prog 50 [Value.int IntKind.i64 0,gs [],gs [],gs [],gs [],Value.int IntKind.i64 0,Value.slice none 0 0,Value.slice none 0 0,Value.slice none 0 0,Value.int IntKind.i64 0]:=kz
instance :Zero Tryz.prog 53 [gs [],Value.slice none 0 0,Value.slice none 0 0,Value.slice none 0 0]:=kz
instance :Zero Tryz.prog 61 [Value.slice none 0 0]:=kz
instance :Zero Tryz.prog 66 [gs [],gs [],Value.int IntKind.i64 0]:=kz
instance :Zero Tryz.prog 72 [gs [],gs [],Value.slice none 0 0]:=kz
instance :Zero Tryz.prog 80 [gs [],Value.slice none 0 0,Value.slice none 0 0]:=kz
instance :Zero Tryz.prog 84 [gs [],Value.slice none 0 0]:=kz
instance :Zero Tryz.prog 98 [gs [],gs [],Value.slice none 0 0]:=kz
instance :Zero Tryz.prog 101 [Value.int IntKind.i64 0,gs [],Value.slice none 0 0]:=kz
instance :Zero Tryz.prog 110 [Value.nilFunc]:=kz
instance :Zero Tryz.prog 115 [Value.slice none 0 0,Value.int IntKind.i64 0]:=kz
instance :Zero Tryz.prog 117 [Value.nilFunc]:=kz
instance :Zero Tryz.prog 124 [Value.pointer none,Value.slice none 0 0,gs [],Value.slice none 0 0,Value.slice none 0 0,Value.slice none 0 0,gs [],Value.slice none 0 0,Value.int IntKind.i64 0,Value.int IntKind.i64 0,Value.int IntKind.i64 0]:=kz
instance :Zero Tryz.prog 133 [Value.slice none 0 0]:=kz
instance :Zero Tryz.prog 156 [Value.nilFunc]:=kz
instance :Zero Tryz.prog 164 [gs [],Value.slice none 0 0,Value.slice none 0 0,gs [],Value.slice none 0 0]:=kz
instance :Zero Tryz.prog 175 [gs [],Value.int IntKind.i64 0,gs [],Value.int IntKind.i64 0]:=kz
instance :Fld Tryz.prog 28 0 0:=kz
instance :Fld Tryz.prog 28 1 1:=kz
instance :Fld Tryz.prog 28 2 2:=kz
instance :Fld Tryz.prog 35 0 0:=kz
instance :Fld Tryz.prog 35 1 1:=kz
instance :Fld Tryz.prog 40 0 0:=kz
instance :Fld Tryz.prog 40 1 1:=kz
instance :Fld Tryz.prog 42 0 0:=kz
instance :Fld Tryz.prog 42 1 1:=kz
instance :Fld Tryz.prog 45 0 0:=kz
instance :Fld Tryz.prog 45 1 1:=kz
instance :Fld Tryz.prog 45 2 2:=kz
instance :Fld Tryz.prog 45 3 3:=kz
instance :Fld Tryz.prog 45 4 4:=kz
instance :Fld Tryz.prog 45 5 5:=kz
instance :Fld Tryz.prog 50 0 0:=kz
instance :Fld Tryz.prog 50 1 1:=kz
instance :Fld Tryz.prog 50 2 2:=kz
instance :Fld Tryz.prog 50 3 3:=kz
instance :Fld Tryz.prog 50 4 4:=kz
instance :Fld Tryz.prog 50 5 5:=kz
instance :Fld Tryz.prog 50 6 6:=kz
instance :Fld Tryz.prog 50 7 7:=kz
instance :Fld Tryz.prog 50 8 8:=kz
instance :Fld Tryz.prog 50 9 9:=kz
instance :Fld Tryz.prog 53 0 0:=kz
instance :Fld Tryz.prog 53 1 1:=kz
instance :Fld Tryz.prog 53 2 2:=kz
instance :Fld Tryz.prog 53 3 3:=kz
instance :Fld Tryz.prog 66 0 0:=kz
instance :Fld Tryz.prog 66 1 1:=kz
instance :Fld Tryz.prog 66 2 2:=kz
instance :Fld Tryz.prog 72 0 0:=kz
instance :Fld Tryz.prog 72 1 1:=kz
instance :Fld Tryz.prog 72 2 2:=kz
instance :Fld Tryz.prog 80 0 0:=kz
instance :Fld Tryz.prog 80 1 1:=kz
instance :Fld Tryz.prog 80 2 2:=kz
instance :Fld Tryz.prog 84 0 0:=kz
instance :Fld Tryz.prog 84 1 1:=kz
instance :Fld Tryz.prog 98 0 0:=kz
instance :Fld Tryz.prog 98 1 1:=kz
instance :Fld Tryz.prog 98 2 2:=kz
instance :Fld Tryz.prog 101 0 0:=kz
instance :Fld Tryz.prog 101 1 1:=kz
instance :Fld Tryz.prog 101 2 2:=kz
instance :Fld Tryz.prog 115 0 0:=kz
instance :Fld Tryz.prog 115 1 1:=kz
instance :Fld Tryz.prog 124 0 0:=kz
instance :Fld Tryz.prog 124 1 1:=kz
instance :Fld Tryz.prog 124 2 2:=kz
instance :Fld Tryz.prog 124 3 6:=kz
instance :Fld Tryz.prog 124 4 7:=kz
instance :Fld Tryz.prog 124 5 8:=kz
instance :Fld Tryz.prog 124 6 9:=kz
instance :Fld Tryz.prog 124 7 10:=kz
instance :Fld Tryz.prog 164 0 0:=kz
instance :Fld Tryz.prog 164 1 3:=kz
instance :Fld Tryz.prog 164 2 4:=kz
instance :Fld Tryz.prog 175 0 0:=kz
instance :Fld Tryz.prog 175 1 1:=kz
instance :Fld Tryz.prog 175 2 3:=kz
instance :MapTB Tryz.prog 212:=kz
instance :Und Tryz.prog 2 (TypeDesc.int IntKind.i64):=kz
instance :Und Tryz.prog 3 (TypeDesc.int IntKind.i64):=kz
instance :Und Tryz.prog 5 (TypeDesc.int IntKind.u8):=kz
instance :Und Tryz.prog 9 TypeDesc.string:=kz
instance :Und Tryz.prog 30 (TypeDesc.int IntKind.u64):=kz
instance :Und Tryz.prog 197 (TypeDesc.int IntKind.u64):=kz
instance :Body Tryz.prog 9:=kz
instance :Body Tryz.prog 11:=kz
instance :Body Tryz.prog 13:=kz
instance :Body Tryz.prog 15:=kz
instance :Body Tryz.prog 16:=kz
instance :Body Tryz.prog 23:=kz
instance :Body Tryz.prog 24:=kz
instance :Body Tryz.prog 25:=kz
instance :Body Tryz.prog 26:=kz
instance :Body Tryz.prog 27:=kz
instance :Body Tryz.prog 28:=kz
instance :Body Tryz.prog 29:=kz
instance :Body Tryz.prog 30:=kz
instance :Body Tryz.prog 31:=kz
instance :Body Tryz.prog 32:=kz
instance :Body Tryz.prog 34:=kz
instance :Body Tryz.prog 35:=kz
instance :Body Tryz.prog 36:=kz
instance :Body Tryz.prog 37:=kz
instance :Body Tryz.prog 38:=kz
instance :Body Tryz.prog 39:=kz
instance :Body Tryz.prog 40:=kz
instance :Body Tryz.prog 41:=kz
instance :Body Tryz.prog 42:=kz
instance :Body Tryz.prog 46:=kz
instance :Body Tryz.prog 47:=kz
instance :Body Tryz.prog 49:=kz
instance :Body Tryz.prog 51:=kz
instance :Body Tryz.prog 59:=kz
instance :Body Tryz.prog 60:=kz
instance :Body Tryz.prog 61:=kz
instance :Body Tryz.prog 62:=kz
instance :Body Tryz.prog 63:=kz
instance :Body Tryz.prog 64:=kz
instance :Body Tryz.prog 65:=kz
instance :Body Tryz.prog 66:=kz
instance :Body Tryz.prog 67:=kz
instance :Body Tryz.prog 68:=kz
instance :Body Tryz.prog 69:=kz
instance :Body Tryz.prog 70:=kz
instance :Body Tryz.prog 71:=kz
instance :Body Tryz.prog 72:=kz
instance :Body Tryz.prog 73:=kz
instance :Body Tryz.prog 74:=kz
instance :Body Tryz.prog 75:=kz
instance :Body Tryz.prog 77:=kz
instance :Body Tryz.prog 78:=kz
instance :Body Tryz.prog 79:=kz
instance :Body Tryz.prog 80:=kz
instance :Body Tryz.prog 81:=kz
instance :Body Tryz.prog 82:=kz
instance :Body Tryz.prog 83:=kz
instance :Body Tryz.prog 84:=kz
instance :Body Tryz.prog 85:=kz
instance :Body Tryz.prog 86:=kz
instance :Body Tryz.prog 87:=kz
instance :Body Tryz.prog 92:=kz
instance :Body Tryz.prog 93:=kz
instance :Body Tryz.prog 94:=kz
instance :Body Tryz.prog 95:=kz
instance :Body Tryz.prog 96:=kz
instance :Body Tryz.prog 97:=kz
instance :Body Tryz.prog 98:=kz
instance :Body Tryz.prog 99:=kz
instance :Body Tryz.prog 100:=kz
instance :Body Tryz.prog 101:=kz
instance :Body Tryz.prog 118:=kz
instance :Body Tryz.prog 119:=kz
instance :Body Tryz.prog 120:=kz
instance :Body Tryz.prog 123:=kz
instance :Body Tryz.prog 124:=kz
instance :Body Tryz.prog 125:=kz
instance :Body Tryz.prog 126:=kz
instance :Body Tryz.prog 127:=kz
instance :Body Tryz.prog 128:=kz
instance :Body Tryz.prog 129:=kz
instance :Body Tryz.prog 130:=kz
instance :Body Tryz.prog 131:=kz
instance :Body Tryz.prog 132:=kz
instance :Body Tryz.prog 133:=kz
instance :Body Tryz.prog 134:=kz
instance :Body Tryz.prog 135:=kz
instance :Body Tryz.prog 136:=kz
instance :Body Tryz.prog 137:=kz
instance :Body Tryz.prog 138:=kz
instance :Body Tryz.prog 139:=kz
instance :Body Tryz.prog 140:=kz
instance :Body Tryz.prog 141:=kz
instance :Body Tryz.prog 142:=kz
instance :Body Tryz.prog 143:=kz
instance :Body Tryz.prog 147:=kz
instance :Body Tryz.prog 148:=kz
instance :Body Tryz.prog 153:=kz
instance :Body Tryz.prog 168:=kz
instance :Body Tryz.prog 169:=kz
instance :Body Tryz.prog 170:=kz
instance :Body Tryz.prog 171:=kz
instance :Body Tryz.prog 172:=kz
instance :Body Tryz.prog 173:=kz
instance :Body Tryz.prog 174:=kz
instance :Body Tryz.prog 175:=kz
instance :Body Tryz.prog 176:=kz
instance :Body Tryz.prog 177:=kz
instance :Body Tryz.prog 178:=kz
instance :Body Tryz.prog 179:=kz
instance :Body Tryz.prog 180:=kz
instance :Body Tryz.prog 181:=kz
instance :Body Tryz.prog 182:=kz
instance :Body Tryz.prog 183:=kz
instance :Body Tryz.prog 185:=kz
instance :Body Tryz.prog 192:=kz
instance :Body Tryz.prog 193:=kz
instance :Body Tryz.prog 194:=kz
instance :Body Tryz.prog 195:=kz
instance :Body Tryz.prog 196:=kz
end Go.Sx
