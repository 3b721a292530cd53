import Derived.Test.YtjnlogbbcceaoaaGreatR3
import Derived.Maps.Own
import Derived.Laws.StructEq
set_option linter.all false
set_option maxRecDepth 100000
set_option maxHeartbeats 32000000
namespace Go.Sx
open Go
theorem nb {x:Int}(h0: -1000000000≤x)(h1:x≤1000000000):IntKind.i64.wrap x=x:=by
 simp only [IntKind.wrap,IntKind.signed,IntKind.bits];simp;omega
theorem ep {c:List Int}{t j x:Int}(h0:0≤t)(h1:t<c.length)(hj:0≤j):aL (c.set t.toNat x) j=if j=t then x else aL c j:=by
 unfold aL
 rw [List.getElem?_set]
 by_cases e:j=t
 ·subst e;rw [if_pos rfl,if_pos rfl,if_pos om];rfl
 ·rw [if_neg om,if_neg e]
theorem iQ {n at_:Int}:∀{L:List Int} {c d c2 d2:List Int},bU n at_ L c d=some (c2,d2)→(n=c.length)→0≤at_→(∀j:Int,0≤aL c j∧aL c j+L.length≤1000000)→
  c2.length=c.length∧∀j:Int,0≤j→aL c2 j=aL c j+L.count j
 | [],c,d,c2,d2,h,hn,h0,hb=>by
  simp only [bU,Option.some.injEq,Prod.mk.injEq] at h
  obtain⟨rfl,rfl⟩:=h
  exact⟨rfl,fun j _=>by simp⟩
 | t::r,c,d,c2,d2,h,hn,h0,hb=>by
  rw [bU] at h
  split at h
  ·cases h
  ·rename_i ht
   have hw:IntKind.i64.wrap (aL c t+1)=aL c t+1:=by
    have:=hb t
    simp only [List.length_cons] at this
    exact nb om om
   have hg:∀j:Int,0≤j→aL (f9 c t) j=if j=t then aL c t+1 else aL c j:=fun j hj=>by
    unfold f9;rw [hw];exact ep om om hj
   have hneg:∀(c:List Int) (j:Int),¬0≤j→aL c j=aL c 0:=fun c j hj=>by unfold aL;rw [show j.toNat=0 by omega];rfl
   have:=iQ h (by rw [na];exact hn) h0 (fun j=>by
    have h1:=hb j
    have h2:=hb t
    simp only [List.length_cons] at h1 h2
    by_cases hj:0≤j
    ·rw [hg j hj];split<;>omega
    ·rw [hneg _ j hj,hg 0 om]
     have h3:=hb 0
     simp only [List.length_cons] at h3
     split<;>omega)
   obtain⟨h1,h2⟩:=this
   refine⟨by rw [h1,na],fun j hj=>?_⟩
   rw [h2 j hj,hg j hj,List.count_cons]
   by_cases e:j=t
   ·subst e;simp;omega
   ·rw [if_neg e,if_neg (by simpa using fun h=>e h.symm)];simp
abbrev k9 (q:SProc):List Int:=q.steps.flatMap aG
theorem wR {q:SProc}{k:Nat}{s:SStep}(h:q.steps[k]? =some s):(q.steps.take (k+1)).flatMap aG=(q.steps.take k).flatMap aG++aG s:=by
 rw [List.take_add_one,h,List.flatMap_append];simp
theorem mW (s:SStep)(h:dg s=true):(aG s).length≤7:=by
 have:=(fH h).1
 unfold aG;split<;>simp<;>omega
theorem Av {q:SProc}(hS:bK q):∀k:Nat,k≤q.steps.length→((q.steps.take k).flatMap aG).length≤7 * k
 | 0,_=>by simp
 | k+1,h=>by
  have hx:=List.getElem?_eq_getElem (l:=q.steps) (i:=k) om
  have:=Av hS k om
  have:=mW _ (hS k _ hx).1
  rw [wR hx,List.length_append];omega
theorem tB {q:SProc}{i:Int}(hS:bK q)(hn:q.steps.length≤80):∀(l:List SStep) (k:Nat) (c d:List Int) (u:List Bool),l=q.steps.drop k→bN q i l k c d u=okF→c.length=q.steps.length→
  (∀j:Int,0≤j→aL c j=(((q.steps.take k).flatMap aG).count j:Int))→∀x:Nat,k≤x→x<q.steps.length→0<x→((q.steps.take x).flatMap aG).count (x:Int)=1:=by
 intro l
 induction l with
 | nil=>
  intro k c d u hl _ _ _ x hx hx2
  have h2:(q.steps.drop k).length=0:=by rw [← hl];rfl
  rw [List.length_drop] at h2;omega
 | cons s r ih=>
  intro k c d u hl h hc hcc x hkx hxn hx0
  have hx:q.steps[k]? =some s:=by
   have h1:(q.steps.drop k)[0]? =some s:=by rw [← hl];rfl
   rwa [List.getElem?_drop,Nat.add_zero] at h1
  have hr:r=q.steps.drop (k+1):=by
   have h1:(q.steps.drop k).drop 1=r:=by rw [← hl];rfl
   rw [← h1,List.drop_drop]
  rw [bN] at h
  split at h
  ·cases h
  ·split at h
   ·cases h
   ·rename_i hm ht
    split at h
    ·cases h
    ·rename_i c2 d2 hng
     split at h
     ·cases h
     ·split at h
      ·cases h
      ·rename_i u2 _
       rcases Nat.lt_or_ge k x with hlt | hge
       ·have hbd:=Av hS k om
        have hnl:=mW _ (hS k _ hx).1
        have hneg:∀(c:List Int) (j:Int),¬0≤j→aL c j=aL c 0:=fun c j hj=>by unfold aL;rw [show j.toNat=0 by omega];rfl
        have hcl:∀j:Int,((q.steps.take k).flatMap aG).count j≤7 * k:=fun j=>Nat.le_trans List.count_le_length hbd
        obtain⟨e1,e2⟩:=iQ hng (by rw [hc]) om (fun j=>by
         by_cases hj:0≤j
         ·rw [hcc j hj];have:=hcl j;omega
         ·rw [hneg _ _ hj,hcc 0 om];have:=hcl 0;omega)
        exact ih (k+1) c2 d2 u2 hr h (by rw [e1,hc]) (fun j hj=>by rw [e2 j hj,hcc j hj,wR hx,List.count_append];omega) x hlt hxn hx0
       ·have:x=k:=by omega
        subst this
        have h1:=hcc x om
        have h2:aL c x=1:=by
         by_cases e:aL c x=1
         ·exact e
         ·exact absurd ⟨by omega,e⟩ ht
        omega
theorem eL {n:Nat}{j:Int}:aL (List.replicate n (0:Int)) j=0:=by
 unfold aL;rw [List.getElem?_replicate];split<;>rfl
theorem yz {q:SProc}{i:Int}(hS:bK q)(hn:q.steps.length≤80)(h:eZ i q=okF)(x:Nat)(hx:x<q.steps.length)(h0:0<x):((q.steps.take x).flatMap aG).count (x:Int)=1:=
 tB hS hn _ 0 _ _ _ rfl h sq (fun j _=>by rw [eL];simp) x (Nat.zero_le _) hx h0
theorem sO {q:SProc}(hS:bK q)(x:Nat):((q.steps.drop x).flatMap aG).count (x:Int)=0:=by
 rw [List.count_eq_zero]
 intro hm
 obtain⟨s,hs,ht⟩:=List.mem_flatMap.1 hm
 obtain⟨j,hj⟩:=List.mem_iff_getElem?.1 hs
 rw [List.getElem?_drop] at hj
 have:=(hS _ _ hj).2 _ ht
 omega
def gb (q:SProc):Prop:=∀x:Nat,0<x→x<q.steps.length→(k9 q).count (x:Int)=1
theorem rG {q:SProc}{i:Int}(hS:bK q)(hn:q.steps.length≤80)(h:eZ i q=okF):gb q:=fun x h0 hx=>by
 have h1:=yz hS hn h x hx h0
 have h2:=sO hS x
 unfold k9
 rw [← List.take_append_drop x q.steps,List.flatMap_append,List.count_append,h1,h2]
def Par (q:SProc)(p x:Int):Prop:=0≤p∧∃s,q.steps[p.toNat]? =some s∧x∈aG s
theorem ko {q:SProc}(hS:bK q){p x:Int}(h:Par q p x):p<x∧x<q.steps.length:=by
 obtain⟨h0,s,hs,hx⟩:=h
 have:=(hS _ _ hs).2 _ hx
 omega
theorem tK {q:SProc}{p:Nat}{s:SStep}{x:Int}(hs:q.steps[p]? =some s):((aG s).count x)≤(k9 q).count x:=by
 unfold k9
 have h1:=List.getElem?_eq_some_iff.1 hs
 rw [← List.take_append_drop p q.steps,List.flatMap_append,List.count_append,List.drop_eq_getElem_cons h1.1,List.flatMap_cons,List.count_append,h1.2]
 omega
theorem r3 {q:SProc}(hS:bK q)(hT:gb q){p p' x:Int}(h:Par q p x)(h':Par q p' x):p=p':=by
 have hl:=ko hS h
 have key:∀{p p':Int},Par q p x→Par q p' x→p<p'→False:=by
  intro p p' h h' hlt
  have hl:=ko hS h
  have hl2:=ko hS h'
  obtain⟨h0,s,hs,hx⟩:=h
  obtain⟨h0',s',hs',hx'⟩:=h'
  have h1:=hT x.toNat om om
  rw [show((x.toNat:Nat):Int)=x by omega] at h1
  unfold k9 at h1
  have hg:=List.getElem?_eq_some_iff.1 hs'
  rw [← List.take_append_drop p'.toNat q.steps,List.flatMap_append,List.count_append,List.drop_eq_getElem_cons hg.1,List.flatMap_cons,List.count_append,hg.2] at h1
  have h2:0<(aG s').count x:=List.count_pos_iff.2 hx'
  have h3:0<((q.steps.take p'.toNat).flatMap aG).count x:=List.count_pos_iff.2 (List.mem_flatMap.2 ⟨s,List.mem_iff_getElem?.2 ⟨p.toNat,by rw [List.getElem?_take,if_pos om];exact hs⟩,hx⟩)
  omega
 rcases Int.lt_trichotomy p p' with h1 | h1 | h1
 ·exact(key h h' h1).elim
 ·exact h1
 ·exact(key h' h h1).elim
theorem kq {q:SProc}(hS:bK q)(hT:gb q){p:Nat}{s:SStep}(hs:q.steps[p]? =some s):(aG s).Nodup:=by
 rw [List.nodup_iff_count]
 intro x
 by_cases hx:x∈aG s
 ·have h1:=(hS _ _ hs).2 _ hx
  have h2:=hT x.toNat om om
  rw [show((x.toNat:Nat):Int)=x by omega] at h2
  have:=tK (x:=x) hs
  omega
 ·rw [List.count_eq_zero.2 hx];omega
inductive Anc (q:SProc):Int→Int→Prop
 | refl (a:Int):Anc q a a
 | step {a p x:Int}:Anc q a p→Par q p x→Anc q a x
theorem wW {q:SProc}(hS:bK q){a x:Int}(h:Anc q a x):a≤x:=by
 induction h with
 | refl=>omega
 | step _ hp ih=>have:=ko hS hp;omega
theorem anc_lin {q:SProc}(hS:bK q)(hT:gb q){a b x:Int}(h:Anc q a x)(h':Anc q b x):Anc q a b∨Anc q b a:=by
 induction h with
 | refl=>exact .inr h'
 | @step p x ha hp ih=>
  cases h' with
  | refl=>exact .inl (.step ha hp)
  | @step p' _ hb hp'=>
   have:=r3 hS hT hp hp'
   subst this
   exact ih hb
theorem CW {q:SProc}{a b c:Int}(h:Anc q a b)(h':Anc q b c):Anc q a c:=by
 induction h' with
 | refl=>exact h
 | step _ hp ih=>exact .step ih hp
def ordW (q:SProc):Nat→Int→List Int
 | 0,_=>[]
 | f+1,at_=>match q.steps[at_.toNat]? with
  | none=>[]
  | some s=>at_::(aG s).flatMap (ordW q f)
def dx (q:SProc):List Int:=ordW q q.steps.length 0
theorem kS {q:SProc}{f:Nat}{at_:Int}{s:SStep}(hs:q.steps[at_.toNat]? =some s):ordW q (f+1) at_=at_::(aG s).flatMap (ordW q f):=by rw [ordW,hs]
theorem kR {q:SProc}(hS:bK q):∀(f:Nat) (a:Int),0≤a→∀x∈ordW q f a,Anc q a x∧x<q.steps.length
 | 0,_,_,x,h=>by cases h
 | f+1,a,h0,x,h=>by
  rw [ordW] at h
  split at h
  ·cases h
  ·rename_i s hs
   rcases List.mem_cons.1 h with rfl | h
   ·exact⟨.refl _,by have:=(List.getElem?_eq_some_iff.1 hs).1;omega⟩
   ·obtain⟨t,ht,hx⟩:=List.mem_flatMap.1 h
    have h1:=(hS _ _ hs).2 _ ht
    obtain⟨h2,h3⟩:=kR hS f t om x hx
    exact⟨CW (.step (.refl a) ⟨h0,s,hs,ht⟩) h2,h3⟩
theorem lz {α β:Type}{R:β→β→Prop}{f:α→List β}:∀{l:List α},(∀a∈l,(f a).Pairwise R)→l.Pairwise (fun a b=>∀x∈f a,∀y∈f b,R x y)→(l.flatMap f).Pairwise R
 | [],_,_=>List.Pairwise.nil
 | a::l,h,hp=>by
  rw [List.flatMap_cons,List.pairwise_append]
  obtain⟨h1,h2⟩:=List.pairwise_cons.1 hp
  refine⟨h a sq,lz (fun b hb=>h b (by simp [hb])) h2,fun x hx y hy=>?_⟩
  obtain⟨b,hb,hy⟩:=List.mem_flatMap.1 hy
  exact h1 b hb x hx y hy
theorem gM {α:Type}{R S:α→α→Prop}:∀{l:List α},(∀a∈l,∀b∈l,R a b→S a b)→l.Pairwise R→l.Pairwise S
 | [],_,_=>List.Pairwise.nil
 | a::l,h,hp=>by
  obtain⟨h1,h2⟩:=List.pairwise_cons.1 hp
  exact List.pairwise_cons.2 ⟨fun b hb=>h a sq b (by simp [hb]) (h1 b hb),gM (fun x hx y hy=>h x (by simp [hx]) y (by simp [hy])) h2⟩
theorem kQ {q:SProc}(hS:bK q)(hT:gb q):∀(f:Nat) (a:Int),0≤a→(ordW q f a).Nodup
 | 0,_,_=>List.Pairwise.nil
 | f+1,a,h0=>by
  rw [ordW]
  split
  ·exact List.Pairwise.nil
  ·rename_i s hs
   have hch:∀t∈aG s,a<t∧t<q.steps.length:=fun t ht=>by have:=(hS _ _ hs).2 _ ht;omega
   refine List.nodup_cons.2 ⟨fun hm=>?_,lz (fun t ht=>kQ hS hT f t (by have:=hch t ht;omega)) ?_⟩
   ·obtain⟨t,ht,hx⟩:=List.mem_flatMap.1 hm
    have h1:=hch t ht
    have:=wW hS (kR hS f t om a hx).1
    omega
   ·refine gM (fun t ht t' ht' hne x hx y hy e=>?_) (kq hS hT hs)
    subst e
    have h1:=hch t ht
    have h2:=hch t' ht'
    have key:∀{t t':Int},t∈aG s→t'∈aG s→t≠t'→Anc q t t'→False:=by
     intro t t' ht ht' hne h
     cases h with
     | refl=>exact hne rfl
     | @step p _ hp hpar=>
      have:=r3 hS hT hpar ⟨h0,s,hs,ht'⟩
      subst this
      have:=wW hS hp
      have:=hch t ht
      omega
    rcases anc_lin hS hT (kR hS f t om x hx).1 (kR hS f t' om x hy).1 with h | h
    ·exact key ht ht' hne h
    ·exact key ht' ht (fun e=>hne e.symm) h
theorem se:∀(n:Nat) (l:List Int),l.Nodup→(∀x∈l,0≤x∧x<n)→l.length≤n
 | 0,l,_,h=>by
  cases l with
  | nil=>simp
  | cons x l=>have:=h x sq;omega
 | n+1,l,hn,h=>by
  have h1:(l.filter (fun x=>decide (x≠(n:Int)))).length≤n:=se n _ (hn.sublist List.filter_sublist) (fun x hx=>by
   obtain⟨h2,h3⟩:=List.mem_filter.1 hx
   have:=h x h2
   have h3:x≠(n:Int):=by simpa using h3
   omega)
  have h2:l.length≤(l.filter (fun x=>decide (x≠(n:Int)))).length+1:=by
   have h3:=List.length_eq_countP_add_countP (fun x=>decide (x≠(n:Int))) (l:=l)
   rw [List.countP_eq_length_filter] at h3
   have h4:List.countP (fun a=>decide ¬decide (a≠(n:Int))=true) l=l.count (n:Int):=by
    unfold List.count
    apply List.countP_congr
    intro x _
    simp
   have h5:l.count (n:Int)≤1:=List.nodup_iff_count.1 hn _
   omega
  omega
theorem ord_len {q:SProc}(hS:bK q)(hT:gb q)(f:Nat)(a:Int)(h0:0≤a):(ordW q f a).length≤q.steps.length:=
 se _ _ (kQ hS hT f a h0) (fun x hx=>by
  obtain⟨h1,h2⟩:=kR hS f a h0 x hx
  have:=wW hS h1
  omega)
theorem y2 {q:SProc}(hS:bK q):∀(f:Nat) (a:Int),0≤a→a<q.steps.length→q.steps.length≤a.toNat+f→∀{p x:Int},p∈ordW q f a→Par q p x→x∈ordW q f a
 | 0,_,h0,h1,h2,_,_,_,_=>by omega
 | f+1,a,h0,h1,h2,p,x,hp,hx=>by
  obtain⟨s,hs⟩:∃s,q.steps[a.toNat]? =some s:=⟨_,List.getElem?_eq_getElem om⟩
  rw [kS hs] at hp ⊢
  have hself:∀t∈aG s,t∈ordW q f t:=fun t ht=>by
   have h3:=(hS _ _ hs).2 _ ht
   obtain⟨s',hs'⟩:∃s,q.steps[t.toNat]? =some s:=⟨_,List.getElem?_eq_getElem om⟩
   cases f with
   | zero=>omega
   | succ f=>rw [kS hs'];simp
  rcases List.mem_cons.1 hp with rfl | hp
  ·obtain⟨_,s',hs',hx⟩:=hx
   rw [hs] at hs';cases hs'
   exact List.mem_cons_of_mem _ (List.mem_flatMap.2 ⟨x,hx,hself x hx⟩)
  ·obtain⟨t,ht,hp⟩:=List.mem_flatMap.1 hp
   have h3:=(hS _ _ hs).2 _ ht
   exact List.mem_cons_of_mem _ (List.mem_flatMap.2 ⟨t,ht,y2 hS f t om om om hp hx⟩)
theorem ord_all {q:SProc}(hS:bK q)(hT:gb q):∀(x:Nat),x<q.steps.length→(x:Int)∈dx q:=by
 intro x
 induction x using Nat.strongRecOn with
 | _ x ih=>
  intro hx
  unfold dx
  by_cases e:x=0
  ·subst e
   obtain⟨n,hn⟩:∃n,q.steps.length=n+1:=⟨q.steps.length - 1,by omega⟩
   obtain⟨s,hs⟩:∃s,q.steps[(0:Int).toNat]? =some s:=⟨_,List.getElem?_eq_getElem (by simpa using hx)⟩
   rw [hn,kS hs];simp
  ·have h1:=hT x om hx
   have h2:(x:Int)∈k9 q:=List.count_pos_iff.1 om
   obtain⟨s,hs,ht⟩:=List.mem_flatMap.1 h2
   obtain⟨p,hp⟩:=List.mem_iff_getElem?.1 hs
   have h3:=(hS _ _ hp).2 _ ht
   exact y2 hS _ 0 om om om (ih p om om) ⟨by omega,s,by simpa using hp,ht⟩
end Go.Sx
namespace Go.Sx
open Go
def ProcAt (H:Hp)(b:Nat)(q:SProc):Prop:=∀(j:Nat) v,q.cells[j]? =some v→H b j=some v
theorem ProcAt.le {H H':Hp}{b:Nat}{q:SProc}(h:ProcAt H b q)(hl:H.le H'):ProcAt H' b q:=fun j v hv=>hl _ _ _ (h j v hv)
def mvT (m:List Int)(t:Term):Term:={t with l:=if 0≤t.l then aL m t.l else t.l,r:=if 0≤t.r then aL m t.r else t.r}
abbrev RS:=List Int×List Term
def cM (ts:List Term):List Int→RS→RS
 | [],s=>s
 | k::r,s=>match ts[k.toNat]? with
  | none=>cM ts r s
  | some t=>cM ts r (s.1.set k.toNat s.2.length,s.2++[mvT s.1 t])
def eD (ts:List Term)(root:Int)(s:RS):RS:=cM ts (bi ts root) s
def bp (ts:List Term):List Int→List Int→RS→List Int×RS
 | [],acc,s=>(acc,s)
 | root::r,acc,s=>bp ts r (acc++[aL (eD ts root s).1 root]) (eD ts root s)
def SCast.bare (c:SCast):SCast:={c with ap:=(none,0)}
def cT (ts:List Term):List SCast→List SCast→RS→List SCast×RS
 | [],acc,s=>(acc,s)
 | c::r,acc,s=>cT ts r (acc++[{c with args:=(bp ts c.args [] s).1,ap:=(none,0)}]) (bp ts c.args [] s).2
def iw (pl:List Int)(w:SWay):SWay:={w with next:=aL pl w.next}
def SStep.bare (s:SStep):SStep:={s with ap:=(none,0),casts:=s.casts.map SCast.bare,cp:=(none,0),wp:=(none,0)}
def dc (ts:List Term)(s:SStep)(st:RS):RS:=if 0≤s.term then eD ts s.term st else st
def dK (ts:List Term)(s:SStep)(st:RS):List Int×RS:=bp ts s.args [] (dc ts s st)
def gB (ts:List Term)(s:SStep)(st:RS):List SCast×RS:=cT ts s.casts [] (dK ts s st).2
def g6 (ts:List Term)(pl:List Int)(s:SStep)(st:RS):SStep:=
 {s with
  term:=if 0≤s.term then aL (dc ts s st).1 s.term else s.term
  args:=(dK ts s st).1
  ap:=(none,0)
  casts:=(gB ts s st).1
  cp:=(none,0)
  ways:=s.ways.map (iw pl)
  wp:=(none,0)
  next:=if cd s.kind=true then aL pl s.next else s.next}
def d9 (q:SProc)(pl:List Int):List Int→List SStep→RS→List SStep×RS
 | [],acc,st=>(acc,st)
 | at_::r,acc,st=>match q.steps[at_.toNat]? with
  | none=>d9 q pl r acc st
  | some s=>d9 q pl r (acc++[g6 q.terms pl s st]) (gB q.terms s st).2
def eF:List Int→Int→List Int→List Int
 | [],_,pl=>pl
 | at_::r,i,pl=>eF r (i+1) (pl.set at_.toNat i)
def bS (q:SProc):List Int:=eF (dx q) 0 (List.replicate q.steps.length 0)
def iG (q:SProc):SProc:=
 let r:=d9 q (bS q) (dx q) [] (List.replicate q.terms.length 0,[])
 {name:=q.name,params:=q.params,pp:=(none,0),terms:=r.2.2,tp:=(none,0),steps:=r.1,sp:=(none,0)}
def SArms.bare (t:STurn):STurn:={t with ap:=(none,0)}
def SLocal.bare (l:SLocal):SLocal:={l with turns:=l.turns.map SArms.bare,tp:=(none,0)}
def SPoint.bare (p:SPoint):SPoint:={p with ap:=(none,0)}
def SProto.bare (p:SProto):SProto:={p with rp:=(none,0),points:=p.points.map SPoint.bare,pp:=(none,0)}
def SProc.bare (q:SProc):SProc:={q with pp:=(none,0),tp:=(none,0),steps:=q.steps.map SStep.bare,sp:=(none,0)}
def SProg.bare (p:SProg):SProg:={p with protos:=p.protos.map SProto.bare,rp:=(none,0),locals:=p.locals.map SLocal.bare,lp:=(none,0),procs:=p.procs.map SProc.bare,qp:=(none,0)}
def nilPg:SProg:=⟨[],(none,0),[],(none,0),[],(none,0)⟩
def fX (p:SProg):SProg:=
 if(bZ p).e≠0 then nilPg
 else⟨p.protos.map SProto.bare,(none,0),p.locals.map SLocal.bare,(none,0),p.procs.map iG,(none,0)⟩
theorem pw {ts:List Term}:∀{L:List Int} {u u2:List Bool},bV ts L u=some u2→∀t∈L,cF ts t=true
 | [],_,_,_,t,ht=>by cases ht
 | x::r,u,u2,h,t,ht=>by
  rw [bV] at h
  split at h
  ·cases h
  ·rename_i hm
   split at h
   ·cases h
   ·rcases List.mem_cons.1 ht with rfl | ht
    ·simpa using hm
    ·exact pw h t ht
def iL (q:SProc):Prop:=∀(k:Nat) (s:SStep),q.steps[k]? =some s→∀t∈a8 s,cF q.terms t=true
theorem tA {q:SProc}{i:Int}:∀(l:List SStep) (k:Nat) (c d:List Int) (u:List Bool),l=q.steps.drop k→bN q i l k c d u=okF→∀(j:Nat) (s:SStep),k≤j→q.steps[j]? =some s→∀t∈a8 s,cF q.terms t=true:=by
 intro l
 induction l with
 | nil=>
  intro k c d u hl _ j s hj hs
  have h1:=(List.getElem?_eq_some_iff.1 hs).1
  have h2:(q.steps.drop k).length=0:=by rw [← hl];rfl
  rw [List.length_drop] at h2;omega
 | cons x r ih=>
  intro k c d u hl h j s hj hs
  have hx:q.steps[k]? =some x:=by
   have h1:(q.steps.drop k)[0]? =some x:=by rw [← hl];rfl
   rwa [List.getElem?_drop,Nat.add_zero] at h1
  have hr:r=q.steps.drop (k+1):=by
   have h1:(q.steps.drop k).drop 1=r:=by rw [← hl];rfl
   rw [← h1,List.drop_drop]
  rw [bN] at h
  split at h
  ·cases h
  ·split at h
   ·cases h
   ·split at h
    ·cases h
    ·rename_i c2 d2 hn
     split at h
     ·cases h
     ·split at h
      ·cases h
      ·rename_i u2 hro
       rcases Nat.lt_or_ge k j with hlt | hge
       ·exact ih (k+1) c2 d2 u2 hr (by rw [← h];rfl) j s hlt hs
       ·have:j=k:=by omega
        subst this
        rw [hx] at hs;cases hs
        exact pw hro
theorem pu {q:SProc}{i:Int}(h:eZ i q=okF):iL q:=fun k s hs=>tA _ 0 _ _ _ rfl h k s (Nat.zero_le _) hs
theorem DQ {l:List Term}:∀{f:Nat} {a:Int},Tr l f a→a<l.length
 | 0,_,h=>h.elim
 | f+1,a,h=>by
  obtain⟨h0,t,ht,_⟩:=h
  have:=(List.getElem?_eq_some_iff.1 ht).1;omega
theorem rU {l:List Term}:∀(f:Nat) (a:Int),(a<0∨Tr l f a)→∀k∈dL l f a,∃t,l[k.toNat]? =some t∧0≤k∧t.l<l.length∧t.r<l.length
 | 0,_,_,k,h=>by cases h
 | f+1,a,h,k,hk=>by
  by_cases hn:a<0
  ·rw [fB hn] at hk;cases hk
  ·obtain⟨h0,t,hx,_,_,hl0,hl1,hr0,hr1⟩:=h.resolve_left hn
   have hlt:=(List.getElem?_eq_some_iff.1 hx).1
   have hL:t.l<0∨Tr l f t.l:=by
    rcases Int.lt_or_le (ak t.kind) 1 with h1 | h1
    ·exact .inl (by have:=hl1 h1;omega)
    ·exact .inr (hl0 h1)
   have hR:t.r<0∨Tr l f t.r:=by
    rcases Int.lt_or_le (ak t.kind) 2 with h1 | h1
    ·exact .inl (by have:=hr1 h1;omega)
    ·exact .inr (hr0 h1)
   rw [gp hn hx] at hk
   rcases List.mem_append.1 hk with hk | hk
   ·exact rU f _ hL k hk
   ·rcases List.mem_append.1 hk with hk | hk
    ·exact rU f _ hR k hk
    ·simp at hk;subst hk
     refine⟨t,hx,h0,?_,?_⟩
     ·rcases hL with h1 | h1
      ·omega
      ·exact DQ h1
     ·rcases hR with h1 | h1
      ·omega
      ·exact DQ h1
section
variable {ts:List Term}{L:List Int}{k x:Int}{t:Term}{m:List Int}{o:List Term}{N:RS}
theorem tg_next (k0:0≤k)(hx:L[k.toNat]? =some x)(ht:ts[x.toNat]? =some t)(h:N=cM ts (L.drop k.toNat) (m,o)):N=cM ts (L.drop (k+1).toNat) (m.set x.toNat o.length,o++[mvT m t]):=by
 rw [h,bJ hx,cM,ht,show(k+1).toNat=k.toNat+1 by omega]
theorem tg_end (k0:0≤k)(hk:¬k<L.length)(h:N=cM ts (L.drop k.toNat) (m,o)):N=(m,o):=by
 rw [h,List.drop_of_length_le om];rfl
end
theorem lK {ts:List Term}:∀{L:List Int} {s:RS},(cM ts L s).1.length=s.1.length
 | [],_=>rfl
 | k::r,s=>by
  rw [cM];split
  ·exact lK
  ·rw [lK];simp
theorem ka {ts:List Term}:∀{L:List Int} {s:RS},(cM ts L s).2.length≤s.2.length+L.length
 | [],_=>by simp [cM]
 | k::r,s=>by
  rw [cM];split
  ·have:=ka (ts:=ts) (L:=r) (s:=s);simp only [List.length_cons];omega
  ·rename_i t _
   have:=ka (ts:=ts) (L:=r) (s:=(s.1.set k.toNat s.2.length,s.2++[mvT s.1 t]))
   simp only [List.length_cons,List.length_append,List.length_nil] at *;omega
theorem nM {ts:List Term}{root:Int}{s:RS}:(eD ts root s).1.length=s.1.length:=lK
theorem lJ {ts:List Term}{root:Int}{s:RS}(h:cF ts root=true):(eD ts root s).2.length≤s.2.length+33554432:=by
 have h1:=ka (ts:=ts) (L:=bi ts root) (s:=s)
 have h2:=or h
 unfold eD bi at *;omega
theorem eK {ts:List Term}:∀{L acc:List Int} {s:RS},(bp ts L acc s).2.1.length=s.1.length
 | [],_,_=>rfl
 | r::L,acc,s=>by rw [bp,eK,nM]
theorem d8 {ts:List Term}:∀{L acc:List Int} {s:RS},(∀t∈L,cF ts t=true)→(bp ts L acc s).2.2.length≤s.2.length+33554432 * L.length
 | [],_,_,_=>by simp [bp]
 | r::L,acc,s,h=>by
  rw [bp]
  have h1:=d8 (ts:=ts) (L:=L) (acc:=acc++[aL (eD ts r s).1 r]) (s:=eD ts r s) (fun t ht=>h t (by simp [ht]))
  have h2:=lJ (s:=s) (h r sq)
  simp only [List.length_cons];omega
theorem pL {ts:List Term}:∀{L acc:List SCast} {s:RS},(cT ts L acc s).2.1.length=s.1.length
 | [],_,_=>rfl
 | r::L,acc,s=>by rw [cT,pL,eK]
theorem nk {ts:List Term}:∀{L acc:List SCast} {s:RS},(∀c∈L,c.args.length≤6∧∀t∈c.args,cF ts t=true)→(cT ts L acc s).2.2.length≤s.2.length+201326592 * L.length
 | [],_,_,_=>by simp [cT]
 | r::L,acc,s,h=>by
  rw [cT]
  have h1:=nk (ts:=ts) (L:=L) (acc:=acc++[{r with args:=(bp ts r.args [] s).1,ap:=(none,0)}]) (s:=(bp ts r.args [] s).2) (fun t ht=>h t (by simp [ht]))
  have h0:=h r sq
  have h2:=d8 (acc:=[]) (s:=s) h0.2
  simp only [List.length_cons];omega
section
variable {ts:List Term}{L:List Int}{k x:Int}{acc:List Int}{s:RS}{N:List Int×RS}
theorem ta_next (k0:0≤k)(hx:L[k.toNat]? =some x)(h:N=bp ts (L.drop k.toNat) acc s):N=bp ts (L.drop (k+1).toNat) (acc++[aL (eD ts x s).1 x]) (eD ts x s):=by
 rw [h,bJ hx,bp,show(k+1).toNat=k.toNat+1 by omega]
theorem ta_end (k0:0≤k)(hk:¬k<L.length)(h:N=bp ts (L.drop k.toNat) acc s):N=(acc,s):=by
 rw [h,List.drop_of_length_le om];rfl
end
section
variable {ts:List Term}{L acc:List SCast}{k:Int}{c:SCast}{s:RS}{N:List SCast×RS}
theorem qf (k0:0≤k)(hx:L[k.toNat]? =some c)(h:N=cT ts (L.drop k.toNat) acc s):N=cT ts (L.drop (k+1).toNat) (acc++[{c with args:=(bp ts c.args [] s).1,ap:=(none,0)}]) (bp ts c.args [] s).2:=by
 rw [h,bJ hx,cT,show(k+1).toNat=k.toNat+1 by omega]
theorem Fh (k0:0≤k)(hk:¬k<L.length)(h:N=cT ts (L.drop k.toNat) acc s):N=(acc,s):=by
 rw [h,List.drop_of_length_le om];rfl
end
section
variable {q:SProc}{pl:List Int}{L:List Int}{k x:Int}{s:SStep}{acc:List SStep}{st:RS}{N:List SStep×RS}
theorem st_next (k0:0≤k)(hx:L[k.toNat]? =some x)(hs:q.steps[x.toNat]? =some s)(h:N=d9 q pl (L.drop k.toNat) acc st):N=d9 q pl (L.drop (k+1).toNat) (acc++[g6 q.terms pl s st]) (gB q.terms s st).2:=by
 rw [h,bJ hx,d9,hs,show(k+1).toNat=k.toNat+1 by omega]
theorem st_end (k0:0≤k)(hk:¬k<L.length)(h:N=d9 q pl (L.drop k.toNat) acc st):N=(acc,st):=by
 rw [h,List.drop_of_length_le om];rfl
end
section
variable {L:List Int}{k x:Int}{pl N:List Int}
theorem pg_next (k0:0≤k)(hx:L[k.toNat]? =some x)(h:N=eF (L.drop k.toNat) k pl):N=eF (L.drop (k+1).toNat) (k+1) (pl.set x.toNat k):=by
 rw [h,bJ hx,eF,show(k+1).toNat=k.toNat+1 by omega]
theorem pg_end (k0:0≤k)(hk:¬k<L.length)(h:N=eF (L.drop k.toNat) k pl):N=pl:=by
 rw [h,List.drop_of_length_le om];rfl
end
theorem pA:∀{L:List Int} {i:Int} {pl:List Int},(eF L i pl).length=pl.length
 | [],_,_=>rfl
 | x::L,i,pl=>by rw [eF,pA];simp
theorem Cl (q:SProc):(bS q).length=q.steps.length:=by unfold bS;rw [pA];simp
theorem fm_room {α β:Type}{l:List α}{k:Int}{x:α}{f:α→List β}(k0:0≤k)(hx:l[k.toNat]? =some x):((l.take k.toNat).flatMap f).length+(f x).length≤(l.flatMap f).length:=by
 have h1:(l.take k.toNat).flatMap f++(f x++(l.drop (k.toNat+1)).flatMap f)=l.flatMap f:=by
  conv=>rhs;rw [← List.take_append_drop k.toNat l,List.flatMap_append,bJ hx,List.flatMap_cons]
 rw [← h1];simp only [List.length_append];omega
def Nm (o:List Term):Prop:=∀t∈o,t.name.length≤9223372036854775807
theorem Bv {ts:List Term}(hn:Nm ts):∀{L:List Int} {s:RS},Nm s.2→Nm (cM ts L s).2
 | [],_,h=>h
 | k::r,s,h=>by
  rw [cM];split
  ·exact Bv hn h
  ·rename_i t ht
   refine Bv hn (fun x hx=>?_)
   rcases List.mem_append.1 hx with hx | hx
   ·exact h x hx
   ·simp at hx;subst hx;exact hn t (List.mem_of_getElem? ht)
theorem sj {ts:List Term}(hn:Nm ts):∀{L acc:List Int} {s:RS},Nm s.2→Nm (bp ts L acc s).2.2
 | [],_,_,h=>h
 | r::L,acc,s,h=>by rw [bp];exact sj hn (Bv hn h)
theorem y7 {ts:List Term}(hn:Nm ts):∀{L acc:List SCast} {s:RS},Nm s.2→Nm (cT ts L acc s).2.2
 | [],_,_,h=>h
 | r::L,acc,s,h=>by rw [cT];exact y7 hn (sj hn h)
theorem EH {ts:List Term}(hn:Nm ts){s:SStep}{st:RS}(h:Nm st.2):Nm (dc ts s st).2:=by
 unfold dc;split
 ·exact Bv hn h
 ·exact h
theorem sk {q:SProc}{pl:List Int}(hn:Nm q.terms):∀{L:List Int} {acc:List SStep} {st:RS},Nm st.2→Nm (d9 q pl L acc st).2.2
 | [],_,_,h=>h
 | r::L,acc,st,h=>by
  rw [d9];split
  ·exact sk hn h
  ·exact sk hn (y7 hn (sj hn (EH hn h)))
structure RiseOk (q:SProc):Prop where
 s:bK q
 t:gb q
 m:iL q
 p:q.params.length≤6
 n1:1≤q.steps.length
 n2:q.steps.length≤80
 n3:q.terms.length≤160
theorem ol {q:SProc}(hS:bK q){x:Int}(h:x∈dx q):0≤x∧x<q.steps.length:=by
 obtain⟨h1,h2⟩:=kR hS _ 0 om x h
 have:=wW hS h1;omega
theorem iD {s:SStep}{t:Int}(h:t∈s.args):t∈a8 s:=by unfold a8;simp [h]
theorem iC {s:SStep}{c:SCast}{t:Int}(hc:c∈s.casts)(h:t∈c.args):t∈a8 s:=by unfold a8;simp only [List.mem_append,List.mem_flatMap];exact .inr ⟨c,hc,h⟩
theorem po {s:SStep}(hm:dg s=true)(h:0≤s.term):s.term∈a8 s:=by
 have hk:s.kind=1∨s.kind=2∨s.kind=3∨s.kind=4:=by
  unfold dg at hm
  split at hm; · cases hm
  split at hm; · cases hm
  rename_i hk hb
  have hb:gA (dD s)=false:=by simpa using hb
  simp only [gA,Bool.or_eq_false_iff,decide_eq_false_iff_not,Bool.not_eq_false'] at hb
  have h1:(dD s).term= -1:=of_decide_eq_true hb.2.2.2.2.1
  have h2:(dD s).term=(if s.kind=1∨s.kind=2∨s.kind=3∨s.kind=4 then -1 else s.term):=rfl
  rw [h2] at h1
  by_cases e:s.kind=1∨s.kind=2∨s.kind=3∨s.kind=4
  ·exact e
  ·rw [if_neg e] at h1;omega
 unfold a8
 rw [if_pos om];simp
theorem rk {s:SStep}(hm:dg s=true){w:SWay}(hw:w∈s.ways):w.next∈aG s:=by
 have hk:s.kind=3∨s.kind=5:=by
  unfold dg at hm
  split at hm; · cases hm
  split at hm; · cases hm
  rename_i hk hb
  have hb:gA (dD s)=false:=by simpa using hb
  simp only [gA,Bool.or_eq_false_iff,decide_eq_false_iff_not,Bool.not_eq_false'] at hb
  have h1:=hb.2.2.2.2.2.2.2.1
  by_cases e:s.kind=3∨s.kind=5
  ·exact e
  ·have h2:(dD s).ways=(if s.kind=3∨s.kind=5 then [] else s.ways):=rfl
   rw [h2,if_neg e] at h1
   have:=List.length_pos_of_mem hw
   omega
 unfold aG
 rw [if_neg (by rcases hk with h | h<;>simp [cd,h])]
 exact List.mem_map_of_mem hw
theorem oB {s:SStep}(h:cd s.kind=true):s.next∈aG s:=by unfold aG;rw [if_pos h];simp
theorem hY {q:SProc}{s:SStep}{st:RS}(hm:dg s=true)(ht:∀t∈a8 s,cF q.terms t=true):(dc q.terms s st).2.length≤st.2.length+33554432∧(dK q.terms s st).2.2.length≤st.2.length+234881024∧(gB q.terms s st).2.2.length≤st.2.length+3355443200:=by
 have hz:=fH hm
 have h1:(dc q.terms s st).2.length≤st.2.length+33554432:=by
  unfold dc;split
  ·rename_i h;exact lJ (ht _ (po hm h))
  ·omega
 have h2:=d8 (acc:=[]) (s:=dc q.terms s st) (L:=s.args) (fun t h=>ht t (iD h))
 have h3:=nk (acc:=[]) (s:=(dK q.terms s st).2) (L:=s.casts) (fun c hc=>⟨hz.2.2.2 c hc,fun t h=>ht t (iC hc h)⟩)
 have e2:(dK q.terms s st).2.2.length≤st.2.length+234881024:=by unfold dK;omega
 exact⟨h1,e2,by unfold gB;omega⟩
theorem kM {q:SProc}{s:SStep}{st:RS}:(dc q.terms s st).1.length=st.1.length∧(dK q.terms s st).2.1.length=st.1.length∧(gB q.terms s st).2.1.length=st.1.length:=by
 have h1:(dc q.terms s st).1.length=st.1.length:=by unfold dc;split;exact nM;rfl
 have h2:(dK q.terms s st).2.1.length=st.1.length:=by unfold dK;rw [eK,h1]
 exact⟨h1,h2,by unfold gB;rw [pL,h2]⟩
structure CaIx (H:Hp)(old C:List SCast)(k:Int):Prop where
 n:C.length=old.length
 r:∀c∈C,RdSl H 1 I64.cells (.slice c.ap.1 c.args.length c.ap.2) c.args
 d:C.drop k.toNat=old.drop k.toNat
theorem CaIx.le {H H':Hp}{old C:List SCast}{k:Int}(h:CaIx H old C k)(hl:H.le H'):CaIx H' old C k:=⟨h.n,fun c hc=>(h.r c hc).le hl,h.d⟩
theorem CaIx.at_ {H:Hp}{old C:List SCast}{k:Int}{c:SCast}(h:CaIx H old C k)(hx:old[k.toNat]? =some c):C[k.toNat]? =some c:=by
 have h1:(C.drop k.toNat)[0]? =(old.drop k.toNat)[0]? :=by rw [h.d]
 rw [List.getElem?_drop,List.getElem?_drop,Nat.add_zero] at h1
 rw [h1,hx]
theorem CaIx.put {H:Hp}{old C:List SCast}{k:Int}{c:SCast}(h:CaIx H old C k)(k0:0≤k)(hc:RdSl H 1 I64.cells (.slice c.ap.1 c.args.length c.ap.2) c.args):CaIx H old (C.set k.toNat c) (k+1):=by
 refine⟨by rw [List.length_set,h.n],fun x hx=>?_,?_⟩
 ·rcases List.mem_or_eq_of_mem_set hx with hx | rfl
  ·exact h.r x hx
  ·exact hc
 ·rw [show(k+1).toNat=k.toNat+1 by omega,List.drop_set_of_lt om]
  have:=congrArg (List.drop 1) h.d
  rwa [List.drop_drop,List.drop_drop] at this
theorem D7 {α:Type}{l:List α}{k:Int}{x y:α}(k0:0≤k)(hx:l[k.toNat]? =some x):(l.set k.toNat y).take (k+1).toNat=l.take k.toNat++[y]:=by
 have hlt:=(List.getElem?_eq_some_iff.1 hx).1
 rw [show(k+1).toNat=k.toNat+1 by omega,List.take_add_one,List.take_set_of_le (Nat.le_refl _),List.getElem?_set,if_pos rfl,if_pos hlt];rfl
def WaIx (pl:List Int)(old W:List SWay)(k:Int):Prop:=W=(old.take k.toNat).map (iw pl)++old.drop k.toNat
theorem WaIx.at_ {pl:List Int}{old W:List SWay}{k:Int}{c:SWay}(h:WaIx pl old W k)(hx:old[k.toNat]? =some c):W[k.toNat]? =some c:=by
 have hlt:=(List.getElem?_eq_some_iff.1 hx).1
 rw [h,List.getElem?_append_right (by simp;omega),List.getElem?_drop]
 simp only [List.length_map,List.length_take]
 rw [Nat.min_eq_left om,Nat.sub_self,Nat.add_zero,hx]
theorem WaIx.put {pl:List Int}{old W:List SWay}{k:Int}{c:SWay}(h:WaIx pl old W k)(k0:0≤k)(hx:old[k.toNat]? =some c):WaIx pl old (W.set k.toNat (iw pl c)) (k+1):=by
 have hlt:=(List.getElem?_eq_some_iff.1 hx).1
 unfold WaIx at *
 rw [h,List.set_append_right _ _ (by simp;omega)]
 simp only [List.length_map,List.length_take]
 rw [Nat.min_eq_left om,Nat.sub_self,bJ hx,List.set_cons_zero,bQ k0 hx,show(k+1).toNat=k.toNat+1 by omega,List.append_assoc];rfl
theorem WaIx.len {pl:List Int}{old W:List SWay}{k:Int}(h:WaIx pl old W k):W.length=old.length:=by rw [h];simp;omega
theorem nl {C:List SCast}{k:Int}{c:SCast}{xs:List Int}{ap:Sp}(k0:0≤k)(hx:C[k.toNat]? =some c):((C.set k.toNat {c with args:=xs,ap:=ap}).take (k+1).toNat).map SCast.bare=(C.take k.toNat).map SCast.bare++[{c with args:=xs,ap:=(none,0)}]:=by
 rw [D7 k0 hx,List.map_append];rfl
def StAll (H:Hp)(S:List SStep):Prop:=∀s∈S,StepOk H s
theorem StAll.le {H H':Hp}{S:List SStep}(h:StAll H S)(hl:H.le H'):StAll H' S:=fun s hs=>(h s hs).le hl
theorem StAll.snoc {H:Hp}{S:List SStep}{s:SStep}(h:StAll H S)(hs:StepOk H s):StAll H (S++[s]):=fun x hx=>by
 rcases List.mem_append.1 hx with hx | hx
 ·exact h x hx
 ·simp at hx;subst hx;exact hs
theorem kL {ts:List Term}{pl:List Int}{s:SStep}{st rs:RS}{C:List SCast}{W:List SWay}{tm nx:Int}{ap cp wp:Sp}(hC:gB ts s st=(C.map SCast.bare,rs))(hW:W=s.ways.map (iw pl))
  (ht:tm=if 0≤s.term then aL (dc ts s st).1 s.term else s.term) (hn:nx=if cd s.kind=true then aL pl s.next else s.next):
  (⟨s.kind,s.name,s.peer,s.label,s.proc,tm,(dK ts s st).1,ap,C,cp,W,wp,nx⟩:SStep).bare=g6 ts pl s st:=by
 subst ht hn hW;unfold SStep.bare g6;rw [hC]
end Go.Sx
namespace Go.Sx
open Go
theorem arms_le {l:List SArm}{n:Int}(h:dv l n=true):l.length≤6:=by
 unfold dv at h
 simp only [Bool.and_eq_true,decide_eq_true_eq] at h;omega
theorem turn_le {t:STurn}{n:Int}(h:ek n t=true):t.arms.length≤6:=by
 unfold ek at h
 split at h
 ·simp only [Bool.and_eq_true,decide_eq_true_eq,Bool.not_eq_true',decide_eq_false_iff_not] at h;omega
 ·split at h
  ·simp only [Bool.and_eq_true] at h;exact arms_le h.2
  ·cases h
theorem ze {l:SLocal}(h:cX l=true):l.turns.length≤40∧∀t∈l.turns,t.arms.length≤6:=by
 unfold cX at h
 simp only [Bool.and_eq_true,decide_eq_true_eq] at h
 exact⟨h.1.2,fun t ht=>turn_le (List.all_eq_true.1 h.2 t ht)⟩
theorem Au (x:SPoint):(dU x).arms=x.arms:=by unfold dU;split<;>rfl
theorem Et {p:SProto}(h:cW p=true):p.roles.length≤5∧p.points.length≤24∧∀x∈p.points,x.arms.length≤6:=by
 unfold cW at h
 simp only [Bool.and_eq_true] at h
 obtain⟨h1,_,_,h4⟩:=h
 unfold cR at h1
 simp only [Bool.and_eq_true,decide_eq_true_eq,Bool.not_eq_true',decide_eq_false_iff_not] at h1
 refine⟨by omega,by omega,fun x hx=>?_⟩
 have:=(ze h4).2 (dU x) (List.mem_map_of_mem hx)
 rwa [Au] at this
theorem wA {l:List SProc}{i:Int}{q:SProc}(h:(bh l i q).e=0):RiseOk q:=by
 unfold bh at h
 split at h
 ·rename_i h2;exact absurd h h2
 ·rename_i h2
  have h2:(eX l i q).e=0:=by simpa using h2
  obtain⟨n1,n2,n3⟩:=lQ h2
  have hs:=ia _ _ _ _ _ h
  have hS:bK q:=lL (i:=i) hs
  refine⟨hS,rG hS n2 hs,pu hs,?_,n1,n2,n3⟩
  unfold eX at h2
  split at h2
  ·cases h2
  ·rename_i hg
   have hg:(bP q&&q.params.all dJ)=true:=by simpa using hg
   simp only [Bool.and_eq_true] at hg
   have h1:=hg.1
   unfold bP at h1
   simp only [Bool.and_eq_true,decide_eq_true_eq] at h1
   omega
theorem vK {l:List SProc}:∀(r:List SProc) (i:Int),(cJ (bh l) r i).e=0→∀q∈r,RiseOk q
 | [],_,_,q,hq=>by cases hq
 | x::r,i,h,q,hq=>by
  rw [cJ] at h
  split at h
  ·rename_i h1;exact absurd h h1
  ·rename_i h1
   rcases List.mem_cons.1 hq with rfl | hq
   ·exact wA (by simpa using h1)
   ·exact vK r (i+1) h q hq
structure CheckOk (pg:SProg):Prop where
 r:pg.protos.length≤6∧∀p∈pg.protos,cW p=true
 l:pg.locals.length≤12∧∀p∈pg.locals,cX p=true∧au p.name=true
 q:pg.procs.length≤24∧∀q∈pg.procs,RiseOk q
theorem CO {pg:SProg}(h:(bZ pg).e=0):CheckOk pg:=by
 obtain⟨h1,h2,h3,h4⟩:=sS h
 unfold iv at h1
 split at h1
 ·cases h1
 ·rename_i hz
  split at h1
  ·cases h1
  ·rename_i hp
   split at h1
   ·cases h1
   ·rename_i hl
    have hp:pg.protos.all cW=true:=by simpa using hp
    have hl:pg.locals.all (fun l=>cX l&&au l.name)=true:=by simpa using hl
    refine⟨⟨by omega,List.all_eq_true.1 hp⟩,⟨by omega,fun p hp=>?_⟩,⟨by omega,vK _ _ h2⟩⟩
    have:=List.all_eq_true.1 hl p hp
    simpa using this
def PtAll (H:Hp)(S:List SPoint):Prop:=∀s∈S,PointOk H s
theorem PtAll.le {H H':Hp}{S:List SPoint}(h:PtAll H S)(hl:H.le H'):PtAll H' S:=fun s hs=>(h s hs).le hl
def TuAll (H:Hp)(S:List STurn):Prop:=∀s∈S,TurnOk H s
theorem TuAll.le {H H':Hp}{S:List STurn}(h:TuAll H S)(hl:H.le H'):TuAll H' S:=fun s hs=>(h s hs).le hl
def PrAll (H:Hp)(S:List SProto):Prop:=∀s∈S,ProtoOk H s
theorem PrAll.le {H H':Hp}{S:List SProto}(h:PrAll H S)(hl:H.le H'):PrAll H' S:=fun s hs=>(h s hs).le hl
def LoAll (H:Hp)(S:List SLocal):Prop:=∀s∈S,LocalOk H s
theorem LoAll.le {H H':Hp}{S:List SLocal}(h:LoAll H S)(hl:H.le H'):LoAll H' S:=fun s hs=>(h s hs).le hl
def PcAll (H:Hp)(S:List SProc):Prop:=∀s∈S,ProcOk H s
theorem PcAll.le {H H':Hp}{S:List SProc}(h:PcAll H S)(hl:H.le H'):PcAll H' S:=fun s hs=>(h s hs).le hl
theorem gV {α:Type}{p:α→Prop}{S:List α}{s:α}(h:∀x∈S,p x)(hs:p s):∀x∈S++[s],p x:=fun x hx=>by
 rcases List.mem_append.1 hx with hx | hx
 ·exact h x hx
 ·simp at hx;subst hx;exact hs
theorem jf {α β:Type}{f g:α→β}{S l:List α}{k:Int}{x y:α}(k0:0≤k)(hx:l[k.toNat]? =some x)(h:S.map f=(l.take k.toNat).map g)(hy:f y=g x):(S++[y]).map f=(l.take (k+1).toNat).map g:=by
 rw [List.map_append,h,bT k0 hx,List.map_append];simp [hy]
theorem Ei {pg:SProg}(h:¬(bZ pg).e=0):nilPg.bare=fX pg:=by unfold fX;rw [if_pos h];rfl
theorem vd {pg:SProg}(h:(bZ pg).e=0):fX pg=⟨pg.protos.map SProto.bare,(none,0),pg.locals.map SLocal.bare,(none,0),pg.procs.map iG,(none,0)⟩:=by unfold fX;rw [if_neg (by simpa using h)]
theorem EI (H:Hp):ProgOk H nilPg:=⟨RdSl.nil,(fun _ h=>by cases h),RdSl.nil,(fun _ h=>by cases h),RdSl.nil,(fun _ h=>by cases h)⟩
end Go.Sx
namespace Go.Sx
open Go
def lM (s:SStep):List Int:=((if s.term= -1 then [] else [s.term])++s.args)++s.casts.flatMap (·.args)
def lB (k:Int):Bool:=decide (k=0)||(decide (k=3)||(decide (k=5)||(decide (k=6)||decide (k=10))))
def kh (s:SStep):List Int:=s.ways.map (·.next)++(if lB s.kind=true then [] else [s.next])
def vH (s:Str)(b:Bool):Bool:=if b=true then au s else decide (s=[])
def rP (s:SStep):Bool:=if s.kind=3∨s.kind=5 then eI s else decide ((s.ways.length:Int)=0)
def Ep (s:SStep):Bool:=if s.kind=8 then(decide ((1:Int)≤s.casts.length)&&(decide ((s.casts.length:Int)≤4)&&s.casts.all (fun c=>!eU c))) else decide ((s.casts.length:Int)=0)
def Bx (k:Int):Bool:=decide (k=1)||(decide (k=4)||(decide (k=5)||(decide (k=8)||decide (k=9))))
def peerK (k:Int):Bool:=decide (k=4)||(decide (k=5)||decide (k=8))
def EW (k:Int):Bool:=decide (k=4)||decide (k=8)
def callK (k:Int):Bool:=decide (k=6)||decide (k=7)
def wl (s:SStep):Bool:=vH s.name (Bx s.kind)&&(vH s.peer (peerK s.kind)&&(vH s.label (EW s.kind)&&vH s.proc (callK s.kind)))
def oh (s:SStep):Bool:=decide (6<(s.args.length:Int))||((!callK s.kind&&decide (0<(s.args.length:Int)))||(!rP s|| !Ep s))
def Cf (s:SStep):Bool:=
 if s.kind<0∨10<s.kind then false
 else if wl s=false then false
 else if oh s=true then false
 else if lB s.kind=true∧¬s.next= -1 then false
 else if s.kind=1∨s.kind=2∨s.kind=3∨s.kind=4 then true else decide (s.term= -1)
theorem ways_0 {s:SStep}(h:s.kind=3∨s.kind=5):rP s=eI s:=by unfold rP;rw [if_pos h]
theorem DI {s:SStep}(h:¬(s.kind=3∨s.kind=5)):rP s=decide ((s.ways.length:Int)=0):=by unfold rP;rw [if_neg h]
theorem wC (s:SStep):Cf s=dg s:=by
  by_cases hk:s.kind<0∨10<s.kind
  · unfold Cf dg;rw [if_pos hk,if_pos hk]
  · have hk2:s.kind=0∨s.kind=1∨s.kind=2∨s.kind=3∨s.kind=4∨s.kind=5∨s.kind=6∨s.kind=7∨s.kind=8∨s.kind=9∨s.kind=10:=by omega
    unfold Cf dg
    rw [if_neg hk,if_neg hk]
    rw [Bool.eq_iff_iff]
    rcases hk2 with h | h | h | h | h | h | h | h | h | h | h<;>
      (simp only [wl,oh,gA,dD,vH,Bx,peerK,EW,callK,lB,cd,rP,Ep,h]
       simp
       try (constructor<;>intro hh<;>simp_all<;>omega))
end Go.Sx
namespace Go.Sx
open Go
theorem yZ {l:List Term}:∀(f at_:Nat) (deep:Int) (p:List Nat),cf l f at_ deep=some p→∀a:Int,0≤a→a.toNat=at_→(dL l f a).Perm (p.map Int.ofNat):=by
 intro f
 induction f with
 | zero=>intro at_ deep p h;simp [cf] at h
 | succ f ih=>
  intro at_ deep p h a ha0 ha
  obtain⟨t,p0,q0,hx,hok,h0,h1,rfl⟩:=cS h
  have hops:=okT_ops hok
  have e0:(dL l f t.l).Perm (p0.map Int.ofNat):=by
   split at h0
   ·rename_i ho
    simp only [Option.some.injEq] at h0;subst h0
    rw [hops.2.2.2.1 ho,fB dq];exact List.Perm.refl _
   ·rename_i ho
    exact ih _ _ _ h0 t.l (sd hok ho).1 rfl
  have e1:(dL l f t.r).Perm (q0.map Int.ofNat):=by
   split at h1
   ·rename_i ho
    simp only [Option.some.injEq] at h1;subst h1
    rw [hops.2.2.2.2 ho,fB dq];exact List.Perm.refl _
   ·rename_i ho
    exact ih _ _ _ h1 t.r (r7 hok ho).1 rfl
  rw [gp om (by rw [ha];exact hx)]
  have ea:a=Int.ofNat at_:=by rw [← ha];exact(Int.toNat_of_nonneg ha0).symm
  rw [List.map_cons,List.map_append,ea]
  refine List.Perm.trans ?_ (List.perm_middle (a:=Int.ofNat at_) (l₁:=p0.map Int.ofNat++q0.map Int.ofNat) (l₂:=[])) |>.trans sq
  rw [List.append_assoc]
  exact(e0.append (e1.append_right _))
def CH (a u:List Bool):Option (List Bool):=if(List.zipWith (· && ·) a u).any id=true then none else some (List.zipWith (· || ·) u a)
theorem zA {α:Type}{f g:α→Bool}:∀{l:List α},(∀x∈l,f x=g x)→l.any f=l.any g
 | [],_=>rfl
 | x::l,h=>by rw [List.any_cons,List.any_cons,h x sq,zA (fun y hy=>h y (by simp [hy]))]
theorem uN:∀(L:List Int) (u:List Bool),(∀k∈L,0≤k∧k<u.length)→L.Nodup→
  eV L u=if L.any (fun k=>u[k.toNat]?.getD false)=true then none else some ((List.range u.length).map (fun i:Nat=>u[i]?.getD false||decide (Int.ofNat i∈L)))
 | [],u,_,_=>by
  simp only [eV,List.any_nil,Bool.false_eq_true,if_false,List.not_mem_nil,decide_false,Bool.or_false]
  congr 1
  apply List.ext_getElem?
  intro i
  rw [List.getElem?_map]
  by_cases hi:i<u.length
  ·rw [List.getElem?_range hi,List.getElem?_eq_getElem hi];simp [hi]
  ·rw [List.getElem?_eq_none om,List.getElem?_eq_none (by simp;omega)];rfl
 | k::r,u,hb,hn=>by
  rw [eV,List.any_cons]
  have hk:=hb k sq
  rw [List.nodup_cons] at hn
  by_cases h:u[k.toNat]?.getD false=true
  ·rw [if_pos h,h];simp
  ·have h':u[k.toNat]?.getD false=false:=by simpa using h
   rw [if_neg h,uN r _ (fun j hj=>by rw [List.length_set];exact hb j (by simp [hj])) hn.2,h',Bool.false_or]
   have e1:r.any (fun j=>(u.set k.toNat true)[j.toNat]?.getD false)=r.any (fun j=>u[j.toNat]?.getD false):=by
    refine zA (fun j hj=>?_)
    have hj':=hb j (by simp [hj])
    have hne:k.toNat≠j.toNat:=fun e=>hn.1 (by rw [show k=j by omega];exact hj)
    rw [List.getElem?_set,if_neg hne]
   rw [e1]
   split
   ·rfl
   ·congr 1
    rw [List.length_set]
    apply List.map_congr_left
    intro i hi
    have hi:i<u.length:=by simpa using hi
    rw [List.getElem?_set]
    by_cases e:k.toNat=i
    ·subst e
     rw [if_pos rfl,if_pos hi]
     have:((k.toNat:Nat):Int)=k:=by omega
     simp [this]
    ·rw [if_neg e]
     have:(i:Int)≠k:=by omega
     simp [this]
theorem use_in {ts:List Term}{root:Int}{d:List Int}{u:List Bool}(hd:iA ts root=some d)(hdl:d.length=ts.length)(hu:u.length=ts.length):eV (bi ts root) u=CH (d.map mP) u:=by
 have hm:cF ts root=true:=by rw [rx,hd];rfl
 obtain⟨hrg,p,hp,hpn⟩:=zc.1 hm
 have hperm:=yZ _ _ _ _ hp root om rfl
 have hmem:∀i:Nat,(Int.ofNat i∈bi ts root)↔(d.map mP)[i]? =some true:=fun i=>by
  unfold bi
  rw [hperm.mem_iff]
  constructor
  ·intro h
   obtain⟨j,hj,e⟩:=List.mem_map.1 h
   have:j=i:=by have e:(j:Int)=i:=e;omega
   subst this
   have hpos:=DP hd hp hj
   rw [List.getElem?_map]
   cases hdx:d[j]? with
   | none=>rw [hdx] at hpos;simp at hpos
   | some y=>rw [hdx] at hpos;simp at hpos;simp [mP,hpos]
  ·intro h
   exact List.mem_map.2 ⟨i,tree_in hd hp (pos_at h rfl),rfl⟩
 have hbd:∀k∈bi ts root,0≤k∧k<u.length:=fun k hk=>by
  have:=gL _ _ k hk;rw [hu];exact this
 have hnd:(bi ts root).Nodup:=hperm.nodup_iff.2 (by
  unfold List.Nodup
  rw [List.pairwise_map]
  exact hpn.imp (fun {a b} h e=>h (by have e:(a:Int)=b:=e;omega)))
 rw [uN _ _ hbd hnd]
 unfold CH
 have e1:(bi ts root).any (fun k=>u[k.toNat]?.getD false)=(List.zipWith (· && ·) (d.map mP) u).any id:=by
  rw [Bool.eq_iff_iff,List.any_eq_true,List.any_eq_true]
  constructor
  ·rintro⟨k,hk,h⟩
   have hkb:=hbd k hk
   have h1:=(hmem k.toNat).1 (by rw [show Int.ofNat k.toNat=k by show((k.toNat:Nat):Int)=k;omega];exact hk)
   have h2:=List.getElem?_eq_getElem (l:=u) (i:=k.toNat) om
   rw [h2] at h
   refine⟨true,List.mem_of_getElem? (i:=k.toNat) ?_,rfl⟩
   rw [List.getElem?_zipWith,h1,h2]
   simpa using h
  ·rintro⟨b,hb,hbt⟩
   obtain⟨i,hi⟩:=List.getElem?_of_mem hb
   rw [List.getElem?_zipWith] at hi
   cases h1:(d.map mP)[i]? with
   | none=>rw [h1] at hi;simp at hi
   | some x=>
    cases h2:u[i]? with
    | none=>rw [h1,h2] at hi;simp at hi
    | some y=>
     rw [h1,h2] at hi
     simp at hi hbt
     subst hi
     simp at hbt
     obtain⟨rfl,rfl⟩:=hbt
     exact⟨i,(hmem i).2 h1,by simp [h2]⟩
 rw [e1]
 split
 ·rfl
 ·congr 1
  apply List.ext_getElem?
  intro i
  rw [List.getElem?_map,List.getElem?_zipWith]
  by_cases hi:i<u.length
  ·have h1:=List.getElem?_eq_getElem (l:=d.map mP) (i:=i) (by rw [List.length_map,hdl,← hu];exact hi)
   rw [List.getElem?_range hi,h1,List.getElem?_eq_getElem hi]
   simp only [Option.map_some,Option.getD_some]
   have:=hmem i
   rw [h1] at this
   have h3:decide (Int.ofNat i∈bi ts root)=(d.map mP)[i]'(by rw [List.length_map,hdl,← hu];exact hi):=by
    cases hb:(d.map mP)[i]'(by rw [List.length_map,hdl,← hu];exact hi) with
    | true=>rw [hb] at this;exact decide_eq_true (this.2 rfl)
    | false=>rw [hb] at this;exact decide_eq_false (fun h=>by simpa using this.1 h)
   rw [h3]
   simp [hi]
  ·rw [List.getElem?_eq_none (l:=List.range u.length) (by simp;omega),List.getElem?_eq_none (l:=u) om]
   cases(d.map mP)[i]? <;>rfl
def rUse (ts:List Term):List Int→List Bool→Option (List Bool)
 | [],u=>some u
 | t::r,u=>match iA ts t with
  | none=>none
  | some d=>match CH (d.map mP) u with
   | none=>none
   | some u2=>rUse ts r u2
theorem EZ {a u u2:List Bool}(h:CH a u=some u2)(hl:a.length=u.length):u2.length=u.length:=by
 unfold CH at h
 split at h
 ·cases h
 ·cases h;simp [hl]
theorem iB {d d':List Int}{i to:Int}(h:dR d i to=some d'):d'.length=d.length:=by
 unfold dR at h
 repeat' split at h
 all_goals first | (cases h;done) | (cases h;simp)
theorem tz {l:List Term}{i:Int}{d d':List Int}(h:dA l i d=some d'):d'.length=d.length:=by
 unfold dA at h
 split at h
 ·cases h;rfl
 ·split at h
  ·cases h
  ·split at h
   ·cases h
   ·unfold eT at h
    repeat' split at h
    all_goals first | (cases h;done) | (cases h;rfl) | (cases h;rename_i h1;exact iB h1) | (rename_i h1 _;rw [iB h,iB h1]) | (rename_i h1;rw [iB h])
theorem my {l:List Term}:∀(n:Nat) (d:List Int) {d':List Int},eJ l n d=some d'→d'.length=d.length
 | 0,d,d',h=>by cases h;rfl
 | n+1,d,d',h=>by
  rw [eJ] at h
  split at h
  ·cases h
  ·rename_i d1 h1
   rw [my n d1 h,tz h1]
theorem uU {ts:List Term}{root:Int}{d:List Int}(h:iA ts root=some d):d.length=ts.length:=by
 unfold iA at h
 split at h
 ·cases h
 ·have:=my _ _ h
  simpa using this
theorem Br {ts:List Term}:∀(L:List Int) (u:List Bool),u.length=ts.length→rUse ts L u=bV ts L u
 | [],_,_=>rfl
 | t::r,u,hu=>by
  rw [rUse,bV]
  cases hd:iA ts t with
  | none=>
   have hm:cF ts t=false:=by rw [rx,hd];rfl
   rw [if_pos hm]
  | some d=>
   have hm:cF ts t=true:=by rw [rx,hd];rfl
   rw [if_neg (by rw [hm];decide),use_in hd (uU hd) hu]
   dsimp only
   cases hi:CH (d.map mP) u with
   | none=>rfl
   | some u2=>exact Br r u2 (by rw [EZ hi (by rw [List.length_map,uU hd,hu]),hu])
def eE (s:SStep):Bool:=!(decide (s.kind=1)||(decide (s.kind=2)||decide (s.kind=3)))|| !decide (s.term= -1)
theorem EP (ts:List Term):cF ts (-1)=false:=by
 unfold cF
 split
 ·rfl
 ·rw [if_pos dq]
theorem iF {s:SStep}(hm:dg s=true)(hr:eE s=true):lM s=a8 s:=by
 have h4:¬(s.kind=1∨s.kind=2∨s.kind=3∨s.kind=4)→s.term= -1:=fun hk=>by
  rw [← wC] at hm
  unfold Cf at hm
  split at hm; · cases hm
  split at hm; · cases hm
  split at hm; · cases hm
  split at hm; · cases hm
  simpa using hm
 unfold lM a8
 by_cases ht:s.term= -1
 ·rw [if_pos ht,if_neg]
  rintro(h | h | h | h)
  ·simp [eE,h,ht] at hr
  ·simp [eE,h,ht] at hr
  ·simp [eE,h,ht] at hr
  ·exact h.2 ht
 ·rw [if_neg ht,if_pos]
  have:=Classical.byContradiction (fun h=>ht (h4 h))
  rcases this with h | h | h | h
  ·exact .inl h
  ·exact .inr (.inl h)
  ·exact .inr (.inr (.inl h))
  ·exact .inr (.inr (.inr ⟨h,ht⟩))
theorem DL {ts:List Term}{s:SStep}{u:List Bool}(hr:eE s=false):bV ts (a8 s) u=none:=by
 have h:(s.kind=1∨s.kind=2∨s.kind=3)∧s.term= -1:=by
  unfold eE at hr
  simp at hr
  exact⟨by omega,hr.2⟩
 have e:∃r,a8 s=s.term::r:=by
  unfold a8
  rw [if_pos (by rcases h.1 with h | h | h<;>simp [h])]
  exact⟨_,rfl⟩
 obtain⟨r,e⟩:=e
 rw [e,bV,h.2,if_pos (EP ts)]
end Go.Sx
namespace Go.Sx
open Go
theorem nY {s:SStep}(hm:dg s=true):kh s=aG s:=by
 have h0:¬(s.kind<0∨10<s.kind):=fun h=>by
  unfold dg at hm;rw [if_pos h] at hm;cases hm
 have hw:cd s.kind=true→s.ways=[]:=fun hg=>by
  have hne:¬(s.kind=3∨s.kind=5):=fun h=>by
   rcases h with h | h<;>rw [h] at hg<;>exact absurd hg dq
  rw [← wC] at hm
  unfold Cf at hm
  rw [if_neg h0] at hm
  split at hm; · cases hm
  split at hm; · cases hm
  rename_i hp
  have hp:oh s=false:=by simpa using hp
  unfold oh at hp
  simp only [Bool.or_eq_false_iff] at hp
  have:=hp.2.2.1
  rw [DI hne] at this
  simp at this
  exact this
 unfold kh aG
 by_cases hg:cd s.kind=true
 ·rw [if_pos hg,hw hg]
  have he:¬lB s.kind=true:=by
   unfold cd at hg;unfold lB
   simp at hg ⊢;omega
  rw [if_neg he];rfl
 ·rw [if_neg hg]
  have he:lB s.kind=true:=by
   unfold cd at hg;unfold lB
   simp at hg ⊢;omega
  rw [if_pos he,List.append_nil]
def fY (n i:Int):List Int→List Int×List Int→List Int×List Int
 | [],p=>p
 | t::r,p=>if t≤i∨n≤t then fY n i r p else fY n i r (p.1.set t.toNat (if 1<aL (f9 p.2 t) t then -2 else i),f9 p.2 t)
def ii (n:Int):List SStep→Int→List Int×List Int→List Int×List Int
 | [],_,p=>p
 | s::r,i,p=>ii n r (i+1) (fY n i (kh s) p)
def mR (n:Nat):List Int×List Int:=((List.replicate n (-2)).set 0 (-1),List.replicate n 0)
def tE (q:SProc):List Int:=(ii q.steps.length q.steps 0 (mR q.steps.length)).1
theorem gS {n i:Int}:∀{L:List Int} {p:List Int×List Int},(fY n i L p).1.length=p.1.length∧(fY n i L p).2.length=p.2.length
 | [],_=>⟨rfl,rfl⟩
 | t::r,p=>by
  rw [fY]
  split
  ·exact gS
  ·have:= @gS n i r (p.1.set t.toNat (if 1<aL (f9 p.2 t) t then -2 else i),f9 p.2 t)
   simpa [na] using this
theorem kV {c:List Int}{t j x:Int}(h0:0≤t)(hj:0≤j)(h:j≠t):aL (c.set t.toNat x) j=aL c j:=by
 unfold aL
 rw [List.getElem?_set,if_neg om]
theorem lP {n i:Int}:∀{L:List Int} {p:List Int×List Int} {j:Int},0≤i→0≤j→j≤i→aL (fY n i L p).1 j=aL p.1 j
 | [],_,_,_,_,_=>rfl
 | t::r,p,j,hi,h0,h=>by
  rw [fY]
  split
  ·exact lP hi h0 h
  ·rw [lP hi h0 h]
   exact kV om h0 om
theorem pB {n:Int}:∀{l:List SStep} {i:Int} {p:List Int×List Int} {j:Int},0≤i→0≤j→j≤i→aL (ii n l i p).1 j=aL p.1 j
 | [],_,_,_,_,_,_=>rfl
 | s::r,i,p,j,hi,h0,h=>by rw [ii,pB om h0 om,lP hi h0 h]
theorem r4 {n i:Int}:∀{L:List Int} {p:List Int×List Int},0≤i→n≤p.1.length→(∀j,0≤j→aL p.1 j<j∨p.1.length≤j)→∀j,0≤j→aL (fY n i L p).1 j<j∨p.1.length≤j
 | [],_,_,_,h=>h
 | t::r,p,hi,hn,h=>by
  rw [fY]
  split
  ·exact r4 hi hn h
  ·rename_i ht
   intro j hj
   have:= @r4 n i r (p.1.set t.toNat (if 1<aL (f9 p.2 t) t then -2 else i),f9 p.2 t) hi (by simpa using hn) (fun j hj=>by
    rw [List.length_set]
    by_cases e:j=t
    ·subst e
     left
     dsimp only
     rw [ep om om hj,if_pos rfl]
     split<;>omega
    ·dsimp only
     rw [kV om hj e]
     exact h j hj) j hj
   simpa using this
theorem vu {n:Int}:∀{l:List SStep} {i:Int} {p:List Int×List Int},0≤i→n≤p.1.length→(∀j,0≤j→aL p.1 j<j∨p.1.length≤j)→∀j,0≤j→aL (ii n l i p).1 j<j∨p.1.length≤j
 | [],_,_,_,_,h=>h
 | s::r,i,p,hi,hn,h=>by
  rw [ii]
  intro j hj
  have:=vu (l:=r) (i:=i+1) (p:=fY n i (kh s) p) om (by rw [gS.1];exact hn) (fun j hj=>by rw [gS.1];exact r4 hi hn h j hj) j hj
  rwa [gS.1] at this
theorem par0_lt (n:Nat):∀j,0≤j→aL (mR n).1 j<j∨((mR n).1.length:Int)≤j:=fun j hj=>by
 unfold mR aL
 by_cases h:j.toNat<n
 ·left
  dsimp only
  rw [List.getElem?_set]
  split
  ·rename_i e;rw [if_pos (by simp;omega)];simp;omega
  ·rw [List.getElem?_replicate,if_pos h];simp;omega
 ·right;simp;omega
theorem par_lt' (q:SProc)(j:Int)(hj:0≤j)(hn:j<q.steps.length):aL (tE q) j<j:=by
 have:=vu (n:=q.steps.length) (l:=q.steps) (i:=0) (p:=mR q.steps.length) om (by simp [mR]) (par0_lt _) j hj
 rcases this with h | h
 ·exact h
 ·simp [mR] at h;omega
def fZ (s:Option SStep):Int:=match s with
 | some s=>if s.kind=3∨s.kind=5 then 1 else 0
 | none=>0
def gD (q:SProc)(up:List Int):Nat→Int→Int
 | 0,_=>0
 | f+1,i=>if i<0 then 0 else fZ q.steps[i.toNat]? +gD q up f (aL up i)
def kC (q:SProc)(up:List Int)(x:Int):Int:=gD q up (x+1).toNat x
theorem vE (s:Option SStep):0≤fZ s∧fZ s≤1:=by
 unfold fZ;split
 ·split<;>omega
 ·omega
theorem vP {q:SProc}{up:List Int}:∀(f:Nat) (i:Int),0≤gD q up f i∧gD q up f i≤f
 | 0,_=>by simp [gD]
 | f+1,i=>by
  rw [gD]
  have:=vE q.steps[i.toNat]?
  have:=vP (q:=q) (up:=up) f (aL up i)
  split<;>omega
theorem sP {q:SProc}{up:List Int}(hlt:∀j:Int,0≤j→j<q.steps.length→aL up j<j):∀(f g:Nat) (i:Int),i<q.steps.length→i<f→i<g→gD q up f i=gD q up g i
 | 0,0,_,_,_,_=>rfl
 | 0,g+1,i,_,h,_=>by rw [gD,gD,if_pos om]
 | f+1,0,i,_,_,h=>by rw [gD,gD,if_pos om]
 | f+1,g+1,i,hn,h1,h2=>by
  rw [gD,gD]
  split
  ·rfl
  ·rename_i h0
   have:=hlt i om hn
   rw [sP hlt f g (aL up i) om om om]
theorem E9 {q:SProc}{up:List Int}(hlt:∀j:Int,0≤j→j<q.steps.length→aL up j<j){k:Int}(h0:0≤k)(hn:k<q.steps.length):kC q up k=fZ q.steps[k.toNat]? +(if aL up k<0 then 0 else kC q up (aL up k)):=by
 unfold kC
 rw [show(k+1).toNat=k.toNat+1 by omega,gD,if_neg om]
 congr 1
 have:=hlt k h0 hn
 split
 ·rename_i h
  cases k.toNat with
  | zero=>rfl
  | succ f=>rw [gD,if_pos h]
 ·rename_i h
  exact sP hlt _ _ _ om om om
structure PJ (q:SProc)(up:List Int)(kk m:Int)(c d:List Int)(p:List Int×List Int):Prop where
 e:p.2=c
 lc:c.length=q.steps.length
 ld:d.length=q.steps.length
 lp:p.1.length=q.steps.length
 b:∀j:Int,0≤j→0≤aL c j∧aL c j≤m
 z:aL c 0=0∧aL p.1 0= -1
 a0:∀j:Int,0<j→j<q.steps.length→aL c j=0→aL p.1 j= -2
 a1:∀j:Int,kk≤j→0≤j→j<q.steps.length→aL c j=1→0≤aL p.1 j∧aL p.1 j<kk∧aL d j=kC q up (aL p.1 j)
 a2:∀j:Int,0≤j→j<q.steps.length→1<aL c j→aL p.1 j= -2
theorem vx {q:SProc}{up:List Int}{k:Int}(k0:0≤k):∀{L:List Int} {m:Int} {c d c2 d2:List Int} {p:List Int×List Int},PJ q up (k+1) m c d p→aL d k=kC q up k→0≤m→m+L.length≤1000000→bU q.steps.length k L c d=some (c2,d2)→
  PJ q up (k+1) (m+L.length) c2 d2 (fY q.steps.length k L p)∧aL d2 k=aL d k
 | [],m,c,d,c2,d2,p,hJ,hd,hm0,hm,h=>by
  simp only [bU,Option.some.injEq,Prod.mk.injEq] at h
  obtain⟨rfl,rfl⟩:=h
  exact⟨by simpa [fY] using hJ,rfl⟩
 | t::r,m,c,d,c2,d2,p,hJ,hd,hm0,hm,h=>by
  rw [bU] at h
  split at h
  ·cases h
  ·rename_i ht
   simp only [List.length_cons] at hm
   have hbt:=hJ.b t om
   have hw:IntKind.i64.wrap (aL c t+1)=aL c t+1:=nb om om
   have hg:∀j:Int,0≤j→aL (f9 c t) j=if j=t then aL c t+1 else aL c j:=fun j hj=>by
    unfold f9;rw [hw];exact ep om (by rw [hJ.lc];omega) hj
   rw [fY,if_neg ht,hJ.e]
   have hp1:∀j:Int,0≤j→aL (p.1.set t.toNat (if 1<aL (f9 c t) t then -2 else k)) j=if j=t then(if 1<aL (f9 c t) t then -2 else k) else aL p.1 j:=fun j hj=>ep om (by rw [hJ.lp];omega) hj
   have hd1:∀j:Int,0≤j→aL (d.set t.toNat (aL d k)) j=if j=t then aL d k else aL d j:=fun j hj=>ep om (by rw [hJ.ld];omega) hj
   have hgt:=hg t om
   rw [if_pos rfl] at hgt
   have hJ2:PJ q up (k+1) (m+1) (f9 c t) (d.set t.toNat (aL d k)) (p.1.set t.toNat (if 1<aL (f9 c t) t then -2 else k),f9 c t):=by
    refine⟨rfl,by rw [na];exact hJ.lc,by rw [List.length_set];exact hJ.ld,by rw [List.length_set];exact hJ.lp,fun j hj=>?_,?_,fun j hj hn h1=>?_,fun j hkj hj hn h1=>?_,fun j hj hn h1=>?_⟩
    ·have:=hJ.b j hj
     rw [hg j hj];split<;>omega
    ·have:=hJ.z
     dsimp only
     rw [hg 0 om,hp1 0 om,if_neg om,if_neg om];exact this
    ·dsimp only
     rw [hg j om] at h1
     rw [hp1 j om]
     by_cases e:j=t
     ·subst e;rw [if_pos rfl] at h1;omega
     ·rw [if_neg e] at h1 ⊢;exact hJ.a0 j hj hn h1
    ·dsimp only
     rw [hg j hj] at h1
     rw [hp1 j hj,hd1 j hj]
     by_cases e:j=t
     ·subst e
      rw [if_pos rfl] at h1
      simp only [if_true]
      rw [hgt,if_neg om]
      exact⟨k0,by omega,hd⟩
     ·rw [if_neg e] at h1
      rw [if_neg e,if_neg e];exact hJ.a1 j hkj hj hn h1
    ·dsimp only
     rw [hg j hj] at h1
     rw [hp1 j hj]
     by_cases e:j=t
     ·subst e
      rw [if_pos rfl] at h1
      rw [if_pos rfl,hgt,if_pos om]
     ·rw [if_neg e] at h1 ⊢;exact hJ.a2 j hj hn h1
   have hdk:aL (d.set t.toNat (aL d k)) k=aL d k:=by rw [hd1 k k0,if_neg om]
   obtain⟨h1,h2⟩:=vx k0 hJ2 (by rw [hdk];exact hd) om om h
   refine⟨?_,by rw [h2,hdk]⟩
   rw [List.length_cons,show m+((r.length+1:Nat):Int)=m+1+r.length by omega]
   exact h1
theorem nH:∀{L:List Int} {u u2:List Bool},eV L u=some u2→u2.length=u.length
 | [],u,u2,h=>by cases h;rfl
 | k::r,u,u2,h=>by
  rw [eV] at h
  split at h
  ·cases h
  ·rw [nH h,List.length_set]
theorem kg {ts:List Term}:∀{L:List Int} {u u2:List Bool},bV ts L u=some u2→u2.length=u.length
 | [],u,u2,h=>by cases h;rfl
 | t::r,u,u2,h=>by
  rw [bV] at h
  split at h
  ·cases h
  ·split at h
   ·cases h
   ·rename_i u3 h3
    rw [kg h,nH h3]
def yT (q:SProc)(up:List Int)(at_:Int)(s:SStep):Bool:=
 (kh s).all (fun t=>!(decide (t≤at_)||decide ((q.steps.length:Int)≤t)))&&(!(decide (0<at_)&&decide (aL up at_<0))&&decide (kC q up at_≤24))
def vh (q:SProc)(i:Int)(up:List Int):List SStep→Int→List Bool→SFault
 | [],_,_=>okF
 | s::r,at_,u=>
  if dg s=false then⟨1500,i,at_⟩
  else if yT q up at_ s=false then⟨1502,i,at_⟩
  else if eE s=false then⟨1503,i,at_⟩
  else match rUse q.terms (lM s) u with
   | none=>⟨1503,i,at_⟩
   | some u2=>vh q i up r (at_+1) u2
theorem jH {n at_:Int}:∀{L c d:List Int},L.all (fun t=>!(decide (t≤at_)||decide (n≤t)))=(bU n at_ L c d).isSome
 | [],_,_=>rfl
 | t::r,c,d=>by
  rw [bU,List.all_cons]
  split
  ·rename_i h
   have:(decide (t≤at_)||decide (n≤t))=true:=by simpa using h
   rw [this];rfl
  ·rename_i h
   have:(decide (t≤at_)||decide (n≤t))=false:=by
    rw [← Bool.not_eq_true];simpa using h
   rw [this,jH (L:=r)];rfl
theorem PJ.mono {q:SProc}{up:List Int}{k k' m m':Int}{c d:List Int}{p:List Int×List Int}(h:PJ q up k m c d p)(hk:k≤k')(hm:m≤m'):PJ q up k' m' c d p:=
 ⟨h.e,h.lc,h.ld,h.lp,fun j hj=>⟨(h.b j hj).1,by have:=(h.b j hj).2;omega⟩,h.z,h.a0,fun j hkj hj hn h1=>by
  obtain⟨a,b,c⟩:=h.a1 j om hj hn h1
  exact⟨a,by omega,c⟩,h.a2⟩
theorem B8 {q : SProc} {i : Int} {up : List Int} (hn : q.steps.length ≤ 80) (hlt : ∀ j : Int, 0 ≤ j → j < q.steps.length → aL up j < j) : ∀ (l : List SStep) (k : Nat) (c d : List Int) (u : List Bool) (p : List Int × List Int), l = q.steps.drop k → PJ q up k (7 * k) c d p → (k = 0 → aL d 0 = 0) → u.length = q.terms.length →
  up = (ii q.steps.length l k p).1 → vh q i up l k u = bN q i l k c d u := by
 intro l
 induction l with
 | nil => intro k c d u p hl hJ hz hu hup; rfl
 | cons s r ih =>
  intro k c d u p hl hJ hz hu hup
  have hx : q.steps[k]? = some s := by
   have h1 : (q.steps.drop k)[0]? = some s := by rw [← hl]; rfl
   rwa [List.getElem?_drop, Nat.add_zero] at h1
  have hr : r = q.steps.drop (k + 1) := by
   have h1 : (q.steps.drop k).drop 1 = r := by rw [← hl]; rfl
   rw [← h1, List.drop_drop]
  have hkn := (List.getElem?_eq_some_iff.1 hx).1
  rw [vh, bN]
  by_cases hm : dg s = false
  ·rw [if_pos hm, if_pos hm]
  have hm' : dg s = true := by simpa using hm
  rw [if_neg hm, if_neg hm]
  have hupk : aL up k = aL p.1 k := by rw [hup]; exact pB om om om
  have hne := nY hm'
  by_cases hc : (0 : Int) < k ∧ ¬ aL c k = 1
  ·rw [if_pos hc, if_pos]
   unfold yT
   have hneg : aL up k < 0 := by
    rw [hupk]
    have hb := (hJ.b k om).1
    rcases (by omega : aL c k = 0 ∨ 1 < aL c k) with h | h
    ·rw [hJ.a0 k hc.1 om h]; omega
    ·rw [hJ.a2 k om om h]; omega
   rw [decide_eq_true hc.1, decide_eq_true hneg]; simp
  ·rw [if_neg hc]
   have hok : (!(decide ((0 : Int) < k) && decide (aL up k < 0))) = true := by
    by_cases h0 : (0 : Int) < k
    ·have h1 : aL c k = 1 := by
      by_cases e : aL c k = 1
      ·exact e
      ·exact absurd ⟨h0, e⟩ hc
     have := (hJ.a1 k om om om h1).1
     rw [hupk, decide_eq_false (show ¬ aL p.1 k < 0 by omega)]; simp
    ·rw [decide_eq_false h0]; rfl
   -- how deep
   have hdk : aL (dn s k d) k = kC q up k := by
    rw [E9 hlt om om]
    have hx' : q.steps[(k : Int).toNat]? = some s := by simpa using hx
    rw [hx', hupk]
    have hdv : aL d k = (if aL p.1 k < 0 then 0 else kC q up (aL p.1 k)) := by
     by_cases h0 : (0 : Int) < k
     ·have h1 : aL c k = 1 := by
       by_cases e : aL c k = 1
       ·exact e
       ·exact absurd ⟨h0, e⟩ hc
      obtain ⟨a, b, e⟩ := hJ.a1 k om om om h1
      rw [if_neg om]; exact e
     ·have e : k = 0 := by omega
      subst e
      have := hJ.z.2
      rw [if_pos (by simp only [Int.natCast_zero, Int.ofNat_zero] at *; simpa using (by omega : aL p.1 0 < 0))]
      simpa using hz rfl
    have hdb : 0 ≤ aL d k ∧ aL d k ≤ 100 := by
     rw [hdv]
     split
     ·omega
     ·rename_i h
      unfold kC
      have h2 := vP (q := q) (up := up) (aL p.1 k + 1).toNat (aL p.1 k)
      have h3 := hlt k om om
      rw [hupk] at h3
      omega
    rw [← hdv]
    unfold dn fZ
    dsimp only
    split
    ·unfold f9
     rw [ep om (by rw [hJ.ld]; omega) om, if_pos rfl, nb om om]; omega
    ·omega
   have hJ1 : PJ q up (k + 1) (7 * k) c (dn s k d) p := by
    refine ⟨hJ.e, hJ.lc, by rw [wS]; exact hJ.ld, hJ.lp, hJ.b, hJ.z, hJ.a0, fun j hkj hj hn1 h1 => ?_, hJ.a2⟩
    obtain ⟨a, b, e⟩ := hJ.a1 j om hj hn1 h1
    refine ⟨a, by omega, ?_⟩
    unfold dn
    split
    ·unfold f9; rw [kV om hj om]; exact e
    ·exact e
   have hnl := mW s hm'
   unfold yT
   rw [hne, hok, Bool.true_and]
   have hsm := @jH q.steps.length k (aG s) c (dn s k d)
   cases hng : bU q.steps.length k (aG s) c (dn s k d) with
   | none =>
    rw [hng] at hsm
    rw [if_pos (by rw [hsm]; rfl)]
   | some r2 =>
    obtain ⟨c2, d2⟩ := r2
    rw [hng] at hsm
    obtain ⟨hJ2, hd2⟩ := vx om hJ1 hdk om om hng
    dsimp only
    rw [hsm, hd2, hdk]
    by_cases h24 : 24 < kC q up k
    ·rw [if_pos (by rw [decide_eq_false om]; rfl), if_pos h24]
    ·rw [if_neg (by rw [decide_eq_true om]; simp), if_neg h24]
     by_cases hro : eE s = false
     ·rw [if_pos hro, DL hro]
     ·have hro' : eE s = true := by simpa using hro
      rw [if_neg hro, iF hm' hro', Br _ _ hu]
      cases hrg : bV q.terms (a8 s) u with
      | none => rfl
      | some u2 =>
       dsimp only
       have := ih (k + 1) c2 d2 u2 (fY q.steps.length k (aG s) p) hr (by
        have := hJ2.mono (k' := ((k + 1 : Nat) : Int)) (m' := 7 * ((k + 1 : Nat) : Int)) om om
        exact this) om (by rw [kg hrg]; exact hu) (by rw [hup, ii, hne]; rfl)
       exact this
theorem D5 {q:SProc}{i:Int}(hn:q.steps.length≤80)(h1:1≤q.steps.length):vh q i (tE q) q.steps 0 (List.replicate q.terms.length false)=eZ i q:=by
 have hJ:PJ q (tE q) (0:Nat) (7 * (0:Nat)) (List.replicate q.steps.length 0) (List.replicate q.steps.length 0) (mR q.steps.length):=by
  refine⟨rfl,by simp,by simp,by simp [mR],fun j hj=>by rw [eL];simp,⟨eL,?_⟩,fun j hj hn1 _=>?_,fun j hkj hj hn1 h=>?_,fun j hj hn1 h=>?_⟩
  ·unfold mR aL;dsimp only;rw [List.getElem?_set,if_pos (by rfl),if_pos (by simp;omega)];rfl
  ·unfold mR aL;dsimp only
   rw [List.getElem?_set,if_neg om,List.getElem?_replicate,if_pos om];rfl
  ·rw [eL] at h;cases h
  ·rw [eL] at h;omega
 exact B8 hn (par_lt' q) q.steps 0 _ _ _ _ rfl hJ (fun _=>eL) sq rfl
end Go.Sx
namespace Go.Sx
open Go
section
variable {l:List Str}{k m:Int}{x:Str}
end
def rHd (s:SStep):List Int:=(if s.term= -1 then [] else [s.term])++s.args
theorem yN (s:SStep):rHd s++s.casts.flatMap (·.args)=lM s:=rfl
theorem rHd_T {s:SStep}(h:¬s.term= -1):rHd s=[s.term]++s.args:=by unfold rHd;rw [if_neg h]
theorem rHd_F {s:SStep}(h:s.term= -1):rHd s=s.args:=by unfold rHd;rw [if_pos h];rfl
section
variable {s:SStep}
end
end Go.Sx
namespace Go.Sx
open Go
section
variable {n k j y:Int}{q:SProc}{s:SStep}{p:List Int×List Int}{L:List Int}{N:List Int×List Int}
end
section
variable {q:SProc}{up:List Int}{at_ k d i:Int}{s x:SStep}
end
section
variable {ts:List Term}{L:List Int}{k y:Int}{u u2:List Bool}{N:Option (List Bool)}{d:List Int}
end
section
variable {q:SProc}{i k:Int}{s:SStep}{up:List Int}{u u2:List Bool}{F:SFault}
end
theorem head_sz {q:SProc}(h:(bP q&&q.params.all dJ)=true):1≤q.steps.length∧q.steps.length≤80∧q.terms.length≤160∧q.params.length≤6:=by
 simp only [Bool.and_eq_true] at h
 have h1:=h.1
 unfold bP at h1
 simp only [Bool.and_eq_true,decide_eq_true_eq] at h1
 omega
end Go.Sx
