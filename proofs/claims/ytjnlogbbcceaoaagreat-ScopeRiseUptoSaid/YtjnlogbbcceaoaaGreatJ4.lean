import Derived.Test.YtjnlogbbcceaoaaGreatJ3
import Derived.Maps.Own
import Derived.Laws.StructEq
set_option linter.all false
set_option maxRecDepth 100000
set_option maxHeartbeats 32000000
namespace Go.Sx
open Go
theorem mS {x:Int}(h0: -1000000000≤x)(h1:x≤1000000000):IntKind.i64.wrap x=x:=by
 simp only [IntKind.wrap,IntKind.signed,IntKind.bits];simp;omega
theorem ek {c:List Int}{t j x:Int}(h0:0≤t)(h1:t<c.length)(hj:0≤j):aG (c.set t.toNat x) j=if j=t then x else aG c j:=by
 unfold aG
 rw [List.getElem?_set]
 by_cases e:j=t
 ·subst e;rw [if_pos rfl,if_pos rfl,if_pos omq];rfl
 ·rw [if_neg omq,if_neg e]
theorem iI {n at_:Int}:∀{L:List Int} {c d c2 d2:List Int},bO n at_ L c d=some (c2,d2)→(n=c.length)→0≤at_→(∀j:Int,0≤aG c j∧aG c j+L.length≤1000000)→
  c2.length=c.length∧∀j:Int,0≤j→aG c2 j=aG c j+L.count j
 | [],c,d,c2,d2,h,hn,h0,hb=>by
  simp only [bO,Option.some.injEq,Prod.mk.injEq] at h
  obtain⟨rfl,rfl⟩:=h
  exact⟨rfl,fun j _=>by simp⟩
 | t::r,c,d,c2,d2,h,hn,h0,hb=>by
  rw [bO] at h
  split at h
  ·cases h
  ·rename_i ht
   have hw:IntKind.i64.wrap (aG c t+1)=aG c t+1:=by
    have:=hb t
    simp only [List.length_cons] at this
    exact mS omq omq
   have hg:∀j:Int,0≤j→aG (fZ c t) j=if j=t then aG c t+1 else aG c j:=fun j hj=>by
    unfold fZ;rw [hw];exact ek omq omq hj
   have hneg:∀(c:List Int) (j:Int),¬0≤j→aG c j=aG c 0:=fun c j hj=>by unfold aG;rw [show j.toNat=0 by omega];rfl
   have:=iI h (by rw [mR];exact hn) h0 (fun j=>by
    have h1:=hb j
    have h2:=hb t
    simp only [List.length_cons] at h1 h2
    by_cases hj:0≤j
    ·rw [hg j hj];split<;>omega
    ·rw [hneg _ j hj,hg 0 omq]
     have h3:=hb 0
     simp only [List.length_cons] at h3
     split<;>omega)
   obtain⟨h1,h2⟩:=this
   refine⟨by rw [h1,mR],fun j hj=>?_⟩
   rw [h2 j hj,hg j hj,List.count_cons]
   by_cases e:j=t
   ·subst e;simp;omega
   ·rw [if_neg e,if_neg (by simpa using fun h=>e h.symm)];simp
abbrev vN (q:SProc):List Int:=q.steps.flatMap aL
theorem vC {q:SProc}{k:Nat}{s:SStep}(h:q.steps[k]? =some s):(q.steps.take (k+1)).flatMap aL=(q.steps.take k).flatMap aL++aL s:=by
 rw [List.take_add_one,h,List.flatMap_append];simp
theorem mI (s:SStep)(h:dO s=true):(aL s).length≤7:=by
 have:=(gL h).1
 unfold aL;split<;>simp<;>omega
theorem zx {q:SProc}(hS:bI q):∀k:Nat,k≤q.steps.length→((q.steps.take k).flatMap aL).length≤7 * k
 | 0,_=>by simp
 | k+1,h=>by
  have hx:=List.getElem?_eq_getElem (l:=q.steps) (i:=k) omq
  have:=zx hS k omq
  have:=mI _ (hS k _ hx).1
  rw [vC hx,List.length_append];omega
theorem su {q:SProc}{i:Int}(hS:bI q)(hn:q.steps.length≤80):∀(l:List SStep) (k:Nat) (c d:List Int) (u:List Bool),l=q.steps.drop k→bB q i l k c d u=okF→c.length=q.steps.length→
  (∀j:Int,0≤j→aG c j=(((q.steps.take k).flatMap aL).count j:Int))→∀x:Nat,k≤x→x<q.steps.length→0<x→((q.steps.take x).flatMap aL).count (x:Int)=1:=by
 intro l
 induction l with
 | nil=>
  intro k c d u hl _ _ _ x hx hx2
  have h2:(q.steps.drop k).length=0:=by rw [← hl];rfl
  rw [List.length_drop] at h2;omega
 | cons s r ih=>
  intro k c d u hl h hc hcc x hkx hxn hx0
  have hx:q.steps[k]? =some s:=by
   have h1:(q.steps.drop k)[0]? =some s:=by rw [← hl];rfl
   rwa [List.getElem?_drop,Nat.add_zero] at h1
  have hr:r=q.steps.drop (k+1):=by
   have h1:(q.steps.drop k).drop 1=r:=by rw [← hl];rfl
   rw [← h1,List.drop_drop]
  rw [bB] at h
  split at h
  ·cases h
  ·split at h
   ·cases h
   ·rename_i hm ht
    split at h
    ·cases h
    ·rename_i c2 d2 hng
     split at h
     ·cases h
     ·split at h
      ·cases h
      ·rename_i u2 _
       rcases Nat.lt_or_ge k x with hlt | hge
       ·have hbd:=zx hS k omq
        have hnl:=mI _ (hS k _ hx).1
        have hneg:∀(c:List Int) (j:Int),¬0≤j→aG c j=aG c 0:=fun c j hj=>by unfold aG;rw [show j.toNat=0 by omega];rfl
        have hcl:∀j:Int,((q.steps.take k).flatMap aL).count j≤7 * k:=fun j=>Nat.le_trans List.count_le_length hbd
        obtain⟨e1,e2⟩:=iI hng (by rw [hc]) omq (fun j=>by
         by_cases hj:0≤j
         ·rw [hcc j hj];have:=hcl j;omega
         ·rw [hneg _ _ hj,hcc 0 omq];have:=hcl 0;omega)
        exact ih (k+1) c2 d2 u2 hr h (by rw [e1,hc]) (fun j hj=>by rw [e2 j hj,hcc j hj,vC hx,List.count_append];omega) x hlt hxn hx0
       ·have:x=k:=by omega
        subst this
        have h1:=hcc x omq
        have h2:aG c x=1:=by
         by_cases e:aG c x=1
         ·exact e
         ·exact absurd ⟨by omega,e⟩ ht
        omega
theorem eD {n:Nat}{j:Int}:aG (List.replicate n (0:Int)) j=0:=by
 unfold aG;rw [List.getElem?_replicate];split<;>rfl
theorem xq {q:SProc}{i:Int}(hS:bI q)(hn:q.steps.length≤80)(h:d9 i q=okF)(x:Nat)(hx:x<q.steps.length)(h0:0<x):((q.steps.take x).flatMap aL).count (x:Int)=1:=
 su hS hn _ 0 _ _ _ rfl h sq (fun j _=>by rw [eD];simp) x (Nat.zero_le _) hx h0
theorem rL {q:SProc}(hS:bI q)(x:Nat):((q.steps.drop x).flatMap aL).count (x:Int)=0:=by
 rw [List.count_eq_zero]
 intro hm
 obtain⟨s,hs,ht⟩:=List.mem_flatMap.1 hm
 obtain⟨j,hj⟩:=List.mem_iff_getElem?.1 hs
 rw [List.getElem?_drop] at hj
 have:=(hS _ _ hj).2 _ ht
 omega
def f4 (q:SProc):Prop:=∀x:Nat,0<x→x<q.steps.length→(vN q).count (x:Int)=1
theorem qI {q:SProc}{i:Int}(hS:bI q)(hn:q.steps.length≤80)(h:d9 i q=okF):f4 q:=fun x h0 hx=>by
 have h1:=xq hS hn h x hx h0
 have h2:=rL hS x
 unfold vN
 rw [← List.take_append_drop x q.steps,List.flatMap_append,List.count_append,h1,h2]
def Par (q:SProc)(p x:Int):Prop:=0≤p∧∃s,q.steps[p.toNat]? =some s∧x∈aL s
theorem iH {q:SProc}(hS:bI q){p x:Int}(h:Par q p x):p<x∧x<q.steps.length:=by
 obtain⟨h0,s,hs,hx⟩:=h
 have:=(hS _ _ hs).2 _ hx
 omega
theorem sG {q:SProc}{p:Nat}{s:SStep}{x:Int}(hs:q.steps[p]? =some s):((aL s).count x)≤(vN q).count x:=by
 unfold vN
 have h1:=List.getElem?_eq_some_iff.1 hs
 rw [← List.take_append_drop p q.steps,List.flatMap_append,List.count_append,List.drop_eq_getElem_cons h1.1,List.flatMap_cons,List.count_append,h1.2]
 omega
theorem kf {q:SProc}(hS:bI q)(hT:f4 q){p p' x:Int}(h:Par q p x)(h':Par q p' x):p=p':=by
 have hl:=iH hS h
 have key:∀{p p':Int},Par q p x→Par q p' x→p<p'→False:=by
  intro p p' h h' hlt
  have hl:=iH hS h
  have hl2:=iH hS h'
  obtain⟨h0,s,hs,hx⟩:=h
  obtain⟨h0',s',hs',hx'⟩:=h'
  have h1:=hT x.toNat omq omq
  rw [show((x.toNat:Nat):Int)=x by omega] at h1
  unfold vN at h1
  have hg:=List.getElem?_eq_some_iff.1 hs'
  rw [← List.take_append_drop p'.toNat q.steps,List.flatMap_append,List.count_append,List.drop_eq_getElem_cons hg.1,List.flatMap_cons,List.count_append,hg.2] at h1
  have h2:0<(aL s').count x:=List.count_pos_iff.2 hx'
  have h3:0<((q.steps.take p'.toNat).flatMap aL).count x:=List.count_pos_iff.2 (List.mem_flatMap.2 ⟨s,List.mem_iff_getElem?.2 ⟨p.toNat,by rw [List.getElem?_take,if_pos omq];exact hs⟩,hx⟩)
  omega
 rcases Int.lt_trichotomy p p' with h1 | h1 | h1
 ·exact(key h h' h1).elim
 ·exact h1
 ·exact(key h' h h1).elim
theorem kh {q:SProc}(hS:bI q)(hT:f4 q){p:Nat}{s:SStep}(hs:q.steps[p]? =some s):(aL s).Nodup:=by
 rw [List.nodup_iff_count]
 intro x
 by_cases hx:x∈aL s
 ·have h1:=(hS _ _ hs).2 _ hx
  have h2:=hT x.toNat omq omq
  rw [show((x.toNat:Nat):Int)=x by omega] at h2
  have:=sG (x:=x) hs
  omega
 ·rw [List.count_eq_zero.2 hx];omega
inductive Anc (q:SProc):Int→Int→Prop
 | refl (a:Int):Anc q a a
 | step {a p x:Int}:Anc q a p→Par q p x→Anc q a x
theorem vI {q:SProc}(hS:bI q){a x:Int}(h:Anc q a x):a≤x:=by
 induction h with
 | refl=>omega
 | step _ hp ih=>have:=iH hS hp;omega
theorem anc_lin {q:SProc}(hS:bI q)(hT:f4 q){a b x:Int}(h:Anc q a x)(h':Anc q b x):Anc q a b∨Anc q b a:=by
 induction h with
 | refl=>exact .inr h'
 | @step p x ha hp ih=>
  cases h' with
  | refl=>exact .inl (.step ha hp)
  | @step p' _ hb hp'=>
   have:=kf hS hT hp hp'
   subst this
   exact ih hb
theorem CE {q:SProc}{a b c:Int}(h:Anc q a b)(h':Anc q b c):Anc q a c:=by
 induction h' with
 | refl=>exact h
 | step _ hp ih=>exact .step ih hp
def ordW (q:SProc):Nat→Int→List Int
 | 0,_=>[]
 | f+1,at_=>match q.steps[at_.toNat]? with
  | none=>[]
  | some s=>at_::(aL s).flatMap (ordW q f)
def bu (q:SProc):List Int:=ordW q q.steps.length 0
theorem iy {q:SProc}{f:Nat}{at_:Int}{s:SStep}(hs:q.steps[at_.toNat]? =some s):ordW q (f+1) at_=at_::(aL s).flatMap (ordW q f):=by rw [ordW,hs]
theorem kI {q:SProc}(hS:bI q):∀(f:Nat) (a:Int),0≤a→∀x∈ordW q f a,Anc q a x∧x<q.steps.length
 | 0,_,_,x,h=>by cases h
 | f+1,a,h0,x,h=>by
  rw [ordW] at h
  split at h
  ·cases h
  ·rename_i s hs
   rcases List.mem_cons.1 h with rfl | h
   ·exact⟨.refl _,by have:=(List.getElem?_eq_some_iff.1 hs).1;omega⟩
   ·obtain⟨t,ht,hx⟩:=List.mem_flatMap.1 h
    have h1:=(hS _ _ hs).2 _ ht
    obtain⟨h2,h3⟩:=kI hS f t omq x hx
    exact⟨CE (.step (.refl a) ⟨h0,s,hs,ht⟩) h2,h3⟩
theorem ln {α β:Type}{R:β→β→Prop}{f:α→List β}:∀{l:List α},(∀a∈l,(f a).Pairwise R)→l.Pairwise (fun a b=>∀x∈f a,∀y∈f b,R x y)→(l.flatMap f).Pairwise R
 | [],_,_=>List.Pairwise.nil
 | a::l,h,hp=>by
  rw [List.flatMap_cons,List.pairwise_append]
  obtain⟨h1,h2⟩:=List.pairwise_cons.1 hp
  refine⟨h a sq,ln (fun b hb=>h b (by simp [hb])) h2,fun x hx y hy=>?_⟩
  obtain⟨b,hb,hy⟩:=List.mem_flatMap.1 hy
  exact h1 b hb x hx y hy
theorem fK {α:Type}{R S:α→α→Prop}:∀{l:List α},(∀a∈l,∀b∈l,R a b→S a b)→l.Pairwise R→l.Pairwise S
 | [],_,_=>List.Pairwise.nil
 | a::l,h,hp=>by
  obtain⟨h1,h2⟩:=List.pairwise_cons.1 hp
  exact List.pairwise_cons.2 ⟨fun b hb=>h a sq b (by simp [hb]) (h1 b hb),fK (fun x hx y hy=>h x (by simp [hx]) y (by simp [hy])) h2⟩
theorem i3 {q:SProc}(hS:bI q)(hT:f4 q):∀(f:Nat) (a:Int),0≤a→(ordW q f a).Nodup
 | 0,_,_=>List.Pairwise.nil
 | f+1,a,h0=>by
  rw [ordW]
  split
  ·exact List.Pairwise.nil
  ·rename_i s hs
   have hch:∀t∈aL s,a<t∧t<q.steps.length:=fun t ht=>by have:=(hS _ _ hs).2 _ ht;omega
   refine List.nodup_cons.2 ⟨fun hm=>?_,ln (fun t ht=>i3 hS hT f t (by have:=hch t ht;omega)) ?_⟩
   ·obtain⟨t,ht,hx⟩:=List.mem_flatMap.1 hm
    have h1:=hch t ht
    have:=vI hS (kI hS f t omq a hx).1
    omega
   ·refine fK (fun t ht t' ht' hne x hx y hy e=>?_) (kh hS hT hs)
    subst e
    have h1:=hch t ht
    have h2:=hch t' ht'
    have key:∀{t t':Int},t∈aL s→t'∈aL s→t≠t'→Anc q t t'→False:=by
     intro t t' ht ht' hne h
     cases h with
     | refl=>exact hne rfl
     | @step p _ hp hpar=>
      have:=kf hS hT hpar ⟨h0,s,hs,ht'⟩
      subst this
      have:=vI hS hp
      have:=hch t ht
      omega
    rcases anc_lin hS hT (kI hS f t omq x hx).1 (kI hS f t' omq x hy).1 with h | h
    ·exact key ht ht' hne h
    ·exact key ht' ht (fun e=>hne e.symm) h
theorem rc:∀(n:Nat) (l:List Int),l.Nodup→(∀x∈l,0≤x∧x<n)→l.length≤n
 | 0,l,_,h=>by
  cases l with
  | nil=>simp
  | cons x l=>have:=h x sq;omega
 | n+1,l,hn,h=>by
  have h1:(l.filter (fun x=>decide (x≠(n:Int)))).length≤n:=rc n _ (hn.sublist List.filter_sublist) (fun x hx=>by
   obtain⟨h2,h3⟩:=List.mem_filter.1 hx
   have:=h x h2
   have h3:x≠(n:Int):=by simpa using h3
   omega)
  have h2:l.length≤(l.filter (fun x=>decide (x≠(n:Int)))).length+1:=by
   have h3:=List.length_eq_countP_add_countP (fun x=>decide (x≠(n:Int))) (l:=l)
   rw [List.countP_eq_length_filter] at h3
   have h4:List.countP (fun a=>decide ¬decide (a≠(n:Int))=true) l=l.count (n:Int):=by
    unfold List.count
    apply List.countP_congr
    intro x _
    simp
   have h5:l.count (n:Int)≤1:=List.nodup_iff_count.1 hn _
   omega
  omega
theorem AO {q:SProc}(hS:bI q)(hT:f4 q)(f:Nat)(a:Int)(h0:0≤a):(ordW q f a).length≤q.steps.length:=
 rc _ _ (i3 hS hT f a h0) (fun x hx=>by
  obtain⟨h1,h2⟩:=kI hS f a h0 x hx
  have:=vI hS h1
  omega)
theorem ra {q:SProc}(hS:bI q):∀(f:Nat) (a:Int),0≤a→a<q.steps.length→q.steps.length≤a.toNat+f→∀{p x:Int},p∈ordW q f a→Par q p x→x∈ordW q f a
 | 0,_,h0,h1,h2,_,_,_,_=>by omega
 | f+1,a,h0,h1,h2,p,x,hp,hx=>by
  obtain⟨s,hs⟩:∃s,q.steps[a.toNat]? =some s:=⟨_,List.getElem?_eq_getElem omq⟩
  rw [iy hs] at hp ⊢
  have hself:∀t∈aL s,t∈ordW q f t:=fun t ht=>by
   have h3:=(hS _ _ hs).2 _ ht
   obtain⟨s',hs'⟩:∃s,q.steps[t.toNat]? =some s:=⟨_,List.getElem?_eq_getElem omq⟩
   cases f with
   | zero=>omega
   | succ f=>rw [iy hs'];simp
  rcases List.mem_cons.1 hp with rfl | hp
  ·obtain⟨_,s',hs',hx⟩:=hx
   rw [hs] at hs';cases hs'
   exact List.mem_cons_of_mem _ (List.mem_flatMap.2 ⟨x,hx,hself x hx⟩)
  ·obtain⟨t,ht,hp⟩:=List.mem_flatMap.1 hp
   have h3:=(hS _ _ hs).2 _ ht
   exact List.mem_cons_of_mem _ (List.mem_flatMap.2 ⟨t,ht,ra hS f t omq omq omq hp hx⟩)
theorem vh {q:SProc}(hS:bI q)(hT:f4 q):∀(x:Nat),x<q.steps.length→(x:Int)∈bu q:=by
 intro x
 induction x using Nat.strongRecOn with
 | _ x ih=>
  intro hx
  unfold bu
  by_cases e:x=0
  ·subst e
   obtain⟨n,hn⟩:∃n,q.steps.length=n+1:=⟨q.steps.length - 1,by omega⟩
   obtain⟨s,hs⟩:∃s,q.steps[(0:Int).toNat]? =some s:=⟨_,List.getElem?_eq_getElem (by simpa using hx)⟩
   rw [hn,iy hs];simp
  ·have h1:=hT x omq hx
   have h2:(x:Int)∈vN q:=List.count_pos_iff.1 omq
   obtain⟨s,hs,ht⟩:=List.mem_flatMap.1 h2
   obtain⟨p,hp⟩:=List.mem_iff_getElem?.1 hs
   have h3:=(hS _ _ hp).2 _ ht
   exact ra hS _ 0 omq omq omq (ih p omq omq) ⟨by omega,s,by simpa using hp,ht⟩
theorem zh {q:SProc}(hS:bI q)(hT:f4 q):(bu q).length=q.steps.length:=by
 have h1:=AO hS hT q.steps.length 0 omq
 have h2:q.steps.length≤(bu q).length:=by
  have key:∀n:Nat,n≤q.steps.length→∀l:List Int,(∀x:Nat,x<n→(x:Int)∈l)→n≤l.length:=by
   intro n
   induction n with
   | zero=>intro _ _ _;omega
   | succ n ih=>
    intro hn l hl
    have:=ih omq (l.erase (n:Int)) (fun x hx=>(List.mem_erase_of_ne omq).2 (hl x omq))
    rw [List.length_erase_of_mem (hl n omq)] at this
    have:0<l.length:=List.length_pos_of_mem (hl n omq)
    omega
  exact key _ (Nat.le_refl _) _ (vh hS hT)
 unfold bu at *
 omega
end Go.Sx
namespace Go.Sx
open Go
def ProcAt (H:Hp)(b:Nat)(q:SProc):Prop:=∀(j:Nat) v,q.cells[j]? =some v→H b j=some v
theorem ProcAt.le {H H':Hp}{b:Nat}{q:SProc}(h:ProcAt H b q)(hl:H.le H'):ProcAt H' b q:=fun j v hv=>hl _ _ _ (h j v hv)
def mvT (m:List Int)(t:Term):Term:={t with l:=if 0≤t.l then aG m t.l else t.l,r:=if 0≤t.r then aG m t.r else t.r}
abbrev RS:=List Int×List Term
def cJ (ts:List Term):List Int→RS→RS
 | [],s=>s
 | k::r,s=>match ts[k.toNat]? with
  | none=>cJ ts r s
  | some t=>cJ ts r (s.1.set k.toNat s.2.length,s.2++[mvT s.1 t])
def eu (ts:List Term)(root:Int)(s:RS):RS:=cJ ts (postS ts root) s
def bj (ts:List Term):List Int→List Int→RS→List Int×RS
 | [],acc,s=>(acc,s)
 | root::r,acc,s=>bj ts r (acc++[aG (eu ts root s).1 root]) (eu ts root s)
def SCast.bare (c:SCast):SCast:={c with ap:=(none,0)}
def cO (ts:List Term):List SCast→List SCast→RS→List SCast×RS
 | [],acc,s=>(acc,s)
 | c::r,acc,s=>cO ts r (acc++[{c with args:=(bj ts c.args [] s).1,ap:=(none,0)}]) (bj ts c.args [] s).2
def ip (pl:List Int)(w:SWay):SWay:={w with next:=aG pl w.next}
def SStep.bare (s:SStep):SStep:={s with ap:=(none,0),casts:=s.casts.map SCast.bare,cp:=(none,0),wp:=(none,0)}
def cY (ts:List Term)(s:SStep)(st:RS):RS:=if 0≤s.term then eu ts s.term st else st
def dK (ts:List Term)(s:SStep)(st:RS):List Int×RS:=bj ts s.args [] (cY ts s st)
def gx (ts:List Term)(s:SStep)(st:RS):List SCast×RS:=cO ts s.casts [] (dK ts s st).2
def gV (ts:List Term)(pl:List Int)(s:SStep)(st:RS):SStep:=
 {s with
  term:=if 0≤s.term then aG (cY ts s st).1 s.term else s.term
  args:=(dK ts s st).1
  ap:=(none,0)
  casts:=(gx ts s st).1
  cp:=(none,0)
  ways:=s.ways.map (ip pl)
  wp:=(none,0)
  next:=if fA s.kind=true then aG pl s.next else s.next}
def d8 (q:SProc)(pl:List Int):List Int→List SStep→RS→List SStep×RS
 | [],acc,st=>(acc,st)
 | at_::r,acc,st=>match q.steps[at_.toNat]? with
  | none=>d8 q pl r acc st
  | some s=>d8 q pl r (acc++[gV q.terms pl s st]) (gx q.terms s st).2
def ew:List Int→Int→List Int→List Int
 | [],_,pl=>pl
 | at_::r,i,pl=>ew r (i+1) (pl.set at_.toNat i)
def bL (q:SProc):List Int:=ew (bu q) 0 (List.replicate q.steps.length 0)
def bU (q:SProc):SProc:=
 let r:=d8 q (bL q) (bu q) [] (List.replicate q.terms.length 0,[])
 {name:=q.name,params:=q.params,pp:=(none,0),terms:=r.2.2,tp:=(none,0),steps:=r.1,sp:=(none,0)}
def SArms.bare (t:STurn):STurn:={t with ap:=(none,0)}
def SLocal.bare (l:SLocal):SLocal:={l with turns:=l.turns.map SArms.bare,tp:=(none,0)}
def SPoint.bare (p:SPoint):SPoint:={p with ap:=(none,0)}
def SProto.bare (p:SProto):SProto:={p with rp:=(none,0),points:=p.points.map SPoint.bare,pp:=(none,0)}
def SProc.bare (q:SProc):SProc:={q with pp:=(none,0),tp:=(none,0),steps:=q.steps.map SStep.bare,sp:=(none,0)}
def SProg.bare (p:SProg):SProg:={p with protos:=p.protos.map SProto.bare,rp:=(none,0),locals:=p.locals.map SLocal.bare,lp:=(none,0),procs:=p.procs.map SProc.bare,qp:=(none,0)}
def nilPg:SProg:=⟨[],(none,0),[],(none,0),[],(none,0)⟩
def dn (p:SProg):SProg:=
 if(bJ p).e≠0 then nilPg
 else⟨p.protos.map SProto.bare,(none,0),p.locals.map SLocal.bare,(none,0),p.procs.map bU,(none,0)⟩
theorem oM {ts:List Term}:∀{L:List Int} {u u2:List Bool},bT ts L u=some u2→∀t∈L,cq ts t=true
 | [],_,_,_,t,ht=>by cases ht
 | x::r,u,u2,h,t,ht=>by
  rw [bT] at h
  split at h
  ·cases h
  ·rename_i hm
   split at h
   ·cases h
   ·rcases List.mem_cons.1 ht with rfl | ht
    ·simpa using hm
    ·exact oM h t ht
def jF (q:SProc):Prop:=∀(k:Nat) (s:SStep),q.steps[k]? =some s→∀t∈a8 s,cq q.terms t=true
theorem sr {q:SProc}{i:Int}:∀(l:List SStep) (k:Nat) (c d:List Int) (u:List Bool),l=q.steps.drop k→bB q i l k c d u=okF→∀(j:Nat) (s:SStep),k≤j→q.steps[j]? =some s→∀t∈a8 s,cq q.terms t=true:=by
 intro l
 induction l with
 | nil=>
  intro k c d u hl _ j s hj hs
  have h1:=(List.getElem?_eq_some_iff.1 hs).1
  have h2:(q.steps.drop k).length=0:=by rw [← hl];rfl
  rw [List.length_drop] at h2;omega
 | cons x r ih=>
  intro k c d u hl h j s hj hs
  have hx:q.steps[k]? =some x:=by
   have h1:(q.steps.drop k)[0]? =some x:=by rw [← hl];rfl
   rwa [List.getElem?_drop,Nat.add_zero] at h1
  have hr:r=q.steps.drop (k+1):=by
   have h1:(q.steps.drop k).drop 1=r:=by rw [← hl];rfl
   rw [← h1,List.drop_drop]
  rw [bB] at h
  split at h
  ·cases h
  ·split at h
   ·cases h
   ·split at h
    ·cases h
    ·rename_i c2 d2 hn
     split at h
     ·cases h
     ·split at h
      ·cases h
      ·rename_i u2 hro
       rcases Nat.lt_or_ge k j with hlt | hge
       ·exact ih (k+1) c2 d2 u2 hr (by rw [← h];rfl) j s hlt hs
       ·have:j=k:=by omega
        subst this
        rw [hx] at hs;cases hs
        exact oM hro
theorem j3 {q:SProc}{i:Int}(h:d9 i q=okF):jF q:=fun k s hs=>sr _ 0 _ _ _ rfl h k s (Nat.zero_le _) hs
theorem Dx {l:List Term}:∀{f:Nat} {a:Int},Tr l f a→a<l.length
 | 0,_,h=>h.elim
 | f+1,a,h=>by
  obtain⟨h0,t,ht,_⟩:=h
  have:=(List.getElem?_eq_some_iff.1 ht).1;omega
theorem qY {l:List Term}:∀(f:Nat) (a:Int),(a<0∨Tr l f a)→∀k∈cv l f a,∃t,l[k.toNat]? =some t∧0≤k∧t.l<l.length∧t.r<l.length
 | 0,_,_,k,h=>by cases h
 | f+1,a,h,k,hk=>by
  by_cases hn:a<0
  ·rw [db hn] at hk;cases hk
  ·obtain⟨h0,t,hx,_,_,hl0,hl1,hr0,hr1⟩:=h.resolve_left hn
   have hlt:=(List.getElem?_eq_some_iff.1 hx).1
   have hL:t.l<0∨Tr l f t.l:=by
    rcases Int.lt_or_le (ah t.kind) 1 with h1 | h1
    ·exact .inl (by have:=hl1 h1;omega)
    ·exact .inr (hl0 h1)
   have hR:t.r<0∨Tr l f t.r:=by
    rcases Int.lt_or_le (ah t.kind) 2 with h1 | h1
    ·exact .inl (by have:=hr1 h1;omega)
    ·exact .inr (hr0 h1)
   rw [fe hn hx] at hk
   rcases List.mem_append.1 hk with hk | hk
   ·exact qY f _ hL k hk
   ·rcases List.mem_append.1 hk with hk | hk
    ·exact qY f _ hR k hk
    ·simp at hk;subst hk
     refine⟨t,hx,h0,?_,?_⟩
     ·rcases hL with h1 | h1
      ·omega
      ·exact Dx h1
     ·rcases hR with h1 | h1
      ·omega
      ·exact Dx h1
section
variable {ts:List Term}{L:List Int}{k x:Int}{t:Term}{m:List Int}{o:List Term}{N:RS}
theorem tg_next (k0:0≤k)(hx:L[k.toNat]? =some x)(ht:ts[x.toNat]? =some t)(h:N=cJ ts (L.drop k.toNat) (m,o)):N=cJ ts (L.drop (k+1).toNat) (m.set x.toNat o.length,o++[mvT m t]):=by
 rw [h,bE hx,cJ,ht,show(k+1).toNat=k.toNat+1 by omega]
theorem tg_end (k0:0≤k)(hk:¬k<L.length)(h:N=cJ ts (L.drop k.toNat) (m,o)):N=(m,o):=by
 rw [h,List.drop_of_length_le omq];rfl
end
theorem lF {ts:List Term}:∀{L:List Int} {s:RS},(cJ ts L s).1.length=s.1.length
 | [],_=>rfl
 | k::r,s=>by
  rw [cJ];split
  ·exact lF
  ·rw [lF];simp
theorem jZ {ts:List Term}:∀{L:List Int} {s:RS},(cJ ts L s).2.length≤s.2.length+L.length
 | [],_=>by simp [cJ]
 | k::r,s=>by
  rw [cJ];split
  ·have:=jZ (ts:=ts) (L:=r) (s:=s);simp only [List.length_cons];omega
  ·rename_i t _
   have:=jZ (ts:=ts) (L:=r) (s:=(s.1.set k.toNat s.2.length,s.2++[mvT s.1 t]))
   simp only [List.length_cons,List.length_append,List.length_nil] at *;omega
theorem nj {ts:List Term}{root:Int}{s:RS}:(eu ts root s).1.length=s.1.length:=lF
theorem lE {ts:List Term}{root:Int}{s:RS}(h:cq ts root=true):(eu ts root s).2.length≤s.2.length+33554432:=by
 have h1:=jZ (ts:=ts) (L:=postS ts root) (s:=s)
 have h2:=nI h
 unfold eu postS at *;omega
theorem eC {ts:List Term}:∀{L acc:List Int} {s:RS},(bj ts L acc s).2.1.length=s.1.length
 | [],_,_=>rfl
 | r::L,acc,s=>by rw [bj,eC,nj]
theorem d7 {ts:List Term}:∀{L acc:List Int} {s:RS},(∀t∈L,cq ts t=true)→(bj ts L acc s).2.2.length≤s.2.length+33554432 * L.length
 | [],_,_,_=>by simp [bj]
 | r::L,acc,s,h=>by
  rw [bj]
  have h1:=d7 (ts:=ts) (L:=L) (acc:=acc++[aG (eu ts r s).1 r]) (s:=eu ts r s) (fun t ht=>h t (by simp [ht]))
  have h2:=lE (s:=s) (h r sq)
  simp only [List.length_cons];omega
theorem oZ {ts:List Term}:∀{L acc:List SCast} {s:RS},(cO ts L acc s).2.1.length=s.1.length
 | [],_,_=>rfl
 | r::L,acc,s=>by rw [cO,oZ,eC]
theorem mW {ts:List Term}:∀{L acc:List SCast} {s:RS},(∀c∈L,c.args.length≤6∧∀t∈c.args,cq ts t=true)→(cO ts L acc s).2.2.length≤s.2.length+201326592 * L.length
 | [],_,_,_=>by simp [cO]
 | r::L,acc,s,h=>by
  rw [cO]
  have h1:=mW (ts:=ts) (L:=L) (acc:=acc++[{r with args:=(bj ts r.args [] s).1,ap:=(none,0)}]) (s:=(bj ts r.args [] s).2) (fun t ht=>h t (by simp [ht]))
  have h0:=h r sq
  have h2:=d7 (acc:=[]) (s:=s) h0.2
  simp only [List.length_cons];omega
section
variable {ts:List Term}{L:List Int}{k x:Int}{acc:List Int}{s:RS}{N:List Int×RS}
theorem ta_next (k0:0≤k)(hx:L[k.toNat]? =some x)(h:N=bj ts (L.drop k.toNat) acc s):N=bj ts (L.drop (k+1).toNat) (acc++[aG (eu ts x s).1 x]) (eu ts x s):=by
 rw [h,bE hx,bj,show(k+1).toNat=k.toNat+1 by omega]
theorem ta_end (k0:0≤k)(hk:¬k<L.length)(h:N=bj ts (L.drop k.toNat) acc s):N=(acc,s):=by
 rw [h,List.drop_of_length_le omq];rfl
end
section
variable {ts:List Term}{L acc:List SCast}{k:Int}{c:SCast}{s:RS}{N:List SCast×RS}
theorem pK (k0:0≤k)(hx:L[k.toNat]? =some c)(h:N=cO ts (L.drop k.toNat) acc s):N=cO ts (L.drop (k+1).toNat) (acc++[{c with args:=(bj ts c.args [] s).1,ap:=(none,0)}]) (bj ts c.args [] s).2:=by
 rw [h,bE hx,cO,show(k+1).toNat=k.toNat+1 by omega]
theorem ER (k0:0≤k)(hk:¬k<L.length)(h:N=cO ts (L.drop k.toNat) acc s):N=(acc,s):=by
 rw [h,List.drop_of_length_le omq];rfl
end
section
variable {q:SProc}{pl:List Int}{L:List Int}{k x:Int}{s:SStep}{acc:List SStep}{st:RS}{N:List SStep×RS}
theorem st_next (k0:0≤k)(hx:L[k.toNat]? =some x)(hs:q.steps[x.toNat]? =some s)(h:N=d8 q pl (L.drop k.toNat) acc st):N=d8 q pl (L.drop (k+1).toNat) (acc++[gV q.terms pl s st]) (gx q.terms s st).2:=by
 rw [h,bE hx,d8,hs,show(k+1).toNat=k.toNat+1 by omega]
theorem st_end (k0:0≤k)(hk:¬k<L.length)(h:N=d8 q pl (L.drop k.toNat) acc st):N=(acc,st):=by
 rw [h,List.drop_of_length_le omq];rfl
end
section
variable {L:List Int}{k x:Int}{pl N:List Int}
theorem pg_next (k0:0≤k)(hx:L[k.toNat]? =some x)(h:N=ew (L.drop k.toNat) k pl):N=ew (L.drop (k+1).toNat) (k+1) (pl.set x.toNat k):=by
 rw [h,bE hx,ew,show(k+1).toNat=k.toNat+1 by omega]
theorem pg_end (k0:0≤k)(hk:¬k<L.length)(h:N=ew (L.drop k.toNat) k pl):N=pl:=by
 rw [h,List.drop_of_length_le omq];rfl
end
theorem oO:∀{L:List Int} {i:Int} {pl:List Int},(ew L i pl).length=pl.length
 | [],_,_=>rfl
 | x::L,i,pl=>by rw [ew,oO];simp
theorem BO (q:SProc):(bL q).length=q.steps.length:=by unfold bL;rw [oO];simp
theorem fm_room {α β:Type}{l:List α}{k:Int}{x:α}{f:α→List β}(k0:0≤k)(hx:l[k.toNat]? =some x):((l.take k.toNat).flatMap f).length+(f x).length≤(l.flatMap f).length:=by
 have h1:(l.take k.toNat).flatMap f++(f x++(l.drop (k.toNat+1)).flatMap f)=l.flatMap f:=by
  conv=>rhs;rw [← List.take_append_drop k.toNat l,List.flatMap_append,bE hx,List.flatMap_cons]
 rw [← h1];simp only [List.length_append];omega
def Nm (o:List Term):Prop:=∀t∈o,t.name.length≤9223372036854775807
theorem AP {ts:List Term}(hn:Nm ts):∀{L:List Int} {s:RS},Nm s.2→Nm (cJ ts L s).2
 | [],_,h=>h
 | k::r,s,h=>by
  rw [cJ];split
  ·exact AP hn h
  ·rename_i t ht
   refine AP hn (fun x hx=>?_)
   rcases List.mem_append.1 hx with hx | hx
   ·exact h x hx
   ·simp at hx;subst hx;exact hn t (List.mem_of_getElem? ht)
theorem rf {ts:List Term}(hn:Nm ts):∀{L acc:List Int} {s:RS},Nm s.2→Nm (bj ts L acc s).2.2
 | [],_,_,h=>h
 | r::L,acc,s,h=>by rw [bj];exact rf hn (AP hn h)
theorem xX {ts:List Term}(hn:Nm ts):∀{L acc:List SCast} {s:RS},Nm s.2→Nm (cO ts L acc s).2.2
 | [],_,_,h=>h
 | r::L,acc,s,h=>by rw [cO];exact xX hn (rf hn h)
theorem Ef {ts:List Term}(hn:Nm ts){s:SStep}{st:RS}(h:Nm st.2):Nm (cY ts s st).2:=by
 unfold cY;split
 ·exact AP hn h
 ·exact h
theorem rh {q:SProc}{pl:List Int}(hn:Nm q.terms):∀{L:List Int} {acc:List SStep} {st:RS},Nm st.2→Nm (d8 q pl L acc st).2.2
 | [],_,_,h=>h
 | r::L,acc,st,h=>by
  rw [d8];split
  ·exact rh hn h
  ·exact rh hn (xX hn (rf hn (Ef hn h)))
structure RiseOk (q:SProc):Prop where
 s:bI q
 t:f4 q
 m:jF q
 p:q.params.length≤6
 n1:1≤q.steps.length
 n2:q.steps.length≤80
 n3:q.terms.length≤160
theorem q6 {q:SProc}(hS:bI q){x:Int}(h:x∈bu q):0≤x∧x<q.steps.length:=by
 obtain⟨h1,h2⟩:=kI hS _ 0 omq x h
 have:=vI hS h1;omega
theorem iu {s:SStep}{t:Int}(h:t∈s.args):t∈a8 s:=by unfold a8;simp [h]
theorem it {s:SStep}{c:SCast}{t:Int}(hc:c∈s.casts)(h:t∈c.args):t∈a8 s:=by unfold a8;simp only [List.mem_append,List.mem_flatMap];exact .inr ⟨c,hc,h⟩
theorem oK {s:SStep}(hm:dO s=true)(h:0≤s.term):s.term∈a8 s:=by
 have hk:s.kind=1∨s.kind=2∨s.kind=3∨s.kind=4:=by
  unfold dO at hm
  split at hm; · cases hm
  split at hm; · cases hm
  rename_i hk hb
  have hb:je (dr s)=false:=by simpa using hb
  simp only [je,Bool.or_eq_false_iff,decide_eq_false_iff_not,Bool.not_eq_false'] at hb
  have h1:(dr s).term= -1:=of_decide_eq_true hb.2.2.2.2.1
  have h2:(dr s).term=(if s.kind=1∨s.kind=2∨s.kind=3∨s.kind=4 then -1 else s.term):=rfl
  rw [h2] at h1
  by_cases e:s.kind=1∨s.kind=2∨s.kind=3∨s.kind=4
  ·exact e
  ·rw [if_neg e] at h1;omega
 unfold a8
 rw [if_pos omq];simp
theorem mo {s:SStep}(hm:dO s=true){w:SWay}(hw:w∈s.ways):w.next∈aL s:=by
 have hk:s.kind=3∨s.kind=5:=by
  unfold dO at hm
  split at hm; · cases hm
  split at hm; · cases hm
  rename_i hk hb
  have hb:je (dr s)=false:=by simpa using hb
  simp only [je,Bool.or_eq_false_iff,decide_eq_false_iff_not,Bool.not_eq_false'] at hb
  have h1:=hb.2.2.2.2.2.2.2.1
  by_cases e:s.kind=3∨s.kind=5
  ·exact e
  ·have h2:(dr s).ways=(if s.kind=3∨s.kind=5 then [] else s.ways):=rfl
   rw [h2,if_neg e] at h1
   have:=List.length_pos_of_mem hw
   omega
 unfold aL
 rw [if_neg (by rcases hk with h | h<;>simp [fA,h])]
 exact List.mem_map_of_mem hw
theorem nM {s:SStep}(h:fA s.kind=true):s.next∈aL s:=by unfold aL;rw [if_pos h];simp
theorem gW {q:SProc}{s:SStep}{st:RS}(hm:dO s=true)(ht:∀t∈a8 s,cq q.terms t=true):(cY q.terms s st).2.length≤st.2.length+33554432∧(dK q.terms s st).2.2.length≤st.2.length+234881024∧(gx q.terms s st).2.2.length≤st.2.length+3355443200:=by
 have hz:=gL hm
 have h1:(cY q.terms s st).2.length≤st.2.length+33554432:=by
  unfold cY;split
  ·rename_i h;exact lE (ht _ (oK hm h))
  ·omega
 have h2:=d7 (acc:=[]) (s:=cY q.terms s st) (L:=s.args) (fun t h=>ht t (iu h))
 have h3:=mW (acc:=[]) (s:=(dK q.terms s st).2) (L:=s.casts) (fun c hc=>⟨hz.2.2.2 c hc,fun t h=>ht t (it hc h)⟩)
 have e2:(dK q.terms s st).2.2.length≤st.2.length+234881024:=by unfold dK;omega
 exact⟨h1,e2,by unfold gx;omega⟩
theorem kD {q:SProc}{s:SStep}{st:RS}:(cY q.terms s st).1.length=st.1.length∧(dK q.terms s st).2.1.length=st.1.length∧(gx q.terms s st).2.1.length=st.1.length:=by
 have h1:(cY q.terms s st).1.length=st.1.length:=by unfold cY;split;exact nj;rfl
 have h2:(dK q.terms s st).2.1.length=st.1.length:=by unfold dK;rw [eC,h1]
 exact⟨h1,h2,by unfold gx;rw [oZ,h2]⟩
structure CaIx (H:Hp)(old C:List SCast)(k:Int):Prop where
 n:C.length=old.length
 r:∀c∈C,RdSl H 1 I64.cells (.slice c.ap.1 c.args.length c.ap.2) c.args
 d:C.drop k.toNat=old.drop k.toNat
theorem CaIx.le {H H':Hp}{old C:List SCast}{k:Int}(h:CaIx H old C k)(hl:H.le H'):CaIx H' old C k:=⟨h.n,fun c hc=>(h.r c hc).le hl,h.d⟩
theorem CaIx.at_ {H:Hp}{old C:List SCast}{k:Int}{c:SCast}(h:CaIx H old C k)(hx:old[k.toNat]? =some c):C[k.toNat]? =some c:=by
 have h1:(C.drop k.toNat)[0]? =(old.drop k.toNat)[0]? :=by rw [h.d]
 rw [List.getElem?_drop,List.getElem?_drop,Nat.add_zero] at h1
 rw [h1,hx]
theorem CaIx.put {H:Hp}{old C:List SCast}{k:Int}{c:SCast}(h:CaIx H old C k)(k0:0≤k)(hc:RdSl H 1 I64.cells (.slice c.ap.1 c.args.length c.ap.2) c.args):CaIx H old (C.set k.toNat c) (k+1):=by
 refine⟨by rw [List.length_set,h.n],fun x hx=>?_,?_⟩
 ·rcases List.mem_or_eq_of_mem_set hx with hx | rfl
  ·exact h.r x hx
  ·exact hc
 ·rw [show(k+1).toNat=k.toNat+1 by omega,List.drop_set_of_lt omq]
  have:=congrArg (List.drop 1) h.d
  rwa [List.drop_drop,List.drop_drop] at this
theorem DE {α:Type}{l:List α}{k:Int}{x y:α}(k0:0≤k)(hx:l[k.toNat]? =some x):(l.set k.toNat y).take (k+1).toNat=l.take k.toNat++[y]:=by
 have hlt:=(List.getElem?_eq_some_iff.1 hx).1
 rw [show(k+1).toNat=k.toNat+1 by omega,List.take_add_one,List.take_set_of_le (Nat.le_refl _),List.getElem?_set,if_pos rfl,if_pos hlt];rfl
def WaIx (pl:List Int)(old W:List SWay)(k:Int):Prop:=W=(old.take k.toNat).map (ip pl)++old.drop k.toNat
theorem WaIx.at_ {pl:List Int}{old W:List SWay}{k:Int}{c:SWay}(h:WaIx pl old W k)(hx:old[k.toNat]? =some c):W[k.toNat]? =some c:=by
 have hlt:=(List.getElem?_eq_some_iff.1 hx).1
 rw [h,List.getElem?_append_right (by simp;omega),List.getElem?_drop]
 simp only [List.length_map,List.length_take]
 rw [Nat.min_eq_left omq,Nat.sub_self,Nat.add_zero,hx]
theorem WaIx.put {pl:List Int}{old W:List SWay}{k:Int}{c:SWay}(h:WaIx pl old W k)(k0:0≤k)(hx:old[k.toNat]? =some c):WaIx pl old (W.set k.toNat (ip pl c)) (k+1):=by
 have hlt:=(List.getElem?_eq_some_iff.1 hx).1
 unfold WaIx at *
 rw [h,List.set_append_right _ _ (by simp;omega)]
 simp only [List.length_map,List.length_take]
 rw [Nat.min_eq_left omq,Nat.sub_self,bE hx,List.set_cons_zero,bR k0 hx,show(k+1).toNat=k.toNat+1 by omega,List.append_assoc];rfl
theorem WaIx.len {pl:List Int}{old W:List SWay}{k:Int}(h:WaIx pl old W k):W.length=old.length:=by rw [h];simp;omega
theorem mX {C:List SCast}{k:Int}{c:SCast}{xs:List Int}{ap:Sp}(k0:0≤k)(hx:C[k.toNat]? =some c):((C.set k.toNat {c with args:=xs,ap:=ap}).take (k+1).toNat).map SCast.bare=(C.take k.toNat).map SCast.bare++[{c with args:=xs,ap:=(none,0)}]:=by
 rw [DE k0 hx,List.map_append];rfl
def StAll (H:Hp)(S:List SStep):Prop:=∀s∈S,StepOk H s
theorem StAll.le {H H':Hp}{S:List SStep}(h:StAll H S)(hl:H.le H'):StAll H' S:=fun s hs=>(h s hs).le hl
theorem StAll.snoc {H:Hp}{S:List SStep}{s:SStep}(h:StAll H S)(hs:StepOk H s):StAll H (S++[s]):=fun x hx=>by
 rcases List.mem_append.1 hx with hx | hx
 ·exact h x hx
 ·simp at hx;subst hx;exact hs
theorem kC {ts:List Term}{pl:List Int}{s:SStep}{st rs:RS}{C:List SCast}{W:List SWay}{tm nx:Int}{ap cp wp:Sp}(hC:gx ts s st=(C.map SCast.bare,rs))(hW:W=s.ways.map (ip pl))
  (ht:tm=if 0≤s.term then aG (cY ts s st).1 s.term else s.term) (hn:nx=if fA s.kind=true then aG pl s.next else s.next):
  (⟨s.kind,s.name,s.peer,s.label,s.proc,tm,(dK ts s st).1,ap,C,cp,W,wp,nx⟩:SStep).bare=gV ts pl s st:=by
 subst ht hn hW;unfold SStep.bare gV;rw [hC]
end Go.Sx
namespace Go.Sx
open Go
theorem arms_le {l:List SArm}{n:Int}(h:dZ l n=true):l.length≤6:=by
 unfold dZ at h
 simp only [Bool.and_eq_true,decide_eq_true_eq] at h;omega
theorem turn_le {t:STurn}{n:Int}(h:fo n t=true):t.arms.length≤6:=by
 unfold fo at h
 split at h
 ·simp only [Bool.and_eq_true,decide_eq_true_eq,Bool.not_eq_true',decide_eq_false_iff_not] at h;omega
 ·split at h
  ·simp only [Bool.and_eq_true] at h;exact arms_le h.2
  ·cases h
theorem yj {l:SLocal}(h:bP l=true):l.turns.length≤40∧∀t∈l.turns,t.arms.length≤6:=by
 unfold bP at h
 simp only [Bool.and_eq_true,decide_eq_true_eq] at h
 exact⟨h.1.2,fun t ht=>turn_le (List.all_eq_true.1 h.2 t ht)⟩
theorem zw (x:SPoint):(dH x).arms=x.arms:=by unfold dH;split<;>rfl
theorem DX {p:SProto}(h:cy p=true):p.roles.length≤5∧p.points.length≤24∧∀x∈p.points,x.arms.length≤6:=by
 unfold cy at h
 simp only [Bool.and_eq_true] at h
 obtain⟨h1,_,_,h4⟩:=h
 unfold cB at h1
 simp only [Bool.and_eq_true,decide_eq_true_eq,Bool.not_eq_true',decide_eq_false_iff_not] at h1
 refine⟨by omega,by omega,fun x hx=>?_⟩
 have:=(yj h4).2 (dH x) (List.mem_map_of_mem hx)
 rwa [zw] at this
theorem u6 {l:List SProc}{i:Int}{q:SProc}(h:(aS l i q).e=0):RiseOk q:=by
 unfold aS at h
 split at h
 ·rename_i h2;exact absurd h h2
 ·rename_i h2
  have h2:(dM l i q).e=0:=by simpa using h2
  obtain⟨n1,n2,n3⟩:=lQ h2
  have hs:=fV _ _ _ _ _ h
  have hS:bI q:=lH (i:=i) hs
  refine⟨hS,qI hS n2 hs,j3 hs,?_,n1,n2,n3⟩
  unfold dM at h2
  split at h2
  ·cases h2
  ·rename_i hg
   have hg:(bG q&&q.params.all eU)=true:=by simpa using hg
   simp only [Bool.and_eq_true] at hg
   have h1:=hg.1
   unfold bG at h1
   simp only [Bool.and_eq_true,decide_eq_true_eq] at h1
   omega
theorem uD {l:List SProc}:∀(r:List SProc) (i:Int),(cb (aS l) r i).e=0→∀q∈r,RiseOk q
 | [],_,_,q,hq=>by cases hq
 | x::r,i,h,q,hq=>by
  rw [cb] at h
  split at h
  ·rename_i h1;exact absurd h h1
  ·rename_i h1
   rcases List.mem_cons.1 hq with rfl | hq
   ·exact u6 (by simpa using h1)
   ·exact uD r (i+1) h q hq
structure CheckOk (pg:SProg):Prop where
 r:pg.protos.length≤6∧∀p∈pg.protos,cy p=true
 l:pg.locals.length≤12∧∀p∈pg.locals,bP p=true∧aH p.name=true
 q:pg.procs.length≤24∧∀q∈pg.procs,RiseOk q
theorem Cx {pg:SProg}(h:(bJ pg).e=0):CheckOk pg:=by
 obtain⟨h1,h2,h3,h4⟩:=ii h
 unfold gk at h1
 split at h1
 ·cases h1
 ·rename_i hz
  split at h1
  ·cases h1
  ·rename_i hp
   split at h1
   ·cases h1
   ·rename_i hl
    have hp:pg.protos.all cy=true:=by simpa using hp
    have hl:pg.locals.all (fun l=>bP l&&aH l.name)=true:=by simpa using hl
    refine⟨⟨by omega,List.all_eq_true.1 hp⟩,⟨by omega,fun p hp=>?_⟩,⟨by omega,uD _ _ h2⟩⟩
    have:=List.all_eq_true.1 hl p hp
    simpa using this
def PtAll (H:Hp)(S:List SPoint):Prop:=∀s∈S,PointOk H s
theorem PtAll.le {H H':Hp}{S:List SPoint}(h:PtAll H S)(hl:H.le H'):PtAll H' S:=fun s hs=>(h s hs).le hl
def TuAll (H:Hp)(S:List STurn):Prop:=∀s∈S,TurnOk H s
theorem TuAll.le {H H':Hp}{S:List STurn}(h:TuAll H S)(hl:H.le H'):TuAll H' S:=fun s hs=>(h s hs).le hl
def PrAll (H:Hp)(S:List SProto):Prop:=∀s∈S,ProtoOk H s
theorem PrAll.le {H H':Hp}{S:List SProto}(h:PrAll H S)(hl:H.le H'):PrAll H' S:=fun s hs=>(h s hs).le hl
def LoAll (H:Hp)(S:List SLocal):Prop:=∀s∈S,LocalOk H s
theorem LoAll.le {H H':Hp}{S:List SLocal}(h:LoAll H S)(hl:H.le H'):LoAll H' S:=fun s hs=>(h s hs).le hl
def PcAll (H:Hp)(S:List SProc):Prop:=∀s∈S,ProcOk H s
theorem PcAll.le {H H':Hp}{S:List SProc}(h:PcAll H S)(hl:H.le H'):PcAll H' S:=fun s hs=>(h s hs).le hl
theorem gM {α:Type}{p:α→Prop}{S:List α}{s:α}(h:∀x∈S,p x)(hs:p s):∀x∈S++[s],p x:=fun x hx=>by
 rcases List.mem_append.1 hx with hx | hx
 ·exact h x hx
 ·simp at hx;subst hx;exact hs
theorem i6 {α β:Type}{f g:α→β}{S l:List α}{k:Int}{x y:α}(k0:0≤k)(hx:l[k.toNat]? =some x)(h:S.map f=(l.take k.toNat).map g)(hy:f y=g x):(S++[y]).map f=(l.take (k+1).toNat).map g:=by
 rw [List.map_append,h,bM k0 hx,List.map_append];simp [hy]
theorem mz {pg:SProg}(h:¬(bJ pg).e=0):nilPg.bare=dn pg:=by unfold dn;rw [if_pos h];rfl
theorem dS {pg:SProg}(h:(bJ pg).e=0):dn pg=⟨pg.protos.map SProto.bare,(none,0),pg.locals.map SLocal.bare,(none,0),pg.procs.map bU,(none,0)⟩:=by unfold dn;rw [if_neg (by simpa using h)]
theorem Eg (H:Hp):ProgOk H nilPg:=⟨RdSl.nil,(fun _ h=>by cases h),RdSl.nil,(fun _ h=>by cases h),RdSl.nil,(fun _ h=>by cases h)⟩
end Go.Sx
namespace Go.Sx
open Go
def dF (s:SStep):List Int:=((if s.term= -1 then [] else [s.term])++s.args)++s.casts.flatMap (·.args)
def rI (k:Int):Bool:=decide (k=0)||(decide (k=3)||(decide (k=5)||(decide (k=6)||decide (k=10))))
def qT (s:SStep):List Int:=s.ways.map (·.next)++(if rI s.kind=true then [] else [s.next])
def uA (s:Str)(b:Bool):Bool:=if b=true then aH s else decide (s=[])
def qR (s:SStep):Bool:=if s.kind=3∨s.kind=5 then eA s else decide ((s.ways.length:Int)=0)
def DT (s:SStep):Bool:=if s.kind=8 then(decide ((1:Int)≤s.casts.length)&&(decide ((s.casts.length:Int)≤4)&&s.casts.all (fun c=>!dD c))) else decide ((s.casts.length:Int)=0)
def AR (k:Int):Bool:=decide (k=1)||(decide (k=4)||(decide (k=5)||(decide (k=8)||decide (k=9))))
def peerK (k:Int):Bool:=decide (k=4)||(decide (k=5)||decide (k=8))
def Ex (k:Int):Bool:=decide (k=4)||decide (k=8)
def callK (k:Int):Bool:=decide (k=6)||decide (k=7)
def uQ (s:SStep):Bool:=uA s.name (AR s.kind)&&(uA s.peer (peerK s.kind)&&(uA s.label (Ex s.kind)&&uA s.proc (callK s.kind)))
def nB (s:SStep):Bool:=decide (6<(s.args.length:Int))||((!callK s.kind&&decide (0<(s.args.length:Int)))||(!qR s|| !DT s))
def BJ (s:SStep):Bool:=
 if s.kind<0∨10<s.kind then false
 else if uQ s=false then false
 else if nB s=true then false
 else if rI s.kind=true∧¬s.next= -1 then false
 else if s.kind=1∨s.kind=2∨s.kind=3∨s.kind=4 then true else decide (s.term= -1)
theorem ways_0 {s:SStep}(h:s.kind=3∨s.kind=5):qR s=eA s:=by unfold qR;rw [if_pos h]
theorem Dk {s:SStep}(h:¬(s.kind=3∨s.kind=5)):qR s=decide ((s.ways.length:Int)=0):=by unfold qR;rw [if_neg h]
theorem vd (s:SStep):BJ s=dO s:=by
  by_cases hk:s.kind<0∨10<s.kind
  · unfold BJ dO;rw [if_pos hk,if_pos hk]
  · have hk2:s.kind=0∨s.kind=1∨s.kind=2∨s.kind=3∨s.kind=4∨s.kind=5∨s.kind=6∨s.kind=7∨s.kind=8∨s.kind=9∨s.kind=10:=by omega
    unfold BJ dO
    rw [if_neg hk,if_neg hk]
    rw [Bool.eq_iff_iff]
    rcases hk2 with h | h | h | h | h | h | h | h | h | h | h<;>
      (simp only [uQ,nB,je,dr,uA,AR,peerK,Ex,callK,rI,fA,qR,DT,h]
       simp
       try (constructor<;>intro hh<;>simp_all<;>omega))
end Go.Sx
namespace Go.Sx
open Go
theorem D4 {l:List Term}:∀(f at_:Nat) (deep:Int) (p:List Nat),bV l f at_ deep=some p→∀a:Int,0≤a→a.toNat=at_→(cv l f a).Perm (p.map Int.ofNat):=by
 intro f
 induction f with
 | zero=>intro at_ deep p h;simp [bV] at h
 | succ f ih=>
  intro at_ deep p h a ha0 ha
  obtain⟨t,p0,q0,hx,hok,h0,h1,rfl⟩:=cG h
  have hops:=vn hok
  have e0:(cv l f t.l).Perm (p0.map Int.ofNat):=by
   split at h0
   ·rename_i ho
    simp only [Option.some.injEq] at h0;subst h0
    rw [hops.2.2.2.1 ho,db dq];exact List.Perm.refl _
   ·rename_i ho
    exact ih _ _ _ h0 t.l (oR hok ho).1 rfl
  have e1:(cv l f t.r).Perm (q0.map Int.ofNat):=by
   split at h1
   ·rename_i ho
    simp only [Option.some.injEq] at h1;subst h1
    rw [hops.2.2.2.2 ho,db dq];exact List.Perm.refl _
   ·rename_i ho
    exact ih _ _ _ h1 t.r (oQ hok ho).1 rfl
  rw [fe omq (by rw [ha];exact hx)]
  have ea:a=Int.ofNat at_:=by rw [← ha];exact(Int.toNat_of_nonneg ha0).symm
  rw [List.map_cons,List.map_append,ea]
  refine List.Perm.trans ?_ (List.perm_middle (a:=Int.ofNat at_) (l₁:=p0.map Int.ofNat++q0.map Int.ofNat) (l₂:=[])) |>.trans sq
  rw [List.append_assoc]
  exact(e0.append (e1.append_right _))
def Cl (a u:List Bool):Option (List Bool):=if(List.zipWith (· && ·) a u).any id=true then none else some (List.zipWith (· || ·) u a)
theorem yG {α:Type}{f g:α→Bool}:∀{l:List α},(∀x∈l,f x=g x)→l.any f=l.any g
 | [],_=>rfl
 | x::l,h=>by rw [List.any_cons,List.any_cons,h x sq,yG (fun y hy=>h y (by simp [hy]))]
theorem tO:∀(L:List Int) (u:List Bool),(∀k∈L,0≤k∧k<u.length)→L.Nodup→
  eR L u=if L.any (fun k=>u[k.toNat]?.getD false)=true then none else some ((List.range u.length).map (fun i:Nat=>u[i]?.getD false||decide (Int.ofNat i∈L)))
 | [],u,_,_=>by
  simp only [eR,List.any_nil,Bool.false_eq_true,if_false,List.not_mem_nil,decide_false,Bool.or_false]
  congr 1
  apply List.ext_getElem?
  intro i
  rw [List.getElem?_map]
  by_cases hi:i<u.length
  ·rw [List.getElem?_range hi,List.getElem?_eq_getElem hi];simp [hi]
  ·rw [List.getElem?_eq_none omq,List.getElem?_eq_none (by simp;omega)];rfl
 | k::r,u,hb,hn=>by
  rw [eR,List.any_cons]
  have hk:=hb k sq
  rw [List.nodup_cons] at hn
  by_cases h:u[k.toNat]?.getD false=true
  ·rw [if_pos h,h];simp
  ·have h':u[k.toNat]?.getD false=false:=by simpa using h
   rw [if_neg h,tO r _ (fun j hj=>by rw [List.length_set];exact hb j (by simp [hj])) hn.2,h',Bool.false_or]
   have e1:r.any (fun j=>(u.set k.toNat true)[j.toNat]?.getD false)=r.any (fun j=>u[j.toNat]?.getD false):=by
    refine yG (fun j hj=>?_)
    have hj':=hb j (by simp [hj])
    have hne:k.toNat≠j.toNat:=fun e=>hn.1 (by rw [show k=j by omega];exact hj)
    rw [List.getElem?_set,if_neg hne]
   rw [e1]
   split
   ·rfl
   ·congr 1
    rw [List.length_set]
    apply List.map_congr_left
    intro i hi
    have hi:i<u.length:=by simpa using hi
    rw [List.getElem?_set]
    by_cases e:k.toNat=i
    ·subst e
     rw [if_pos rfl,if_pos hi]
     have:((k.toNat:Nat):Int)=k:=by omega
     simp [this]
    ·rw [if_neg e]
     have:(i:Int)≠k:=by omega
     simp [this]
theorem use_in {ts:List Term}{root:Int}{d:List Int}{u:List Bool}(hd:gw ts root=some d)(hdl:d.length=ts.length)(hu:u.length=ts.length):eR (postS ts root) u=Cl (d.map ka) u:=by
 have hm:cq ts root=true:=by rw [jY,hd];rfl
 obtain⟨hrg,p,hp,hpn⟩:=mK.1 hm
 have hperm:=D4 _ _ _ _ hp root omq rfl
 have hmem:∀i:Nat,(Int.ofNat i∈postS ts root)↔(d.map ka)[i]? =some true:=fun i=>by
  unfold postS
  rw [hperm.mem_iff]
  constructor
  ·intro h
   obtain⟨j,hj,e⟩:=List.mem_map.1 h
   have:j=i:=by have e:(j:Int)=i:=e;omega
   subst this
   have hpos:=xr hd hp hj
   rw [List.getElem?_map]
   cases hdx:d[j]? with
   | none=>rw [hdx] at hpos;simp at hpos
   | some y=>rw [hdx] at hpos;simp at hpos;simp [ka,hpos]
  ·intro h
   exact List.mem_map.2 ⟨i,Ax hd hp (D7 h rfl),rfl⟩
 have hbd:∀k∈postS ts root,0≤k∧k<u.length:=fun k hk=>by
  have:=gF _ _ k hk;rw [hu];exact this
 have hnd:(postS ts root).Nodup:=hperm.nodup_iff.2 (by
  unfold List.Nodup
  rw [List.pairwise_map]
  exact hpn.imp (fun {a b} h e=>h (by have e:(a:Int)=b:=e;omega)))
 rw [tO _ _ hbd hnd]
 unfold Cl
 have e1:(postS ts root).any (fun k=>u[k.toNat]?.getD false)=(List.zipWith (· && ·) (d.map ka) u).any id:=by
  rw [Bool.eq_iff_iff,List.any_eq_true,List.any_eq_true]
  constructor
  ·rintro⟨k,hk,h⟩
   have hkb:=hbd k hk
   have h1:=(hmem k.toNat).1 (by rw [show Int.ofNat k.toNat=k by show((k.toNat:Nat):Int)=k;omega];exact hk)
   have h2:=List.getElem?_eq_getElem (l:=u) (i:=k.toNat) omq
   rw [h2] at h
   refine⟨true,List.mem_of_getElem? (i:=k.toNat) ?_,rfl⟩
   rw [List.getElem?_zipWith,h1,h2]
   simpa using h
  ·rintro⟨b,hb,hbt⟩
   obtain⟨i,hi⟩:=List.getElem?_of_mem hb
   rw [List.getElem?_zipWith] at hi
   cases h1:(d.map ka)[i]? with
   | none=>rw [h1] at hi;simp at hi
   | some x=>
    cases h2:u[i]? with
    | none=>rw [h1,h2] at hi;simp at hi
    | some y=>
     rw [h1,h2] at hi
     simp at hi hbt
     subst hi
     simp at hbt
     obtain⟨rfl,rfl⟩:=hbt
     exact⟨i,(hmem i).2 h1,by simp [h2]⟩
 rw [e1]
 split
 ·rfl
 ·congr 1
  apply List.ext_getElem?
  intro i
  rw [List.getElem?_map,List.getElem?_zipWith]
  by_cases hi:i<u.length
  ·have h1:=List.getElem?_eq_getElem (l:=d.map ka) (i:=i) (by rw [List.length_map,hdl,← hu];exact hi)
   rw [List.getElem?_range hi,h1,List.getElem?_eq_getElem hi]
   simp only [Option.map_some,Option.getD_some]
   have:=hmem i
   rw [h1] at this
   have h3:decide (Int.ofNat i∈postS ts root)=(d.map ka)[i]'(by rw [List.length_map,hdl,← hu];exact hi):=by
    cases hb:(d.map ka)[i]'(by rw [List.length_map,hdl,← hu];exact hi) with
    | true=>rw [hb] at this;exact decide_eq_true (this.2 rfl)
    | false=>rw [hb] at this;exact decide_eq_false (fun h=>by simpa using this.1 h)
   rw [h3]
   simp [hi]
  ·rw [List.getElem?_eq_none (l:=List.range u.length) (by simp;omega),List.getElem?_eq_none (l:=u) omq]
   cases(d.map ka)[i]? <;>rfl
def rUse (ts:List Term):List Int→List Bool→Option (List Bool)
 | [],u=>some u
 | t::r,u=>match gw ts t with
  | none=>none
  | some d=>match Cl (d.map ka) u with
   | none=>none
   | some u2=>rUse ts r u2
theorem Ez {a u u2:List Bool}(h:Cl a u=some u2)(hl:a.length=u.length):u2.length=u.length:=by
 unfold Cl at h
 split at h
 ·cases h
 ·cases h;simp [hl]
theorem ir {d d':List Int}{i to:Int}(h:dR d i to=some d'):d'.length=d.length:=by
 unfold dR at h
 repeat' split at h
 all_goals first | (cases h;done) | (cases h;simp)
theorem sm {l:List Term}{i:Int}{d d':List Int}(h:dy l i d=some d'):d'.length=d.length:=by
 unfold dy at h
 split at h
 ·cases h;rfl
 ·split at h
  ·cases h
  ·split at h
   ·cases h
   ·unfold eQ at h
    repeat' split at h
    all_goals first | (cases h;done) | (cases h;rfl) | (cases h;rename_i h1;exact ir h1) | (rename_i h1 _;rw [ir h,ir h1]) | (rename_i h1;rw [ir h])
theorem mp {l:List Term}:∀(n:Nat) (d:List Int) {d':List Int},eB l n d=some d'→d'.length=d.length
 | 0,d,d',h=>by cases h;rfl
 | n+1,d,d',h=>by
  rw [eB] at h
  split at h
  ·cases h
  ·rename_i d1 h1
   rw [mp n d1 h,sm h1]
theorem tS {ts:List Term}{root:Int}{d:List Int}(h:gw ts root=some d):d.length=ts.length:=by
 unfold gw at h
 split at h
 ·cases h
 ·have:=mp _ _ h
  simpa using this
theorem AI {ts:List Term}:∀(L:List Int) (u:List Bool),u.length=ts.length→rUse ts L u=bT ts L u
 | [],_,_=>rfl
 | t::r,u,hu=>by
  rw [rUse,bT]
  cases hd:gw ts t with
  | none=>
   have hm:cq ts t=false:=by rw [jY,hd];rfl
   rw [if_pos hm]
  | some d=>
   have hm:cq ts t=true:=by rw [jY,hd];rfl
   rw [if_neg (by rw [hm];decide),use_in hd (tS hd) hu]
   dsimp only
   cases hi:Cl (d.map ka) u with
   | none=>rfl
   | some u2=>exact AI r u2 (by rw [Ez hi (by rw [List.length_map,tS hd,hu]),hu])
def dA (s:SStep):Bool:=!(decide (s.kind=1)||(decide (s.kind=2)||decide (s.kind=3)))|| !decide (s.term= -1)
theorem Ep (ts:List Term):cq ts (-1)=false:=by
 unfold cq
 split
 ·rfl
 ·rw [if_pos dq]
theorem dX {s:SStep}(hm:dO s=true)(hr:dA s=true):dF s=a8 s:=by
 have h4:¬(s.kind=1∨s.kind=2∨s.kind=3∨s.kind=4)→s.term= -1:=fun hk=>by
  rw [← vd] at hm
  unfold BJ at hm
  split at hm; · cases hm
  split at hm; · cases hm
  split at hm; · cases hm
  split at hm; · cases hm
  simpa using hm
 unfold dF a8
 by_cases ht:s.term= -1
 ·rw [if_pos ht,if_neg]
  rintro(h | h | h | h)
  ·simp [dA,h,ht] at hr
  ·simp [dA,h,ht] at hr
  ·simp [dA,h,ht] at hr
  ·exact h.2 ht
 ·rw [if_neg ht,if_pos]
  have:=Classical.byContradiction (fun h=>ht (h4 h))
  rcases this with h | h | h | h
  ·exact .inl h
  ·exact .inr (.inl h)
  ·exact .inr (.inr (.inl h))
  ·exact .inr (.inr (.inr ⟨h,ht⟩))
theorem Dr {ts:List Term}{s:SStep}{u:List Bool}(hr:dA s=false):bT ts (a8 s) u=none:=by
 have h:(s.kind=1∨s.kind=2∨s.kind=3)∧s.term= -1:=by
  unfold dA at hr
  simp at hr
  exact⟨by omega,hr.2⟩
 have e:∃r,a8 s=s.term::r:=by
  unfold a8
  rw [if_pos (by rcases h.1 with h | h | h<;>simp [h])]
  exact⟨_,rfl⟩
 obtain⟨r,e⟩:=e
 rw [e,bT,h.2,if_pos (Ep ts)]
end Go.Sx
namespace Go.Sx
open Go
theorem uf {s:SStep}(hm:dO s=true):qT s=aL s:=by
 have h0:¬(s.kind<0∨10<s.kind):=fun h=>by
  unfold dO at hm;rw [if_pos h] at hm;cases hm
 have hw:fA s.kind=true→s.ways=[]:=fun hg=>by
  have hne:¬(s.kind=3∨s.kind=5):=fun h=>by
   rcases h with h | h<;>rw [h] at hg<;>exact absurd hg dq
  rw [← vd] at hm
  unfold BJ at hm
  rw [if_neg h0] at hm
  split at hm; · cases hm
  split at hm; · cases hm
  rename_i hp
  have hp:nB s=false:=by simpa using hp
  unfold nB at hp
  simp only [Bool.or_eq_false_iff] at hp
  have:=hp.2.2.1
  rw [Dk hne] at this
  simp at this
  exact this
 unfold qT aL
 by_cases hg:fA s.kind=true
 ·rw [if_pos hg,hw hg]
  have he:¬rI s.kind=true:=by
   unfold fA at hg;unfold rI
   simp at hg ⊢;omega
  rw [if_neg he];rfl
 ·rw [if_neg hg]
  have he:rI s.kind=true:=by
   unfold fA at hg;unfold rI
   simp at hg ⊢;omega
  rw [if_pos he,List.append_nil]
def fS (n i:Int):List Int→List Int×List Int→List Int×List Int
 | [],p=>p
 | t::r,p=>if t≤i∨n≤t then fS n i r p else fS n i r (p.1.set t.toNat (if 1<aG (fZ p.2 t) t then -2 else i),fZ p.2 t)
def gZ (n:Int):List SStep→Int→List Int×List Int→List Int×List Int
 | [],_,p=>p
 | s::r,i,p=>gZ n r (i+1) (fS n i (qT s) p)
def mF (n:Nat):List Int×List Int:=((List.replicate n (-2)).set 0 (-1),List.replicate n 0)
def fJ (q:SProc):List Int:=(gZ q.steps.length q.steps 0 (mF q.steps.length)).1
theorem gK {n i:Int}:∀{L:List Int} {p:List Int×List Int},(fS n i L p).1.length=p.1.length∧(fS n i L p).2.length=p.2.length
 | [],_=>⟨rfl,rfl⟩
 | t::r,p=>by
  rw [fS]
  split
  ·exact gK
  ·have:= @gK n i r (p.1.set t.toNat (if 1<aG (fZ p.2 t) t then -2 else i),fZ p.2 t)
   simpa [mR] using this
theorem kM {c:List Int}{t j x:Int}(h0:0≤t)(hj:0≤j)(h:j≠t):aG (c.set t.toNat x) j=aG c j:=by
 unfold aG
 rw [List.getElem?_set,if_neg omq]
theorem lO {n i:Int}:∀{L:List Int} {p:List Int×List Int} {j:Int},0≤i→0≤j→j≤i→aG (fS n i L p).1 j=aG p.1 j
 | [],_,_,_,_,_=>rfl
 | t::r,p,j,hi,h0,h=>by
  rw [fS]
  split
  ·exact lO hi h0 h
  ·rw [lO hi h0 h]
   exact kM omq h0 omq
theorem oP {n:Int}:∀{l:List SStep} {i:Int} {p:List Int×List Int} {j:Int},0≤i→0≤j→j≤i→aG (gZ n l i p).1 j=aG p.1 j
 | [],_,_,_,_,_,_=>rfl
 | s::r,i,p,j,hi,h0,h=>by rw [gZ,oP omq h0 omq,lO hi h0 h]
theorem q4 {n i:Int}:∀{L:List Int} {p:List Int×List Int},0≤i→n≤p.1.length→(∀j,0≤j→aG p.1 j<j∨p.1.length≤j)→∀j,0≤j→aG (fS n i L p).1 j<j∨p.1.length≤j
 | [],_,_,_,h=>h
 | t::r,p,hi,hn,h=>by
  rw [fS]
  split
  ·exact q4 hi hn h
  ·rename_i ht
   intro j hj
   have:= @q4 n i r (p.1.set t.toNat (if 1<aG (fZ p.2 t) t then -2 else i),fZ p.2 t) hi (by simpa using hn) (fun j hj=>by
    rw [List.length_set]
    by_cases e:j=t
    ·subst e
     left
     dsimp only
     rw [ek omq omq hj,if_pos rfl]
     split<;>omega
    ·dsimp only
     rw [kM omq hj e]
     exact h j hj) j hj
   simpa using this
theorem uo {n:Int}:∀{l:List SStep} {i:Int} {p:List Int×List Int},0≤i→n≤p.1.length→(∀j,0≤j→aG p.1 j<j∨p.1.length≤j)→∀j,0≤j→aG (gZ n l i p).1 j<j∨p.1.length≤j
 | [],_,_,_,_,h=>h
 | s::r,i,p,hi,hn,h=>by
  rw [gZ]
  intro j hj
  have:=uo (l:=r) (i:=i+1) (p:=fS n i (qT s) p) omq (by rw [gK.1];exact hn) (fun j hj=>by rw [gK.1];exact q4 hi hn h j hj) j hj
  rwa [gK.1] at this
theorem par0_lt (n:Nat):∀j,0≤j→aG (mF n).1 j<j∨((mF n).1.length:Int)≤j:=fun j hj=>by
 unfold mF aG
 by_cases h:j.toNat<n
 ·left
  dsimp only
  rw [List.getElem?_set]
  split
  ·rename_i e;rw [if_pos (by simp;omega)];simp;omega
  ·rw [List.getElem?_replicate,if_pos h];simp;omega
 ·right;simp;omega
theorem AM (q:SProc)(j:Int)(hj:0≤j)(hn:j<q.steps.length):aG (fJ q) j<j:=by
 have:=uo (n:=q.steps.length) (l:=q.steps) (i:=0) (p:=mF q.steps.length) omq (by simp [mF]) (par0_lt _) j hj
 rcases this with h | h
 ·exact h
 ·simp [mF] at h;omega
def ko (s:Option SStep):Int:=match s with
 | some s=>if s.kind=3∨s.kind=5 then 1 else 0
 | none=>0
def gA (q:SProc)(up:List Int):Nat→Int→Int
 | 0,_=>0
 | f+1,i=>if i<0 then 0 else ko q.steps[i.toNat]? +gA q up f (aG up i)
def ig (q:SProc)(up:List Int)(x:Int):Int:=gA q up (x+1).toNat x
theorem uy (s:Option SStep):0≤ko s∧ko s≤1:=by
 unfold ko;split
 ·split<;>omega
 ·omega
theorem nO {q:SProc}{up:List Int}:∀(f:Nat) (i:Int),0≤gA q up f i∧gA q up f i≤f
 | 0,_=>by simp [gA]
 | f+1,i=>by
  rw [gA]
  have:=uy q.steps[i.toNat]?
  have:=nO (q:=q) (up:=up) f (aG up i)
  split<;>omega
theorem rM {q:SProc}{up:List Int}(hlt:∀j:Int,0≤j→j<q.steps.length→aG up j<j):∀(f g:Nat) (i:Int),i<q.steps.length→i<f→i<g→gA q up f i=gA q up g i
 | 0,0,_,_,_,_=>rfl
 | 0,g+1,i,_,h,_=>by rw [gA,gA,if_pos omq]
 | f+1,0,i,_,_,h=>by rw [gA,gA,if_pos omq]
 | f+1,g+1,i,hn,h1,h2=>by
  rw [gA,gA]
  split
  ·rfl
  ·rename_i h0
   have:=hlt i omq hn
   rw [rM hlt f g (aG up i) omq omq omq]
theorem rN {q:SProc}{up:List Int}(hlt:∀j:Int,0≤j→j<q.steps.length→aG up j<j){k:Int}(h0:0≤k)(hn:k<q.steps.length):ig q up k=ko q.steps[k.toNat]? +(if aG up k<0 then 0 else ig q up (aG up k)):=by
 unfold ig
 rw [show(k+1).toNat=k.toNat+1 by omega,gA,if_neg omq]
 congr 1
 have:=hlt k h0 hn
 split
 ·rename_i h
  cases k.toNat with
  | zero=>rfl
  | succ f=>rw [gA,if_pos h]
 ·rename_i h
  exact rM hlt _ _ _ omq omq omq
structure PJ (q:SProc)(up:List Int)(kk m:Int)(c d:List Int)(p:List Int×List Int):Prop where
 e:p.2=c
 lc:c.length=q.steps.length
 ld:d.length=q.steps.length
 lp:p.1.length=q.steps.length
 b:∀j:Int,0≤j→0≤aG c j∧aG c j≤m
 z:aG c 0=0∧aG p.1 0= -1
 a0:∀j:Int,0<j→j<q.steps.length→aG c j=0→aG p.1 j= -2
 a1:∀j:Int,kk≤j→0≤j→j<q.steps.length→aG c j=1→0≤aG p.1 j∧aG p.1 j<kk∧aG d j=ig q up (aG p.1 j)
 a2:∀j:Int,0≤j→j<q.steps.length→1<aG c j→aG p.1 j= -2
theorem ur {q:SProc}{up:List Int}{k:Int}(k0:0≤k):∀{L:List Int} {m:Int} {c d c2 d2:List Int} {p:List Int×List Int},PJ q up (k+1) m c d p→aG d k=ig q up k→0≤m→m+L.length≤1000000→bO q.steps.length k L c d=some (c2,d2)→
  PJ q up (k+1) (m+L.length) c2 d2 (fS q.steps.length k L p)∧aG d2 k=aG d k
 | [],m,c,d,c2,d2,p,hJ,hd,hm0,hm,h=>by
  simp only [bO,Option.some.injEq,Prod.mk.injEq] at h
  obtain⟨rfl,rfl⟩:=h
  exact⟨by simpa [fS] using hJ,rfl⟩
 | t::r,m,c,d,c2,d2,p,hJ,hd,hm0,hm,h=>by
  rw [bO] at h
  split at h
  ·cases h
  ·rename_i ht
   simp only [List.length_cons] at hm
   have hbt:=hJ.b t omq
   have hw:IntKind.i64.wrap (aG c t+1)=aG c t+1:=mS omq omq
   have hg:∀j:Int,0≤j→aG (fZ c t) j=if j=t then aG c t+1 else aG c j:=fun j hj=>by
    unfold fZ;rw [hw];exact ek omq (by rw [hJ.lc];omega) hj
   rw [fS,if_neg ht,hJ.e]
   have hp1:∀j:Int,0≤j→aG (p.1.set t.toNat (if 1<aG (fZ c t) t then -2 else k)) j=if j=t then(if 1<aG (fZ c t) t then -2 else k) else aG p.1 j:=fun j hj=>ek omq (by rw [hJ.lp];omega) hj
   have hd1:∀j:Int,0≤j→aG (d.set t.toNat (aG d k)) j=if j=t then aG d k else aG d j:=fun j hj=>ek omq (by rw [hJ.ld];omega) hj
   have hgt:=hg t omq
   rw [if_pos rfl] at hgt
   have hJ2:PJ q up (k+1) (m+1) (fZ c t) (d.set t.toNat (aG d k)) (p.1.set t.toNat (if 1<aG (fZ c t) t then -2 else k),fZ c t):=by
    refine⟨rfl,by rw [mR];exact hJ.lc,by rw [List.length_set];exact hJ.ld,by rw [List.length_set];exact hJ.lp,fun j hj=>?_,?_,fun j hj hn h1=>?_,fun j hkj hj hn h1=>?_,fun j hj hn h1=>?_⟩
    ·have:=hJ.b j hj
     rw [hg j hj];split<;>omega
    ·have:=hJ.z
     dsimp only
     rw [hg 0 omq,hp1 0 omq,if_neg omq,if_neg omq];exact this
    ·dsimp only
     rw [hg j omq] at h1
     rw [hp1 j omq]
     by_cases e:j=t
     ·subst e;rw [if_pos rfl] at h1;omega
     ·rw [if_neg e] at h1 ⊢;exact hJ.a0 j hj hn h1
    ·dsimp only
     rw [hg j hj] at h1
     rw [hp1 j hj,hd1 j hj]
     by_cases e:j=t
     ·subst e
      rw [if_pos rfl] at h1
      simp only [if_true]
      rw [hgt,if_neg omq]
      exact⟨k0,by omega,hd⟩
     ·rw [if_neg e] at h1
      rw [if_neg e,if_neg e];exact hJ.a1 j hkj hj hn h1
    ·dsimp only
     rw [hg j hj] at h1
     rw [hp1 j hj]
     by_cases e:j=t
     ·subst e
      rw [if_pos rfl] at h1
      rw [if_pos rfl,hgt,if_pos omq]
     ·rw [if_neg e] at h1 ⊢;exact hJ.a2 j hj hn h1
   have hdk:aG (d.set t.toNat (aG d k)) k=aG d k:=by rw [hd1 k k0,if_neg omq]
   obtain⟨h1,h2⟩:=ur k0 hJ2 (by rw [hdk];exact hd) omq omq h
   refine⟨?_,by rw [h2,hdk]⟩
   rw [List.length_cons,show m+((r.length+1:Nat):Int)=m+1+r.length by omega]
   exact h1
theorem nf:∀{L:List Int} {u u2:List Bool},eR L u=some u2→u2.length=u.length
 | [],u,u2,h=>by cases h;rfl
 | k::r,u,u2,h=>by
  rw [eR] at h
  split at h
  ·cases h
  ·rw [nf h,List.length_set]
theorem j4 {ts:List Term}:∀{L:List Int} {u u2:List Bool},bT ts L u=some u2→u2.length=u.length
 | [],u,u2,h=>by cases h;rfl
 | t::r,u,u2,h=>by
  rw [bT] at h
  split at h
  ·cases h
  ·split at h
   ·cases h
   ·rename_i u3 h3
    rw [j4 h,nf h3]
def ud (q:SProc)(up:List Int)(at_:Int)(s:SStep):Bool:=
 (qT s).all (fun t=>!(decide (t≤at_)||decide ((q.steps.length:Int)≤t)))&&(!(decide (0<at_)&&decide (aG up at_<0))&&decide (ig q up at_≤24))
def ue (q:SProc)(i:Int)(up:List Int):List SStep→Int→List Bool→SFault
 | [],_,_=>okF
 | s::r,at_,u=>
  if dO s=false then⟨1500,i,at_⟩
  else if ud q up at_ s=false then⟨1502,i,at_⟩
  else if dA s=false then⟨1503,i,at_⟩
  else match rUse q.terms (dF s) u with
   | none=>⟨1503,i,at_⟩
   | some u2=>ue q i up r (at_+1) u2
theorem jz {n at_:Int}:∀{L c d:List Int},L.all (fun t=>!(decide (t≤at_)||decide (n≤t)))=(bO n at_ L c d).isSome
 | [],_,_=>rfl
 | t::r,c,d=>by
  rw [bO,List.all_cons]
  split
  ·rename_i h
   have:(decide (t≤at_)||decide (n≤t))=true:=by simpa using h
   rw [this];rfl
  ·rename_i h
   have:(decide (t≤at_)||decide (n≤t))=false:=by
    rw [← Bool.not_eq_true];simpa using h
   rw [this,jz (L:=r)];rfl
theorem PJ.mono {q:SProc}{up:List Int}{k k' m m':Int}{c d:List Int}{p:List Int×List Int}(h:PJ q up k m c d p)(hk:k≤k')(hm:m≤m'):PJ q up k' m' c d p:=
 ⟨h.e,h.lc,h.ld,h.lp,fun j hj=>⟨(h.b j hj).1,by have:=(h.b j hj).2;omega⟩,h.z,h.a0,fun j hkj hj hn h1=>by
  obtain⟨a,b,c⟩:=h.a1 j omq hj hn h1
  exact⟨a,by omega,c⟩,h.a2⟩
theorem Bw {q : SProc} {i : Int} {up : List Int} (hn : q.steps.length ≤ 80) (hlt : ∀ j : Int, 0 ≤ j → j < q.steps.length → aG up j < j) : ∀ (l : List SStep) (k : Nat) (c d : List Int) (u : List Bool) (p : List Int × List Int), l = q.steps.drop k → PJ q up k (7 * k) c d p → (k = 0 → aG d 0 = 0) → u.length = q.terms.length →
  up = (gZ q.steps.length l k p).1 → ue q i up l k u = bB q i l k c d u := by
 intro l
 induction l with
 | nil => intro k c d u p hl hJ hz hu hup; rfl
 | cons s r ih =>
  intro k c d u p hl hJ hz hu hup
  have hx : q.steps[k]? = some s := by
   have h1 : (q.steps.drop k)[0]? = some s := by rw [← hl]; rfl
   rwa [List.getElem?_drop, Nat.add_zero] at h1
  have hr : r = q.steps.drop (k + 1) := by
   have h1 : (q.steps.drop k).drop 1 = r := by rw [← hl]; rfl
   rw [← h1, List.drop_drop]
  have hkn := (List.getElem?_eq_some_iff.1 hx).1
  rw [ue, bB]
  by_cases hm : dO s = false
  ·rw [if_pos hm, if_pos hm]
  have hm' : dO s = true := by simpa using hm
  rw [if_neg hm, if_neg hm]
  have hupk : aG up k = aG p.1 k := by rw [hup]; exact oP omq omq omq
  have hne := uf hm'
  by_cases hc : (0 : Int) < k ∧ ¬ aG c k = 1
  ·rw [if_pos hc, if_pos]
   unfold ud
   have hneg : aG up k < 0 := by
    rw [hupk]
    have hb := (hJ.b k omq).1
    rcases (by omega : aG c k = 0 ∨ 1 < aG c k) with h | h
    ·rw [hJ.a0 k hc.1 omq h]; omega
    ·rw [hJ.a2 k omq omq h]; omega
   rw [decide_eq_true hc.1, decide_eq_true hneg]; simp
  ·rw [if_neg hc]
   have hok : (!(decide ((0 : Int) < k) && decide (aG up k < 0))) = true := by
    by_cases h0 : (0 : Int) < k
    ·have h1 : aG c k = 1 := by
      by_cases e : aG c k = 1
      ·exact e
      ·exact absurd ⟨h0, e⟩ hc
     have := (hJ.a1 k omq omq omq h1).1
     rw [hupk, decide_eq_false (show ¬ aG p.1 k < 0 by omega)]; simp
    ·rw [decide_eq_false h0]; rfl
   -- how deep
   have hdk : aG (cR s k d) k = ig q up k := by
    rw [rN hlt omq omq]
    have hx' : q.steps[(k : Int).toNat]? = some s := by simpa using hx
    rw [hx', hupk]
    have hdv : aG d k = (if aG p.1 k < 0 then 0 else ig q up (aG p.1 k)) := by
     by_cases h0 : (0 : Int) < k
     ·have h1 : aG c k = 1 := by
       by_cases e : aG c k = 1
       ·exact e
       ·exact absurd ⟨h0, e⟩ hc
      obtain ⟨a, b, e⟩ := hJ.a1 k omq omq omq h1
      rw [if_neg omq]; exact e
     ·have e : k = 0 := by omega
      subst e
      have := hJ.z.2
      rw [if_pos (by simp only [Int.natCast_zero, Int.ofNat_zero] at *; simpa using (by omega : aG p.1 0 < 0))]
      simpa using hz rfl
    have hdb : 0 ≤ aG d k ∧ aG d k ≤ 100 := by
     rw [hdv]
     split
     ·omega
     ·rename_i h
      unfold ig
      have h2 := nO (q := q) (up := up) (aG p.1 k + 1).toNat (aG p.1 k)
      have h3 := hlt k omq omq
      rw [hupk] at h3
      omega
    rw [← hdv]
    unfold cR ko
    dsimp only
    split
    ·unfold fZ
     rw [ek omq (by rw [hJ.ld]; omega) omq, if_pos rfl, mS omq omq]; omega
    ·omega
   have hJ1 : PJ q up (k + 1) (7 * k) c (cR s k d) p := by
    refine ⟨hJ.e, hJ.lc, by rw [vD]; exact hJ.ld, hJ.lp, hJ.b, hJ.z, hJ.a0, fun j hkj hj hn1 h1 => ?_, hJ.a2⟩
    obtain ⟨a, b, e⟩ := hJ.a1 j omq hj hn1 h1
    refine ⟨a, by omega, ?_⟩
    unfold cR
    split
    ·unfold fZ; rw [kM omq hj omq]; exact e
    ·exact e
   have hnl := mI s hm'
   unfold ud
   rw [hne, hok, Bool.true_and]
   have hsm := @jz q.steps.length k (aL s) c (cR s k d)
   cases hng : bO q.steps.length k (aL s) c (cR s k d) with
   | none =>
    rw [hng] at hsm
    rw [if_pos (by rw [hsm]; rfl)]
   | some r2 =>
    obtain ⟨c2, d2⟩ := r2
    rw [hng] at hsm
    obtain ⟨hJ2, hd2⟩ := ur omq hJ1 hdk omq omq hng
    dsimp only
    rw [hsm, hd2, hdk]
    by_cases h24 : 24 < ig q up k
    ·rw [if_pos (by rw [decide_eq_false omq]; rfl), if_pos h24]
    ·rw [if_neg (by rw [decide_eq_true omq]; simp), if_neg h24]
     by_cases hro : dA s = false
     ·rw [if_pos hro, Dr hro]
     ·have hro' : dA s = true := by simpa using hro
      rw [if_neg hro, dX hm' hro', AI _ _ hu]
      cases hrg : bT q.terms (a8 s) u with
      | none => rfl
      | some u2 =>
       dsimp only
       have := ih (k + 1) c2 d2 u2 (fS q.steps.length k (aL s) p) hr (by
        have := hJ2.mono (k' := ((k + 1 : Nat) : Int)) (m' := 7 * ((k + 1 : Nat) : Int)) omq omq
        exact this) omq (by rw [j4 hrg]; exact hu) (by rw [hup, gZ, hne]; rfl)
       exact this
theorem xz {q:SProc}{i:Int}(hn:q.steps.length≤80)(h1:1≤q.steps.length):ue q i (fJ q) q.steps 0 (List.replicate q.terms.length false)=d9 i q:=by
 have hJ:PJ q (fJ q) (0:Nat) (7 * (0:Nat)) (List.replicate q.steps.length 0) (List.replicate q.steps.length 0) (mF q.steps.length):=by
  refine⟨rfl,by simp,by simp,by simp [mF],fun j hj=>by rw [eD];simp,⟨eD,?_⟩,fun j hj hn1 _=>?_,fun j hkj hj hn1 h=>?_,fun j hj hn1 h=>?_⟩
  ·unfold mF aG;dsimp only;rw [List.getElem?_set,if_pos (by rfl),if_pos (by simp;omega)];rfl
  ·unfold mF aG;dsimp only
   rw [List.getElem?_set,if_neg omq,List.getElem?_replicate,if_pos omq];rfl
  ·rw [eD] at h;cases h
  ·rw [eD] at h;omega
 exact Bw hn (AM q) q.steps 0 _ _ _ _ rfl hJ (fun _=>eD) sq rfl
end Go.Sx
namespace Go.Sx
open Go
section
variable {l:List Str}{k m:Int}{x:Str}
end
def rHd (s:SStep):List Int:=(if s.term= -1 then [] else [s.term])++s.args
theorem xI (s:SStep):rHd s++s.casts.flatMap (·.args)=dF s:=rfl
theorem rHd_T {s:SStep}(h:¬s.term= -1):rHd s=[s.term]++s.args:=by unfold rHd;rw [if_neg h]
theorem rHd_F {s:SStep}(h:s.term= -1):rHd s=s.args:=by unfold rHd;rw [if_pos h];rfl
section
variable {s:SStep}
end
end Go.Sx
namespace Go.Sx
open Go
section
variable {n k j y:Int}{q:SProc}{s:SStep}{p:List Int×List Int}{L:List Int}{N:List Int×List Int}
end
section
variable {q:SProc}{up:List Int}{at_ k d i:Int}{s x:SStep}
theorem Cu (q:SProc)(up:List Int)(x:Int)(h0:0≤x):0≤ig q up x∧ig q up x≤x+1:=by
 have:=nO (q:=q) (up:=up) (x+1).toNat x
 unfold ig;omega
end
section
variable {ts:List Term}{L:List Int}{k y:Int}{u u2:List Bool}{N:Option (List Bool)}{d:List Int}
end
section
variable {q:SProc}{i k:Int}{s:SStep}{up:List Int}{u u2:List Bool}{F:SFault}
end
theorem head_sz {q:SProc}(h:(bG q&&q.params.all eU)=true):1≤q.steps.length∧q.steps.length≤80∧q.terms.length≤160∧q.params.length≤6:=by
 simp only [Bool.and_eq_true] at h
 have h1:=h.1
 unfold bG at h1
 simp only [Bool.and_eq_true,decide_eq_true_eq] at h1
 omega
end Go.Sx
