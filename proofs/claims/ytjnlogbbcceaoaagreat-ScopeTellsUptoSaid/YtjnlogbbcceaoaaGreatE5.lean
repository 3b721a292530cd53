import Derived.Test.YtjnlogbbcceaoaaGreatE4
set_option linter.all false
set_option maxRecDepth 100000
set_option maxHeartbeats 32000000
namespace Go.Sx
open Go
theorem vm {x:Int}(h0: -1000000000≤x)(h1:x≤1000000000):IntKind.i64.wrap x=x:=by
 simp only [IntKind.wrap,IntKind.signed,IntKind.bits];simp;omega
theorem gF {c:List Int}{t j x:Int}(h0:0≤t)(h1:t<c.length)(hj:0≤j):aP (c.set t.toNat x) j=if j=t then x else aP c j:=by
 unfold aP
 rw [List.getElem?_set]
 by_cases e:j=t
 ·subst e;rw [if_pos rfl,if_pos rfl,if_pos om];rfl
 ·rw [if_neg om,if_neg e]
theorem nD {n at_:Int}:∀{L:List Int} {c d c2 d2:List Int},cx n at_ L c d=some (c2,d2)→(n=c.length)→0≤at_→(∀j:Int,0≤aP c j∧aP c j+L.length≤1000000)→
  c2.length=c.length∧∀j:Int,0≤j→aP c2 j=aP c j+L.count j
 | [],c,d,c2,d2,h,hn,h0,hb=>by
  simp only [cx,Option.some.injEq,Prod.mk.injEq] at h
  obtain⟨rfl,rfl⟩:=h
  exact⟨rfl,fun j _=>by simp⟩
 | t::r,c,d,c2,d2,h,hn,h0,hb=>by
  rw [cx] at h
  split at h
  ·cases h
  ·rename_i ht
   have hw:IntKind.i64.wrap (aP c t+1)=aP c t+1:=by
    have:=hb t
    simp only [List.length_cons] at this
    exact vm om om
   have hg:∀j:Int,0≤j→aP (fU c t) j=if j=t then aP c t+1 else aP c j:=fun j hj=>by
    unfold fU;rw [hw];exact gF om om hj
   have hneg:∀(c:List Int) (j:Int),¬0≤j→aP c j=aP c 0:=fun c j hj=>by unfold aP;rw [show j.toNat=0 by omega];rfl
   have:=nD h (by rw [kw];exact hn) h0 (fun j=>by
    have h1:=hb j
    have h2:=hb t
    simp only [List.length_cons] at h1 h2
    by_cases hj:0≤j
    ·rw [hg j hj];split<;>omega
    ·rw [hneg _ j hj,hg 0 om]
     have h3:=hb 0
     simp only [List.length_cons] at h3
     split<;>omega)
   obtain⟨h1,h2⟩:=this
   refine⟨by rw [h1,kw],fun j hj=>?_⟩
   rw [h2 j hj,hg j hj,List.count_cons]
   by_cases e:j=t
   ·subst e;simp;omega
   ·rw [if_neg e,if_neg (by simpa using fun h=>e h.symm)];simp
abbrev GJ (q:SProc):List Int:=q.steps.flatMap aW
theorem EZ {q:SProc}{k:Nat}{s:SStep}(h:q.steps[k]? =some s):(q.steps.take (k+1)).flatMap aW=(q.steps.take k).flatMap aW++aW s:=by
 rw [List.take_add_one,h,List.flatMap_append];simp
theorem uO (s:SStep)(h:dy s=true):(aW s).length≤7:=by
 have:=(dY h).1
 unfold aW;split<;>simp<;>omega
theorem Jd {q:SProc}(hS:bX q):∀k:Nat,k≤q.steps.length→((q.steps.take k).flatMap aW).length≤7 * k
 | 0,_=>by simp
 | k+1,h=>by
  have hx:=List.getElem?_eq_getElem (l:=q.steps) (i:=k) om
  have:=Jd hS k om
  have:=uO _ (hS k _ hx).1
  rw [EZ hx,List.length_append];omega
theorem vP {q:SProc}{i:Int}(hS:bX q)(hn:q.steps.length≤80):∀(l:List SStep) (k:Nat) (c d:List Int) (u:List Bool),l=q.steps.drop k→bT q i l k c d u=okF→c.length=q.steps.length→
  (∀j:Int,0≤j→aP c j=(((q.steps.take k).flatMap aW).count j:Int))→∀x:Nat,k≤x→x<q.steps.length→0<x→((q.steps.take x).flatMap aW).count (x:Int)=1:=by
 intro l
 induction l with
 | nil=>
  intro k c d u hl _ _ _ x hx hx2
  have h2:(q.steps.drop k).length=0:=by rw [← hl];rfl
  rw [List.length_drop] at h2;omega
 | cons s r ih=>
  intro k c d u hl h hc hcc x hkx hxn hx0
  have hx:q.steps[k]? =some s:=by
   have h1:(q.steps.drop k)[0]? =some s:=by rw [← hl];rfl
   rwa [List.getElem?_drop,Nat.add_zero] at h1
  have hr:r=q.steps.drop (k+1):=by
   have h1:(q.steps.drop k).drop 1=r:=by rw [← hl];rfl
   rw [← h1,List.drop_drop]
  rw [bT] at h
  split at h
  ·cases h
  ·split at h
   ·cases h
   ·rename_i hm ht
    split at h
    ·cases h
    ·rename_i c2 d2 hng
     split at h
     ·cases h
     ·split at h
      ·cases h
      ·rename_i u2 _
       rcases Nat.lt_or_ge k x with hlt | hge
       ·have hbd:=Jd hS k om
        have hnl:=uO _ (hS k _ hx).1
        have hneg:∀(c:List Int) (j:Int),¬0≤j→aP c j=aP c 0:=fun c j hj=>by unfold aP;rw [show j.toNat=0 by omega];rfl
        have hcl:∀j:Int,((q.steps.take k).flatMap aW).count j≤7 * k:=fun j=>Nat.le_trans List.count_le_length hbd
        obtain⟨e1,e2⟩:=nD hng (by rw [hc]) om (fun j=>by
         by_cases hj:0≤j
         ·rw [hcc j hj];have:=hcl j;omega
         ·rw [hneg _ _ hj,hcc 0 om];have:=hcl 0;omega)
        exact ih (k+1) c2 d2 u2 hr h (by rw [e1,hc]) (fun j hj=>by rw [e2 j hj,hcc j hj,EZ hx,List.count_append];omega) x hlt hxn hx0
       ·have:x=k:=by omega
        subst this
        have h1:=hcc x om
        have h2:aP c x=1:=by
         by_cases e:aP c x=1
         ·exact e
         ·exact absurd ⟨by omega,e⟩ ht
        omega
theorem gY {n:Nat}{j:Int}:aP (List.replicate n (0:Int)) j=0:=by
 unfold aP;rw [List.getElem?_replicate];split<;>rfl
theorem A1 {q:SProc}{i:Int}(hS:bX q)(hn:q.steps.length≤80)(h:f4 i q=okF)(x:Nat)(hx:x<q.steps.length)(h0:0<x):((q.steps.take x).flatMap aW).count (x:Int)=1:=
 vP hS hn _ 0 _ _ _ rfl h sq (fun j _=>by rw [gY];simp) x (Nat.zero_le _) hx h0
theorem Dx {q:SProc}(hS:bX q)(x:Nat):((q.steps.drop x).flatMap aW).count (x:Int)=0:=by
 rw [List.count_eq_zero]
 intro hm
 obtain⟨s,hs,ht⟩:=List.mem_flatMap.1 hm
 obtain⟨j,hj⟩:=List.mem_iff_getElem?.1 hs
 rw [List.getElem?_drop] at hj
 have:=(hS _ _ hj).2 _ ht
 omega
def jl (q:SProc):Prop:=∀x:Nat,0<x→x<q.steps.length→(GJ q).count (x:Int)=1
theorem uf {q:SProc}{i:Int}(hS:bX q)(hn:q.steps.length≤80)(h:f4 i q=okF):jl q:=fun x h0 hx=>by
 have h1:=A1 hS hn h x hx h0
 have h2:=Dx hS x
 unfold GJ
 rw [← List.take_append_drop x q.steps,List.flatMap_append,List.count_append,h1,h2]
def Par (q:SProc)(p x:Int):Prop:=0≤p∧∃s,q.steps[p.toNat]? =some s∧x∈aW s
theorem uD {q:SProc}(hS:bX q){p x:Int}(h:Par q p x):p<x∧x<q.steps.length:=by
 obtain⟨h0,s,hs,hx⟩:=h
 have:=(hS _ _ hs).2 _ hx
 omega
theorem wg {q:SProc}{p:Nat}{s:SStep}{x:Int}(hs:q.steps[p]? =some s):((aW s).count x)≤(GJ q).count x:=by
 unfold GJ
 have h1:=List.getElem?_eq_some_iff.1 hs
 rw [← List.take_append_drop p q.steps,List.flatMap_append,List.count_append,List.drop_eq_getElem_cons h1.1,List.flatMap_cons,List.count_append,h1.2]
 omega
theorem uC {q:SProc}(hS:bX q)(hT:jl q){p p' x:Int}(h:Par q p x)(h':Par q p' x):p=p':=by
 have hl:=uD hS h
 have key:∀{p p':Int},Par q p x→Par q p' x→p<p'→False:=by
  intro p p' h h' hlt
  have hl:=uD hS h
  have hl2:=uD hS h'
  obtain⟨h0,s,hs,hx⟩:=h
  obtain⟨h0',s',hs',hx'⟩:=h'
  have h1:=hT x.toNat om om
  rw [show((x.toNat:Nat):Int)=x by omega] at h1
  unfold GJ at h1
  have hg:=List.getElem?_eq_some_iff.1 hs'
  rw [← List.take_append_drop p'.toNat q.steps,List.flatMap_append,List.count_append,List.drop_eq_getElem_cons hg.1,List.flatMap_cons,List.count_append,hg.2] at h1
  have h2:0<(aW s').count x:=List.count_pos_iff.2 hx'
  have h3:0<((q.steps.take p'.toNat).flatMap aW).count x:=List.count_pos_iff.2 (List.mem_flatMap.2 ⟨s,List.mem_iff_getElem?.2 ⟨p.toNat,by rw [List.getElem?_take,if_pos om];exact hs⟩,hx⟩)
  omega
 rcases Int.lt_trichotomy p p' with h1 | h1 | h1
 ·exact(key h h' h1).elim
 ·exact h1
 ·exact(key h' h h1).elim
theorem lW {q:SProc}(hS:bX q)(hT:jl q){p:Nat}{s:SStep}(hs:q.steps[p]? =some s):(aW s).Nodup:=by
 rw [List.nodup_iff_count]
 intro x
 by_cases hx:x∈aW s
 ·have h1:=(hS _ _ hs).2 _ hx
  have h2:=hT x.toNat om om
  rw [show((x.toNat:Nat):Int)=x by omega] at h2
  have:=wg (x:=x) hs
  omega
 ·rw [List.count_eq_zero.2 hx];omega
inductive Anc (q:SProc):Int→Int→Prop
 | refl (a:Int):Anc q a a
 | step {a p x:Int}:Anc q a p→Par q p x→Anc q a x
theorem zy {q:SProc}(hS:bX q){a x:Int}(h:Anc q a x):a≤x:=by
 induction h with
 | refl=>omega
 | step _ hp ih=>have:=uD hS hp;omega
theorem anc_lin {q:SProc}(hS:bX q)(hT:jl q){a b x:Int}(h:Anc q a x)(h':Anc q b x):Anc q a b∨Anc q b a:=by
 induction h with
 | refl=>exact .inr h'
 | @step p x ha hp ih=>
  cases h' with
  | refl=>exact .inl (.step ha hp)
  | @step p' _ hb hp'=>
   have:=uC hS hT hp hp'
   subst this
   exact ih hb
theorem GE {q:SProc}{a b c:Int}(h:Anc q a b)(h':Anc q b c):Anc q a c:=by
 induction h' with
 | refl=>exact h
 | step _ hp ih=>exact .step ih hp
def jE (q:SProc):Nat→Int→List Int
 | 0,_=>[]
 | f+1,at_=>match q.steps[at_.toNat]? with
  | none=>[]
  | some s=>at_::(aW s).flatMap (jE q f)
def dK (q:SProc):List Int:=jE q q.steps.length 0
theorem pd {q:SProc}{f:Nat}{at_:Int}{s:SStep}(hs:q.steps[at_.toNat]? =some s):jE q (f+1) at_=at_::(aW s).flatMap (jE q f):=by rw [jE,hs]
theorem mE {q:SProc}(hS:bX q):∀(f:Nat) (a:Int),0≤a→∀x∈jE q f a,Anc q a x∧x<q.steps.length
 | 0,_,_,x,h=>by cases h
 | f+1,a,h0,x,h=>by
  rw [jE] at h
  split at h
  ·cases h
  ·rename_i s hs
   rcases List.mem_cons.1 h with rfl | h
   ·exact⟨.refl _,by have:=(List.getElem?_eq_some_iff.1 hs).1;omega⟩
   ·obtain⟨t,ht,hx⟩:=List.mem_flatMap.1 h
    have h1:=(hS _ _ hs).2 _ ht
    obtain⟨h2,h3⟩:=mE hS f t om x hx
    exact⟨GE (.step (.refl a) ⟨h0,s,hs,ht⟩) h2,h3⟩
theorem nC {α β:Type}{R:β→β→Prop}{f:α→List β}:∀{l:List α},(∀a∈l,(f a).Pairwise R)→l.Pairwise (fun a b=>∀x∈f a,∀y∈f b,R x y)→(l.flatMap f).Pairwise R
 | [],_,_=>List.Pairwise.nil
 | a::l,h,hp=>by
  rw [List.flatMap_cons,List.pairwise_append]
  obtain⟨h1,h2⟩:=List.pairwise_cons.1 hp
  refine⟨h a sq,nC (fun b hb=>h b (by simp [hb])) h2,fun x hx y hy=>?_⟩
  obtain⟨b,hb,hy⟩:=List.mem_flatMap.1 hy
  exact h1 b hb x hx y hy
theorem kt {α:Type}{R S:α→α→Prop}:∀{l:List α},(∀a∈l,∀b∈l,R a b→S a b)→l.Pairwise R→l.Pairwise S
 | [],_,_=>List.Pairwise.nil
 | a::l,h,hp=>by
  obtain⟨h1,h2⟩:=List.pairwise_cons.1 hp
  exact List.pairwise_cons.2 ⟨fun b hb=>h a sq b (by simp [hb]) (h1 b hb),kt (fun x hx y hy=>h x (by simp [hx]) y (by simp [hy])) h2⟩
theorem mD {q:SProc}(hS:bX q)(hT:jl q):∀(f:Nat) (a:Int),0≤a→(jE q f a).Nodup
 | 0,_,_=>List.Pairwise.nil
 | f+1,a,h0=>by
  rw [jE]
  split
  ·exact List.Pairwise.nil
  ·rename_i s hs
   have hch:∀t∈aW s,a<t∧t<q.steps.length:=fun t ht=>by have:=(hS _ _ hs).2 _ ht;omega
   refine List.nodup_cons.2 ⟨fun hm=>?_,nC (fun t ht=>mD hS hT f t (by have:=hch t ht;omega)) ?_⟩
   ·obtain⟨t,ht,hx⟩:=List.mem_flatMap.1 hm
    have h1:=hch t ht
    have:=zy hS (mE hS f t om a hx).1
    omega
   ·refine kt (fun t ht t' ht' hne x hx y hy e=>?_) (lW hS hT hs)
    subst e
    have h1:=hch t ht
    have h2:=hch t' ht'
    have key:∀{t t':Int},t∈aW s→t'∈aW s→t≠t'→Anc q t t'→False:=by
     intro t t' ht ht' hne h
     cases h with
     | refl=>exact hne rfl
     | @step p _ hp hpar=>
      have:=uC hS hT hpar ⟨h0,s,hs,ht'⟩
      subst this
      have:=zy hS hp
      have:=hch t ht
      omega
    rcases anc_lin hS hT (mE hS f t om x hx).1 (mE hS f t' om x hy).1 with h | h
    ·exact key ht ht' hne h
    ·exact key ht' ht (fun e=>hne e.symm) h
theorem uJ:∀(n:Nat) (l:List Int),l.Nodup→(∀x∈l,0≤x∧x<n)→l.length≤n
 | 0,l,_,h=>by
  cases l with
  | nil=>simp
  | cons x l=>have:=h x sq;omega
 | n+1,l,hn,h=>by
  have h1:(l.filter (fun x=>decide (x≠(n:Int)))).length≤n:=uJ n _ (hn.sublist List.filter_sublist) (fun x hx=>by
   obtain⟨h2,h3⟩:=List.mem_filter.1 hx
   have:=h x h2
   have h3:x≠(n:Int):=by simpa using h3
   omega)
  have h2:l.length≤(l.filter (fun x=>decide (x≠(n:Int)))).length+1:=by
   have h3:=List.length_eq_countP_add_countP (fun x=>decide (x≠(n:Int))) (l:=l)
   rw [List.countP_eq_length_filter] at h3
   have h4:List.countP (fun a=>decide ¬decide (a≠(n:Int))=true) l=l.count (n:Int):=by
    unfold List.count
    apply List.countP_congr
    intro x _
    simp
   have h5:l.count (n:Int)≤1:=List.nodup_iff_count.1 hn _
   omega
  omega
theorem yZ {q:SProc}(hS:bX q)(hT:jl q)(f:Nat)(a:Int)(h0:0≤a):(jE q f a).length≤q.steps.length:=
 uJ _ _ (mD hS hT f a h0) (fun x hx=>by
  obtain⟨h1,h2⟩:=mE hS f a h0 x hx
  have:=zy hS h1
  omega)
theorem Bs {q:SProc}(hS:bX q):∀(f:Nat) (a:Int),0≤a→a<q.steps.length→q.steps.length≤a.toNat+f→∀{p x:Int},p∈jE q f a→Par q p x→x∈jE q f a
 | 0,_,h0,h1,h2,_,_,_,_=>by omega
 | f+1,a,h0,h1,h2,p,x,hp,hx=>by
  obtain⟨s,hs⟩:∃s,q.steps[a.toNat]? =some s:=⟨_,List.getElem?_eq_getElem om⟩
  rw [pd hs] at hp ⊢
  have hself:∀t∈aW s,t∈jE q f t:=fun t ht=>by
   have h3:=(hS _ _ hs).2 _ ht
   obtain⟨s',hs'⟩:∃s,q.steps[t.toNat]? =some s:=⟨_,List.getElem?_eq_getElem om⟩
   cases f with
   | zero=>omega
   | succ f=>rw [pd hs'];simp
  rcases List.mem_cons.1 hp with rfl | hp
  ·obtain⟨_,s',hs',hx⟩:=hx
   rw [hs] at hs';cases hs'
   exact List.mem_cons_of_mem _ (List.mem_flatMap.2 ⟨x,hx,hself x hx⟩)
  ·obtain⟨t,ht,hp⟩:=List.mem_flatMap.1 hp
   have h3:=(hS _ _ hs).2 _ ht
   exact List.mem_cons_of_mem _ (List.mem_flatMap.2 ⟨t,ht,Bs hS f t om om om hp hx⟩)
theorem EK {q:SProc}(hS:bX q)(hT:jl q):∀(x:Nat),x<q.steps.length→(x:Int)∈dK q:=by
 intro x
 induction x using Nat.strongRecOn with
 | _ x ih=>
  intro hx
  unfold dK
  by_cases e:x=0
  ·subst e
   obtain⟨n,hn⟩:∃n,q.steps.length=n+1:=⟨q.steps.length - 1,by omega⟩
   obtain⟨s,hs⟩:∃s,q.steps[(0:Int).toNat]? =some s:=⟨_,List.getElem?_eq_getElem (by simpa using hx)⟩
   rw [hn,pd hs];simp
  ·have h1:=hT x om hx
   have h2:(x:Int)∈GJ q:=List.count_pos_iff.1 om
   obtain⟨s,hs,ht⟩:=List.mem_flatMap.1 h2
   obtain⟨p,hp⟩:=List.mem_iff_getElem?.1 hs
   have h3:=(hS _ _ hp).2 _ ht
   exact Bs hS _ 0 om om om (ih p om om) ⟨by omega,s,by simpa using hp,ht⟩
theorem De {q:SProc}(hS:bX q)(hT:jl q):(dK q).length=q.steps.length:=by
 have h1:=yZ hS hT q.steps.length 0 om
 have h2:q.steps.length≤(dK q).length:=by
  have key:∀n:Nat,n≤q.steps.length→∀l:List Int,(∀x:Nat,x<n→(x:Int)∈l)→n≤l.length:=by
   intro n
   induction n with
   | zero=>intro _ _ _;omega
   | succ n ih=>
    intro hn l hl
    have:=ih om (l.erase (n:Int)) (fun x hx=>(List.mem_erase_of_ne om).2 (hl x om))
    rw [List.length_erase_of_mem (hl n om)] at this
    have:0<l.length:=List.length_pos_of_mem (hl n om)
    omega
  exact key _ (Nat.le_refl _) _ (EK hS hT)
 unfold dK at *
 omega
end Go.Sx
namespace Go.Sx
open Go
def ProcAt (H:Hp)(b:Nat)(q:SProc):Prop:=∀(j:Nat) v,q.cells[j]? =some v→H b j=some v
theorem ProcAt.le {H H':Hp}{b:Nat}{q:SProc}(h:ProcAt H b q)(hl:H.le H'):ProcAt H' b q:=fun j v hv=>hl _ _ _ (h j v hv)
def mvT (m:List Int)(t:Term):Term:={t with l:=if 0≤t.l then aP m t.l else t.l,r:=if 0≤t.r then aP m t.r else t.r}
abbrev RS:=List Int×List Term
def cX (ts:List Term):List Int→RS→RS
 | [],s=>s
 | k::r,s=>match ts[k.toNat]? with
  | none=>cX ts r s
  | some t=>cX ts r (s.1.set k.toNat s.2.length,s.2++[mvT s.1 t])
def fa (ts:List Term)(root:Int)(s:RS):RS:=cX ts (bH ts root) s
def bp (ts:List Term):List Int→List Int→RS→List Int×RS
 | [],acc,s=>(acc,s)
 | root::r,acc,s=>bp ts r (acc++[aP (fa ts root s).1 root]) (fa ts root s)
def SCast.bare (c:SCast):SCast:={c with ap:=(none,0)}
def dm (ts:List Term):List SCast→List SCast→RS→List SCast×RS
 | [],acc,s=>(acc,s)
 | c::r,acc,s=>dm ts r (acc++[{c with args:=(bp ts c.args [] s).1,ap:=(none,0)}]) (bp ts c.args [] s).2
def jq (pl:List Int)(w:SWay):SWay:={w with next:=aP pl w.next}
def SStep.bare (s:SStep):SStep:={s with ap:=(none,0),casts:=s.casts.map SCast.bare,cp:=(none,0),wp:=(none,0)}
def dB (ts:List Term)(s:SStep)(st:RS):RS:=if 0≤s.term then fa ts s.term st else st
def ej (ts:List Term)(s:SStep)(st:RS):List Int×RS:=bp ts s.args [] (dB ts s st)
def iI (ts:List Term)(s:SStep)(st:RS):List SCast×RS:=dm ts s.casts [] (ej ts s st).2
def iZ (ts:List Term)(pl:List Int)(s:SStep)(st:RS):SStep:=
 {s with
  term:=if 0≤s.term then aP (dB ts s st).1 s.term else s.term
  args:=(ej ts s st).1
  ap:=(none,0)
  casts:=(iI ts s st).1
  cp:=(none,0)
  ways:=s.ways.map (jq pl)
  wp:=(none,0)
  next:=if gP s.kind=true then aP pl s.next else s.next}
def eI (q:SProc)(pl:List Int):List Int→List SStep→RS→List SStep×RS
 | [],acc,st=>(acc,st)
 | at_::r,acc,st=>match q.steps[at_.toNat]? with
  | none=>eI q pl r acc st
  | some s=>eI q pl r (acc++[iZ q.terms pl s st]) (iI q.terms s st).2
def fc:List Int→Int→List Int→List Int
 | [],_,pl=>pl
 | at_::r,i,pl=>fc r (i+1) (pl.set at_.toNat i)
def bW (q:SProc):List Int:=fc (dK q) 0 (List.replicate q.steps.length 0)
def iO (q:SProc):SProc:=
 let r:=eI q (bW q) (dK q) [] (List.replicate q.terms.length 0,[])
 {name:=q.name,params:=q.params,pp:=(none,0),terms:=r.2.2,tp:=(none,0),steps:=r.1,sp:=(none,0)}
def SArms.bare (t:STurn):STurn:={t with ap:=(none,0)}
def SLocal.bare (l:SLocal):SLocal:={l with turns:=l.turns.map SArms.bare,tp:=(none,0)}
def SPoint.bare (p:SPoint):SPoint:={p with ap:=(none,0)}
def SProto.bare (p:SProto):SProto:={p with rp:=(none,0),points:=p.points.map SPoint.bare,pp:=(none,0)}
def SProc.bare (q:SProc):SProc:={q with pp:=(none,0),tp:=(none,0),steps:=q.steps.map SStep.bare,sp:=(none,0)}
def SProg.bare (p:SProg):SProg:={p with protos:=p.protos.map SProto.bare,rp:=(none,0),locals:=p.locals.map SLocal.bare,lp:=(none,0),procs:=p.procs.map SProc.bare,qp:=(none,0)}
def nilPg:SProg:=⟨[],(none,0),[],(none,0),[],(none,0)⟩
def rO (p:SProg):SProg:=
 if(eh p).e≠0 then nilPg
 else⟨p.protos.map SProto.bare,(none,0),p.locals.map SLocal.bare,(none,0),p.procs.map iO,(none,0)⟩
theorem rN {ts:List Term}:∀{L:List Int} {u u2:List Bool},cw ts L u=some u2→∀t∈L,cN ts t=true
 | [],_,_,_,t,ht=>by cases ht
 | x::r,u,u2,h,t,ht=>by
  rw [cw] at h
  split at h
  ·cases h
  ·rename_i hm
   split at h
   ·cases h
   ·rcases List.mem_cons.1 ht with rfl | ht
    ·simpa using hm
    ·exact rN h t ht
def zB (q:SProc):Prop:=∀(k:Nat) (s:SStep),q.steps[k]? =some s→∀t∈bJ s,cN q.terms t=true
theorem vN {q:SProc}{i:Int}:∀(l:List SStep) (k:Nat) (c d:List Int) (u:List Bool),l=q.steps.drop k→bT q i l k c d u=okF→∀(j:Nat) (s:SStep),k≤j→q.steps[j]? =some s→∀t∈bJ s,cN q.terms t=true:=by
 intro l
 induction l with
 | nil=>
  intro k c d u hl _ j s hj hs
  have h1:=(List.getElem?_eq_some_iff.1 hs).1
  have h2:(q.steps.drop k).length=0:=by rw [← hl];rfl
  rw [List.length_drop] at h2;omega
 | cons x r ih=>
  intro k c d u hl h j s hj hs
  have hx:q.steps[k]? =some x:=by
   have h1:(q.steps.drop k)[0]? =some x:=by rw [← hl];rfl
   rwa [List.getElem?_drop,Nat.add_zero] at h1
  have hr:r=q.steps.drop (k+1):=by
   have h1:(q.steps.drop k).drop 1=r:=by rw [← hl];rfl
   rw [← h1,List.drop_drop]
  rw [bT] at h
  split at h
  ·cases h
  ·split at h
   ·cases h
   ·split at h
    ·cases h
    ·rename_i c2 d2 hn
     split at h
     ·cases h
     ·split at h
      ·cases h
      ·rename_i u2 hro
       rcases Nat.lt_or_ge k j with hlt | hge
       ·exact ih (k+1) c2 d2 u2 hr (by rw [← h];rfl) j s hlt hs
       ·have:j=k:=by omega
        subst this
        rw [hx] at hs;cases hs
        exact rN hro
theorem lK {q:SProc}{i:Int}(h:f4 i q=okF):zB q:=fun k s hs=>vN _ 0 _ _ _ rfl h k s (Nat.zero_le _) hs
theorem HV {l:List Term}:∀{f:Nat} {a:Int},Tr l f a→a<l.length
 | 0,_,h=>h.elim
 | f+1,a,h=>by
  obtain⟨h0,t,ht,_⟩:=h
  have:=(List.getElem?_eq_some_iff.1 ht).1;omega
theorem ux {l:List Term}:∀(f:Nat) (a:Int),(a<0∨Tr l f a)→∀k∈dD l f a,∃t,l[k.toNat]? =some t∧0≤k∧t.l<l.length∧t.r<l.length
 | 0,_,_,k,h=>by cases h
 | f+1,a,h,k,hk=>by
  by_cases hn:a<0
  ·rw [et hn] at hk;cases hk
  ·obtain⟨h0,t,hx,_,_,hl0,hl1,hr0,hr1⟩:=h.resolve_left hn
   have hlt:=(List.getElem?_eq_some_iff.1 hx).1
   have hL:t.l<0∨Tr l f t.l:=by
    rcases Int.lt_or_le (al t.kind) 1 with h1 | h1
    ·exact .inl (by have:=hl1 h1;omega)
    ·exact .inr (hl0 h1)
   have hR:t.r<0∨Tr l f t.r:=by
    rcases Int.lt_or_le (al t.kind) 2 with h1 | h1
    ·exact .inl (by have:=hr1 h1;omega)
    ·exact .inr (hr0 h1)
   rw [fp hn hx] at hk
   rcases List.mem_append.1 hk with hk | hk
   ·exact ux f _ hL k hk
   ·rcases List.mem_append.1 hk with hk | hk
    ·exact ux f _ hR k hk
    ·simp at hk;subst hk
     refine⟨t,hx,h0,?_,?_⟩
     ·rcases hL with h1 | h1
      ·omega
      ·exact HV h1
     ·rcases hR with h1 | h1
      ·omega
      ·exact HV h1
section
variable {ts:List Term}{L:List Int}{k x:Int}{t:Term}{m:List Int}{o:List Term}{N:RS}
theorem tg_next (k0:0≤k)(hx:L[k.toNat]? =some x)(ht:ts[x.toNat]? =some t)(h:N=cX ts (L.drop k.toNat) (m,o)):N=cX ts (L.drop (k+1).toNat) (m.set x.toNat o.length,o++[mvT m t]):=by
 rw [h,bj hx,cX,ht,show(k+1).toNat=k.toNat+1 by omega]
theorem tg_end (k0:0≤k)(hk:¬k<L.length)(h:N=cX ts (L.drop k.toNat) (m,o)):N=(m,o):=by
 rw [h,List.drop_of_length_le om];rfl
end
theorem nQ {ts:List Term}:∀{L:List Int} {s:RS},(cX ts L s).1.length=s.1.length
 | [],_=>rfl
 | k::r,s=>by
  rw [cX];split
  ·exact nQ
  ·rw [nQ];simp
theorem lI {ts:List Term}:∀{L:List Int} {s:RS},(cX ts L s).2.length≤s.2.length+L.length
 | [],_=>by simp [cX]
 | k::r,s=>by
  rw [cX];split
  ·have:=lI (ts:=ts) (L:=r) (s:=s);simp only [List.length_cons];omega
  ·rename_i t _
   have:=lI (ts:=ts) (L:=r) (s:=(s.1.set k.toNat s.2.length,s.2++[mvT s.1 t]))
   simp only [List.length_cons,List.length_append,List.length_nil] at *;omega
theorem qa {ts:List Term}{root:Int}{s:RS}:(fa ts root s).1.length=s.1.length:=nQ
theorem nP {ts:List Term}{root:Int}{s:RS}(h:cN ts root=true):(fa ts root s).2.length≤s.2.length+33554432:=by
 have h1:=lI (ts:=ts) (L:=bH ts root) (s:=s)
 have h2:=mI h
 unfold fa bH at *;omega
theorem fm {ts:List Term}:∀{L acc:List Int} {s:RS},(bp ts L acc s).2.1.length=s.1.length
 | [],_,_=>rfl
 | r::L,acc,s=>by rw [bp,fm,qa]
theorem eH {ts:List Term}:∀{L acc:List Int} {s:RS},(∀t∈L,cN ts t=true)→(bp ts L acc s).2.2.length≤s.2.length+33554432 * L.length
 | [],_,_,_=>by simp [bp]
 | r::L,acc,s,h=>by
  rw [bp]
  have h1:=eH (ts:=ts) (L:=L) (acc:=acc++[aP (fa ts r s).1 r]) (s:=fa ts r s) (fun t ht=>h t (by simp [ht]))
  have h2:=nP (s:=s) (h r sq)
  simp only [List.length_cons];omega
theorem r9 {ts:List Term}:∀{L acc:List SCast} {s:RS},(dm ts L acc s).2.1.length=s.1.length
 | [],_,_=>rfl
 | r::L,acc,s=>by rw [dm,r9,fm]
theorem pI {ts:List Term}:∀{L acc:List SCast} {s:RS},(∀c∈L,c.args.length≤6∧∀t∈c.args,cN ts t=true)→(dm ts L acc s).2.2.length≤s.2.length+201326592 * L.length
 | [],_,_,_=>by simp [dm]
 | r::L,acc,s,h=>by
  rw [dm]
  have h1:=pI (ts:=ts) (L:=L) (acc:=acc++[{r with args:=(bp ts r.args [] s).1,ap:=(none,0)}]) (s:=(bp ts r.args [] s).2) (fun t ht=>h t (by simp [ht]))
  have h0:=h r sq
  have h2:=eH (acc:=[]) (s:=s) h0.2
  simp only [List.length_cons];omega
section
variable {ts:List Term}{L:List Int}{k x:Int}{acc:List Int}{s:RS}{N:List Int×RS}
theorem ta_next (k0:0≤k)(hx:L[k.toNat]? =some x)(h:N=bp ts (L.drop k.toNat) acc s):N=bp ts (L.drop (k+1).toNat) (acc++[aP (fa ts x s).1 x]) (fa ts x s):=by
 rw [h,bj hx,bp,show(k+1).toNat=k.toNat+1 by omega]
theorem ta_end (k0:0≤k)(hk:¬k<L.length)(h:N=bp ts (L.drop k.toNat) acc s):N=(acc,s):=by
 rw [h,List.drop_of_length_le om];rfl
end
section
variable {ts:List Term}{L acc:List SCast}{k:Int}{c:SCast}{s:RS}{N:List SCast×RS}
theorem sM (k0:0≤k)(hx:L[k.toNat]? =some c)(h:N=dm ts (L.drop k.toNat) acc s):N=dm ts (L.drop (k+1).toNat) (acc++[{c with args:=(bp ts c.args [] s).1,ap:=(none,0)}]) (bp ts c.args [] s).2:=by
 rw [h,bj hx,dm,show(k+1).toNat=k.toNat+1 by omega]
theorem Jo (k0:0≤k)(hk:¬k<L.length)(h:N=dm ts (L.drop k.toNat) acc s):N=(acc,s):=by
 rw [h,List.drop_of_length_le om];rfl
end
section
variable {q:SProc}{pl:List Int}{L:List Int}{k x:Int}{s:SStep}{acc:List SStep}{st:RS}{N:List SStep×RS}
theorem st_next (k0:0≤k)(hx:L[k.toNat]? =some x)(hs:q.steps[x.toNat]? =some s)(h:N=eI q pl (L.drop k.toNat) acc st):N=eI q pl (L.drop (k+1).toNat) (acc++[iZ q.terms pl s st]) (iI q.terms s st).2:=by
 rw [h,bj hx,eI,hs,show(k+1).toNat=k.toNat+1 by omega]
theorem st_end (k0:0≤k)(hk:¬k<L.length)(h:N=eI q pl (L.drop k.toNat) acc st):N=(acc,st):=by
 rw [h,List.drop_of_length_le om];rfl
end
section
variable {L:List Int}{k x:Int}{pl N:List Int}
theorem pg_next (k0:0≤k)(hx:L[k.toNat]? =some x)(h:N=fc (L.drop k.toNat) k pl):N=fc (L.drop (k+1).toNat) (k+1) (pl.set x.toNat k):=by
 rw [h,bj hx,fc,show(k+1).toNat=k.toNat+1 by omega]
theorem pg_end (k0:0≤k)(hk:¬k<L.length)(h:N=fc (L.drop k.toNat) k pl):N=pl:=by
 rw [h,List.drop_of_length_le om];rfl
end
theorem rQ:∀{L:List Int} {i:Int} {pl:List Int},(fc L i pl).length=pl.length
 | [],_,_=>rfl
 | x::L,i,pl=>by rw [fc,rQ];simp
theorem FX (q:SProc):(bW q).length=q.steps.length:=by unfold bW;rw [rQ];simp
theorem sK {α β:Type}{l:List α}{k:Int}{x:α}{f:α→List β}(k0:0≤k)(hx:l[k.toNat]? =some x):((l.take k.toNat).flatMap f).length+(f x).length≤(l.flatMap f).length:=by
 have h1:(l.take k.toNat).flatMap f++(f x++(l.drop (k.toNat+1)).flatMap f)=l.flatMap f:=by
  conv=>rhs;rw [← List.take_append_drop k.toNat l,List.flatMap_append,bj hx,List.flatMap_cons]
 rw [← h1];simp only [List.length_append];omega
def Nm (o:List Term):Prop:=∀t∈o,t.name.length≤9223372036854775807
theorem EM {ts:List Term}(hn:Nm ts):∀{L:List Int} {s:RS},Nm s.2→Nm (cX ts L s).2
 | [],_,h=>h
 | k::r,s,h=>by
  rw [cX];split
  ·exact EM hn h
  ·rename_i t ht
   refine EM hn (fun x hx=>?_)
   rcases List.mem_append.1 hx with hx | hx
   ·exact h x hx
   ·simp at hx;subst hx;exact hn t (List.mem_of_getElem? ht)
theorem uM {ts:List Term}(hn:Nm ts):∀{L acc:List Int} {s:RS},Nm s.2→Nm (bp ts L acc s).2.2
 | [],_,_,h=>h
 | r::L,acc,s,h=>by rw [bp];exact uM hn (EM hn h)
theorem BB {ts:List Term}(hn:Nm ts):∀{L acc:List SCast} {s:RS},Nm s.2→Nm (dm ts L acc s).2.2
 | [],_,_,h=>h
 | r::L,acc,s,h=>by rw [dm];exact BB hn (uM hn h)
theorem IR {ts:List Term}(hn:Nm ts){s:SStep}{st:RS}(h:Nm st.2):Nm (dB ts s st).2:=by
 unfold dB;split
 ·exact EM hn h
 ·exact h
theorem uN {q:SProc}{pl:List Int}(hn:Nm q.terms):∀{L:List Int} {acc:List SStep} {st:RS},Nm st.2→Nm (eI q pl L acc st).2.2
 | [],_,_,h=>h
 | r::L,acc,st,h=>by
  rw [eI];split
  ·exact uN hn h
  ·exact uN hn (BB hn (uM hn (IR hn h)))
structure RiseOk (q:SProc):Prop where
 s:bX q
 t:jl q
 m:zB q
 p:q.params.length≤6
 n1:1≤q.steps.length
 n2:q.steps.length≤80
 n3:q.terms.length≤160
theorem uF {q:SProc}(hS:bX q){x:Int}(h:x∈dK q):0≤x∧x<q.steps.length:=by
 obtain⟨h1,h2⟩:=mE hS _ 0 om x h
 have:=zy hS h1;omega
theorem jv {s:SStep}{t:Int}(h:t∈s.args):t∈bJ s:=by unfold bJ;simp [h]
theorem ju {s:SStep}{c:SCast}{t:Int}(hc:c∈s.casts)(h:t∈c.args):t∈bJ s:=by unfold bJ;simp only [List.mem_append,List.mem_flatMap];exact .inr ⟨c,hc,h⟩
theorem rL {s:SStep}(hm:dy s=true)(h:0≤s.term):s.term∈bJ s:=by
 have hk:s.kind=1∨s.kind=2∨s.kind=3∨s.kind=4:=by
  unfold dy at hm
  split at hm; · cases hm
  split at hm; · cases hm
  rename_i hk hb
  have hb:pM (gR s)=false:=by simpa using hb
  simp only [pM,Bool.or_eq_false_iff,decide_eq_false_iff_not,Bool.not_eq_false'] at hb
  have h1:(gR s).term= -1:=of_decide_eq_true hb.2.2.2.2.1
  have h2:(gR s).term=(if s.kind=1∨s.kind=2∨s.kind=3∨s.kind=4 then -1 else s.term):=rfl
  rw [h2] at h1
  by_cases e:s.kind=1∨s.kind=2∨s.kind=3∨s.kind=4
  ·exact e
  ·rw [if_neg e] at h1;omega
 unfold bJ
 rw [if_pos om];simp
theorem tR {s:SStep}(hm:dy s=true){w:SWay}(hw:w∈s.ways):w.next∈aW s:=by
 have hk:s.kind=3∨s.kind=5:=by
  unfold dy at hm
  split at hm; · cases hm
  split at hm; · cases hm
  rename_i hk hb
  have hb:pM (gR s)=false:=by simpa using hb
  simp only [pM,Bool.or_eq_false_iff,decide_eq_false_iff_not,Bool.not_eq_false'] at hb
  have h1:=hb.2.2.2.2.2.2.2.1
  by_cases e:s.kind=3∨s.kind=5
  ·exact e
  ·have h2:(gR s).ways=(if s.kind=3∨s.kind=5 then [] else s.ways):=rfl
   rw [h2,if_neg e] at h1
   have:=List.length_pos_of_mem hw
   omega
 unfold aW
 rw [if_neg (by rcases hk with h | h<;>simp [gP,h])]
 exact List.mem_map_of_mem hw
theorem qz {s:SStep}(h:gP s.kind=true):s.next∈aW s:=by unfold aW;rw [if_pos h];simp
theorem i3 {q:SProc}{s:SStep}{st:RS}(hm:dy s=true)(ht:∀t∈bJ s,cN q.terms t=true):(dB q.terms s st).2.length≤st.2.length+33554432∧(ej q.terms s st).2.2.length≤st.2.length+234881024∧(iI q.terms s st).2.2.length≤st.2.length+3355443200:=by
 have hz:=dY hm
 have h1:(dB q.terms s st).2.length≤st.2.length+33554432:=by
  unfold dB;split
  ·rename_i h;exact nP (ht _ (rL hm h))
  ·omega
 have h2:=eH (acc:=[]) (s:=dB q.terms s st) (L:=s.args) (fun t h=>ht t (jv h))
 have h3:=pI (acc:=[]) (s:=(ej q.terms s st).2) (L:=s.casts) (fun c hc=>⟨hz.2.2.2 c hc,fun t h=>ht t (ju hc h)⟩)
 have e2:(ej q.terms s st).2.2.length≤st.2.length+234881024:=by unfold ej;omega
 exact⟨h1,e2,by unfold iI;omega⟩
theorem mw {q:SProc}{s:SStep}{st:RS}:(dB q.terms s st).1.length=st.1.length∧(ej q.terms s st).2.1.length=st.1.length∧(iI q.terms s st).2.1.length=st.1.length:=by
 have h1:(dB q.terms s st).1.length=st.1.length:=by unfold dB;split;exact qa;rfl
 have h2:(ej q.terms s st).2.1.length=st.1.length:=by unfold ej;rw [fm,h1]
 exact⟨h1,h2,by unfold iI;rw [r9,h2]⟩
structure CaIx (H:Hp)(old C:List SCast)(k:Int):Prop where
 n:C.length=old.length
 r:∀c∈C,RdSl H 1 I64.cells (.slice c.ap.1 c.args.length c.ap.2) c.args
 d:C.drop k.toNat=old.drop k.toNat
theorem CaIx.le {H H':Hp}{old C:List SCast}{k:Int}(h:CaIx H old C k)(hl:H.le H'):CaIx H' old C k:=⟨h.n,fun c hc=>(h.r c hc).le hl,h.d⟩
theorem CaIx.at_ {H:Hp}{old C:List SCast}{k:Int}{c:SCast}(h:CaIx H old C k)(hx:old[k.toNat]? =some c):C[k.toNat]? =some c:=by
 have h1:(C.drop k.toNat)[0]? =(old.drop k.toNat)[0]? :=by rw [h.d]
 rw [List.getElem?_drop,List.getElem?_drop,Nat.add_zero] at h1
 rw [h1,hx]
theorem CaIx.put {H:Hp}{old C:List SCast}{k:Int}{c:SCast}(h:CaIx H old C k)(k0:0≤k)(hc:RdSl H 1 I64.cells (.slice c.ap.1 c.args.length c.ap.2) c.args):CaIx H old (C.set k.toNat c) (k+1):=by
 refine⟨by rw [List.length_set,h.n],fun x hx=>?_,?_⟩
 ·rcases List.mem_or_eq_of_mem_set hx with hx | rfl
  ·exact h.r x hx
  ·exact hc
 ·rw [show(k+1).toNat=k.toNat+1 by omega,List.drop_set_of_lt om]
  have:=congrArg (List.drop 1) h.d
  rwa [List.drop_drop,List.drop_drop] at this
theorem Ia {α:Type}{l:List α}{k:Int}{x y:α}(k0:0≤k)(hx:l[k.toNat]? =some x):(l.set k.toNat y).take (k+1).toNat=l.take k.toNat++[y]:=by
 have hlt:=(List.getElem?_eq_some_iff.1 hx).1
 rw [show(k+1).toNat=k.toNat+1 by omega,List.take_add_one,List.take_set_of_le (Nat.le_refl _),List.getElem?_set,if_pos rfl,if_pos hlt];rfl
def WaIx (pl:List Int)(old W:List SWay)(k:Int):Prop:=W=(old.take k.toNat).map (jq pl)++old.drop k.toNat
theorem WaIx.at_ {pl:List Int}{old W:List SWay}{k:Int}{c:SWay}(h:WaIx pl old W k)(hx:old[k.toNat]? =some c):W[k.toNat]? =some c:=by
 have hlt:=(List.getElem?_eq_some_iff.1 hx).1
 rw [h,List.getElem?_append_right (by simp;omega),List.getElem?_drop]
 simp only [List.length_map,List.length_take]
 rw [Nat.min_eq_left om,Nat.sub_self,Nat.add_zero,hx]
theorem WaIx.put {pl:List Int}{old W:List SWay}{k:Int}{c:SWay}(h:WaIx pl old W k)(k0:0≤k)(hx:old[k.toNat]? =some c):WaIx pl old (W.set k.toNat (jq pl c)) (k+1):=by
 have hlt:=(List.getElem?_eq_some_iff.1 hx).1
 unfold WaIx at *
 rw [h,List.set_append_right _ _ (by simp;omega)]
 simp only [List.length_map,List.length_take]
 rw [Nat.min_eq_left om,Nat.sub_self,bj hx,List.set_cons_zero,bv k0 hx,show(k+1).toNat=k.toNat+1 by omega,List.append_assoc];rfl
theorem WaIx.len {pl:List Int}{old W:List SWay}{k:Int}(h:WaIx pl old W k):W.length=old.length:=by rw [h];simp;omega
theorem pJ {C:List SCast}{k:Int}{c:SCast}{xs:List Int}{ap:Sp}(k0:0≤k)(hx:C[k.toNat]? =some c):((C.set k.toNat {c with args:=xs,ap:=ap}).take (k+1).toNat).map SCast.bare=(C.take k.toNat).map SCast.bare++[{c with args:=xs,ap:=(none,0)}]:=by
 rw [Ia k0 hx,List.map_append];rfl
def StAll (H:Hp)(S:List SStep):Prop:=∀s∈S,StepOk H s
theorem StAll.le {H H':Hp}{S:List SStep}(h:StAll H S)(hl:H.le H'):StAll H' S:=fun s hs=>(h s hs).le hl
theorem StAll.snoc {H:Hp}{S:List SStep}{s:SStep}(h:StAll H S)(hs:StepOk H s):StAll H (S++[s]):=fun x hx=>by
 rcases List.mem_append.1 hx with hx | hx
 ·exact h x hx
 ·simp at hx;subst hx;exact hs
theorem mv {ts:List Term}{pl:List Int}{s:SStep}{st rs:RS}{C:List SCast}{W:List SWay}{tm nx:Int}{ap cp wp:Sp}(hC:iI ts s st=(C.map SCast.bare,rs))(hW:W=s.ways.map (jq pl))
  (ht:tm=if 0≤s.term then aP (dB ts s st).1 s.term else s.term) (hn:nx=if gP s.kind=true then aP pl s.next else s.next):
  (⟨s.kind,s.name,s.peer,s.label,s.proc,tm,(ej ts s st).1,ap,C,cp,W,wp,nx⟩:SStep).bare=iZ ts pl s st:=by
 subst ht hn hW;unfold SStep.bare iZ;rw [hC]
end Go.Sx
namespace Go.Sx
open Go
theorem arms_le {l:List SArm}{n:Int}(h:eA l n=true):l.length≤6:=by
 unfold eA at h
 simp only [Bool.and_eq_true,decide_eq_true_eq] at h;omega
theorem turn_le {t:STurn}{n:Int}(h:de n t=true):t.arms.length≤6:=by
 unfold de at h
 split at h
 ·simp only [Bool.and_eq_true,decide_eq_true_eq,Bool.not_eq_true',decide_eq_false_iff_not] at h;omega
 ·split at h
  ·simp only [Bool.and_eq_true] at h;exact arms_le h.2
  ·cases h
theorem uY {l:SLocal}(h:cr l=true):l.turns.length≤40∧∀t∈l.turns,t.arms.length≤6:=by
 unfold cr at h
 simp only [Bool.and_eq_true,decide_eq_true_eq] at h
 exact⟨h.1.2,fun t ht=>turn_le (List.all_eq_true.1 h.2 t ht)⟩
theorem Du (x:SPoint):(eu x).arms=x.arms:=by unfold eu;split<;>rfl
theorem Bm {p:SProto}(h:cF p=true):p.roles.length≤5∧p.points.length≤24∧∀x∈p.points,x.arms.length≤6:=by
 unfold cF at h
 simp only [Bool.and_eq_true] at h
 obtain⟨h1,_,_,h4⟩:=h
 unfold dg at h1
 simp only [Bool.and_eq_true,decide_eq_true_eq,Bool.not_eq_true',decide_eq_false_iff_not] at h1
 refine⟨by omega,by omega,fun x hx=>?_⟩
 have:=(uY h4).2 (eu x) (List.mem_map_of_mem hx)
 rwa [Du] at this
theorem yS {l:List SProc}{i:Int}{q:SProc}(h:(bf l i q).e=0):RiseOk q:=by
 unfold bf at h
 split at h
 ·rename_i h2;exact absurd h h2
 ·rename_i h2
  have h2:(gO l i q).e=0:=by simpa using h2
  obtain⟨n1,n2,n3⟩:=n6 h2
  have hs:=gX _ _ _ _ _ h
  have hS:bX q:=nT (i:=i) hs
  refine⟨hS,uf hS n2 hs,lK hs,?_,n1,n2,n3⟩
  unfold gO at h2
  split at h2
  ·cases h2
  ·rename_i hg
   have hg:(bM q&&q.params.all dr)=true:=by simpa using hg
   simp only [Bool.and_eq_true] at hg
   have h1:=hg.1
   unfold bM at h1
   simp only [Bool.and_eq_true,decide_eq_true_eq] at h1
   omega
theorem yp {l:List SProc}:∀(r:List SProc) (i:Int),(cB (bf l) r i).e=0→∀q∈r,RiseOk q
 | [],_,_,q,hq=>by cases hq
 | x::r,i,h,q,hq=>by
  rw [cB] at h
  split at h
  ·rename_i h1;exact absurd h h1
  ·rename_i h1
   rcases List.mem_cons.1 hq with rfl | hq
   ·exact yS (by simpa using h1)
   ·exact yp r (i+1) h q hq
structure CheckOk (pg:SProg):Prop where
 r:pg.protos.length≤6∧∀p∈pg.protos,cF p=true
 l:pg.locals.length≤12∧∀p∈pg.locals,cr p=true∧aN p.name=true
 q:pg.procs.length≤24∧∀q∈pg.procs,RiseOk q
theorem yu {pg:SProg}(h:(eh pg).e=0):CheckOk pg:=by
 obtain⟨h1,h2,h3,h4⟩:=n8 h
 unfold jH at h1
 split at h1
 ·cases h1
 ·rename_i hz
  split at h1
  ·cases h1
  ·rename_i hp
   split at h1
   ·cases h1
   ·rename_i hl
    have hp:pg.protos.all cF=true:=by simpa using hp
    have hl:pg.locals.all (fun l=>cr l&&aN l.name)=true:=by simpa using hl
    refine⟨⟨by omega,List.all_eq_true.1 hp⟩,⟨by omega,fun p hp=>?_⟩,⟨by omega,yp _ _ h2⟩⟩
    have:=List.all_eq_true.1 hl p hp
    simpa using this
def PtAll (H:Hp)(S:List SPoint):Prop:=∀s∈S,PointOk H s
theorem PtAll.le {H H':Hp}{S:List SPoint}(h:PtAll H S)(hl:H.le H'):PtAll H' S:=fun s hs=>(h s hs).le hl
def TuAll (H:Hp)(S:List STurn):Prop:=∀s∈S,TurnOk H s
theorem TuAll.le {H H':Hp}{S:List STurn}(h:TuAll H S)(hl:H.le H'):TuAll H' S:=fun s hs=>(h s hs).le hl
def PrAll (H:Hp)(S:List SProto):Prop:=∀s∈S,ProtoOk H s
theorem PrAll.le {H H':Hp}{S:List SProto}(h:PrAll H S)(hl:H.le H'):PrAll H' S:=fun s hs=>(h s hs).le hl
def LoAll (H:Hp)(S:List SLocal):Prop:=∀s∈S,LocalOk H s
theorem LoAll.le {H H':Hp}{S:List SLocal}(h:LoAll H S)(hl:H.le H'):LoAll H' S:=fun s hs=>(h s hs).le hl
def PcAll (H:Hp)(S:List SProc):Prop:=∀s∈S,ProcOk H s
theorem PcAll.le {H H':Hp}{S:List SProc}(h:PcAll H S)(hl:H.le H'):PcAll H' S:=fun s hs=>(h s hs).le hl
theorem dG {α:Type}{p:α→Prop}{S:List α}{s:α}(h:∀x∈S,p x)(hs:p s):∀x∈S++[s],p x:=fun x hx=>by
 rcases List.mem_append.1 hx with hx | hx
 ·exact h x hx
 ·simp at hx;subst hx;exact hs
theorem eP {α β:Type}{f g:α→β}{S l:List α}{k:Int}{x y:α}(k0:0≤k)(hx:l[k.toNat]? =some x)(h:S.map f=(l.take k.toNat).map g)(hy:f y=g x):(S++[y]).map f=(l.take (k+1).toNat).map g:=by
 rw [List.map_append,h,bi k0 hx,List.map_append];simp [hy]
theorem Bg {pg:SProg}(h:¬(eh pg).e=0):nilPg.bare=rO pg:=by unfold rO;rw [if_pos h];rfl
theorem qj {pg:SProg}(h:(eh pg).e=0):rO pg=⟨pg.protos.map SProto.bare,(none,0),pg.locals.map SLocal.bare,(none,0),pg.procs.map iO,(none,0)⟩:=by unfold rO;rw [if_neg (by simpa using h)]
theorem Dk (H:Hp):ProgOk H nilPg:=⟨RdSl.nil,(fun _ h=>by cases h),RdSl.nil,(fun _ h=>by cases h),RdSl.nil,(fun _ h=>by cases h)⟩
end Go.Sx
namespace Go.Sx
open Go
def bV (s:SStep):List Int:=((if s.term= -1 then [] else [s.term])++s.args)++s.casts.flatMap (·.args)
def jy (k:Int):Bool:=decide (k=0)||(decide (k=3)||(decide (k=5)||(decide (k=6)||decide (k=10))))
def dR (s:SStep):List Int:=s.ways.map (·.next)++(if jy s.kind=true then [] else [s.next])
def pD (s:Str)(b:Bool):Bool:=if b=true then aN s else decide (s=[])
def rP (s:SStep):Bool:=if s.kind=3∨s.kind=5 then gb s else decide ((s.ways.length:Int)=0)
def nV (s:SStep):Bool:=if s.kind=8 then(decide ((1:Int)≤s.casts.length)&&(decide ((s.casts.length:Int)≤4)&&s.casts.all (fun c=>!cV c))) else decide ((s.casts.length:Int)=0)
def nE (k:Int):Bool:=decide (k=1)||(decide (k=4)||(decide (k=5)||(decide (k=8)||decide (k=9))))
def yd (k:Int):Bool:=decide (k=4)||(decide (k=5)||decide (k=8))
def uZ (k:Int):Bool:=decide (k=4)||decide (k=8)
def callK (k:Int):Bool:=decide (k=6)||decide (k=7)
def gv (s:SStep):Bool:=pD s.name (nE s.kind)&&(pD s.peer (yd s.kind)&&(pD s.label (uZ s.kind)&&pD s.proc (callK s.kind)))
def fq (s:SStep):Bool:=decide (6<(s.args.length:Int))||((!callK s.kind&&decide (0<(s.args.length:Int)))||(!rP s|| !nV s))
def sg (s:SStep):Bool:=
 if s.kind<0∨10<s.kind then false
 else if gv s=false then false
 else if fq s=true then false
 else if jy s.kind=true∧¬s.next= -1 then false
 else if s.kind=1∨s.kind=2∨s.kind=3∨s.kind=4 then true else decide (s.term= -1)
theorem jC {s:SStep}(h:s.kind=3∨s.kind=5):rP s=gb s:=by unfold rP;rw [if_pos h]
theorem CJ {s:SStep}(h:¬(s.kind=3∨s.kind=5)):rP s=decide ((s.ways.length:Int)=0):=by unfold rP;rw [if_neg h]
theorem iP (s:SStep):sg s=dy s:=by
  by_cases hk:s.kind<0∨10<s.kind
  · unfold sg dy;rw [if_pos hk,if_pos hk]
  · have hk2:s.kind=0∨s.kind=1∨s.kind=2∨s.kind=3∨s.kind=4∨s.kind=5∨s.kind=6∨s.kind=7∨s.kind=8∨s.kind=9∨s.kind=10:=by omega
    unfold sg dy
    rw [if_neg hk,if_neg hk]
    rw [Bool.eq_iff_iff]
    rcases hk2 with h | h | h | h | h | h | h | h | h | h | h<;>
      (simp only [gv,fq,pM,gR,pD,nE,yd,uZ,callK,jy,gP,rP,nV,h]
       simp
       try (constructor<;>intro hh<;>simp_all<;>omega))
end Go.Sx
namespace Go.Sx
open Go
theorem ID {l:List Term}:∀(f at_:Nat) (deep:Int) (p:List Nat),cA l f at_ deep=some p→∀a:Int,0≤a→a.toNat=at_→(dD l f a).Perm (p.map Int.ofNat):=by
 intro f
 induction f with
 | zero=>intro at_ deep p h;simp [cA] at h
 | succ f ih=>
  intro at_ deep p h a ha0 ha
  obtain⟨t,p0,q0,hx,hok,h0,h1,rfl⟩:=dh h
  have hops:=EL hok
  have e0:(dD l f t.l).Perm (p0.map Int.ofNat):=by
   split at h0
   ·rename_i ho
    simp only [Option.some.injEq] at h0;subst h0
    rw [hops.2.2.2.1 ho,et dq];exact List.Perm.refl _
   ·rename_i ho
    exact ih _ _ _ h0 t.l (rT hok ho).1 rfl
  have e1:(dD l f t.r).Perm (q0.map Int.ofNat):=by
   split at h1
   ·rename_i ho
    simp only [Option.some.injEq] at h1;subst h1
    rw [hops.2.2.2.2 ho,et dq];exact List.Perm.refl _
   ·rename_i ho
    exact ih _ _ _ h1 t.r (rS hok ho).1 rfl
  rw [fp om (by rw [ha];exact hx)]
  have ea:a=Int.ofNat at_:=by rw [← ha];exact(Int.toNat_of_nonneg ha0).symm
  rw [List.map_cons,List.map_append,ea]
  refine List.Perm.trans ?_ (List.perm_middle (a:=Int.ofNat at_) (l₁:=p0.map Int.ofNat++q0.map Int.ofNat) (l₂:=[])) |>.trans sq
  rw [List.append_assoc]
  exact(e0.append (e1.append_right _))
def sk (a u:List Bool):Option (List Bool):=if(List.zipWith (· && ·) a u).any id=true then none else some (List.zipWith (· || ·) u a)
theorem Cu {α:Type}{f g:α→Bool}:∀{l:List α},(∀x∈l,f x=g x)→l.any f=l.any g
 | [],_=>rfl
 | x::l,h=>by rw [List.any_cons,List.any_cons,h x sq,Cu (fun y hy=>h y (by simp [hy]))]
theorem xy:∀(L:List Int) (u:List Bool),(∀k∈L,0≤k∧k<u.length)→L.Nodup→
  ge L u=if L.any (fun k=>u[k.toNat]?.getD false)=true then none else some ((List.range u.length).map (fun i:Nat=>u[i]?.getD false||decide (Int.ofNat i∈L)))
 | [],u,_,_=>by
  simp only [ge,List.any_nil,Bool.false_eq_true,if_false,List.not_mem_nil,decide_false,Bool.or_false]
  congr 1
  apply List.ext_getElem?
  intro i
  rw [List.getElem?_map]
  by_cases hi:i<u.length
  ·rw [List.getElem?_range hi,List.getElem?_eq_getElem hi];simp [hi]
  ·rw [List.getElem?_eq_none om,List.getElem?_eq_none (by simp;omega)];rfl
 | k::r,u,hb,hn=>by
  rw [ge,List.any_cons]
  have hk:=hb k sq
  rw [List.nodup_cons] at hn
  by_cases h:u[k.toNat]?.getD false=true
  ·rw [if_pos h,h];simp
  ·have h':u[k.toNat]?.getD false=false:=by simpa using h
   rw [if_neg h,xy r _ (fun j hj=>by rw [List.length_set];exact hb j (by simp [hj])) hn.2,h',Bool.false_or]
   have e1:r.any (fun j=>(u.set k.toNat true)[j.toNat]?.getD false)=r.any (fun j=>u[j.toNat]?.getD false):=by
    refine Cu (fun j hj=>?_)
    have hj':=hb j (by simp [hj])
    have hne:k.toNat≠j.toNat:=fun e=>hn.1 (by rw [show k=j by omega];exact hj)
    rw [List.getElem?_set,if_neg hne]
   rw [e1]
   split
   ·rfl
   ·congr 1
    rw [List.length_set]
    apply List.map_congr_left
    intro i hi
    have hi:i<u.length:=by simpa using hi
    rw [List.getElem?_set]
    by_cases e:k.toNat=i
    ·subst e
     rw [if_pos rfl,if_pos hi]
     have:((k.toNat:Nat):Int)=k:=by omega
     simp [this]
    ·rw [if_neg e]
     have:(i:Int)≠k:=by omega
     simp [this]
theorem use_in {ts:List Term}{root:Int}{d:List Int}{u:List Bool}(hd:eq ts root=some d)(hdl:d.length=ts.length)(hu:u.length=ts.length):ge (bH ts root) u=sk (d.map eM) u:=by
 have hm:cN ts root=true:=by rw [lH,hd];rfl
 obtain⟨hrg,p,hp,hpn⟩:=BH.1 hm
 have hperm:=ID _ _ _ _ hp root om rfl
 have hmem:∀i:Nat,(Int.ofNat i∈bH ts root)↔(d.map eM)[i]? =some true:=fun i=>by
  unfold bH
  rw [hperm.mem_iff]
  constructor
  ·intro h
   obtain⟨j,hj,e⟩:=List.mem_map.1 h
   have:j=i:=by have e:(j:Int)=i:=e;omega
   subst this
   have hpos:=A2 hd hp hj
   rw [List.getElem?_map]
   cases hdx:d[j]? with
   | none=>rw [hdx] at hpos;simp at hpos
   | some y=>rw [hdx] at hpos;simp at hpos;simp [eM,hpos]
  ·intro h
   exact List.mem_map.2 ⟨i,Eu hd hp (IG h rfl),rfl⟩
 have hbd:∀k∈bH ts root,0≤k∧k<u.length:=fun k hk=>by
  have:=mB _ _ k hk;rw [hu];exact this
 have hnd:(bH ts root).Nodup:=hperm.nodup_iff.2 (by
  unfold List.Nodup
  rw [List.pairwise_map]
  exact hpn.imp (fun {a b} h e=>h (by have e:(a:Int)=b:=e;omega)))
 rw [xy _ _ hbd hnd]
 unfold sk
 have e1:(bH ts root).any (fun k=>u[k.toNat]?.getD false)=(List.zipWith (· && ·) (d.map eM) u).any id:=by
  rw [Bool.eq_iff_iff,List.any_eq_true,List.any_eq_true]
  constructor
  ·rintro⟨k,hk,h⟩
   have hkb:=hbd k hk
   have h1:=(hmem k.toNat).1 (by rw [show Int.ofNat k.toNat=k by show((k.toNat:Nat):Int)=k;omega];exact hk)
   have h2:=List.getElem?_eq_getElem (l:=u) (i:=k.toNat) om
   rw [h2] at h
   refine⟨true,List.mem_of_getElem? (i:=k.toNat) ?_,rfl⟩
   rw [List.getElem?_zipWith,h1,h2]
   simpa using h
  ·rintro⟨b,hb,hbt⟩
   obtain⟨i,hi⟩:=List.getElem?_of_mem hb
   rw [List.getElem?_zipWith] at hi
   cases h1:(d.map eM)[i]? with
   | none=>rw [h1] at hi;simp at hi
   | some x=>
    cases h2:u[i]? with
    | none=>rw [h1,h2] at hi;simp at hi
    | some y=>
     rw [h1,h2] at hi
     simp at hi hbt
     subst hi
     simp at hbt
     obtain⟨rfl,rfl⟩:=hbt
     exact⟨i,(hmem i).2 h1,by simp [h2]⟩
 rw [e1]
 split
 ·rfl
 ·congr 1
  apply List.ext_getElem?
  intro i
  rw [List.getElem?_map,List.getElem?_zipWith]
  by_cases hi:i<u.length
  ·have h1:=List.getElem?_eq_getElem (l:=d.map eM) (i:=i) (by rw [List.length_map,hdl,← hu];exact hi)
   rw [List.getElem?_range hi,h1,List.getElem?_eq_getElem hi]
   simp only [Option.map_some,Option.getD_some]
   have:=hmem i
   rw [h1] at this
   have h3:decide (Int.ofNat i∈bH ts root)=(d.map eM)[i]'(by rw [List.length_map,hdl,← hu];exact hi):=by
    cases hb:(d.map eM)[i]'(by rw [List.length_map,hdl,← hu];exact hi) with
    | true=>rw [hb] at this;exact decide_eq_true (this.2 rfl)
    | false=>rw [hb] at this;exact decide_eq_false (fun h=>by simpa using this.1 h)
   rw [h3]
   simp [hi]
  ·rw [List.getElem?_eq_none (l:=List.range u.length) (by simp;omega),List.getElem?_eq_none (l:=u) om]
   cases(d.map eM)[i]? <;>rfl
def kZ (ts:List Term):List Int→List Bool→Option (List Bool)
 | [],u=>some u
 | t::r,u=>match eq ts t with
  | none=>none
  | some d=>match sk (d.map eM) u with
   | none=>none
   | some u2=>kZ ts r u2
theorem I8 {a u u2:List Bool}(h:sk a u=some u2)(hl:a.length=u.length):u2.length=u.length:=by
 unfold sk at h
 split at h
 ·cases h
 ·cases h;simp [hl]
theorem jt {d d':List Int}{i to:Int}(h:dQ d i to=some d'):d'.length=d.length:=by
 unfold dQ at h
 repeat' split at h
 all_goals first | (cases h;done) | (cases h;simp)
theorem vM {l:List Term}{i:Int}{d d':List Int}(h:cW l i d=some d'):d'.length=d.length:=by
 unfold cW at h
 split at h
 ·cases h;rfl
 ·split at h
  ·cases h
  ·split at h
   ·cases h
   ·unfold fF at h
    repeat' split at h
    all_goals first | (cases h;done) | (cases h;rfl) | (cases h;rename_i h1;exact jt h1) | (rename_i h1 _;rw [jt h,jt h1]) | (rename_i h1;rw [jt h])
theorem oV {l:List Term}:∀(n:Nat) (d:List Int) {d':List Int},cE l n d=some d'→d'.length=d.length
 | 0,d,d',h=>by cases h;rfl
 | n+1,d,d',h=>by
  rw [cE] at h
  split at h
  ·cases h
  ·rename_i d1 h1
   rw [oV n d1 h,vM h1]
theorem xF {ts:List Term}{root:Int}{d:List Int}(h:eq ts root=some d):d.length=ts.length:=by
 unfold eq at h
 split at h
 ·cases h
 ·have:=oV _ _ h
  simpa using this
theorem EE {ts:List Term}:∀(L:List Int) (u:List Bool),u.length=ts.length→kZ ts L u=cw ts L u
 | [],_,_=>rfl
 | t::r,u,hu=>by
  rw [kZ,cw]
  cases hd:eq ts t with
  | none=>
   have hm:cN ts t=false:=by rw [lH,hd];rfl
   rw [if_pos hm]
  | some d=>
   have hm:cN ts t=true:=by rw [lH,hd];rfl
   rw [if_neg (by rw [hm];decide),use_in hd (xF hd) hu]
   dsimp only
   cases hi:sk (d.map eM) u with
   | none=>rfl
   | some u2=>exact EE r u2 (by rw [I8 hi (by rw [List.length_map,xF hd,hu]),hu])
def cU (s:SStep):Bool:=!(decide (s.kind=1)||(decide (s.kind=2)||decide (s.kind=3)))|| !decide (s.term= -1)
theorem IZ (ts:List Term):cN ts (-1)=false:=by
 unfold cN
 split
 ·rfl
 ·rw [if_pos dq]
theorem gf {s:SStep}(hm:dy s=true)(hr:cU s=true):bV s=bJ s:=by
 have h4:¬(s.kind=1∨s.kind=2∨s.kind=3∨s.kind=4)→s.term= -1:=fun hk=>by
  rw [← iP] at hm
  unfold sg at hm
  split at hm; · cases hm
  split at hm; · cases hm
  split at hm; · cases hm
  split at hm; · cases hm
  simpa using hm
 unfold bV bJ
 by_cases ht:s.term= -1
 ·rw [if_pos ht,if_neg]
  rintro(h | h | h | h)
  ·simp [cU,h,ht] at hr
  ·simp [cU,h,ht] at hr
  ·simp [cU,h,ht] at hr
  ·exact h.2 ht
 ·rw [if_neg ht,if_pos]
  have:=Classical.byContradiction (fun h=>ht (h4 h))
  rcases this with h | h | h | h
  ·exact .inl h
  ·exact .inr (.inl h)
  ·exact .inr (.inr (.inl h))
  ·exact .inr (.inr (.inr ⟨h,ht⟩))
theorem HN {ts:List Term}{s:SStep}{u:List Bool}(hr:cU s=false):cw ts (bJ s) u=none:=by
 have h:(s.kind=1∨s.kind=2∨s.kind=3)∧s.term= -1:=by
  unfold cU at hr
  simp at hr
  exact⟨by omega,hr.2⟩
 have e:∃r,bJ s=s.term::r:=by
  unfold bJ
  rw [if_pos (by rcases h.1 with h | h | h<;>simp [h])]
  exact⟨_,rfl⟩
 obtain⟨r,e⟩:=e
 rw [e,cw,h.2,if_pos (IZ ts)]
end Go.Sx
namespace Go.Sx
open Go
theorem ql {s:SStep}(hm:dy s=true):dR s=aW s:=by
 have h0:¬(s.kind<0∨10<s.kind):=fun h=>by
  unfold dy at hm;rw [if_pos h] at hm;cases hm
 have hw:gP s.kind=true→s.ways=[]:=fun hg=>by
  have hne:¬(s.kind=3∨s.kind=5):=fun h=>by
   rcases h with h | h<;>rw [h] at hg<;>exact absurd hg dq
  rw [← iP] at hm
  unfold sg at hm
  rw [if_neg h0] at hm
  split at hm; · cases hm
  split at hm; · cases hm
  rename_i hp
  have hp:fq s=false:=by simpa using hp
  unfold fq at hp
  simp only [Bool.or_eq_false_iff] at hp
  have:=hp.2.2.1
  rw [CJ hne] at this
  simp at this
  exact this
 unfold dR aW
 by_cases hg:gP s.kind=true
 ·rw [if_pos hg,hw hg]
  have he:¬jy s.kind=true:=by
   unfold gP at hg;unfold jy
   simp at hg ⊢;omega
  rw [if_neg he];rfl
 ·rw [if_neg hg]
  have he:jy s.kind=true:=by
   unfold gP at hg;unfold jy
   simp at hg ⊢;omega
  rw [if_pos he,List.append_nil]
def dJ (n i:Int):List Int→List Int×List Int→List Int×List Int
 | [],p=>p
 | t::r,p=>if t≤i∨n≤t then dJ n i r p else dJ n i r (p.1.set t.toNat (if 1<aP (fU p.2 t) t then -2 else i),fU p.2 t)
def eV (n:Int):List SStep→Int→List Int×List Int→List Int×List Int
 | [],_,p=>p
 | s::r,i,p=>eV n r (i+1) (dJ n i (dR s) p)
def j3 (n:Nat):List Int×List Int:=((List.replicate n (-2)).set 0 (-1),List.replicate n 0)
def gC (q:SProc):List Int:=(eV q.steps.length q.steps 0 (j3 q.steps.length)).1
theorem ia {n i:Int}:∀{L:List Int} {p:List Int×List Int},(dJ n i L p).1.length=p.1.length∧(dJ n i L p).2.length=p.2.length
 | [],_=>⟨rfl,rfl⟩
 | t::r,p=>by
  rw [dJ]
  split
  ·exact ia
  ·have:= @ia n i r (p.1.set t.toNat (if 1<aP (fU p.2 t) t then -2 else i),fU p.2 t)
   simpa [kw] using this
theorem uB {n:Int}:∀{l:List SStep} {i:Int} {p:List Int×List Int},(eV n l i p).1.length=p.1.length
 | [],_,_=>rfl
 | s::r,i,p=>by rw [eV,uB,ia.1]
theorem mM {c:List Int}{t j x:Int}(h0:0≤t)(hj:0≤j)(h:j≠t):aP (c.set t.toNat x) j=aP c j:=by
 unfold aP
 rw [List.getElem?_set,if_neg om]
theorem nX {n i:Int}:∀{L:List Int} {p:List Int×List Int} {j:Int},0≤i→0≤j→j≤i→aP (dJ n i L p).1 j=aP p.1 j
 | [],_,_,_,_,_=>rfl
 | t::r,p,j,hi,h0,h=>by
  rw [dJ]
  split
  ·exact nX hi h0 h
  ·rw [nX hi h0 h]
   exact mM om h0 om
theorem rR {n:Int}:∀{l:List SStep} {i:Int} {p:List Int×List Int} {j:Int},0≤i→0≤j→j≤i→aP (eV n l i p).1 j=aP p.1 j
 | [],_,_,_,_,_,_=>rfl
 | s::r,i,p,j,hi,h0,h=>by rw [eV,rR om h0 om,nX hi h0 h]
theorem uE {n i:Int}:∀{L:List Int} {p:List Int×List Int},0≤i→n≤p.1.length→(∀j,0≤j→aP p.1 j<j∨p.1.length≤j)→∀j,0≤j→aP (dJ n i L p).1 j<j∨p.1.length≤j
 | [],_,_,_,h=>h
 | t::r,p,hi,hn,h=>by
  rw [dJ]
  split
  ·exact uE hi hn h
  ·rename_i ht
   intro j hj
   have:= @uE n i r (p.1.set t.toNat (if 1<aP (fU p.2 t) t then -2 else i),fU p.2 t) hi (by simpa using hn) (fun j hj=>by
    rw [List.length_set]
    by_cases e:j=t
    ·subst e
     left
     dsimp only
     rw [gF om om hj,if_pos rfl]
     split<;>omega
    ·dsimp only
     rw [mM om hj e]
     exact h j hj) j hj
   simpa using this
theorem ye {n:Int}:∀{l:List SStep} {i:Int} {p:List Int×List Int},0≤i→n≤p.1.length→(∀j,0≤j→aP p.1 j<j∨p.1.length≤j)→∀j,0≤j→aP (eV n l i p).1 j<j∨p.1.length≤j
 | [],_,_,_,_,h=>h
 | s::r,i,p,hi,hn,h=>by
  rw [eV]
  intro j hj
  have:=ye (l:=r) (i:=i+1) (p:=dJ n i (dR s) p) om (by rw [ia.1];exact hn) (fun j hj=>by rw [ia.1];exact uE hi hn h j hj) j hj
  rwa [ia.1] at this
theorem par0_lt (n:Nat):∀j,0≤j→aP (j3 n).1 j<j∨((j3 n).1.length:Int)≤j:=fun j hj=>by
 unfold j3 aP
 by_cases h:j.toNat<n
 ·left
  dsimp only
  rw [List.getElem?_set]
  split
  ·rename_i e;rw [if_pos (by simp;omega)];simp;omega
  ·rw [List.getElem?_replicate,if_pos h];simp;omega
 ·right;simp;omega
theorem EJ (q:SProc):(gC q).length=q.steps.length:=by unfold gC;rw [uB];simp [j3]
theorem yX (q:SProc)(j:Int)(hj:0≤j)(hn:j<q.steps.length):aP (gC q) j<j:=by
 have:=ye (n:=q.steps.length) (l:=q.steps) (i:=0) (p:=j3 q.steps.length) om (by simp [j3]) (par0_lt _) j hj
 rcases this with h | h
 ·exact h
 ·simp [j3] at h;omega
def l5 (s:Option SStep):Int:=match s with
 | some s=>if s.kind=3∨s.kind=5 then 1 else 0
 | none=>0
def iL (q:SProc)(up:List Int):Nat→Int→Int
 | 0,_=>0
 | f+1,i=>if i<0 then 0 else l5 q.steps[i.toNat]? +iL q up f (aP up i)
def ff (q:SProc)(up:List Int)(x:Int):Int:=iL q up (x+1).toNat x
theorem Gk (s:Option SStep):0≤l5 s∧l5 s≤1:=by
 unfold l5;split
 ·split<;>omega
 ·omega
theorem qB {q:SProc}{up:List Int}:∀(f:Nat) (i:Int),0≤iL q up f i∧iL q up f i≤f
 | 0,_=>by simp [iL]
 | f+1,i=>by
  rw [iL]
  have:=Gk q.steps[i.toNat]?
  have:=qB (q:=q) (up:=up) f (aP up i)
  split<;>omega
theorem vw {q:SProc}{up:List Int}(hlt:∀j:Int,0≤j→j<q.steps.length→aP up j<j):∀(f g:Nat) (i:Int),i<q.steps.length→i<f→i<g→iL q up f i=iL q up g i
 | 0,0,_,_,_,_=>rfl
 | 0,g+1,i,_,h,_=>by rw [iL,iL,if_pos om]
 | f+1,0,i,_,_,h=>by rw [iL,iL,if_pos om]
 | f+1,g+1,i,hn,h1,h2=>by
  rw [iL,iL]
  split
  ·rfl
  ·rename_i h0
   have:=hlt i om hn
   rw [vw hlt f g (aP up i) om om om]
theorem Cj {q:SProc}{up:List Int}(hlt:∀j:Int,0≤j→j<q.steps.length→aP up j<j){k:Int}(h0:0≤k)(hn:k<q.steps.length):ff q up k=l5 q.steps[k.toNat]? +(if aP up k<0 then 0 else ff q up (aP up k)):=by
 unfold ff
 rw [show(k+1).toNat=k.toNat+1 by omega,iL,if_neg om]
 congr 1
 have:=hlt k h0 hn
 split
 ·rename_i h
  cases k.toNat with
  | zero=>rfl
  | succ f=>rw [iL,if_pos h]
 ·rename_i h
  exact vw hlt _ _ _ om om om
structure PJ (q:SProc)(up:List Int)(kk m:Int)(c d:List Int)(p:List Int×List Int):Prop where
 e:p.2=c
 lc:c.length=q.steps.length
 ld:d.length=q.steps.length
 lp:p.1.length=q.steps.length
 b:∀j:Int,0≤j→0≤aP c j∧aP c j≤m
 z:aP c 0=0∧aP p.1 0= -1
 a0:∀j:Int,0<j→j<q.steps.length→aP c j=0→aP p.1 j= -2
 a1:∀j:Int,kk≤j→0≤j→j<q.steps.length→aP c j=1→0≤aP p.1 j∧aP p.1 j<kk∧aP d j=ff q up (aP p.1 j)
 a2:∀j:Int,0≤j→j<q.steps.length→1<aP c j→aP p.1 j= -2
theorem yf {q:SProc}{up:List Int}{k:Int}(k0:0≤k):∀{L:List Int} {m:Int} {c d c2 d2:List Int} {p:List Int×List Int},PJ q up (k+1) m c d p→aP d k=ff q up k→0≤m→m+L.length≤1000000→cx q.steps.length k L c d=some (c2,d2)→
  PJ q up (k+1) (m+L.length) c2 d2 (dJ q.steps.length k L p)∧aP d2 k=aP d k
 | [],m,c,d,c2,d2,p,hJ,hd,hm0,hm,h=>by
  simp only [cx,Option.some.injEq,Prod.mk.injEq] at h
  obtain⟨rfl,rfl⟩:=h
  exact⟨by simpa [dJ] using hJ,rfl⟩
 | t::r,m,c,d,c2,d2,p,hJ,hd,hm0,hm,h=>by
  rw [cx] at h
  split at h
  ·cases h
  ·rename_i ht
   simp only [List.length_cons] at hm
   have hbt:=hJ.b t om
   have hw:IntKind.i64.wrap (aP c t+1)=aP c t+1:=vm om om
   have hg:∀j:Int,0≤j→aP (fU c t) j=if j=t then aP c t+1 else aP c j:=fun j hj=>by
    unfold fU;rw [hw];exact gF om (by rw [hJ.lc];omega) hj
   rw [dJ,if_neg ht,hJ.e]
   have hp1:∀j:Int,0≤j→aP (p.1.set t.toNat (if 1<aP (fU c t) t then -2 else k)) j=if j=t then(if 1<aP (fU c t) t then -2 else k) else aP p.1 j:=fun j hj=>gF om (by rw [hJ.lp];omega) hj
   have hd1:∀j:Int,0≤j→aP (d.set t.toNat (aP d k)) j=if j=t then aP d k else aP d j:=fun j hj=>gF om (by rw [hJ.ld];omega) hj
   have hgt:=hg t om
   rw [if_pos rfl] at hgt
   have hJ2:PJ q up (k+1) (m+1) (fU c t) (d.set t.toNat (aP d k)) (p.1.set t.toNat (if 1<aP (fU c t) t then -2 else k),fU c t):=by
    refine⟨rfl,by rw [kw];exact hJ.lc,by rw [List.length_set];exact hJ.ld,by rw [List.length_set];exact hJ.lp,fun j hj=>?_,?_,fun j hj hn h1=>?_,fun j hkj hj hn h1=>?_,fun j hj hn h1=>?_⟩
    ·have:=hJ.b j hj
     rw [hg j hj];split<;>omega
    ·have:=hJ.z
     dsimp only
     rw [hg 0 om,hp1 0 om,if_neg om,if_neg om];exact this
    ·dsimp only
     rw [hg j om] at h1
     rw [hp1 j om]
     by_cases e:j=t
     ·subst e;rw [if_pos rfl] at h1;omega
     ·rw [if_neg e] at h1 ⊢;exact hJ.a0 j hj hn h1
    ·dsimp only
     rw [hg j hj] at h1
     rw [hp1 j hj,hd1 j hj]
     by_cases e:j=t
     ·subst e
      rw [if_pos rfl] at h1
      simp only [if_true]
      rw [hgt,if_neg om]
      exact⟨k0,by omega,hd⟩
     ·rw [if_neg e] at h1
      rw [if_neg e,if_neg e];exact hJ.a1 j hkj hj hn h1
    ·dsimp only
     rw [hg j hj] at h1
     rw [hp1 j hj]
     by_cases e:j=t
     ·subst e
      rw [if_pos rfl] at h1
      rw [if_pos rfl,hgt,if_pos om]
     ·rw [if_neg e] at h1 ⊢;exact hJ.a2 j hj hn h1
   have hdk:aP (d.set t.toNat (aP d k)) k=aP d k:=by rw [hd1 k k0,if_neg om]
   obtain⟨h1,h2⟩:=yf k0 hJ2 (by rw [hdk];exact hd) om om h
   refine⟨?_,by rw [h2,hdk]⟩
   rw [List.length_cons,show m+((r.length+1:Nat):Int)=m+1+r.length by omega]
   exact h1
theorem pV:∀{L:List Int} {u u2:List Bool},ge L u=some u2→u2.length=u.length
 | [],u,u2,h=>by cases h;rfl
 | k::r,u,u2,h=>by
  rw [ge] at h
  split at h
  ·cases h
  ·rw [pV h,List.length_set]
theorem lM {ts:List Term}:∀{L:List Int} {u u2:List Bool},cw ts L u=some u2→u2.length=u.length
 | [],u,u2,h=>by cases h;rfl
 | t::r,u,u2,h=>by
  rw [cw] at h
  split at h
  ·cases h
  ·split at h
   ·cases h
   ·rename_i u3 h3
    rw [lM h,pV h3]
def iK (q:SProc)(up:List Int)(at_:Int)(s:SStep):Bool:=
 (dR s).all (fun t=>!(decide (t≤at_)||decide ((q.steps.length:Int)≤t)))&&(!(decide (0<at_)&&decide (aP up at_<0))&&decide (ff q up at_≤24))
def gy (q:SProc)(i:Int)(up:List Int):List SStep→Int→List Bool→SFault
 | [],_,_=>okF
 | s::r,at_,u=>
  if dy s=false then⟨1500,i,at_⟩
  else if iK q up at_ s=false then⟨1502,i,at_⟩
  else if cU s=false then⟨1503,i,at_⟩
  else match kZ q.terms (bV s) u with
   | none=>⟨1503,i,at_⟩
   | some u2=>gy q i up r (at_+1) u2
theorem pm {n at_:Int}:∀{L c d:List Int},L.all (fun t=>!(decide (t≤at_)||decide (n≤t)))=(cx n at_ L c d).isSome
 | [],_,_=>rfl
 | t::r,c,d=>by
  rw [cx,List.all_cons]
  split
  ·rename_i h
   have:(decide (t≤at_)||decide (n≤t))=true:=by simpa using h
   rw [this];rfl
  ·rename_i h
   have:(decide (t≤at_)||decide (n≤t))=false:=by
    rw [← Bool.not_eq_true];simpa using h
   rw [this,pm (L:=r)];rfl
theorem PJ.mono {q:SProc}{up:List Int}{k k' m m':Int}{c d:List Int}{p:List Int×List Int}(h:PJ q up k m c d p)(hk:k≤k')(hm:m≤m'):PJ q up k' m' c d p:=
 ⟨h.e,h.lc,h.ld,h.lp,fun j hj=>⟨(h.b j hj).1,by have:=(h.b j hj).2;omega⟩,h.z,h.a0,fun j hkj hj hn h1=>by
  obtain⟨a,b,c⟩:=h.a1 j om hj hn h1
  exact⟨a,by omega,c⟩,h.a2⟩
theorem FD {q : SProc} {i : Int} {up : List Int} (hn : q.steps.length ≤ 80) (hlt : ∀ j : Int, 0 ≤ j → j < q.steps.length → aP up j < j) : ∀ (l : List SStep) (k : Nat) (c d : List Int) (u : List Bool) (p : List Int × List Int), l = q.steps.drop k → PJ q up k (7 * k) c d p → (k = 0 → aP d 0 = 0) → u.length = q.terms.length →
  up = (eV q.steps.length l k p).1 → gy q i up l k u = bT q i l k c d u := by
 intro l
 induction l with
 | nil => intro k c d u p hl hJ hz hu hup; rfl
 | cons s r ih =>
  intro k c d u p hl hJ hz hu hup
  have hx : q.steps[k]? = some s := by
   have h1 : (q.steps.drop k)[0]? = some s := by rw [← hl]; rfl
   rwa [List.getElem?_drop, Nat.add_zero] at h1
  have hr : r = q.steps.drop (k + 1) := by
   have h1 : (q.steps.drop k).drop 1 = r := by rw [← hl]; rfl
   rw [← h1, List.drop_drop]
  have hkn := (List.getElem?_eq_some_iff.1 hx).1
  rw [gy, bT]
  by_cases hm : dy s = false
  ·rw [if_pos hm, if_pos hm]
  have hm' : dy s = true := by simpa using hm
  rw [if_neg hm, if_neg hm]
  have hupk : aP up k = aP p.1 k := by rw [hup]; exact rR om om om
  have hne := ql hm'
  by_cases hc : (0 : Int) < k ∧ ¬ aP c k = 1
  ·rw [if_pos hc, if_pos]
   unfold iK
   have hneg : aP up k < 0 := by
    rw [hupk]
    have hb := (hJ.b k om).1
    rcases (by omega : aP c k = 0 ∨ 1 < aP c k) with h | h
    ·rw [hJ.a0 k hc.1 om h]; omega
    ·rw [hJ.a2 k om om h]; omega
   rw [decide_eq_true hc.1, decide_eq_true hneg]; simp
  ·rw [if_neg hc]
   have hok : (!(decide ((0 : Int) < k) && decide (aP up k < 0))) = true := by
    by_cases h0 : (0 : Int) < k
    ·have h1 : aP c k = 1 := by
      by_cases e : aP c k = 1
      ·exact e
      ·exact absurd ⟨h0, e⟩ hc
     have := (hJ.a1 k om om om h1).1
     rw [hupk, decide_eq_false (show ¬ aP p.1 k < 0 by omega)]; simp
    ·rw [decide_eq_false h0]; rfl
   -- how deep
   have hdk : aP (eL s k d) k = ff q up k := by
    rw [Cj hlt om om]
    have hx' : q.steps[(k : Int).toNat]? = some s := by simpa using hx
    rw [hx', hupk]
    have hdv : aP d k = (if aP p.1 k < 0 then 0 else ff q up (aP p.1 k)) := by
     by_cases h0 : (0 : Int) < k
     ·have h1 : aP c k = 1 := by
       by_cases e : aP c k = 1
       ·exact e
       ·exact absurd ⟨h0, e⟩ hc
      obtain ⟨a, b, e⟩ := hJ.a1 k om om om h1
      rw [if_neg om]; exact e
     ·have e : k = 0 := by omega
      subst e
      have := hJ.z.2
      rw [if_pos (by simp only [Int.natCast_zero, Int.ofNat_zero] at *; simpa using (by omega : aP p.1 0 < 0))]
      simpa using hz rfl
    have hdb : 0 ≤ aP d k ∧ aP d k ≤ 100 := by
     rw [hdv]
     split
     ·omega
     ·rename_i h
      unfold ff
      have h2 := qB (q := q) (up := up) (aP p.1 k + 1).toNat (aP p.1 k)
      have h3 := hlt k om om
      rw [hupk] at h3
      omega
    rw [← hdv]
    unfold eL l5
    dsimp only
    split
    ·unfold fU
     rw [gF om (by rw [hJ.ld]; omega) om, if_pos rfl, vm om om]; omega
    ·omega
   have hJ1 : PJ q up (k + 1) (7 * k) c (eL s k d) p := by
    refine ⟨hJ.e, hJ.lc, by rw [Jh]; exact hJ.ld, hJ.lp, hJ.b, hJ.z, hJ.a0, fun j hkj hj hn1 h1 => ?_, hJ.a2⟩
    obtain ⟨a, b, e⟩ := hJ.a1 j om hj hn1 h1
    refine ⟨a, by omega, ?_⟩
    unfold eL
    split
    ·unfold fU; rw [mM om hj om]; exact e
    ·exact e
   have hnl := uO s hm'
   unfold iK
   rw [hne, hok, Bool.true_and]
   have hsm := @pm q.steps.length k (aW s) c (eL s k d)
   cases hng : cx q.steps.length k (aW s) c (eL s k d) with
   | none =>
    rw [hng] at hsm
    rw [if_pos (by rw [hsm]; rfl)]
   | some r2 =>
    obtain ⟨c2, d2⟩ := r2
    rw [hng] at hsm
    obtain ⟨hJ2, hd2⟩ := yf om hJ1 hdk om om hng
    dsimp only
    rw [hsm, hd2, hdk]
    by_cases h24 : 24 < ff q up k
    ·rw [if_pos (by rw [decide_eq_false om]; rfl), if_pos h24]
    ·rw [if_neg (by rw [decide_eq_true om]; simp), if_neg h24]
     by_cases hro : cU s = false
     ·rw [if_pos hro, HN hro]
     ·have hro' : cU s = true := by simpa using hro
      rw [if_neg hro, gf hm' hro', EE _ _ hu]
      cases hrg : cw q.terms (bJ s) u with
      | none => rfl
      | some u2 =>
       dsimp only
       have := ih (k + 1) c2 d2 u2 (dJ q.steps.length k (aW s) p) hr (by
        have := hJ2.mono (k' := ((k + 1 : Nat) : Int)) (m' := 7 * ((k + 1 : Nat) : Int)) om om
        exact this) om (by rw [lM hrg]; exact hu) (by rw [hup, eV, hne]; rfl)
       exact this
theorem A8 {q:SProc}{i:Int}(hn:q.steps.length≤80)(h1:1≤q.steps.length):gy q i (gC q) q.steps 0 (List.replicate q.terms.length false)=f4 i q:=by
 have hJ:PJ q (gC q) (0:Nat) (7 * (0:Nat)) (List.replicate q.steps.length 0) (List.replicate q.steps.length 0) (j3 q.steps.length):=by
  refine⟨rfl,by simp,by simp,by simp [j3],fun j hj=>by rw [gY];simp,⟨gY,?_⟩,fun j hj hn1 _=>?_,fun j hkj hj hn1 h=>?_,fun j hj hn1 h=>?_⟩
  ·unfold j3 aP;dsimp only;rw [List.getElem?_set,if_pos (by rfl),if_pos (by simp;omega)];rfl
  ·unfold j3 aP;dsimp only
   rw [List.getElem?_set,if_neg om,List.getElem?_replicate,if_pos om];rfl
  ·rw [gY] at h;cases h
  ·rw [gY] at h;omega
 exact FD hn (yX q) q.steps 0 _ _ _ _ rfl hJ (fun _=>gY) sq rfl
end Go.Sx
namespace Go.Sx
open Go
section
variable {l:List Str}{k m:Int}{x:Str}
theorem EO (k0:0≤k)(hx:l[k.toNat]? =some x)(h:(l.take k.toNat).Nodup)(hm:¬m<k)(hI:∀j:Nat,j<m.toNat→l[j]? ≠some x):(l.take (k+1).toNat).Nodup:=by
 rw [show(k+1).toNat=k.toNat+1 by omega,List.take_add_one,hx]
 simp only [Option.toList_some]
 rw [List.nodup_append]
 refine⟨h,by simp,fun a ha b hb e=>?_⟩
 simp at hb
 subst hb;subst e
 obtain⟨j,hj⟩:=List.getElem?_of_mem ha
 rw [List.getElem?_take] at hj
 split at hj
 ·exact hI j om hj
 ·cases hj
theorem IU (k0:0≤m)(hm:m<k)(hx:l[k.toNat]? =some x)(hy:l[m.toNat]? =some x):dt l=false:=by
 unfold dt
 refine decide_eq_false (fun hn=>?_)
 have h1:=(List.getElem?_eq_some_iff.1 hx).1
 have h2:=(List.getElem?_eq_some_iff.1 hx).2
 obtain⟨h3,h4⟩:=List.getElem?_eq_some_iff.1 hy
 exact(List.pairwise_iff_getElem.1 hn) m.toNat k.toNat h3 h1 om (by rw [h2,h4])
theorem IT (k0:0≤k)(hk:¬k<l.length)(h:(l.take k.toNat).Nodup):dt l=true:=by
 unfold dt
 rw [List.take_of_length_le om] at h
 exact decide_eq_true h
end
def rHd (s:SStep):List Int:=(if s.term= -1 then [] else [s.term])++s.args
theorem lL (s:SStep):rHd s++s.casts.flatMap (·.args)=bV s:=rfl
theorem EF {s:SStep}(h:¬s.term= -1):rHd s=[s.term]++s.args:=by unfold rHd;rw [if_neg h]
theorem It {s:SStep}(h:s.term= -1):rHd s=s.args:=by unfold rHd;rw [if_pos h];rfl
theorem yV (s:SStep):(rHd s).length≤1+s.args.length:=by unfold rHd;split<;>simp<;>omega
theorem AT {s:SStep}{k:Int}(hk:¬s.kind=3)(k0:0≤k)(he:¬k<s.ways.length)(h:s.ways.all (fun w=>!dp w)=(s.ways.drop k.toNat).all (fun w=>!dp w))(hn:((s.ways.map (·.label)).take k.toNat).Nodup):gb s=(decide ((1:Int)≤s.ways.length)&&decide ((s.ways.length:Int)≤7)):=by
 by_cases h1:(1:Int)≤s.ways.length∧(s.ways.length:Int)≤7
 ·rw [AU hk h1 k0 he h,IT k0 (by rw [List.length_map];exact he) hn,decide_eq_true h1.1,decide_eq_true h1.2];rfl
 ·rw [HB hk h1]
  by_cases h2:(1:Int)≤s.ways.length
  ·rw [decide_eq_false (fun h3=>h1 ⟨h2,h3⟩),Bool.and_false]
  ·rw [decide_eq_false h2,Bool.false_and]
section
variable {s:SStep}
theorem HZ (h:(decide (s.kind<0)||decide (10<s.kind))=false):¬(s.kind<0∨10<s.kind):=by
 intro e;rw [← Bool.not_eq_true] at h;exact h (by simpa using e)
theorem FC (h:(decide (s.kind<0)||decide (10<s.kind))=true):false=dy s:=by
 rw [← iP];unfold sg;rw [if_pos (by simpa using h)]
theorem FB (h1:(decide (s.kind<0)||decide (10<s.kind))=false)(h2:(!gv s)=true):false=dy s:=by
 rw [← iP];unfold sg;rw [if_neg (HZ h1),if_pos (gD h2)]
theorem FA (h1:(decide (s.kind<0)||decide (10<s.kind))=false)(h2:(!gv s)=false)(h3:fq s=true):false=dy s:=by
 rw [← iP];unfold sg;rw [if_neg (HZ h1),if_neg (by rw [eX h2];decide),if_pos h3]
theorem Fz (h1:(decide (s.kind<0)||decide (10<s.kind))=false)(h2:(!gv s)=false)(h3:fq s=false)(h4:(jy s.kind&& !decide (s.next= -1))=true):false=dy s:=by
 rw [← iP];unfold sg;rw [if_neg (HZ h1),if_neg (by rw [eX h2];decide),if_neg (by rw [h3];decide),if_pos (by simpa using h4)]
theorem Fy (h1:(decide (s.kind<0)||decide (10<s.kind))=false)(h2:(!gv s)=false)(h3:fq s=false)(h4:(jy s.kind&& !decide (s.next= -1))=false)(h5:(decide (s.kind=1)||(decide (s.kind=2)||(decide (s.kind=3)||decide (s.kind=4))))=true):true=dy s:=by
 rw [← iP];unfold sg
 rw [if_neg (HZ h1),if_neg (by rw [eX h2];decide),if_neg (by rw [h3];decide),if_neg (by intro e;rw [e.1,decide_eq_false e.2] at h4;cases h4),if_pos (by simpa using h5)]
theorem Fw (h1:(decide (s.kind<0)||decide (10<s.kind))=false)(h2:(!gv s)=false)(h3:fq s=false)(h4:(jy s.kind&& !decide (s.next= -1))=false)(h5:(decide (s.kind=1)||(decide (s.kind=2)||(decide (s.kind=3)||decide (s.kind=4))))=false):decide (s.term= -1)=dy s:=by
 rw [← iP];unfold sg
 rw [if_neg (HZ h1),if_neg (by rw [eX h2];decide),if_neg (by rw [h3];decide),if_neg (by intro e;rw [e.1,decide_eq_false e.2] at h4;cases h4),if_neg (by intro e;rw [← Bool.not_eq_true] at h5;exact h5 (by simpa using e))]
end
theorem BI {α β:Type}{f:α→β}{l:List α}{k:Int}(h:¬k<l.length):¬k<(l.map f).length:=by rw [List.length_map];exact h
end Go.Sx
