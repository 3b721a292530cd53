import Derived.Test.YtjnlogbbcceaoaaGreatR2
import Derived.KernelRfl
import Derived.Sort.Walk0
import Derived.Lib.ItoaNum
import Derived.Lib.IndexMore
set_option linter.all false
set_option maxRecDepth 100000
set_option maxHeartbeats 32000000
namespace Go.Sx
open Go Go.ChangeShapes Go.WideShapes Go.ChangeAt Go.RowKit
def Aq (W:World):Hp:=fun b o=>W.cell? ⟨b,o,none⟩
theorem St.below {W W':World}{H H':Hp}{L:aj}(h:St [] W H H' L W'):Below W.heap.size W W':=
 ⟨h.os,h.tape,h.output,h.size,fun k hk=>h.old k hk sq⟩
theorem Fn.callsT {P:Program}{f:FuncId}{args:List Value}{W:World}{u:Value}(h:Fn P f args (Aq W) (fun v _=>v=u)):Calls P f args.toArray W fun e W'=>e= .returned u∧Below W.heap.size W W':=
 (h W (St.start (fun b o u hu=>hu))).mono (by
  rintro e W' ⟨v',H',L',rfl,hst,hk,rfl⟩
  exact⟨rfl,hst.below⟩)
section
variable {HH:Type}{enc:TypeId×Value→HH}{P:Program}
theorem lw (hl:laidOutB P=true){W W':World}(hB:Below W.heap.size W W'){sp:Nat→Bool}:∀(ts:List TypeId) (vs:List Value) (ds:List (DataW HH)) (ps:List MemPlace),
  (∀t∈ts,P.readableRec t=true∧t<P.types.size)→DataW.TrodAll enc P W 0 (fun _=>true) true ts vs ds ps→(∀x∈ps,x.block<W.heap.size)→(∀x∈ps,sp x.block=true)→DataW.TrodAll enc P W' 0 sp true ts vs ds ps
 | [],[],[],ps,_,h,_,_=>h
 | t::ts,v::vs,d::ds,ps,hr,h,hlt,hs=>by
  obtain⟨p,q,h1,h2,rfl⟩:=h
  refine⟨p,q,?_,?_,rfl⟩
  ·exact WideElems.Trod_stays hl (hr t sq).1 (hr t sq).2 h1 (fun x hx=>hB.same (hlt x (List.mem_append_left _ hx))) (fun x hx=>hs x (List.mem_append_left _ hx))
  ·exact lw hl hB ts vs ds q (fun u hu=>hr u (List.mem_cons_of_mem _ hu)) h2 (fun x hx=>hlt x (List.mem_append_right _ hx)) (fun x hx=>hs x (List.mem_append_right _ hx))
 | [],[],_::_,_,_,h,_,_=>h.elim
 | [],_::_,_,_,_,h,_,_=>h.elim
 | _::_,[],_,_,_,h,_,_=>h.elim
 | _::_,_::_,[],_,_,h,_,_=>h.elim
theorem EU {f:Func}{s:ChangeSpec}{W W':World}{args:Array Value}{ds gs:List (DataW HH)}{before:List MemPlace}{tb:TypeId}(hW:DataW.Whole enc P f.params.toList s.vars false W args.toList ds gs before)
  (hv:s.vars=[]) (hvs:(s.fn HH (ds++gs)).vars=[]) (hres:(s.fn HH (ds++gs)).results=[.lit (.bool true)]) (hargs:(s.fn HH (ds++gs)).args=ds) (hrt:f.resultTypes= #[tb]) (hb:P.underlying tb=some .bool) (hl:laidOutB P=true)
  (hread:∀t∈f.params.toList,P.readableRec t=true∧t<P.types.size) (hB:Below W.heap.size W W'):s.post enc P f false true false false W args (.bool true) W':=by
 have hW0:=hW
 obtain⟨p,q,hA,hV,he,hfz,hnd⟩:=hW
 rw [hv] at hV
 have hq:gs=[]∧q=[]:=by
  cases gs with
  | nil=>exact⟨rfl,hV⟩
  | cons g gs=>exact hV.elim
 obtain⟨rfl,rfl⟩:=hq
 rw [List.append_nil] at he
 subst he
 have hlt:∀x∈before,x.block<W.heap.size:=fun x hx=>hW0.lt x hx
 refine⟨ds,[],before,[],before,[],hW0,?_,?_,?_,World.keptBut_mono (fun x hx=>⟨hx,.inr (.inl hx)⟩) (hB.frame (· ∈before)),fun h=>(by cases h)⟩
 ·rw [hres,hrt]
  exact trodAll_mk1 (shut_bool hb _)
 ·rw [hargs]
  exact lw hl hB _ _ _ _ hread hA hlt (fun x hx=>by simpa using hlt x hx)
 ·rw [hv,hvs]
  exact rfl
def Fu (P:Program)(t:TypeId){α:Type}(en:α→List Value)(ok:Hp→α→Prop):Prop:=
 ∀(HH:Type) (enc:TypeId×Value→HH) (W:World) (fuel:Nat) (cs:List Value) (x:DataW HH×List MemPlace),DataW.trod enc P W 0 (fun _=>true) true fuel t cs=some x→∃a:α,cs=en a∧ok (Aq W) a
theorem Cn {t:TypeId}(ht:P.underlying t=some (.int .i64)):Fu P t (fun n:Int=>[.int .i64 n]) (fun _ n=> -9223372036854775808≤n∧n≤9223372036854775807):=by
 intro HH enc W fuel cs x h
 obtain⟨n,rfl,_,hw⟩:=DataW.trod_int ht h
 refine⟨n,rfl,?_⟩
 simpa [Lit.wf,IntKind.min,IntKind.max,IntKind.signed,IntKind.bits] using hw
theorem B6 {W:World}{a:Addr}{v:Value}(h:W.cell? a=some v):a.spot=none:=by
 unfold World.cell? at h
 split at h
 ·split at h
  ·cases h
  ·rename_i hs;simpa using hs
 ·cases h
theorem pJ {α:Type}{Q:Nat→α→Prop}:∀{len:Nat},(∀i,i<len→∃z,Q i z)→∃l:List α,l.length=len∧∀i z,l[i]? =some z→Q i z
 | 0,_=>⟨[],rfl,fun i z h=>by simp at h⟩
 | len+1,h=>by
  obtain⟨l,h1,h2⟩:=pJ (fun i hi=>h i (Nat.lt_succ_of_lt hi))
  obtain⟨z,hz⟩:=h len (Nat.lt_succ_self _)
  refine⟨l++[z],by simp [h1],fun i y hy=>?_⟩
  by_cases hi:i<l.length
  ·rw [List.getElem?_append_left hi] at hy;exact h2 i y hy
  ·rw [List.getElem?_append_right om] at hy
   have hi0:i - l.length=0:=by
    rcases Nat.eq_zero_or_pos (i - l.length) with h | h
    ·exact h
    ·rw [List.getElem?_eq_none (by simp;omega)] at hy;cases hy
   rw [hi0] at hy
   simp only [List.getElem?_cons_zero,Option.some.injEq] at hy
   subst hy
   have:i=len:=by omega
   subst this
   exact hz
end
end Go.Sx
namespace Go.Sx
open Go
def I64.ok (_:Hp)(n:Int):Prop:=E1 n
theorem vv {P:Program}{t:TypeId}(ht:P.underlying t=some (.int .i64)):Fu P t I64.cells I64.ok:=Cn ht
end Go.Sx
namespace Go.Sx
open Go
end Go.Sx
namespace Go.Sx
open Go
def mP (x:Int):Bool:=decide (0<x)
theorem pos_at {d:List Int}{k:Nat}{b:Bool}(h:(d.map mP)[k]? =some b)(hb:b=true):0<d[k]?.getD 0:=by
 rw [List.getElem?_map] at h
 cases hx:d[k]? with
 | none=>rw [hx] at h;cases h
 | some x=>
  rw [hx] at h
  have:mP x=b:=by simpa using h
  rw [hb] at this
  simpa [mP] using this
end Go.Sx
namespace Go.Sx
open Go
def cv:List Str→Str→List Str
 | [],s=>[s]
 | x::r,s=>if Op.bytesLess x s=true then x::cv r s else if x=s then x::r else s::x::r
theorem Er {l:List Str}{s x:Str}{k:Int}(h0:0≤k)(h:cv l s=l.take k.toNat++cv (l.drop k.toNat) s)(hx:l[k.toNat]? =some x)(hc:Op.bytesLess x s=true):
  cv l s=l.take (k+1).toNat++cv (l.drop (k+1).toNat) s:=by
 have hlt:k.toNat<l.length:=(List.getElem?_eq_some_iff.1 hx).1
 have hx':l[k.toNat]=x:=(List.getElem?_eq_some_iff.1 hx).2
 rw [h,bT h0 hx,List.drop_eq_getElem_cons hlt,hx',cv,if_pos hc,show(k+1).toNat=k.toNat+1 by omega]
 simp
theorem Es {l:List Str}{s x:Str}{k:Int}(h:cv l s=l.take k.toNat++cv (l.drop k.toNat) s)(hx:l[k.toNat]? =some x)(hc:¬Op.bytesLess x s=true)(he:x=s):cv l s=l:=by
 have hlt:k.toNat<l.length:=(List.getElem?_eq_some_iff.1 hx).1
 have hx':l[k.toNat]=x:=(List.getElem?_eq_some_iff.1 hx).2
 rw [h,List.drop_eq_getElem_cons hlt,hx',cv,if_neg hc,if_pos he,← hx',← List.drop_eq_getElem_cons hlt,List.take_append_drop]
theorem put_mid {l:List Str}{s x:Str}{k:Int}(h:cv l s=l.take k.toNat++cv (l.drop k.toNat) s)(hx:l[k.toNat]? =some x)(hc:¬Op.bytesLess x s=true)(he:¬x=s):
  cv l s=([]++(l.take k.toNat).drop 0++[s])++(l.take l.length).drop k.toNat:=by
 have hlt:k.toNat<l.length:=(List.getElem?_eq_some_iff.1 hx).1
 have hx':l[k.toNat]=x:=(List.getElem?_eq_some_iff.1 hx).2
 rw [h,List.drop_eq_getElem_cons hlt,hx',cv,if_neg hc,if_neg he,← hx',← List.drop_eq_getElem_cons hlt]
 simp
theorem put_end {l:List Str}{s:Str}{k:Int}(h:cv l s=l.take k.toNat++cv (l.drop k.toNat) s)(h1:¬k<l.length):
  cv l s=([]++(l.take k.toNat).drop 0++[s])++(l.take l.length).drop k.toNat:=by
 rw [h,List.drop_eq_nil_of_le (show l.length≤k.toNat by omega),cv]
 have e1:l.drop k.toNat=[]:=List.drop_eq_nil_of_le om
 simp [e1]
theorem put_len (l:List Str)(s:Str):(cv l s).length≤l.length+1:=by
 induction l with
 | nil=>simp [cv]
 | cons x r ih=>
  unfold cv
  split
  ·simp;omega
  ·split<;>simp
end Go.Sx
namespace Go.Sx
open Go
def Rise (l:List Str):Prop:=l.Pairwise (· < ·)
theorem mem_put {l:List Str}{s x:Str}:x∈cv l s↔x=s∨x∈l:=by
 induction l with
 | nil=>simp [cv]
 | cons y r ih=>
  unfold cv
  split
  ·simp only [List.mem_cons,ih]
   constructor
   ·rintro(h | h | h)<;>simp [h]
   ·rintro(h | h | h)<;>simp [h]
  ·split
   ·rename_i h;subst h;simp
   ·simp
theorem Eq {l:List Str}{s:Str}(h:Rise l):Rise (cv l s):=by
 induction l with
 | nil=>simp [cv,Rise]
 | cons y r ih=>
  have h':=List.pairwise_cons.1 h
  unfold cv
  split
  ·rename_i hc
   rw [Go.Proofs.bytesLess_eq] at hc
   refine List.pairwise_cons.2 ⟨fun z hz=>?_,ih h'.2⟩
   rcases mem_put.1 hz with rfl | hz
   ·simpa using hc
   ·exact h'.1 z hz
  ·split
   ·exact h
   ·rename_i hc hne
    rw [Go.Proofs.bytesLess_eq] at hc
    have hle:s≤y:=List.not_lt.1 (by simpa using hc)
    have hlt:s<y:=by
     apply Classical.byContradiction
     intro hn
     exact hne (List.le_antisymm (List.not_lt.1 hn) hle)
    refine List.pairwise_cons.2 ⟨fun z hz=>?_,h⟩
    rcases List.mem_cons.1 hz with rfl | hz
    ·exact hlt
    ·exact List.lt_trans hlt (h'.1 z hz)
theorem ry {d d':List Int}{i:Nat}{at_:Int}(h:dR d i at_=some d')(hn:Nn d)(hi:i<d.length):
  0<d'[at_.toNat]?.getD 0∧(∀j:Nat,0<d[j]?.getD 0→0<d'[j]?.getD 0)∧(∀j:Nat,i≤j→d'[j]?.getD 0=d[j]?.getD 0)∧Nn d'∧d'.length=d.length:=by
 unfold dR at h
 split at h
 ·cases h
 ·rename_i hg
  obtain rfl:=Option.some.inj h
  simp only [Int.toNat_natCast]
  have hp:=hn i
  have hlt:at_.toNat<i:=by omega
  have hv:0<(d.set at_.toNat (d[i]?.getD 0+1))[at_.toNat]?.getD 0:=by rw [wv om];omega
  refine⟨hv,fun j hj=>?_,fun j hj=>jz om,tq hn om,by simp⟩
  by_cases e:at_.toNat=j
  ·subst e;exact hv
  ·rw [jz e];exact hj
theorem wk {l:List Term}{d d':List Int}{i:Nat}(h:dA l i d=some d')(hn:Nn d):
  (0<d[i]?.getD 0→∀t,l[i]? =some t→(1≤ak t.kind→0<d'[t.l.toNat]?.getD 0)∧(2≤ak t.kind→0<d'[t.r.toNat]?.getD 0))∧(∀j:Nat,0<d[j]?.getD 0→0<d'[j]?.getD 0)∧(∀j:Nat,i≤j→d'[j]?.getD 0=d[j]?.getD 0)∧Nn d':=by
 unfold dA at h
 simp only [Int.toNat_natCast] at h
 split at h
 ·rename_i h0
  obtain rfl:=Option.some.inj h
  exact⟨fun hp=>absurd h0 om,fun j hj=>hj,fun j _=>rfl,hn⟩
 ·rename_i h0
  have hi:i<d.length:=by
   apply Classical.byContradiction
   intro hge
   exact h0 (by rw [List.getElem?_eq_none om];rfl)
  cases hx:l[i]? with
  | none=>rw [hx] at h;cases h
  | some t=>
   rw [hx] at h
   simp only at h
   split at h
   ·cases h
   ·unfold eT at h
    split at h
    ·obtain rfl:=Option.some.inj h
     refine⟨fun _ t' ht=>?_,fun j hj=>hj,fun j _=>rfl,hn⟩
     obtain rfl:=Option.some.inj ht
     exact⟨fun h1=>by omega,fun h1=>by omega⟩
    ·cases h2:dR d i t.l with
     | none=>rw [h2] at h;cases h
     | some d2=>
      rw [h2] at h
      simp only at h
      obtain⟨a1,a2,a3,a4,a5⟩:=ry h2 hn hi
      split at h
      ·obtain rfl:=Option.some.inj h
       refine⟨fun _ t' ht=>?_,a2,a3,a4⟩
       obtain rfl:=Option.some.inj ht
       exact⟨fun _=>a1,fun h1=>by omega⟩
      ·obtain⟨b1,b2,b3,b4,b5⟩:=ry h a4 om
       refine⟨fun _ t' ht=>?_,fun j hj=>b2 j (a2 j hj),fun j hj=>(b3 j hj).trans (a3 j hj),b4⟩
       obtain rfl:=Option.some.inj ht
       exact⟨fun _=>b2 _ a1,fun _=>b1⟩
theorem mz {l:List Term}:∀(n:Nat) (d d':List Int),eJ l n d=some d'→Nn d→
  (∀j:Nat,0<d[j]?.getD 0→0<d'[j]?.getD 0)∧(∀j:Nat,n≤j→d'[j]?.getD 0=d[j]?.getD 0)∧(∀i:Nat,i<n→0<d'[i]?.getD 0→∀t,l[i]? =some t→(1≤ak t.kind→0<d'[t.l.toNat]?.getD 0)∧(2≤ak t.kind→0<d'[t.r.toNat]?.getD 0))
 | 0,d,d',h,hn=>by obtain rfl:=Option.some.inj h;exact⟨fun j hj=>hj,fun j _=>rfl,fun i hi=>by omega⟩
 | n+1,d,d',h,hn=>by
  simp only [eJ] at h
  cases hs:dA l n d with
  | none=>rw [hs] at h;cases h
  | some d1=>
   rw [hs] at h
   simp only at h
   obtain⟨a1,a2,a3,a4⟩:=wk hs hn
   obtain⟨b1,b2,b3⟩:=mz n d1 d' h a4
   refine⟨fun j hj=>b1 j (a2 j hj),fun j hj=>(b2 j om).trans (a3 j om),fun i hi hp t ht=>?_⟩
   by_cases e:i=n
   ·subst e
    have hp1:0<d[i]?.getD 0:=by rw [← a3 i (Nat.le_refl _),← b2 i (Nat.le_refl _)];exact hp
    have:=a1 hp1 t ht
    exact⟨fun h1=>b1 _ (this.1 h1),fun h1=>b1 _ (this.2 h1)⟩
   ·exact b3 i om hp t ht
theorem Ey {l:List Term}{S:Nat→Prop}:∀(f at_:Nat) (deep:Int) (p:List Nat),cf l f at_ deep=some p→S at_→(∀i,i≤at_→S i→∀t,l[i]? =some t→(1≤ak t.kind→S t.l.toNat)∧(2≤ak t.kind→S t.r.toNat))→∀i∈p,S i:=by
 intro f
 induction f with
 | zero=>intro at_ deep p h;simp [cf] at h
 | succ f ih=>
  intro at_ deep p h hS hc i hi
  obtain⟨t,p0,q0,hx,hok,h0,h1,rfl⟩:=cS h
  have hcl:=hc at_ (Nat.le_refl _) hS t hx
  rcases List.mem_cons.1 hi with rfl | hi
  ·exact hS
  ·rcases List.mem_append.1 hi with hi | hi
   ·split at h0
    ·simp only [Option.some.injEq] at h0;subst h0;cases hi
    ·rename_i ho
     have:=sd hok ho
     exact ih _ _ _ h0 (hcl.1 om) (fun j hj=>hc j om) i hi
   ·split at h1
    ·simp only [Option.some.injEq] at h1;subst h1;cases hi
    ·rename_i ho
     have:=r7 hok ho
     exact ih _ _ _ h1 (hcl.2 om) (fun j hj=>hc j om) i hi
theorem DP {l:List Term}{root:Int}{d:List Int}{p:List Nat}(h:iA l root=some d)(hp:cf l (root.toNat+1) root.toNat 1=some p){k:Nat}(hk:k∈p):0<d[k]?.getD 0:=by
 unfold iA at h
 split at h
 ·cases h
 ·rename_i hg
  obtain⟨a1,a2,a3⟩:=mz _ _ _ h (tj _ _)
  refine Ey (S:=fun i=>0<d[i]?.getD 0) _ _ _ _ hp (a1 _ (by rw [wv (by simp;omega)];decide)) (fun i hi hS t ht=>a3 i om hS t ht) k hk
end Go.Sx
namespace Go.Sx
open Go
def de (l:List Str):Bool:=decide l.Nodup
theorem lI {l:List Str}{k:Int}{x:Str}(k0:0≤k)(hx:l[k.toNat]? =some x)(h:(l.take k.toNat).Nodup)(hn:x∉l.take k.toNat):(l.take (k+1).toNat).Nodup:=by
 rw [bT k0 hx,List.nodup_append]
 refine⟨h,by simp,fun a ha b hb e=>?_⟩
 simp at hb;subst hb;subst e;exact hn ha
theorem y0 {l : List Str} {k : Int} {x : Str} (k0 : 0 ≤ k) (hx : l[k.toNat]? = some x) (h : cl l x = k) : x ∉ l.take k.toNat := by
 intro hm
 obtain ⟨j, hj, he⟩ := List.mem_iff_getElem.1 hm
 rw [List.length_take] at hj
 -- the least such place
 have key : ∀ (l : List Str) (j : Nat), l[j]? = some x → cl l x ≤ j := by
  intro l
  induction l with
  | nil => intro j h; simp at h
  | cons y l ih =>
   intro j h
   unfold cl
   split
   ·omega
   ·cases j with
    | zero => simp at h; subst h; rename_i hne; exact absurd rfl hne
    | succ j =>
     have := ih j (by simpa using h)
     split <;> omega
 have h2 : l[j]? = some x := by rw [List.getElem_take] at he; rw [← he]; exact List.getElem?_eq_getElem om
 have := key l j h2
 omega
theorem mU {l:List Str}{k:Int}(hk:¬k<l.length)(k0:0≤k)(h:(l.take k.toNat).Nodup):de l=true:=by
 rw [bC hk k0] at h;exact decide_eq_true h
theorem Co {l:List Str}{k:Int}{x:Str}(k0:0≤k)(hx:l[k.toNat]? =some x)(hm:x∈l.take k.toNat):de l=false:=by
 refine decide_eq_false fun hn=>?_
 have h1:(l.take (k+1).toNat).Nodup:=hn.sublist (List.take_sublist _ _)
 rw [bT k0 hx,List.nodup_append] at h1
 exact h1.2.2 x hm x sq rfl
theorem y5 {l:List Str}{k:Int}{x:Str}(k0:0≤k)(hx:l[k.toNat]? =some x)(h:cj ((l.take k.toNat).drop 0) x=true):de l=false:=Co k0 hx (by simpa [cj] using h)
theorem has_not {l:List Str}{x:Str}(h:cj (l.drop 0) x=false):x∉l:=by simpa [cj] using h
theorem r6 {l:List Str}{k:Int}{x:Str}(k0:0≤k)(hx:l[k.toNat]? =some x)(h:¬cl l x=k):de l=false:=by
 refine decide_eq_false fun hn=>h ?_
 refine dI k0 hx (fun j hj he=>?_)
 have h1:=(List.getElem?_eq_some_iff.1 hx)
 have h2:=(List.getElem?_eq_some_iff.1 he)
 obtain⟨a1,b1⟩:=h1;obtain⟨a2,b2⟩:=h2
 have:=(List.getElem_inj hn (h₀:=a2) (h₁:=a1)).1 (b2.trans b1.symm)
 omega
theorem zn (s:Str)(l:List Str):(l.foldl cv [s]).length≤l.length+1:=by
 have:∀(l a:List Str),(l.foldl cv a).length≤l.length+a.length:=by
  intro l
  induction l with
  | nil=>intro a;simp
  | cons x l ih=>
   intro a
   have h1:=ih (cv a x)
   have h2:=put_len a x
   simp only [List.foldl_cons,List.length_cons];omega
 simpa using this l [s]
theorem wQ (l:List Str):∀a:List Str,Rise a→Rise (l.foldl cv a):=by
 induction l with
 | nil=>intro a h;exact h
 | cons x l ih=>intro a h;exact ih _ (Eq h)
section
variable {l:List Str}{s h:Str}{k:Int}
end
end Go.Sx
namespace Go.Sx
open Go
def lR (s:Str):Str×Str×Bool:=Lib.cut s [46]
end Go.Sx
namespace Go.Sx
open Go
abbrev Sp:=Option Addr×Nat
structure SWay where
 label:Str
 name:Str
 next:Int
def SWay.cells (w:SWay):List Value:=[gs w.label,gs w.name,.int .i64 w.next]
structure SCast where
 role:Str
 proc:Str
 args:List Int
 ap:Sp
def SCast.cells (c:SCast):List Value:=[gs c.role,gs c.proc,.slice c.ap.1 c.args.length c.ap.2]
structure SStep where
 kind:Int
 name:Str
 peer:Str
 label:Str
 proc:Str
 term:Int
 args:List Int
 ap:Sp
 casts:List SCast
 cp:Sp
 ways:List SWay
 wp:Sp
 next:Int
def SStep.cells (s:SStep):List Value:=[.int .i64 s.kind,gs s.name,gs s.peer,gs s.label,gs s.proc,.int .i64 s.term,.slice s.ap.1 s.args.length s.ap.2,.slice s.cp.1 s.casts.length s.cp.2,.slice s.wp.1 s.ways.length s.wp.2,.int .i64 s.next]
structure SArm where
 label:Str
 ck:Int
 cn:Str
 next:Int
def SArm.cells (a:SArm):List Value:=[gs a.label,.int .i64 a.ck,gs a.cn,.int .i64 a.next]
structure STurn where
 kind:Int
 peer:Str
 arms:List SArm
 ap:Sp
def STurn.cells (t:STurn):List Value:=[.int .i64 t.kind,gs t.peer,.slice t.ap.1 t.arms.length t.ap.2]
structure SLocal where
 name:Str
 turns:List STurn
 tp:Sp
def SLocal.cells (l:SLocal):List Value:=[gs l.name,.slice l.tp.1 l.turns.length l.tp.2]
structure SPoint where
 frm:Str
 to:Str
 arms:List SArm
 ap:Sp
def SPoint.cells (p:SPoint):List Value:=[gs p.frm,gs p.to,.slice p.ap.1 p.arms.length p.ap.2]
structure SProto where
 name:Str
 roles:List Str
 rp:Sp
 points:List SPoint
 pp:Sp
def SProto.cells (p:SProto):List Value:=[gs p.name,.slice p.rp.1 p.roles.length p.rp.2,.slice p.pp.1 p.points.length p.pp.2]
structure SParam where
 name:Str
 ck:Int
 cn:Str
def SParam.cells (p:SParam):List Value:=[gs p.name,.int .i64 p.ck,gs p.cn]
structure SProc where
 name:Str
 params:List SParam
 pp:Sp
 terms:List Term
 tp:Sp
 steps:List SStep
 sp:Sp
def SProc.cells (q:SProc):List Value:=[gs q.name,.slice q.pp.1 q.params.length q.pp.2,.slice q.tp.1 q.terms.length q.tp.2,.slice q.sp.1 q.steps.length q.sp.2]
structure SProg where
 protos:List SProto
 rp:Sp
 locals:List SLocal
 lp:Sp
 procs:List SProc
 qp:Sp
def SProg.cells (p:SProg):List Value:=[.slice p.rp.1 p.protos.length p.rp.2,.slice p.lp.1 p.locals.length p.lp.2,.slice p.qp.1 p.procs.length p.qp.2]
instance :Cells 3 SWay.cells:=⟨fun _=>rfl,by decide,fun _=>rfl⟩
instance :Cells 3 SCast.cells:=⟨fun _=>rfl,by decide,fun _=>rfl⟩
instance :Cells 10 SStep.cells:=⟨fun _=>rfl,by decide,fun _=>rfl⟩
instance :Cells 4 SArm.cells:=⟨fun _=>rfl,by decide,fun _=>rfl⟩
instance :Cells 3 STurn.cells:=⟨fun _=>rfl,by decide,fun _=>rfl⟩
instance :Cells 2 SLocal.cells:=⟨fun _=>rfl,by decide,fun _=>rfl⟩
instance :Cells 3 SPoint.cells:=⟨fun _=>rfl,by decide,fun _=>rfl⟩
instance :Cells 3 SProto.cells:=⟨fun _=>rfl,by decide,fun _=>rfl⟩
instance :Cells 3 SParam.cells:=⟨fun _=>rfl,by decide,fun _=>rfl⟩
instance :Cells 4 SProc.cells:=⟨fun _=>rfl,by decide,fun _=>rfl⟩
structure TurnOk (H:Hp)(t:STurn):Prop where
 a:RdSl H 4 SArm.cells (.slice t.ap.1 t.arms.length t.ap.2) t.arms
 z:∀a∈t.arms,a.cn.length≤4294960000
theorem TurnOk.le {H H':Hp}{t:STurn}(h:TurnOk H t)(hl:H.le H'):TurnOk H' t:=⟨h.a.le hl,h.z⟩
structure LocalOk (H:Hp)(l:SLocal):Prop where
 t:RdSl H 3 STurn.cells (.slice l.tp.1 l.turns.length l.tp.2) l.turns
 ts:∀t∈l.turns,TurnOk H t
theorem LocalOk.le {H H':Hp}{l:SLocal}(h:LocalOk H l)(hl:H.le H'):LocalOk H' l:=⟨h.t.le hl,fun t ht=>(h.ts t ht).le hl⟩
structure PointOk (H:Hp)(p:SPoint):Prop where
 a:RdSl H 4 SArm.cells (.slice p.ap.1 p.arms.length p.ap.2) p.arms
 z:∀a∈p.arms,a.cn.length≤4294960000
theorem PointOk.le {H H':Hp}{p:SPoint}(h:PointOk H p)(hl:H.le H'):PointOk H' p:=⟨h.a.le hl,h.z⟩
structure ProtoOk (H:Hp)(p:SProto):Prop where
 r:RdSl H 1 Str.cells (.slice p.rp.1 p.roles.length p.rp.2) p.roles
 pt:RdSl H 3 SPoint.cells (.slice p.pp.1 p.points.length p.pp.2) p.points
 ps:∀x∈p.points,PointOk H x
theorem ProtoOk.le {H H':Hp}{p:SProto}(h:ProtoOk H p)(hl:H.le H'):ProtoOk H' p:=⟨h.r.le hl,h.pt.le hl,fun x hx=>(h.ps x hx).le hl⟩
structure StepOk (H:Hp)(s:SStep):Prop where
 a:RdSl H 1 I64.cells (.slice s.ap.1 s.args.length s.ap.2) s.args
 c:RdSl H 3 SCast.cells (.slice s.cp.1 s.casts.length s.cp.2) s.casts
 cs:∀c∈s.casts,RdSl H 1 I64.cells (.slice c.ap.1 c.args.length c.ap.2) c.args
 w:RdSl H 3 SWay.cells (.slice s.wp.1 s.ways.length s.wp.2) s.ways
theorem StepOk.le {H H':Hp}{s:SStep}(h:StepOk H s)(hl:H.le H'):StepOk H' s:=⟨h.a.le hl,h.c.le hl,fun c hc=>(h.cs c hc).le hl,h.w.le hl⟩
structure ProcOk (H:Hp)(q:SProc):Prop where
 pa:RdSl H 3 SParam.cells (.slice q.pp.1 q.params.length q.pp.2) q.params
 pz:∀x∈q.params,x.cn.length≤4294960000
 pl:q.params.length≤2000000
 t:RdSl H 6 Term.cells (.slice q.tp.1 q.terms.length q.tp.2) q.terms
 tn:∀t∈q.terms,t.name.length≤9223372036854775807
 s:RdSl H 10 SStep.cells (.slice q.sp.1 q.steps.length q.sp.2) q.steps
 ss:∀s∈q.steps,StepOk H s
theorem ProcOk.le {H H':Hp}{q:SProc}(h:ProcOk H q)(hl:H.le H'):ProcOk H' q:=⟨h.pa.le hl,h.pz,h.pl,h.t.le hl,h.tn,h.s.le hl,fun s hs=>(h.ss s hs).le hl⟩
structure ProgOk (H:Hp)(P:SProg):Prop where
 r:RdSl H 3 SProto.cells (.slice P.rp.1 P.protos.length P.rp.2) P.protos
 rs:∀p∈P.protos,ProtoOk H p
 l:RdSl H 2 SLocal.cells (.slice P.lp.1 P.locals.length P.lp.2) P.locals
 ls:∀l∈P.locals,LocalOk H l
 q:RdSl H 4 SProc.cells (.slice P.qp.1 P.procs.length P.qp.2) P.procs
 qs:∀q∈P.procs,ProcOk H q
theorem ProgOk.le {H H':Hp}{P:SProg}(h:ProgOk H P)(hl:H.le H'):ProgOk H' P:=⟨h.r.le hl,fun p hp=>(h.rs p hp).le hl,h.l.le hl,fun l hh=>(h.ls l hh).le hl,h.q.le hl,fun q hq=>(h.qs q hq).le hl⟩
def cd (k:Int):Bool:=decide (k=1)||(decide (k=2)||(decide (k=4)||(decide (k=7)||(decide (k=8)||decide (k=9)))))
def aG (s:SStep):List Int:=if cd s.kind=true then [s.next] else s.ways.map (·.next)
def a8 (s:SStep):List Int:=((if s.kind=1∨s.kind=2∨s.kind=3∨(s.kind=4∧s.term≠ -1) then [s.term] else [])++s.args)++s.casts.flatMap (·.args)
def bz (s:SStep):List Str:=if s.kind=1∨s.kind=8 then [s.name] else if s.kind=5 then s.ways.map (·.name) else List.replicate (aG s).length []
def dQ (w:SWay):Bool:=(decide (w.label=[])&& !decide (w.name=[]))||((!decide (w.label=[])&& !au w.label)||(!decide (w.name=[])&& !au w.name))
def w00:SWay:=⟨[],[],0⟩
def sV (w:SWay):Bool:=decide (w.label=[])&&decide (w.name=[])
def eI (s:SStep):Bool:=
 if s.kind=3 then decide ((s.ways.length:Int)=2)&&(sV (s.ways[0]?.getD w00)&&sV (s.ways[1]?.getD w00))
 else decide ((1:Int)≤s.ways.length)&&(decide ((s.ways.length:Int)≤7)&&(s.ways.all (fun w=>!dQ w)&&de (s.ways.map (·.label))))
def dD (s:SStep):SStep:=
 {kind:=s.kind
  name:=if s.kind=1∨s.kind=4∨s.kind=5∨s.kind=8∨s.kind=9 then [] else s.name
  peer:=if s.kind=4∨s.kind=5∨s.kind=8 then [] else s.peer
  label:=if s.kind=4∨s.kind=8 then [] else s.label
  proc:=if s.kind=6∨s.kind=7 then [] else s.proc
  term:=if s.kind=1∨s.kind=2∨s.kind=3∨s.kind=4 then -1 else s.term
  args:=if s.kind=6∨s.kind=7 then [] else s.args
  ap:=if s.kind=6∨s.kind=7 then(none,0) else s.ap
  casts:=if s.kind=8 then [] else s.casts
  cp:=if s.kind=8 then(none,0) else s.cp
  ways:=if s.kind=3∨s.kind=5 then [] else s.ways
  wp:=if s.kind=3∨s.kind=5 then(none,0) else s.wp
  next:=if cd s.kind=true then -1 else s.next}
def gA (x:SStep):Bool:=!decide (x.name=[])||(!decide (x.peer=[])||(!decide (x.label=[])||(!decide (x.proc=[])||(!decide (x.term= -1)||(decide (0<(x.args.length:Int))||(decide (0<(x.casts.length:Int))||(decide (0<(x.ways.length:Int))|| !decide (x.next= -1))))))))
def eU (c:SCast):Bool:=!au c.role||(!au c.proc||decide (6<(c.args.length:Int)))
def dg (s:SStep):Bool:=
 if s.kind<0∨10<s.kind then false
 else if gA (dD s)=true then false
 else if s.kind=1∨s.kind=9 then au s.name
 else if s.kind=3 then eI s
 else if s.kind=4 then au s.name&&(au s.peer&&au s.label)
 else if s.kind=5 then au s.name&&(au s.peer&&eI s)
 else if s.kind=6∨s.kind=7 then au s.proc&&decide ((s.args.length:Int)≤6)
 else if s.kind=8 then au s.name&&(au s.label&&(au s.peer&&(decide ((1:Int)≤s.casts.length)&&(decide ((s.casts.length:Int)≤4)&&s.casts.all (fun c=>!eU c)))))
 else true
def dL (l:List Term):Nat→Int→List Int
 | 0,_=>[]
 | f+1,at_=>if at_<0 then [] else match l[at_.toNat]? with
  | none=>[]
  | some t=>dL l f t.l++(dL l f t.r++[at_])
theorem fB {l:List Term}{f:Nat}{at_:Int}(h:at_<0):dL l f at_=[]:=by
 cases f with
 | zero=>rfl
 | succ f=>unfold dL;rw [if_pos h]
theorem gp {l:List Term}{f:Nat}{at_:Int}{t:Term}(h:¬at_<0)(hx:l[at_.toNat]? =some t):dL l (f+1) at_=dL l f t.l++(dL l f t.r++[at_]):=by
 rw [dL,if_neg h,hx]
def bi (l:List Term)(root:Int):List Int:=dL l (root.toNat+1) root
def dm (l:List SProc)(s:Str):Int:=cl (l.map (·.name)) s
structure SFault where
 e:Int
 part:Int
 at_:Int
def SFault.cells (f:SFault):List Value:=[.int .i64 f.e,.int .i64 f.part,.int .i64 f.at_]
def okF:SFault:=⟨0,0,0⟩
end Go.Sx
namespace Go.Sx
open Go
theorem Ak {b:Bool}(h:(!b)=true):b=false:=by simpa using h
theorem EK {b:Bool}(h:(!b)=false):b=true:=by simpa using h
theorem sL (l:List SProc)(s:Str):dm l s= -1∨(0≤dm l s∧dm l s<l.length):=by
 have:=jG (l.map (·.name)) s
 rwa [List.length_map] at this
def q00:SProc:=⟨[],[],(none,0),[],(none,0),[],(none,0)⟩
def nc (l:List SProc)(k:Int):SProc:=l[k.toNat]?.getD q00
theorem iS {α:Type}{s:List α}{i:Int}{e:α}(h:s[i.toNat]? =some e):i<s.length:=by
 have:=(List.getElem?_eq_some_iff.1 h).1;omega
theorem RdSl.cast {α:Type}{H:Hp}{m:Nat}{enc:α→List Value}{v:Value}{l l':List α}(h:RdSl H m enc v l)(e:l=l'):RdSl H m enc v l':=e▸h
theorem iR {α β:Type}{f:α→β}{l:List α}{k:Nat}{x:α}(h:l[k]? =some x):(l.map f)[k]? =some (f x):=by rw [List.getElem?_map,h];rfl
theorem cg {α:Type}{p:α→Bool}{l:List α}{k:Int}{x:α}(k0:0≤k)(hx:l[k.toNat]? =some x)(hp:p x=true){b:Bool}(h:b=(l.drop k.toNat).all p):b=(l.drop (k+1).toNat).all p:=by
 rw [h,bJ hx,List.all_cons,hp,Bool.true_and,show(k+1).toNat=k.toNat+1 by omega]
theorem du {α:Type}{p:α→Bool}{l:List α}{k:Int}{x:α}(k0:0≤k)(hx:l[k.toNat]? =some x)(hp:p x=false){b:Bool}(h:b=(l.drop k.toNat).all p):b=false:=by
 rw [h,bJ hx,List.all_cons,hp,Bool.false_and]
theorem cU {α:Type}{p:α→Bool}{l:List α}{k:Int}(k0:0≤k)(hk:¬k<l.length){b:Bool}(h:b=(l.drop k.toNat).all p):b=true:=by
 rw [h,List.drop_of_length_le om];rfl
theorem OwnSl.cast {α:Type}{m:Nat}{enc:α→List Value}{v:Value}{l l':List α}{ob:aj}(h:OwnSl m enc v l ob)(e:l=l'):OwnSl m enc v l' ob:=e▸h
def jT (s:SStep):List Int:=(if s.kind=1∨s.kind=2∨s.kind=3∨(s.kind=4∧s.term≠ -1) then [s.term] else [])++s.args
theorem wo {s:SStep}(h:s.kind=1∨s.kind=2∨s.kind=3):jT s=[s.term]++s.args:=by
 unfold jT;rcases h with e | e | e<;>simp [e]
theorem wq {s:SStep}(h:s.kind=4)(h2:¬s.term= -1):jT s=[s.term]++s.args:=by unfold jT;simp [h,h2]
theorem kK {s:SStep}(h:¬s.kind=1∧¬s.kind=2∧¬s.kind=3)(h2:¬s.kind=4∨s.term= -1):jT s=s.args:=by
 unfold jT;obtain⟨a,b,c⟩:=h
 rcases h2 with h2 | h2<;>simp [a,b,c,h2]
theorem nJ (s:SStep):jT s++s.casts.flatMap (·.args)=a8 s:=rfl
theorem nN (s:SStep):(jT s).length≤1+s.args.length:=by unfold jT;split<;>simp<;>omega
theorem Cr (s:SStep)(h:s.ways.length≤1000):(aG s).length≤1000:=by unfold aG;split<;>simp<;>omega
theorem fH {s:SStep}(h:dg s=true):s.ways.length≤7∧(s.args.length≤6∧s.casts.length≤4∧∀c∈s.casts,c.args.length≤6):=by
 unfold dg at h
 split at h; · cases h
 split at h; · cases h
 rename_i hk hb
 have hb:gA (dD s)=false:=by simpa using hb
 simp only [gA,Bool.or_eq_false_iff,decide_eq_false_iff_not] at hb
 obtain⟨-, -, -, -, -,ha,hc,hw, -⟩:=hb
 have hw0:¬(s.kind=3∨s.kind=5)→s.ways.length≤7:=fun hn=>by
  simp only [dD,if_neg hn] at hw;omega
 have ha0:¬(s.kind=6∨s.kind=7)→s.args.length≤6:=fun hn=>by
  simp only [dD,if_neg hn] at ha;omega
 have hc0:¬s.kind=8→s.casts.length=0:=fun hn=>by
  simp only [dD,if_neg hn] at hc;omega
 have hcn:¬s.kind=8→s.casts.length≤4∧∀c∈s.casts,c.args.length≤6:=fun hn=>by
  have h0:=List.length_eq_zero_iff.1 (hc0 hn)
  rw [h0];exact⟨by simp,fun c hc=>by cases hc⟩
 have wy:eI s=true→s.ways.length≤7:=fun hy=>by
  unfold eI at hy
  split at hy
  ·simp only [Bool.and_eq_true,decide_eq_true_eq] at hy;omega
  ·simp only [Bool.and_eq_true,decide_eq_true_eq] at hy;omega
 split at h
 ·rename_i h1
  exact⟨hw0 om,ha0 om,hcn om⟩
 split at h
 ·rename_i h1 h3
  exact⟨wy h,ha0 om,hcn om⟩
 split at h
 ·exact⟨hw0 om,ha0 om,hcn om⟩
 split at h
 ·simp only [Bool.and_eq_true] at h
  exact⟨wy h.2.2,ha0 om,hcn om⟩
 split at h
 ·simp only [Bool.and_eq_true,decide_eq_true_eq] at h
  exact⟨hw0 om,by omega,hcn om⟩
 split at h
 ·rename_i h8
  simp only [Bool.and_eq_true,decide_eq_true_eq] at h
  obtain⟨-, -, -, -,h4,h5⟩:=h
  refine⟨hw0 om,ha0 om,by omega,fun c hc=>?_⟩
  have h6:=List.all_eq_true.1 h5 c hc
  simp only [eU,Bool.not_eq_true',Bool.or_eq_false_iff,decide_eq_false_iff_not] at h6
  omega
 ·exact⟨hw0 om,ha0 om,hcn om⟩
theorem vI {α:Type}{enc:α→List Value}{x:α}{u:Value}(he:enc x=[u]):∀n:Nat,(List.replicate n x).flatMap enc=ic n [u]
 | 0=>rfl
 | n+1=>by rw [List.replicate_succ,List.flatMap_cons,vI he n,he];rfl
theorem Ej {l:List Str}{b n:Nat}(e:l=List.replicate n ([]:Str))(hn:n≤1000):OwnSl 1 Str.cells (.slice (some ⟨b,0,none⟩) n n) l [(b,ic n [gs []])]:=by
 subst e
 exact OwnSl.blk (enc:=Str.cells) (List.replicate n ([]:Str)) sq (vI (enc:=Str.cells) (x:=([]:Str)) rfl n).symm om
section
variable {s:SStep}{k:Int}{x w0 w1:SWay}
theorem ways_3 {b:Bool}(hk:s.kind=3)(h0:s.ways[(0:Int).toNat]? =some w0)(h1:s.ways[(1:Int).toNat]? =some w1)(h:b=(decide ((s.ways.length:Int)=2)&&(sV w0&&sV w1))):b=eI s:=by
 unfold eI
 rw [if_pos hk,h]
 rw [show(0:Int).toNat=0 from rfl] at h0
 rw [show(1:Int).toNat=1 from rfl] at h1
 rw [h0,h1];rfl
theorem ways_3n (hk:s.kind=3)(h:decide ((s.ways.length:Int)=2)=false):false=eI s:=by
 unfold eI;rw [if_pos hk,h];rfl
theorem ways_n (hk:¬s.kind=3)(h:¬((1:Int)≤s.ways.length∧(s.ways.length:Int)≤7)):eI s=false:=by
 unfold eI
 rw [if_neg hk]
 by_cases h1:(1:Int)≤s.ways.length
 ·rw [decide_eq_true h1,decide_eq_false (fun h2=>h ⟨h1,h2⟩)];rfl
 ·rw [decide_eq_false h1];rfl
theorem DH (hk:¬s.kind=3)(k0:0≤k)(hx:s.ways[k.toNat]? =some x)(hb:dQ x=true)(h:s.ways.all (fun w=>!dQ w)=(s.ways.drop k.toNat).all (fun w=>!dQ w)):eI s=false:=by
 unfold eI
 rw [if_neg hk,du (p:=fun w=>!dQ w) k0 hx (by simp [hb]) h]
 simp
theorem DG (hk:¬s.kind=3)(hn:(1:Int)≤s.ways.length∧(s.ways.length:Int)≤7)(k0:0≤k)(he:¬k<s.ways.length)(h:s.ways.all (fun w=>!dQ w)=(s.ways.drop k.toNat).all (fun w=>!dQ w)):eI s=de (s.ways.map (·.label)):=by
 unfold eI
 rw [if_neg hk,cU (p:=fun w=>!dQ w) k0 he h,decide_eq_true hn.1,decide_eq_true hn.2]
 simp
theorem bare_rd {H:Hp}(hs:StepOk H s):StepOk H (dD s):=by
 unfold dD
 constructor<;>simp only
 ·by_cases h:s.kind=6∨s.kind=7
  ·simp only [if_pos h];exact RdSl.nil
  ·simp only [if_neg h];exact hs.a
 ·by_cases h:s.kind=8
  ·simp only [if_pos h];exact RdSl.nil
  ·simp only [if_neg h];exact hs.c
 ·by_cases h:s.kind=8
  ·simp only [if_pos h];intro c hc;cases hc
  ·simp only [if_neg h];exact hs.cs
 ·by_cases h:s.kind=3∨s.kind=5
  ·simp only [if_pos h];exact RdSl.nil
  ·simp only [if_neg h];exact hs.w
end
end Go.Sx
namespace Go.Sx
open Go
theorem Cx {l:List Term}:∀(f:Nat) (at_ deep:Int) (met:List Bool),0≤at_→1≤deep→(cP l f at_ deep met).1=true→(dL l f at_).length+1≤2 ^ (26 - deep.toNat):=by
 intro f
 induction f with
 | zero=>intro at_ deep met _ _ h;simp [cP] at h
 | succ f ih=>
  intro at_ deep met h0 hd h
  cases hx:l[at_.toNat]? with
  | none=>simp [cP,hx] at h
  | some t=>
   by_cases hg:met[at_.toNat]?.getD false=true∨24<deep∨ak t.kind<0∨bF t=false
   ·rw [su hx hg] at h;cases h
   ·have hgg:zI deep met at_ t:=by
     refine⟨?_,?_,?_,?_⟩
     ·cases hb:met[at_.toNat]?.getD false with
      | false=>rfl
      | true=>exact absurd (.inl hb) hg
     ·intro h1;exact hg (.inr (.inl h1))
     ·intro h1;exact hg (.inr (.inr (.inl h1)))
     ·cases hb:bF t with
      | true=>rfl
      | false=>exact absurd (.inr (.inr (.inr hb))) hg
    generalize h00:opW (ak t.kind) at_ (fun to m=>cP l f to (deep+1) m) 0 t.l (met.set at_.toNat true)=r0
    obtain⟨b0,m0⟩:=r0
    cases b0 with
    | false=>rw [sx hx hgg h00] at h;cases h
    | true=>
     generalize h11:opW (ak t.kind) at_ (fun to m=>cP l f to (deep+1) m) 1 t.r m0=r1
     rw [ku hx hgg h00 h11] at h
     have h24:=hgg.2.1
     have h1:0<2 ^ (26 - (deep+1).toNat):=Nat.two_pow_pos _
     have key:∀(i to:Int) (m m':List Bool),opW (ak t.kind) at_ (fun to m=>cP l f to (deep+1) m) i to m=(true,m')→(dL l f to).length+1≤2 ^ (26 - (deep+1).toNat):=by
      intro i to m m' he
      by_cases hi:i<ak t.kind
      ·by_cases hb:to<0∨at_≤to
       ·rw [p9 om hb] at he;cases he
       ·rw [p8 om om om] at he
        exact ih to (deep+1) m om om (by rw [he])
      ·rw [wH om] at he
       have:to= -1:=by simpa using congrArg Prod.fst he
       rw [fB om];simp;omega
     have k0:=key 0 t.l _ _ h00
     have k1:=key 1 t.r _ r1.2 (by rw [h11];cases r1;simp at h;simp [h])
     rw [gp om hx]
     have hp:2 ^ (26 - deep.toNat)=2 * 2 ^ (26 - (deep+1).toNat):=by
      rw [show 26 - deep.toNat=(26 - (deep+1).toNat)+1 by omega,Nat.pow_succ];omega
     simp only [List.length_append,List.length_cons,List.length_nil]
     omega
theorem or {l:List Term}{root:Int}(h:cF l root=true):(dL l (root.toNat+1) root).length≤33554432:=by
 unfold cF at h
 split at h
 ·cases h
 ·split at h
  ·cases h
  ·split at h
   ·cases h
   ·have:=Cx _ _ _ _ om dq h
    simp at this
    omega
theorem gL {l:List Term}:∀(f:Nat) (at_:Int),∀k∈dL l f at_,0≤k∧k<l.length
 | 0,at_,k,h=>by cases h
 | f+1,at_,k,h=>by
  rw [dL] at h
  split at h
  ·cases h
  ·split at h
   ·cases h
   ·rename_i hn t hx
    rcases List.mem_append.1 h with h | h
    ·exact gL f _ k h
    ·rcases List.mem_append.1 h with h | h
     ·exact gL f _ k h
     ·simp at h;subst h
      have:=(List.getElem?_eq_some_iff.1 hx).1
      omega
def ct (l:List SProc)(name:Str)(n:Int):Bool:=decide (0≤dm l name)&&decide (((nc l (dm l name)).params.length:Int)=n)
def cz (s:SStep):List Str:=s.peer::s.casts.map (·.role)
def wF (x:SProto)(s:SStep):Bool:=decide (((cz s).length:Int)=x.roles.length)&&(de (cz s)&&(cz s).all (fun r=>cj x.roles r))
def eG (s:SStep):List SProto→Bool
 | []=>false
 | x::r=>if x.name=s.label then wF x s else eG s r
def dk (P:SProg)(s:SStep):Bool:=eG s P.protos
def dr (ts:List Term)(s:SStep):List Str:=(a8 s).flatMap (j7 ts)++(if s.kind=4∨s.kind=5∨s.kind=9 then [s.name] else [])
def d5 (P:SProg)(ts:List Term)(s:SStep)(bound:List Str):Int:=
 if(dr ts s).all (fun n=>cj bound n)=false then 1505
 else if(bz s).all (fun n=>!(!decide (n=[])&&cj bound n))=false then 1506
 else if(!decide (s.proc=[])&& !ct P.procs s.proc s.args.length)=true then 1507
 else if s.casts.all (fun c=>ct P.procs c.proc (c.args.length+1))=false then 1507
 else if(decide (s.kind=8)&& !dk P s)=true then 1508 else 0
def cD (ck:Int)(cn:Str):Bool:=
 if ck<0∨5<ck then false
 else if ck≠5 then decide (cn=[])
 else au (lR cn).1&&(!(lR cn).2.2||au (lR cn).2.1)
def fa (n:Int)(a:SArm):Bool:=au a.label&&(cD a.ck a.cn&&(!decide (a.next<0)&& !decide (n≤a.next)))
def dv (l:List SArm)(n:Int):Bool:=(decide (1≤l.length)&&decide (l.length≤6))&&(l.all (fa n)&&de (l.map (·.label)))
def ek (n:Int)(t:STurn):Bool:=
 if t.kind=0 then decide (t.peer=[])&& !decide (0<(t.arms.length:Int))
 else if t.kind=1∨t.kind=2 then au t.peer&&dv t.arms n
 else false
def cX (l:SLocal):Bool:=(decide (1≤l.turns.length)&&decide (l.turns.length≤40))&&l.turns.all (ek l.turns.length)
def dU (x:SPoint):STurn:=if ¬x.frm=[]∨¬x.to=[]∨0<x.arms.length then⟨1,x.to,x.arms,x.ap⟩ else⟨0,[],x.arms,x.ap⟩
def dy (x:SPoint):Bool:=decide (x.frm=[])&&(decide (x.to=[])&&decide ((x.arms.length:Int)=0))
def dH (roles:List Str)(x:SPoint):Bool:=cj roles x.frm&&(cj roles x.to&& !decide (x.frm=x.to))
def eA (roles:List Str)(x:SPoint):Bool:=dy x||dH roles x
def cR (p:SProto):Bool:=au p.name&&(decide ((2:Int)≤p.roles.length)&&(decide ((p.roles.length:Int)≤5)&&(de p.roles&& !decide ((24:Int)<p.points.length))))
def cW (p:SProto):Bool:=cR p&&(p.roles.all au&&(p.points.all (eA p.roles)&&cX ⟨[],p.points.map dU,(none,0)⟩))
def bP (q:SProc):Bool:=au q.name&&(decide ((q.params.length:Int)≤6)&&(decide ((1:Int)≤q.steps.length)&&(decide ((q.steps.length:Int)≤80)&&decide ((q.terms.length:Int)≤160))))
def dJ (x:SParam):Bool:=au x.name&&cD x.ck x.cn
def eX (l:List SProc)(i:Int)(q:SProc):SFault:=
 if(bP q&&q.params.all dJ)=false then⟨1500,i, -1⟩
 else if(decide (dm l q.name<i)|| !de (q.params.map (·.name)))=true then⟨1501,i, -1⟩ else okF
def aL (l:List Int)(i:Int):Int:=l[i.toNat]?.getD 0
def f9 (l:List Int)(i:Int):List Int:=l.set i.toNat (IntKind.i64.wrap (aL l i+1))
def bU (n at_:Int):List Int→List Int→List Int→Option (List Int×List Int)
 | [],c,d=>some (c,d)
 | t::r,c,d=>if t≤at_∨n≤t then none else bU n at_ r (f9 c t) (d.set t.toNat (aL d at_))
def eV:List Int→List Bool→Option (List Bool)
 | [],u=>some u
 | k::r,u=>if u[k.toNat]?.getD false=true then none else eV r (u.set k.toNat true)
def bV (ts:List Term):List Int→List Bool→Option (List Bool)
 | [],u=>some u
 | t::r,u=>if cF ts t=false then none else match eV (bi ts t) u with
  | none=>none
  | some u2=>bV ts r u2
def dn (s:SStep)(at_:Int)(d:List Int):List Int:=if s.kind=3∨s.kind=5 then f9 d at_ else d
def bN (q:SProc)(i:Int):List SStep→Int→List Int→List Int→List Bool→SFault
 | [],_,_,_,_=>okF
 | s::r,at_,c,d,u=>
  if dg s=false then⟨1500,i,at_⟩
  else if 0<at_∧¬aL c at_=1 then⟨1502,i,at_⟩
  else match bU q.steps.length at_ (aG s) c (dn s at_ d) with
   | none=>⟨1502,i,at_⟩
   | some (c2,d2)=>
    if 24<aL d2 at_ then⟨1502,i,at_⟩
    else match bV q.terms (a8 s) u with
     | none=>⟨1503,i,at_⟩
     | some u2=>bN q i r (at_+1) c2 d2 u2
def eZ (i:Int)(q:SProc):SFault:=bN q i q.steps 0 (List.replicate q.steps.length 0) (List.replicate q.steps.length 0) (List.replicate q.terms.length false)
def jd (b:List (List Str))(at_:Int)(t:Int)(m:Str):List (List Str):=b.set t.toNat ((b[at_.toNat]?.getD [])++(if m=[] then [] else [m]))
def dP (at_:Int):List Int→List Str→List (List Str)→List (List Str)
 | [],_,b=>b
 | t::r,ms,b=>dP at_ r (ms.drop 1) (jd b at_ t (ms.headD []))
def dO (P:SProg)(q:SProc)(i:Int):List SStep→Int→List (List Str)→SFault
 | [],_,_=>okF
 | s::r,at_,b=>
  let e:=d5 P q.terms s (b[at_.toNat]?.getD [])
  if e≠0 then⟨e,i,at_⟩ else dO P q i r (at_+1) (dP at_ (aG s) (bz s) b)
def kF (q:SProc):List (List Str):=(List.replicate q.steps.length ([]:List Str)).set 0 (q.params.map (·.name))
def gy (P:SProg)(i:Int)(q:SProc):SFault:=dO P q i q.steps 0 (kF q)
def cJ (f:Int→SProc→SFault):List SProc→Int→SFault
 | [],_=>okF
 | q::r,i=>if(f i q).e≠0 then f i q else cJ f r (i+1)
def bh (l:List SProc)(i:Int)(q:SProc):SFault:=if(eX l i q).e≠0 then eX l i q else eZ i q
def iv (P:SProg):SFault:=
 if 6<(P.protos.length:Int)∨12<(P.locals.length:Int)∨24<(P.procs.length:Int) then⟨1500, -1, -1⟩
 else if P.protos.all cW=false then⟨1500, -1, -1⟩
 else if P.locals.all (fun l=>cX l&&au l.name)=false then⟨1500, -1, -1⟩
 else okF
def cy:Str:=[109,97,105,110]
def iJ (l:List SProc):SFault:=if dm l cy<0∨0<((nc l (dm l cy)).params.length:Int) then⟨1504, -1, -1⟩ else okF
def bZ (P:SProg):SFault:=
 if(iv P).e≠0 then iv P
 else if(cJ (bh P.procs) P.procs 0).e≠0 then cJ (bh P.procs) P.procs 0
 else if(iJ P.procs).e≠0 then iJ P.procs
 else cJ (gy P) P.procs 0
end Go.Sx
namespace Go.Sx
open Go
section
variable {P:SProg}{ts:List Term}{s:SStep}{bound:List Str}
theorem step_1 (h:(dr ts s).all (fun n=>cj bound n)=false):d5 P ts s bound=1505:=by unfold d5;rw [if_pos h]
theorem step_2 (h:(dr ts s).all (fun n=>cj bound n)=true)(h2:(bz s).all (fun n=>!(!decide (n=[])&&cj bound n))=false):d5 P ts s bound=1506:=by
 unfold d5;rw [if_neg (by rw [h];decide),if_pos h2]
theorem step_3 (h:(dr ts s).all (fun n=>cj bound n)=true)(h2:(bz s).all (fun n=>!(!decide (n=[])&&cj bound n))=true)(h3:(!decide (s.proc=[])&& !ct P.procs s.proc s.args.length)=true):d5 P ts s bound=1507:=by
 unfold d5;rw [if_neg (by rw [h];decide),if_neg (by rw [h2];decide),if_pos h3]
theorem step_4 (h:(dr ts s).all (fun n=>cj bound n)=true)(h2:(bz s).all (fun n=>!(!decide (n=[])&&cj bound n))=true)(h3:(!decide (s.proc=[])&& !ct P.procs s.proc s.args.length)=false)
  (h4:s.casts.all (fun c=>ct P.procs c.proc (c.args.length+1))=false):d5 P ts s bound=1507:=by
 unfold d5;rw [if_neg (by rw [h];decide),if_neg (by rw [h2];decide),if_neg (by rw [h3];decide),if_pos h4]
theorem step_5 (h:(dr ts s).all (fun n=>cj bound n)=true)(h2:(bz s).all (fun n=>!(!decide (n=[])&&cj bound n))=true)(h3:(!decide (s.proc=[])&& !ct P.procs s.proc s.args.length)=false)
  (h4:s.casts.all (fun c=>ct P.procs c.proc (c.args.length+1))=true) (h5:(decide (s.kind=8)&& !dk P s)=true):d5 P ts s bound=1508:=by
 unfold d5;rw [if_neg (by rw [h];decide),if_neg (by rw [h2];decide),if_neg (by rw [h3];decide),if_neg (by rw [h4];decide),if_pos h5]
theorem DV (h:(dr ts s).all (fun n=>cj bound n)=true)(h2:(bz s).all (fun n=>!(!decide (n=[])&&cj bound n))=true)(h3:(!decide (s.proc=[])&& !ct P.procs s.proc s.args.length)=false)
  (h4:s.casts.all (fun c=>ct P.procs c.proc (c.args.length+1))=true) (h5:(decide (s.kind=8)&& !dk P s)=false):d5 P ts s bound=0:=by
 unfold d5;rw [if_neg (by rw [h];decide),if_neg (by rw [h2];decide),if_neg (by rw [h3];decide),if_neg (by rw [h4];decide),if_neg (by rw [h5];decide)]
theorem B3 (h:s.args.length≤6∧s.casts.length≤4∧∀c∈s.casts,c.args.length≤6):(a8 s).length≤100:=by
 have h1:=nN s
 have h2:∀l:List SCast,(∀c∈l,c.args.length≤6)→(l.flatMap (·.args)).length≤6 * l.length:=by
  intro l
  induction l with
  | nil=>simp
  | cons c l ih=>
   intro h
   have:=ih (fun x hx=>h x (by simp [hx]))
   have:=h c sq
   simp only [List.flatMap_cons,List.length_append,List.length_cons];omega
 have h3:=h2 s.casts h.2.2
 rw [← nJ,List.length_append]
 omega
theorem Bh:∀(r:List Int),(r.flatMap (j7 ts)).length≤16777216 * r.length
 | []=>by simp
 | t::r=>by
  have:=Bh r
  have:=uM ts t
  simp only [List.flatMap_cons,List.length_append,List.length_cons];omega
theorem As {l:List SProc}{i:Int}{q:SProc}(h:(bP q&&q.params.all dJ)=false):eX l i q=⟨1500,i, -1⟩:=by unfold eX;rw [if_pos h]
theorem Ar {l:List SProc}{i:Int}{q:SProc}(h:(bP q&&q.params.all dJ)=true)(h2:(decide (dm l q.name<i)|| !de (q.params.map (·.name)))=true):eX l i q=⟨1501,i, -1⟩:=by
 unfold eX;rw [if_neg (by rw [h];decide),if_pos h2]
theorem sH {l:List SProc}{i:Int}{q:SProc}(h:(bP q&&q.params.all dJ)=true)(h2:(decide (dm l q.name<i)|| !de (q.params.map (·.name)))=false):eX l i q=okF:=by
 unfold eX;rw [if_neg (by rw [h];decide),if_neg (by rw [h2];decide)]
end
theorem Aj {k:Int}{l:List SArm}{x:SArm}(k0:0≤k)(hx:l[k.toNat]? =some x)(h:((l.take k.toNat).map (·.label)).Nodup)(hn:x.label∉(l.take k.toNat).map (·.label)):((l.take (k+1).toNat).map (·.label)).Nodup:=by
 rw [bQ k0 hx,List.nodup_append]
 refine⟨h,by simp,?_⟩
 intro a ha b hb e
 simp at hb
 subst hb;subst e
 exact hn ha
section
variable {l:List SArm}{n k:Int}{x:SArm}
theorem zy (h:¬(1≤l.length∧l.length≤6)):false=dv l n:=by
 unfold dv
 by_cases h1:1≤l.length
 ·rw [decide_eq_true h1,decide_eq_false (fun h2=>h ⟨h1,h2⟩)];rfl
 ·rw [decide_eq_false h1];rfl
theorem Fo (k0:0≤k)(hx:l[k.toNat]? =some x)(h:fa n x=false∨x.label∈(l.take k.toNat).map (·.label)):false=dv l n:=by
 unfold dv
 rcases h with h | h
 ·rw [show l.all (fa n)=false from ?_]; · simp
  rw [List.all_eq_false]
  exact⟨x,List.mem_of_getElem? hx,by simp [h]⟩
 ·rw [show de (l.map (·.label))=false from ?_]; · simp
  unfold de
  refine decide_eq_false (fun hn=>?_)
  have e:l.map (·.label)=(l.take k.toNat).map (·.label)++(l.drop k.toNat).map (·.label):=by rw [← List.map_append,List.take_append_drop]
  rw [e,List.nodup_append] at hn
  rw [bJ hx,List.map_cons] at hn
  exact hn.2.2 _ h _ (List.mem_cons_self ..) rfl
theorem Fm (hl:1≤l.length∧l.length≤6)(k0:0≤k)(hk:¬k<l.length)(h:(l.take k.toNat).all (fa n)=true)(hn:((l.take k.toNat).map (·.label)).Nodup):true=dv l n:=by
 rw [bC hk k0] at h hn
 unfold dv de
 rw [decide_eq_true hl.1,decide_eq_true hl.2,h,decide_eq_true hn];rfl
end
section
variable {l:SLocal}{k:Int}{x:STurn}
theorem vB (h:¬(1≤l.turns.length∧l.turns.length≤40)):false=cX l:=by
 unfold cX
 by_cases h1:1≤l.turns.length
 ·rw [decide_eq_true h1,decide_eq_false (fun h2=>h ⟨h1,h2⟩)];rfl
 ·rw [decide_eq_false h1];rfl
theorem jh (k0:0≤k)(hx:l.turns[k.toNat]? =some x)(hb:ek l.turns.length x=false)(h:l.turns.all (ek l.turns.length)=(l.turns.drop k.toNat).all (ek l.turns.length)):false=cX l:=by
 unfold cX;rw [du k0 hx hb h];simp
theorem CA (hl:1≤l.turns.length∧l.turns.length≤40)(k0:0≤k)(hk:¬k<l.turns.length)(h:l.turns.all (ek l.turns.length)=(l.turns.drop k.toNat).all (ek l.turns.length)):true=cX l:=by
 unfold cX;rw [cU k0 hk h,decide_eq_true hl.1,decide_eq_true hl.2];rfl
end
theorem tL (ck:Int)(cn:Str)(p q:Sp):cX ⟨[],[⟨1,[120],[⟨[120],ck,cn,0⟩],p⟩],q⟩=cD ck cn:=by
 simp [cX,ek,dv,fa,de,show au [120]=true by decide]
theorem BE {x:SPoint}(h:¬x.frm=[]∨¬x.to=[]∨0<x.arms.length):dU x=⟨1,x.to,x.arms,x.ap⟩:=by unfold dU;rw [if_pos h]
theorem BF {x:SPoint}(h:¬(¬x.frm=[]∨¬x.to=[]∨0<x.arms.length)):dU x=⟨0,[],x.arms,x.ap⟩:=by unfold dU;rw [if_neg h]
theorem zm {H:Hp}{p:SProto}(hP:ProtoOk H p):∀t∈p.points.map dU,TurnOk H t:=by
 intro t ht
 obtain⟨x,hx,rfl⟩:=List.mem_map.1 ht
 have h:=hP.ps x hx
 unfold dU
 split<;>exact⟨h.a,h.z⟩
theorem pt_1 {r:List Str}{x:SPoint}(h:dy x=true):eA r x=true:=by unfold eA;rw [h];rfl
theorem pt_2 {r:List Str}{x:SPoint}(h:(!dH r x)=false):eA r x=true:=by unfold eA;rw [EK h,Bool.or_true]
theorem pt_3 {r:List Str}{x:SPoint}(h1:dy x=false)(h:(!dH r x)=true):eA r x=false:=by unfold eA;rw [Ak h,h1];rfl
theorem pY {p:SProto}(h:(!cR p)=true):false=cW p:=by unfold cW;rw [Ak h];rfl
theorem pX {p:SProto}(h1:p.roles.all au=false):false=cW p:=by unfold cW;rw [h1];simp
theorem pW {p:SProto}(h1:p.points.all (eA p.roles)=false):false=cW p:=by unfold cW;rw [h1];simp
theorem pV {p:SProto}{q:Sp}(h:cR p=true)(h1:p.roles.all au=true)(h2:p.points.all (eA p.roles)=true):cX ⟨[],p.points.map dU,q⟩=cW p:=by
 unfold cW;rw [h,h1,h2];rfl
theorem Ev {p:SProto}(h:cR p=true):p.points.length≤24:=by
 unfold cR at h;simp only [Bool.and_eq_true,decide_eq_true_eq,Bool.not_eq_true',decide_eq_false_iff_not] at h;omega
section
variable {pg:SProg}{s:SStep}{k:Int}{x:SProto}
theorem Ag (k0:0≤k)(hx:pg.protos[k.toNat]? =some x)(hn:¬x.name=s.label)(h:dk pg s=eG s (pg.protos.drop k.toNat)):dk pg s=eG s (pg.protos.drop (k+1).toNat):=by
 rw [h,bJ hx,eG,if_neg hn,show(k+1).toNat=k.toNat+1 by omega]
theorem kT (k0:0≤k)(hk:¬k<pg.protos.length)(h:dk pg s=eG s (pg.protos.drop k.toNat)):dk pg s=false:=by
 rw [h,List.drop_of_length_le om];rfl
theorem p7 (k0:0≤k)(hx:pg.protos[k.toNat]? =some x)(hn:x.name=s.label)(h:dk pg s=eG s (pg.protos.drop k.toNat))(hb:(!(decide (((cz s).length:Int)=x.roles.length)&&de (cz s)))=true):dk pg s=false:=by
 rw [h,bJ hx,eG,if_pos hn,wF]
 have hb:=Ak hb
 cases h1:decide (((cz s).length:Int)=x.roles.length) with
 | false=>rfl
 | true=>rw [h1] at hb;simp at hb;simp [hb]
theorem p5 {b:Bool}(k0:0≤k)(hx:pg.protos[k.toNat]? =some x)(hn:x.name=s.label)(h:dk pg s=eG s (pg.protos.drop k.toNat))(hb:(!(decide (((cz s).length:Int)=x.roles.length)&&de (cz s)))=false)(ha:(cz s).all (fun r=>cj x.roles r)=b):dk pg s=b:=by
 rw [h,bJ hx,eG,if_pos hn,wF]
 have hb:=EK hb
 simp only [Bool.and_eq_true] at hb
 rw [hb.1,hb.2,ha];simp
end
theorem E2 {q:SProc}{k:Int}{x:SParam}{b b2:Bool}(k0:0≤k)(hx:q.params[k.toNat]? =some x)(h:b=(bP q&&(q.params.take k.toNat).all dJ))(h2:b2=(b&&dJ x)):b2=(bP q&&(q.params.take (k+1).toNat).all dJ):=by
 rw [h2,h,bT k0 hx,List.all_append];simp [Bool.and_assoc]
section
variable {pg:SProg}
theorem BR (h:(decide (6<(pg.protos.length:Int))||(decide (12<(pg.locals.length:Int))||decide (24<(pg.procs.length:Int))))=true):iv pg=⟨1500, -1, -1⟩:=by
 unfold iv;rw [if_pos (by simpa using h)]
theorem Fq (h:(decide (6<(pg.protos.length:Int))||(decide (12<(pg.locals.length:Int))||decide (24<(pg.procs.length:Int))))=false):¬(6<(pg.protos.length:Int)∨12<(pg.locals.length:Int)∨24<(pg.procs.length:Int)):=by
 intro e;rw [← Bool.not_eq_true] at h;exact h (by simpa using e)
theorem BQ (h:(decide (6<(pg.protos.length:Int))||(decide (12<(pg.locals.length:Int))||decide (24<(pg.procs.length:Int))))=false)(h2:pg.protos.all cW=false):iv pg=⟨1500, -1, -1⟩:=by
 unfold iv;rw [if_neg (Fq h),if_pos h2]
theorem BP (h:(decide (6<(pg.protos.length:Int))||(decide (12<(pg.locals.length:Int))||decide (24<(pg.procs.length:Int))))=false)(h2:pg.protos.all cW=true)(h3:pg.locals.all (fun l=>cX l&&au l.name)=false):iv pg=⟨1500, -1, -1⟩:=by
 unfold iv;rw [if_neg (Fq h),if_neg (by rw [h2];decide),if_pos h3]
theorem zB (h:(decide (6<(pg.protos.length:Int))||(decide (12<(pg.locals.length:Int))||decide (24<(pg.procs.length:Int))))=false)(h2:pg.protos.all cW=true)(h3:pg.locals.all (fun l=>cX l&&au l.name)=true):iv pg=okF:=by
 unfold iv;rw [if_neg (Fq h),if_neg (by rw [h2];decide),if_neg (by rw [h3];decide)]
end
theorem pU:∀n:Nat,ic n [Value.int .i64 0]=(List.replicate n (0:Int)).map (Value.int .i64)
 | 0=>rfl
 | n+1=>by rw [List.replicate_succ,List.map_cons,← pU n];rfl
theorem Bq:∀n:Nat,ic n [Value.bool false]=(List.replicate n false).map Value.bool
 | 0=>rfl
 | n+1=>by rw [List.replicate_succ,List.map_cons,← Bq n];rfl
theorem bs_get {c:List Bool}{k:Int}(h:k.toNat<c.length):(c.map Value.bool)[0+k.toNat * 1]? =some (.bool (c[k.toNat]?.getD false)):=by
 rw [show 0+k.toNat * 1=k.toNat by omega,List.getElem?_map,List.getElem?_eq_getElem h]
 simp [h]
theorem bs_set {c:List Bool}{k:Int}{x:Bool}:(c.map Value.bool).set (0+k.toNat * 1) (.bool x)=(c.set k.toNat x).map Value.bool:=by
 rw [show 0+k.toNat * 1=k.toNat by omega,List.map_set]
theorem il {c:List Int}{k:Int}(h:k.toNat<c.length):(c.map (Value.int .i64))[0+k.toNat * 1]? =some (.int .i64 (aL c k)):=by
 rw [show 0+k.toNat * 1=k.toNat by omega,List.getElem?_map,List.getElem?_eq_getElem h]
 simp [aL,h]
theorem wO {c:List Int}{k x:Int}:(c.map (Value.int .i64)).set (0+k.toNat * 1) (.int .i64 x)=(c.set k.toNat x).map (Value.int .i64):=by
 rw [show 0+k.toNat * 1=k.toNat by omega,List.map_set]
section
variable {n at_:Int}{L:List Int}{k x:Int}{c d c2 d2:List Int}{N:Option (List Int×List Int)}
theorem ng_bad (k0:0≤k)(hx:L[k.toNat]? =some x)(hb:(decide (x≤at_)||decide (n≤x))=true)(h:N=bU n at_ (L.drop k.toNat) c d):N=none:=by
 rw [h,bJ hx,bU,if_pos (by simpa using hb)]
theorem ng_next (k0:0≤k)(hx:L[k.toNat]? =some x)(hb:(decide (x≤at_)||decide (n≤x))=false)(h:N=bU n at_ (L.drop k.toNat) c d):N=bU n at_ (L.drop (k+1).toNat) (f9 c x) (d.set x.toNat (aL d at_)):=by
 rw [h,bJ hx,bU,if_neg (by intro e;rw [Bool.or_eq_false_iff] at hb;simp at hb;omega),show(k+1).toNat=k.toNat+1 by omega]
theorem ng_end (k0:0≤k)(hk:¬k<L.length)(h:N=bU n at_ (L.drop k.toNat) c d):N=some (c,d):=by
 rw [h,List.drop_of_length_le om];rfl
end
section
variable {L:List Int}{k x:Int}{u u2:List Bool}{N:Option (List Bool)}{ts:List Term}
theorem ug_bad (k0:0≤k)(hx:L[k.toNat]? =some x)(hb:u[x.toNat]?.getD false=true)(h:N=eV (L.drop k.toNat) u):N=none:=by
 rw [h,bJ hx,eV,if_pos hb]
theorem ug_next (k0:0≤k)(hx:L[k.toNat]? =some x)(hb:u[x.toNat]?.getD false=false)(h:N=eV (L.drop k.toNat) u):N=eV (L.drop (k+1).toNat) (u.set x.toNat true):=by
 rw [h,bJ hx,eV,if_neg (by rw [hb];decide),show(k+1).toNat=k.toNat+1 by omega]
theorem ug_end (k0:0≤k)(hk:¬k<L.length)(h:N=eV (L.drop k.toNat) u):N=some u:=by
 rw [h,List.drop_of_length_le om];rfl
theorem rg_may (k0:0≤k)(hx:L[k.toNat]? =some x)(hb:cF ts x=false)(h:N=bV ts (L.drop k.toNat) u):N=none:=by
 rw [h,bJ hx,bV,if_pos hb]
theorem rg_bad (k0:0≤k)(hx:L[k.toNat]? =some x)(hb:cF ts x=true)(hu:eV (bi ts x) u=none)(h:N=bV ts (L.drop k.toNat) u):N=none:=by
 rw [h,bJ hx,bV,if_neg (by rw [hb];decide),hu]
theorem rg_next (k0:0≤k)(hx:L[k.toNat]? =some x)(hb:cF ts x=true)(hu:eV (bi ts x) u=some u2)(h:N=bV ts (L.drop k.toNat) u):N=bV ts (L.drop (k+1).toNat) u2:=by
 rw [h,bJ hx,bV,if_neg (by rw [hb];decide),hu,show(k+1).toNat=k.toNat+1 by omega]
theorem rg_end (k0:0≤k)(hk:¬k<L.length)(h:N=bV ts (L.drop k.toNat) u):N=some u:=by
 rw [h,List.drop_of_length_le om];rfl
end
section
variable {q:SProc}{i k:Int}{s:SStep}{c d c2 d2:List Int}{u u2:List Bool}{F:SFault}
theorem sh_form (k0:0≤k)(hx:q.steps[k.toNat]? =some s)(hm:dg s=false)(h:F=bN q i (q.steps.drop k.toNat) k c d u):F=⟨1500,i,k⟩:=by
 rw [h,bJ hx,bN,if_pos hm]
theorem sh_tree (k0:0≤k)(hx:q.steps[k.toNat]? =some s)(hm:dg s=true)(ht:(decide (0<k)&& !decide (aL c k=1))=true)(h:F=bN q i (q.steps.drop k.toNat) k c d u):F=⟨1502,i,k⟩:=by
 rw [h,bJ hx,bN,if_neg (by rw [hm];decide),if_pos (by simpa using ht)]
theorem sh_n (k0:0≤k)(hx:q.steps[k.toNat]? =some s)(hm:dg s=true)(ht:(decide (0<k)&& !decide (aL c k=1))=false)(hn:bU q.steps.length k (aG s) c (dn s k d)=none)(h:F=bN q i (q.steps.drop k.toNat) k c d u):F=⟨1502,i,k⟩:=by
 rw [h,bJ hx,bN,if_neg (by rw [hm];decide),if_neg (by intro e;simp [e] at ht),hn]
theorem sh_d (k0:0≤k)(hx:q.steps[k.toNat]? =some s)(hm:dg s=true)(ht:(decide (0<k)&& !decide (aL c k=1))=false)(hn:bU q.steps.length k (aG s) c (dn s k d)=some (c2,d2))(hd:24<aL d2 k)
  (h:F=bN q i (q.steps.drop k.toNat) k c d u):F=⟨1502,i,k⟩:=by
 rw [h,bJ hx,bN,if_neg (by rw [hm];decide),if_neg (by intro e;simp [e] at ht),hn];simp only;rw [if_pos hd]
theorem sh_t (k0:0≤k)(hx:q.steps[k.toNat]? =some s)(hm:dg s=true)(ht:(decide (0<k)&& !decide (aL c k=1))=false)(hn:bU q.steps.length k (aG s) c (dn s k d)=some (c2,d2))(hd:¬24<aL d2 k)
  (hr:bV q.terms (a8 s) u=none) (h:F=bN q i (q.steps.drop k.toNat) k c d u):F=⟨1503,i,k⟩:=by
 rw [h,bJ hx,bN,if_neg (by rw [hm];decide),if_neg (by intro e;simp [e] at ht),hn];simp only;rw [if_neg hd,hr]
theorem sh_next (k0:0≤k)(hx:q.steps[k.toNat]? =some s)(hm:dg s=true)(ht:(decide (0<k)&& !decide (aL c k=1))=false)(hn:bU q.steps.length k (aG s) c (dn s k d)=some (c2,d2))(hd:¬24<aL d2 k)
  (hr:bV q.terms (a8 s) u=some u2) (h:F=bN q i (q.steps.drop k.toNat) k c d u):F=bN q i (q.steps.drop (k+1).toNat) (k+1) c2 d2 u2:=by
 rw [h,bJ hx,bN,if_neg (by rw [hm];decide),if_neg (by intro e;simp [e] at ht),hn];simp only;rw [if_neg hd,hr,show(k+1).toNat=k.toNat+1 by omega]
theorem sh_end (k0:0≤k)(hk:¬k<q.steps.length)(h:F=bN q i (q.steps.drop k.toNat) k c d u):F=okF:=by
 rw [h,List.drop_of_length_le om];rfl
theorem deep_T (h:(decide (s.kind=3)||decide (s.kind=5))=true):f9 d k=dn s k d:=by unfold dn;rw [if_pos (by simpa using h)]
theorem deep_F (h:(decide (s.kind=3)||decide (s.kind=5))=false):d=dn s k d:=by unfold dn;rw [if_neg (by intro e;rcases e with e | e<;>simp [e] at h)]
theorem wS:(dn s k d).length=d.length:=by unfold dn f9;split<;>simp
end
theorem na (c:List Int)(k:Int):(f9 c k).length=c.length:=by simp [f9]
end Go.Sx
namespace Go.Sx
open Go
abbrev nilV:Value:=.slice none 0 0
abbrev zG:=Int×List Value×List (List Str)
def BRow (H:Hp)(vs:List Value)(b:List (List Str)):Prop:=vs.length=b.length∧(∀(i:Nat) v x,vs[i]? =some v→b[i]? =some x→RdSl H 1 Str.cells v x)∧∀(i:Nat) x,b[i]? =some x→x.length≤2000000+i
theorem BRow.le {H H':Hp}{vs:List Value}{b:List (List Str)}(h:BRow H vs b)(hl:H.le H'):BRow H' vs b:=⟨h.1,fun i v x h1 h2=>(h.2.1 i v x h1 h2).le hl,h.2.2⟩
theorem BRow.set {H:Hp}{vs:List Value}{b:List (List Str)}(h:BRow H vs b){t:Nat}{v:Value}{x:List Str}(hx:RdSl H 1 Str.cells v x)(hl:x.length≤2000000+t):BRow H (vs.set t v) (b.set t x):=by
 refine⟨by simp [h.1],fun i v' x' h1 h2=>?_,fun i x' h2=>?_⟩
 ·rw [List.getElem?_set] at h1 h2
  by_cases e:t=i
  ·subst e
   rw [if_pos rfl] at h1 h2
   split at h1
   ·rw [h.1] at *
    rename_i hl
    rw [if_pos hl] at h2
    cases h1;cases h2;exact hx
   ·cases h1
  ·rw [if_neg e] at h1 h2;exact h.2.1 i v' x' h1 h2
 ·rw [List.getElem?_set] at h2
  by_cases e:t=i
  ·subst e
   rw [if_pos rfl] at h2
   split at h2
   ·cases h2;exact hl
   ·cases h2
  ·rw [if_neg e] at h2;exact h.2.2 i x' h2
theorem BRow.at_ {H:Hp}{vs:List Value}{b:List (List Str)}(h:BRow H vs b){k:Int}(hk:k.toNat<b.length):∃v x,vs[k.toNat]? =some v∧b[k.toNat]? =some x∧RdSl H 1 Str.cells v x:=by
 have h1:=List.getElem?_eq_getElem (l:=vs) (i:=k.toNat) (by rw [h.1];exact hk)
 have h2:=List.getElem?_eq_getElem hk
 exact⟨_,_,h1,h2,h.2.1 _ _ _ h1 h2⟩
theorem yP (v:Value):∀n:Nat,ic n [v]=List.replicate n v
 | 0=>rfl
 | n+1=>by rw [List.replicate_succ,← yP v n];rfl
theorem Ek (v:Value)(n:Nat):(List.replicate n v).set 0 v=List.replicate n v:=by
 cases n<;>rfl
theorem Eb {vs:List Value}{v:Value}(h:0<vs.length):(vs.set 0 v)[0+(0:Int).toNat * 1]? =some v:=by
 show(vs.set 0 v)[0]? =some v
 rw [List.getElem?_set,if_pos rfl,if_pos h]
theorem Ea {vs:List Value}{v:Value}{k:Int}(h:k.toNat<vs.length):(vs.set (0+k.toNat * 1) v)[0+k.toNat * 1]? =some v:=by
 rw [List.getElem?_set,if_pos rfl,if_pos om]
theorem get_k {vs:List Value}{v:Value}{k:Int}(h:vs[k.toNat]? =some v):vs[0+k.toNat * 1]? =some v:=by
 rwa [show 0+k.toNat * 1=k.toNat by omega]
theorem D8 {vs:List Value}{v:Value}{k:Int}:vs.set (0+k.toNat * 1) v=vs.set k.toNat v:=by rw [show 0+k.toNat * 1=k.toNat by omega]
theorem brow0 {H:Hp}{q:SProc}{v:Value}(h:RdSl H 1 Str.cells v (q.params.map (·.name)))(hl:q.params.length≤2000000):BRow H ((List.replicate q.steps.length nilV).set 0 v) (kF q):=by
 unfold kF
 refine BRow.set ⟨by simp,fun i v' x' h1 h2=>?_,fun i x' h2=>?_⟩ h (by simpa using hl)
 ·rw [List.getElem?_replicate] at h1 h2
  split at h1
  ·rename_i hl
   rw [if_pos hl] at h2
   cases h1;cases h2;exact RdSl.nil
  ·cases h1
 ·rw [List.getElem?_replicate] at h2
  split at h2
  ·cases h2;simp
  ·cases h2
theorem lU (q:SProc):(kF q).length=q.steps.length:=by simp [kF]
def bK (q:SProc):Prop:=∀(k:Nat) (s:SStep),q.steps[k]? =some s→dg s=true∧∀t∈aG s,(k:Int)<t∧t<q.steps.length
theorem sm {n at_:Int}:∀{L c d c2 d2},bU n at_ L c d=some (c2,d2)→∀t∈L,at_<t∧t<n
 | [],_,_,_,_,_,t,ht=>by cases ht
 | x::r,c,d,c2,d2,h,t,ht=>by
  rw [bU] at h
  split at h
  ·cases h
  ·rcases List.mem_cons.1 ht with rfl | ht
   ·omega
   ·exact sm h t ht
theorem wu {q:SProc}{i:Int}:∀(l:List SStep) (k:Nat) (c d:List Int) (u:List Bool),l=q.steps.drop k→bN q i l k c d u=okF→∀(j:Nat) (s:SStep),k≤j→q.steps[j]? =some s→dg s=true∧∀t∈aG s,(j:Int)<t∧t<q.steps.length:=by
 intro l
 induction l with
 | nil=>
  intro k c d u hl _ j s hj hs
  have h1:=(List.getElem?_eq_some_iff.1 hs).1
  have h2:(q.steps.drop k).length=0:=by rw [← hl];rfl
  rw [List.length_drop] at h2;omega
 | cons x r ih=>
  intro k c d u hl h j s hj hs
  have hx:q.steps[k]? =some x:=by
   have h1:(q.steps.drop k)[0]? =some x:=by rw [← hl];rfl
   rwa [List.getElem?_drop,Nat.add_zero] at h1
  have hr:r=q.steps.drop (k+1):=by
   have h1:(q.steps.drop k).drop 1=r:=by rw [← hl];rfl
   rw [← h1,List.drop_drop]
  rw [bN] at h
  split at h
  ·cases h
  ·rename_i hm
   split at h
   ·cases h
   ·split at h
    ·cases h
    ·rename_i c2 d2 hn
     split at h
     ·cases h
     ·split at h
      ·cases h
      ·rename_i u2 _
       rcases Nat.lt_or_ge k j with hlt | hge
       ·exact ih (k+1) c2 d2 u2 hr (by rw [← h];rfl) j s hlt hs
       ·have:j=k:=by omega
        subst this
        rw [hx] at hs;cases hs
        exact⟨by simpa using hm,sm hn⟩
theorem lL {q:SProc}{i:Int}(h:eZ i q=okF):bK q:=fun k s hs=>wu _ 0 _ _ _ rfl h k s (Nat.zero_le _) hs
theorem gU (s:SStep):(bz s).length=(aG s).length:=by
 unfold bz
 split
 ·rename_i h;unfold aG;rw [if_pos (by rcases h with h | h<;>simp [cd,h])];rfl
 ·split
  ·rename_i h;unfold aG;rw [if_neg (by simp [cd,h])];simp
  ·simp
section
variable {pg:SProg}{q:SProc}{i k:Int}{s:SStep}{b:List (List Str)}{x:List Str}{F:SFault}
theorem sn_bad (k0:0≤k)(hx:q.steps[k.toNat]? =some s)(hb:b[k.toNat]? =some x)(he:¬d5 pg q.terms s x=0)(h:F=dO pg q i (q.steps.drop k.toNat) k b):F=⟨d5 pg q.terms s x,i,k⟩:=by
 rw [h,bJ hx,dO,hb];simp only [Option.getD_some];rw [if_pos he]
theorem sn_next (k0:0≤k)(hx:q.steps[k.toNat]? =some s)(hb:b[k.toNat]? =some x)(he:d5 pg q.terms s x=0)(h:F=dO pg q i (q.steps.drop k.toNat) k b):
  F=dO pg q i (q.steps.drop (k+1).toNat) (k+1) (dP k (aG s) (bz s) b):=by
 rw [h,bJ hx,dO,hb];simp only [Option.getD_some];rw [if_neg (by simpa using he),show(k+1).toNat=k.toNat+1 by omega]
theorem sn_end (k0:0≤k)(hk:¬k<q.steps.length)(h:F=dO pg q i (q.steps.drop k.toNat) k b):F=okF:=by
 rw [h,List.drop_of_length_le om];rfl
variable {N M:List Int}{ms:List Str}{j t:Int}{m:Str}{B b':List (List Str)}
theorem BN {L:List Int}{ms:List Str}(j0:0≤j)(ht:L[j.toNat]? =some t)(hm:ms[j.toNat]? =some m)(h:B=dP k (L.drop j.toNat) (ms.drop j.toNat) b'):B=dP k (L.drop (j+1).toNat) (ms.drop (j+1).toNat) (jd b' k t m):=by
 rw [h,bJ ht,bJ hm,dP,show(j+1).toNat=j.toNat+1 by omega];rfl
theorem bg_end {L:List Int}{ms:List Str}(j0:0≤j)(hj:¬j<L.length)(h:B=dP k (L.drop j.toNat) (ms.drop j.toNat) b'):B=b':=by
 rw [h,List.drop_of_length_le om];rfl
theorem putAt_T (hb:b'[k.toNat]? =some x)(hm:¬m=[]):jd b' k t m=b'.set t.toNat (x++[m]):=by unfold jd;rw [hb,if_neg hm];rfl
theorem putAt_F (hb:b'[k.toNat]? =some x)(hm:m=[]):jd b' k t m=b'.set t.toNat x:=by unfold jd;rw [hb,if_pos hm];simp
end
theorem Fj {s:SStep}{j:Int}(h0:0≤j)(h:j<(aG s).length):∃m,(bz s)[j.toNat]? =some m:=ao h0 (by rw [gU];exact h)
end Go.Sx
namespace Go.Sx
open Go
def PgAt (H:Hp)(b:Nat)(pg:SProg):Prop:=∀(j:Nat) v,pg.cells[j]? =some v→H b j=some v
theorem PgAt.le {H H':Hp}{b:Nat}{pg:SProg}(h:PgAt H b pg)(hl:H.le H'):PgAt H' b pg:=fun j v hv=>hl _ _ _ (h j v hv)
theorem PgAt.add {H:Hp}{b:Nat}{pg:SProg}(h:PgAt H b pg):∀(j:Nat) v,pg.cells[j]? =some v→H b (0+j)=some v:=fun j v hv=>by rw [Nat.zero_add];exact h j v hv
def Fc.cells (f:FuncId):List Value:=[.func (.func f) #[] #[]]
def CellAt (H:Hp)(b:Nat)(v:Value):Prop:=H b 0=some v
theorem CellAt.le {H H':Hp}{b:Nat}{v:Value}(h:CellAt H b v)(hl:H.le H'):CellAt H' b v:=hl _ _ _ h
theorem lQ {l:List SProc}{i:Int}{q:SProc}(h:(eX l i q).e=0):1≤q.steps.length∧q.steps.length≤80∧q.terms.length≤160:=by
 unfold eX at h
 split at h
 ·cases h
 ·rename_i hg
  have hg:(bP q&&q.params.all dJ)=true:=by simpa using hg
  simp only [Bool.and_eq_true] at hg
  have h1:=hg.1
  unfold bP at h1
  simp only [Bool.and_eq_true,decide_eq_true_eq] at h1
  omega
theorem ia {q:SProc}{i:Int}:∀(l:List SStep) (k:Int) (c d:List Int) (u:List Bool),(bN q i l k c d u).e=0→bN q i l k c d u=okF
 | [],_,_,_,_,_=>rfl
 | s::r,k,c,d,u,h=>by
  rw [bN] at h ⊢
  split at h
  ·cases h
  ·rename_i h1
   rw [if_neg h1]
   split at h
   ·cases h
   ·rename_i h2
    rw [if_neg h2]
    split at h
    ·cases h
    ·rename_i c2 d2 h3
     split at h
     ·cases h
     ·rename_i h4
      try simp only at h ⊢
      rw [if_neg h4]
      split at h
      ·cases h
      ·exact ia r (k+1) _ _ _ h
theorem B9 {q:SProc}{i:Int}(h:(eZ i q).e=0):bK q:=lL (i:=i) (ia _ _ _ _ _ h)
def zH (q:SProc):Prop:=bK q∧1≤q.steps.length∧q.steps.length≤80∧q.terms.length≤160
theorem vN {l:List SProc}:∀(r:List SProc) (i:Int),(cJ (bh l) r i).e=0→∀q∈r,zH q
 | [],_,_,q,hq=>by cases hq
 | x::r,i,h,q,hq=>by
  rw [cJ] at h
  split at h
  ·rename_i h1;exact absurd h h1
  ·rename_i h1
   have h1:(bh l i x).e=0:=by simpa using h1
   rcases List.mem_cons.1 hq with rfl | hq
   ·unfold bh at h1
    split at h1
    ·rename_i h2;exact absurd h1 h2
    ·rename_i h2
     exact⟨B9 h1,lQ (by simpa using h2)⟩
   ·exact vN r (i+1) h q hq
section
variable {f:Int→SProc→SFault}{l:List SProc}{k:Int}{q:SProc}{F:SFault}
theorem sN (k0:0≤k)(hx:l[k.toNat]? =some q)(he:¬(f k q).e=0)(h:F=cJ f (l.drop k.toNat) k):F=f k q:=by
 rw [h,bJ hx,cJ,if_pos he]
theorem vL (k0:0≤k)(hx:l[k.toNat]? =some q)(he:(f k q).e=0)(h:F=cJ f (l.drop k.toNat) k):F=cJ f (l.drop (k+1).toNat) (k+1):=by
 rw [h,bJ hx,cJ,if_neg (by simpa using he),show(k+1).toNat=k.toNat+1 by omega]
theorem zp (k0:0≤k)(hk:¬k<l.length)(h:F=cJ f (l.drop k.toNat) k):F=okF:=by
 rw [h,List.drop_of_length_le om];rfl
theorem hs_1 {pl:List SProc}(h:¬(eX pl k q).e=0):bh pl k q=eX pl k q:=by unfold bh;rw [if_pos h]
theorem hs_2 {pl:List SProc}(h:(eX pl k q).e=0):bh pl k q=eZ k q:=by unfold bh;rw [if_neg (by simpa using h)]
end
theorem ER {l:List SProc}(h:(decide (dm l cy<0)||decide (0<((nc l (dm l cy)).params.length:Int)))=true):iJ l=⟨1504, -1, -1⟩:=by
 unfold iJ;rw [if_pos (by simpa using h)]
theorem An {l:List SProc}(h:(decide (dm l cy<0)||decide (0<((nc l (dm l cy)).params.length:Int)))=false):iJ l=okF:=by
 unfold iJ;rw [if_neg (by intro e;rw [← Bool.not_eq_true] at h;exact h (by simpa using e))]
section
variable {pg:SProg}
theorem chk_0 (h:¬(iv pg).e=0):bZ pg=iv pg:=by unfold bZ;rw [if_pos h]
theorem chk_1 (h0:(iv pg).e=0)(h:¬(cJ (bh pg.procs) pg.procs 0).e=0):bZ pg=cJ (bh pg.procs) pg.procs 0:=by unfold bZ;rw [if_neg (by simpa using h0),if_pos h]
theorem chk_2 (h0:(iv pg).e=0)(h1:(cJ (bh pg.procs) pg.procs 0).e=0)(h:¬(iJ pg.procs).e=0):bZ pg=iJ pg.procs:=by
 unfold bZ;rw [if_neg (by simpa using h0),if_neg (by simpa using h1),if_pos h]
theorem chk_3 (h0:(iv pg).e=0)(h1:(cJ (bh pg.procs) pg.procs 0).e=0)(h2:(iJ pg.procs).e=0):bZ pg=cJ (gy pg) pg.procs 0:=by
 unfold bZ;rw [if_neg (by simpa using h0),if_neg (by simpa using h1),if_neg (by simpa using h2)]
theorem rJ {q:SProc}{i:Int}:∀(l:List SStep) (k:Int) (b:List (List Str)),(dO pg q i l k b).e=0→dO pg q i l k b=okF
 | [],_,_,_=>rfl
 | s::r,k,b,h=>by
  rw [dO] at h ⊢
  try simp only at h ⊢
  split at h
  ·rename_i h1;exact absurd h h1
  ·rename_i h1;rw [if_neg h1];exact rJ r _ _ h
theorem BI {f:Int→SProc→SFault}(hf:∀i q,(f i q).e=0→f i q=okF):∀(l:List SProc) (i:Int),(cJ f l i).e=0→cJ f l i=okF
 | [],_,_=>rfl
 | q::r,i,h=>by
  rw [cJ] at h ⊢
  split at h
  ·rename_i h1;exact absurd h h1
  ·rename_i h1;rw [if_neg h1];exact BI hf r _ h
theorem AC (h3:(cJ (gy pg) pg.procs 0).e=0)(h0:(iv pg).e=0)(h1:(cJ (bh pg.procs) pg.procs 0).e=0)(h2:(iJ pg.procs).e=0):bZ pg=okF:=by
 rw [chk_3 h0 h1 h2];exact BI (fun i q h=>rJ _ _ _ h) _ _ h3
theorem sS (h:(bZ pg).e=0):(iv pg).e=0∧(cJ (bh pg.procs) pg.procs 0).e=0∧(iJ pg.procs).e=0∧(cJ (gy pg) pg.procs 0).e=0:=by
 unfold bZ at h
 split at h
 ·rename_i h1;exact absurd h h1
 ·rename_i h1
  split at h
  ·rename_i h2;exact absurd h h2
  ·rename_i h2
   split at h
   ·rename_i h3;exact absurd h h3
   ·rename_i h3
    exact⟨by simpa using h1,by simpa using h2,by simpa using h3,h⟩
end
end Go.Sx
