import Derived.Test.YtjnlogbbcceaoaaGreatJ2
import Derived.KernelRfl
import Derived.Sort.Walk0
import Derived.Lib.ItoaNum
import Derived.Lib.IndexMore
set_option linter.all false
set_option maxRecDepth 100000
set_option maxHeartbeats 32000000
namespace Go.Sx
open Go Go.ChangeShapes Go.WideShapes Go.ChangeAt Go.RowKit
def zq (W:World):Hp:=fun b o=>W.cell? ⟨b,o,none⟩
theorem St.below {W W':World}{H H':Hp}{L:ak}(h:St [] W H H' L W'):Below W.heap.size W W':=
 ⟨h.os,h.tape,h.output,h.size,fun k hk=>h.old k hk sq⟩
theorem Fn.callsT {P:Program}{f:FuncId}{args:List Value}{W:World}{u:Value}(h:Fn P f args (zq W) (fun v _=>v=u)):Calls P f args.toArray W fun e W'=>e= .returned u∧Below W.heap.size W W':=
 (h W (St.start (fun b o u hu=>hu))).mono (by
  rintro e W' ⟨v',H',L',rfl,hst,hk,rfl⟩
  exact⟨rfl,hst.below⟩)
section
variable {HH:Type}{enc:TypeId×Value→HH}{P:Program}
theorem lj (hl:laidOutB P=true){W W':World}(hB:Below W.heap.size W W'){sp:Nat→Bool}:∀(ts:List TypeId) (vs:List Value) (ds:List (DataW HH)) (ps:List MemPlace),
  (∀t∈ts,P.readableRec t=true∧t<P.types.size)→DataW.TrodAll enc P W 0 (fun _=>true) true ts vs ds ps→(∀x∈ps,x.block<W.heap.size)→(∀x∈ps,sp x.block=true)→DataW.TrodAll enc P W' 0 sp true ts vs ds ps
 | [],[],[],ps,_,h,_,_=>h
 | t::ts,v::vs,d::ds,ps,hr,h,hlt,hs=>by
  obtain⟨p,q,h1,h2,rfl⟩:=h
  refine⟨p,q,?_,?_,rfl⟩
  ·exact WideElems.Trod_stays hl (hr t sq).1 (hr t sq).2 h1 (fun x hx=>hB.same (hlt x (List.mem_append_left _ hx))) (fun x hx=>hs x (List.mem_append_left _ hx))
  ·exact lj hl hB ts vs ds q (fun u hu=>hr u (List.mem_cons_of_mem _ hu)) h2 (fun x hx=>hlt x (List.mem_append_right _ hx)) (fun x hx=>hs x (List.mem_append_right _ hx))
 | [],[],_::_,_,_,h,_,_=>h.elim
 | [],_::_,_,_,_,h,_,_=>h.elim
 | _::_,[],_,_,_,h,_,_=>h.elim
 | _::_,_::_,[],_,_,h,_,_=>h.elim
theorem Ev {f:Func}{s:ChangeSpec}{W W':World}{args:Array Value}{ds gs:List (DataW HH)}{before:List MemPlace}{tb:TypeId}(hW:DataW.Whole enc P f.params.toList s.vars false W args.toList ds gs before)
  (hv:s.vars=[]) (hvs:(s.fn HH (ds++gs)).vars=[]) (hres:(s.fn HH (ds++gs)).results=[.lit (.bool true)]) (hargs:(s.fn HH (ds++gs)).args=ds) (hrt:f.resultTypes= #[tb]) (hb:P.underlying tb=some .bool) (hl:laidOutB P=true)
  (hread:∀t∈f.params.toList,P.readableRec t=true∧t<P.types.size) (hB:Below W.heap.size W W'):s.post enc P f false true false false W args (.bool true) W':=by
 have hW0:=hW
 obtain⟨p,q,hA,hV,he,hfz,hnd⟩:=hW
 rw [hv] at hV
 have hq:gs=[]∧q=[]:=by
  cases gs with
  | nil=>exact⟨rfl,hV⟩
  | cons g gs=>exact hV.elim
 obtain⟨rfl,rfl⟩:=hq
 rw [List.append_nil] at he
 subst he
 have hlt:∀x∈before,x.block<W.heap.size:=fun x hx=>hW0.lt x hx
 refine⟨ds,[],before,[],before,[],hW0,?_,?_,?_,World.keptBut_mono (fun x hx=>⟨hx,.inr (.inl hx)⟩) (hB.frame (· ∈before)),fun h=>(by cases h)⟩
 ·rw [hres,hrt]
  exact trodAll_mk1 (shut_bool hb _)
 ·rw [hargs]
  exact lj hl hB _ _ _ _ hread hA hlt (fun x hx=>by simpa using hlt x hx)
 ·rw [hv,hvs]
  exact rfl
def E6 (P:Program)(t:TypeId){α:Type}(en:α→List Value)(ok:Hp→α→Prop):Prop:=
 ∀(HH:Type) (enc:TypeId×Value→HH) (W:World) (fuel:Nat) (cs:List Value) (x:DataW HH×List MemPlace),DataW.trod enc P W 0 (fun _=>true) true fuel t cs=some x→∃a:α,cs=en a∧ok (zq W) a
theorem BQ {t:TypeId}(ht:P.underlying t=some (.int .i64)):E6 P t (fun n:Int=>[.int .i64 n]) (fun _ n=> -9223372036854775808≤n∧n≤9223372036854775807):=by
 intro HH enc W fuel cs x h
 obtain⟨n,rfl,_,hw⟩:=DataW.trod_int ht h
 refine⟨n,rfl,?_⟩
 simpa [Lit.wf,IntKind.min,IntKind.max,IntKind.signed,IntKind.bits] using hw
theorem Bt {W:World}{a:Addr}{v:Value}(h:W.cell? a=some v):a.spot=none:=by
 unfold World.cell? at h
 split at h
 ·split at h
  ·cases h
  ·rename_i hs;simpa using hs
 ·cases h
theorem oY {α:Type}{Q:Nat→α→Prop}:∀{len:Nat},(∀i,i<len→∃z,Q i z)→∃l:List α,l.length=len∧∀i z,l[i]? =some z→Q i z
 | 0,_=>⟨[],rfl,fun i z h=>by simp at h⟩
 | len+1,h=>by
  obtain⟨l,h1,h2⟩:=oY (fun i hi=>h i (Nat.lt_succ_of_lt hi))
  obtain⟨z,hz⟩:=h len (Nat.lt_succ_self _)
  refine⟨l++[z],by simp [h1],fun i y hy=>?_⟩
  by_cases hi:i<l.length
  ·rw [List.getElem?_append_left hi] at hy;exact h2 i y hy
  ·rw [List.getElem?_append_right omq] at hy
   have hi0:i - l.length=0:=by
    rcases Nat.eq_zero_or_pos (i - l.length) with h | h
    ·exact h
    ·rw [List.getElem?_eq_none (by simp;omega)] at hy;cases hy
   rw [hi0] at hy
   simp only [List.getElem?_cons_zero,Option.some.injEq] at hy
   subst hy
   have:i=len:=by omega
   subst this
   exact hz
end
end Go.Sx
namespace Go.Sx
open Go
def I64.ok (_:Hp)(n:Int):Prop:=yp n
theorem BR {P:Program}{t:TypeId}(ht:P.underlying t=some (.int .i64)):E6 P t I64.cells I64.ok:=BQ ht
end Go.Sx
namespace Go.Sx
open Go
end Go.Sx
namespace Go.Sx
open Go
def ka (x:Int):Bool:=decide (0<x)
theorem D7 {d:List Int}{k:Nat}{b:Bool}(h:(d.map ka)[k]? =some b)(hb:b=true):0<d[k]?.getD 0:=by
 rw [List.getElem?_map] at h
 cases hx:d[k]? with
 | none=>rw [hx] at h;cases h
 | some x=>
  rw [hx] at h
  have:ka x=b:=by simpa using h
  rw [hb] at this
  simpa [ka] using this
end Go.Sx
namespace Go.Sx
open Go
def cw:List Str→Str→List Str
 | [],s=>[s]
 | x::r,s=>if Op.bytesLess x s=true then x::cw r s else if x=s then x::r else s::x::r
theorem DV {l:List Str}{s x:Str}{k:Int}(h0:0≤k)(h:cw l s=l.take k.toNat++cw (l.drop k.toNat) s)(hx:l[k.toNat]? =some x)(hc:Op.bytesLess x s=true):
  cw l s=l.take (k+1).toNat++cw (l.drop (k+1).toNat) s:=by
 have hlt:k.toNat<l.length:=(List.getElem?_eq_some_iff.1 hx).1
 have hx':l[k.toNat]=x:=(List.getElem?_eq_some_iff.1 hx).2
 rw [h,bM h0 hx,List.drop_eq_getElem_cons hlt,hx',cw,if_pos hc,show(k+1).toNat=k.toNat+1 by omega]
 simp
theorem DW {l:List Str}{s x:Str}{k:Int}(h:cw l s=l.take k.toNat++cw (l.drop k.toNat) s)(hx:l[k.toNat]? =some x)(hc:¬Op.bytesLess x s=true)(he:x=s):cw l s=l:=by
 have hlt:k.toNat<l.length:=(List.getElem?_eq_some_iff.1 hx).1
 have hx':l[k.toNat]=x:=(List.getElem?_eq_some_iff.1 hx).2
 rw [h,List.drop_eq_getElem_cons hlt,hx',cw,if_neg hc,if_pos he,← hx',← List.drop_eq_getElem_cons hlt,List.take_append_drop]
theorem put_mid {l:List Str}{s x:Str}{k:Int}(h:cw l s=l.take k.toNat++cw (l.drop k.toNat) s)(hx:l[k.toNat]? =some x)(hc:¬Op.bytesLess x s=true)(he:¬x=s):
  cw l s=([]++(l.take k.toNat).drop 0++[s])++(l.take l.length).drop k.toNat:=by
 have hlt:k.toNat<l.length:=(List.getElem?_eq_some_iff.1 hx).1
 have hx':l[k.toNat]=x:=(List.getElem?_eq_some_iff.1 hx).2
 rw [h,List.drop_eq_getElem_cons hlt,hx',cw,if_neg hc,if_neg he,← hx',← List.drop_eq_getElem_cons hlt]
 simp
theorem put_end {l:List Str}{s:Str}{k:Int}(h:cw l s=l.take k.toNat++cw (l.drop k.toNat) s)(h1:¬k<l.length):
  cw l s=([]++(l.take k.toNat).drop 0++[s])++(l.take l.length).drop k.toNat:=by
 rw [h,List.drop_eq_nil_of_le (show l.length≤k.toNat by omega),cw]
 have e1:l.drop k.toNat=[]:=List.drop_eq_nil_of_le omq
 simp [e1]
theorem put_len (l:List Str)(s:Str):(cw l s).length≤l.length+1:=by
 induction l with
 | nil=>simp [cw]
 | cons x r ih=>
  unfold cw
  split
  ·simp;omega
  ·split<;>simp
end Go.Sx
namespace Go.Sx
open Go
def gU (l:List Term)(bs:List Bool):Nat→List Str
 | 0=>[]
 | k+1=>match l[k]?,bs[k]? with
  | some t,some b=>if b=true∧t.kind=0 then cw (gU l bs k) t.name else gU l bs k
  | _,_=>gU l bs k
theorem yT (l:List Term)(bs:List Bool)(k:Nat):gU l bs (k+1)=match l[k]?,bs[k]? with
  | some t,some b=>if b=true∧t.kind=0 then cw (gU l bs k) t.name else gU l bs k
  | _,_=>gU l bs k:=rfl
def xl (l:List Term)(root:Int):List Str:=match gw l root with
 | none=>[]
 | some d=>gU l (d.map ka) l.length
def sI (l:List Str):Prop:=l.Pairwise (· < ·)
theorem AG:∀(a b:List Str),sI a→sI b→(∀x,x∈a↔x∈b)→a=b
 | [],[],_,_,_=>rfl
 | [],y::b,_,_,h=>absurd ((h y).2 List.mem_cons_self) sq
 | x::a,[],_,_,h=>absurd ((h x).1 List.mem_cons_self) sq
 | x::a,y::b,ha,hb,h=>by
  have ha':=List.pairwise_cons.1 ha
  have hb':=List.pairwise_cons.1 hb
  have e:x=y:=by
   rcases List.mem_cons.1 ((h x).1 List.mem_cons_self) with e | h1
   ·exact e
   ·rcases List.mem_cons.1 ((h y).2 List.mem_cons_self) with e | h2
    ·exact e.symm
    ·exact absurd (ha'.1 y h2) (List.lt_asymm (hb'.1 x h1))
  subst e
  rw [AG a b ha'.2 hb'.2 (fun z=>?_)]
  constructor
  ·intro hz
   rcases List.mem_cons.1 ((h z).1 (List.mem_cons_of_mem _ hz)) with e | h1
   ·subst e;exact absurd (ha'.1 z hz) (List.lt_irrefl z)
   ·exact h1
  ·intro hz
   rcases List.mem_cons.1 ((h z).2 (List.mem_cons_of_mem _ hz)) with e | h1
   ·subst e;exact absurd (hb'.1 z hz) (List.lt_irrefl z)
   ·exact h1
theorem vr {l:List Str}{s x:Str}:x∈cw l s↔x=s∨x∈l:=by
 induction l with
 | nil=>simp [cw]
 | cons y r ih=>
  unfold cw
  split
  ·simp only [List.mem_cons,ih]
   constructor
   ·rintro(h | h | h)<;>simp [h]
   ·rintro(h | h | h)<;>simp [h]
  ·split
   ·rename_i h;subst h;simp
   ·simp
theorem DU {l:List Str}{s:Str}(h:sI l):sI (cw l s):=by
 induction l with
 | nil=>simp [cw,sI]
 | cons y r ih=>
  have h':=List.pairwise_cons.1 h
  unfold cw
  split
  ·rename_i hc
   rw [Go.Proofs.bytesLess_eq] at hc
   refine List.pairwise_cons.2 ⟨fun z hz=>?_,ih h'.2⟩
   rcases vr.1 hz with rfl | hz
   ·simpa using hc
   ·exact h'.1 z hz
  ·split
   ·exact h
   ·rename_i hc hne
    rw [Go.Proofs.bytesLess_eq] at hc
    have hle:s≤y:=List.not_lt.1 (by simpa using hc)
    have hlt:s<y:=by
     apply Classical.byContradiction
     intro hn
     exact hne (List.le_antisymm (List.not_lt.1 hn) hle)
    refine List.pairwise_cons.2 ⟨fun z hz=>?_,h⟩
    rcases List.mem_cons.1 hz with rfl | hz
    ·exact hlt
    ·exact List.lt_trans hlt (h'.1 z hz)
theorem yU (l:List Term)(bs:List Bool)(k:Nat):sI (gU l bs k):=by
 induction k with
 | zero=>simp [gU,sI]
 | succ k ih=>
  unfold gU
  split
  ·split
   ·exact DU ih
   ·exact ih
  ·exact ih
theorem B7 {l:List Term}{bs:List Bool}{x:Str}{k:Nat}:x∈gU l bs k↔∃i t,i<k∧l[i]? =some t∧bs[i]? =some true∧t.kind=0∧t.name=x:=by
 induction k with
 | zero=>simp [gU]
 | succ k ih=>
  have e:(∃i t,i<k+1∧l[i]? =some t∧bs[i]? =some true∧t.kind=0∧t.name=x)↔(∃t,l[k]? =some t∧bs[k]? =some true∧t.kind=0∧t.name=x)∨x∈gU l bs k:=by
   rw [ih]
   constructor
   ·rintro⟨i,t,hi,h⟩
    by_cases hk:i=k
    ·subst hk;exact .inl ⟨t,h⟩
    ·exact .inr ⟨i,t,by omega,h⟩
   ·rintro(⟨t,h⟩ | ⟨i,t,hi,h⟩)
    ·exact⟨k,t,by omega,h⟩
    ·exact⟨i,t,by omega,h⟩
  rw [e,yT]
  split
  ·rename_i t b hx hb
   split
   ·rename_i h
    rw [vr]
    constructor
    ·rintro(h1 | h1)
     ·exact .inl ⟨t,hx,by rw [hb,h.1],h.2,h1.symm⟩
     ·exact .inr h1
    ·rintro(⟨t',h1,h2,h3,h4⟩ | h1)
     ·rw [hx] at h1;obtain rfl:=Option.some.inj h1;exact .inl h4.symm
     ·exact .inr h1
   ·rename_i h
    constructor
    ·exact .inr
    ·rintro(⟨t',h1,h2,h3,h4⟩ | h1)
     ·rw [hx] at h1;obtain rfl:=Option.some.inj h1
      rw [hb] at h2;exact absurd ⟨Option.some.inj h2,h3⟩ h
     ·exact h1
  ·rename_i hno
   constructor
   ·exact .inr
   ·rintro(⟨t',h1,h2,h3,h4⟩ | h1)
    ·exact absurd h2 (hno t' true h1)
    ·exact h1
theorem vE {zs:List Str}(h:zs.Pairwise (· ≤ ·)):sI (Lib.compact zs):=by
 unfold sI Lib.compact Lib.compactUpTo
 rw [List.pairwise_map]
 have hp:((List.range zs.length).filter (Lib.keeps zs.toArray)).Pairwise (· < ·):=List.pairwise_lt_range.filter _
 refine hp.imp_of_mem (fun {i j} hi hj hij=>?_)
 simp only [List.mem_filter,List.mem_range] at hi hj
 have hj0:¬j=0:=by omega
 have hk:=hj.2
 simp only [Lib.keeps,decide_eq_true_eq] at hk
 have hne:=hk.resolve_left hj0
 rw [getElem!_pos zs.toArray j (by simpa using hj.1),getElem!_pos zs.toArray (j - 1) (by simp;omega)] at hne
 rw [getElem!_pos zs.toArray j (by simpa using hj.1),getElem!_pos zs.toArray i (by simpa using hi.1)]
 simp only [List.getElem_toArray] at hne ⊢
 have hP:=List.pairwise_iff_getElem.1 h
 have h1:zs[j - 1]'omq≤zs[j]'(hj.1):=hP (j - 1) j omq hj.1 omq
 have h2:zs[j - 1]'omq<zs[j]'(hj.1):=by
  apply Classical.byContradiction
  intro hn
  exact hne (List.le_antisymm (List.not_lt.1 hn) h1)
 by_cases he:i=j - 1
 ·subst he;exact h2
 ·have h3:zs[i]'(hi.1)≤zs[j - 1]'omq:=hP i (j - 1) hi.1 omq omq
  exact List.lt_of_le_of_lt h3 h2
theorem y0 (l:List Str):(iv l).Pairwise (· ≤ ·):=by
 have:=List.pairwise_mergeSort (le:=fun x y:Str=>decide (x≤y)) (fun a b c h1 h2=>by simp only [decide_eq_true_eq] at *;exact List.le_trans h1 h2) (fun a b=>by simp only [Bool.or_eq_true,decide_eq_true_eq];exact List.le_total a b) l
 exact this.imp (fun h=>by simpa using h)
theorem yR (l:List Term)(root:Int):sI (fH l root):=by
 unfold fH
 split
 ·exact vE (y0 _)
 ·exact List.Pairwise.nil
theorem qB {d d':List Int}{i:Nat}{at_:Int}(h:dR d i at_=some d')(hn:Nn d)(hi:i<d.length):
  0<d'[at_.toNat]?.getD 0∧(∀j:Nat,0<d[j]?.getD 0→0<d'[j]?.getD 0)∧(∀j:Nat,i≤j→d'[j]?.getD 0=d[j]?.getD 0)∧Nn d'∧d'.length=d.length:=by
 unfold dR at h
 split at h
 ·cases h
 ·rename_i hg
  obtain rfl:=Option.some.inj h
  simp only [Int.toNat_natCast]
  have hp:=hn i
  have hlt:at_.toNat<i:=by omega
  have hv:0<(d.set at_.toNat (d[i]?.getD 0+1))[at_.toNat]?.getD 0:=by rw [uW omq];omega
  refine⟨hv,fun j hj=>?_,fun j hj=>ju omq,r9 hn omq,by simp⟩
  by_cases e:at_.toNat=j
  ·subst e;exact hv
  ·rw [ju e];exact hj
theorem uP {l:List Term}{d d':List Int}{i:Nat}(h:dy l i d=some d')(hn:Nn d):
  (0<d[i]?.getD 0→∀t,l[i]? =some t→(1≤ah t.kind→0<d'[t.l.toNat]?.getD 0)∧(2≤ah t.kind→0<d'[t.r.toNat]?.getD 0))∧(∀j:Nat,0<d[j]?.getD 0→0<d'[j]?.getD 0)∧(∀j:Nat,i≤j→d'[j]?.getD 0=d[j]?.getD 0)∧Nn d':=by
 unfold dy at h
 simp only [Int.toNat_natCast] at h
 split at h
 ·rename_i h0
  obtain rfl:=Option.some.inj h
  exact⟨fun hp=>absurd h0 omq,fun j hj=>hj,fun j _=>rfl,hn⟩
 ·rename_i h0
  have hi:i<d.length:=by
   apply Classical.byContradiction
   intro hge
   exact h0 (by rw [List.getElem?_eq_none omq];rfl)
  cases hx:l[i]? with
  | none=>rw [hx] at h;cases h
  | some t=>
   rw [hx] at h
   simp only at h
   split at h
   ·cases h
   ·unfold eQ at h
    split at h
    ·obtain rfl:=Option.some.inj h
     refine⟨fun _ t' ht=>?_,fun j hj=>hj,fun j _=>rfl,hn⟩
     obtain rfl:=Option.some.inj ht
     exact⟨fun h1=>by omega,fun h1=>by omega⟩
    ·cases h2:dR d i t.l with
     | none=>rw [h2] at h;cases h
     | some d2=>
      rw [h2] at h
      simp only at h
      obtain⟨a1,a2,a3,a4,a5⟩:=qB h2 hn hi
      split at h
      ·obtain rfl:=Option.some.inj h
       refine⟨fun _ t' ht=>?_,a2,a3,a4⟩
       obtain rfl:=Option.some.inj ht
       exact⟨fun _=>a1,fun h1=>by omega⟩
      ·obtain⟨b1,b2,b3,b4,b5⟩:=qB h a4 omq
       refine⟨fun _ t' ht=>?_,fun j hj=>b2 j (a2 j hj),fun j hj=>(b3 j hj).trans (a3 j hj),b4⟩
       obtain rfl:=Option.some.inj ht
       exact⟨fun _=>b2 _ a1,fun _=>b1⟩
theorem mq {l:List Term}:∀(n:Nat) (d d':List Int),eB l n d=some d'→Nn d→
  (∀j:Nat,0<d[j]?.getD 0→0<d'[j]?.getD 0)∧(∀j:Nat,n≤j→d'[j]?.getD 0=d[j]?.getD 0)∧(∀i:Nat,i<n→0<d'[i]?.getD 0→∀t,l[i]? =some t→(1≤ah t.kind→0<d'[t.l.toNat]?.getD 0)∧(2≤ah t.kind→0<d'[t.r.toNat]?.getD 0))
 | 0,d,d',h,hn=>by obtain rfl:=Option.some.inj h;exact⟨fun j hj=>hj,fun j _=>rfl,fun i hi=>by omega⟩
 | n+1,d,d',h,hn=>by
  simp only [eB] at h
  cases hs:dy l n d with
  | none=>rw [hs] at h;cases h
  | some d1=>
   rw [hs] at h
   simp only at h
   obtain⟨a1,a2,a3,a4⟩:=uP hs hn
   obtain⟨b1,b2,b3⟩:=mq n d1 d' h a4
   refine⟨fun j hj=>b1 j (a2 j hj),fun j hj=>(b2 j omq).trans (a3 j omq),fun i hi hp t ht=>?_⟩
   by_cases e:i=n
   ·subst e
    have hp1:0<d[i]?.getD 0:=by rw [← a3 i (Nat.le_refl _),← b2 i (Nat.le_refl _)];exact hp
    have:=a1 hp1 t ht
    exact⟨fun h1=>b1 _ (this.1 h1),fun h1=>b1 _ (this.2 h1)⟩
   ·exact b3 i omq hp t ht
theorem D1 {l:List Term}{S:Nat→Prop}:∀(f at_:Nat) (deep:Int) (p:List Nat),bV l f at_ deep=some p→S at_→(∀i,i≤at_→S i→∀t,l[i]? =some t→(1≤ah t.kind→S t.l.toNat)∧(2≤ah t.kind→S t.r.toNat))→∀i∈p,S i:=by
 intro f
 induction f with
 | zero=>intro at_ deep p h;simp [bV] at h
 | succ f ih=>
  intro at_ deep p h hS hc i hi
  obtain⟨t,p0,q0,hx,hok,h0,h1,rfl⟩:=cG h
  have hcl:=hc at_ (Nat.le_refl _) hS t hx
  rcases List.mem_cons.1 hi with rfl | hi
  ·exact hS
  ·rcases List.mem_append.1 hi with hi | hi
   ·split at h0
    ·simp only [Option.some.injEq] at h0;subst h0;cases hi
    ·rename_i ho
     have:=oR hok ho
     exact ih _ _ _ h0 (hcl.1 omq) (fun j hj=>hc j omq) i hi
   ·split at h1
    ·simp only [Option.some.injEq] at h1;subst h1;cases hi
    ·rename_i ho
     have:=oQ hok ho
     exact ih _ _ _ h1 (hcl.2 omq) (fun j hj=>hc j omq) i hi
theorem xr {l:List Term}{root:Int}{d:List Int}{p:List Nat}(h:gw l root=some d)(hp:bV l (root.toNat+1) root.toNat 1=some p){k:Nat}(hk:k∈p):0<d[k]?.getD 0:=by
 unfold gw at h
 split at h
 ·cases h
 ·rename_i hg
  obtain⟨a1,a2,a3⟩:=mq _ _ _ h (r7 _ _)
  refine D1 (S:=fun i=>0<d[i]?.getD 0) _ _ _ _ hp (a1 _ (by rw [uW (by simp;omega)];decide)) (fun i hi hS t ht=>a3 i omq hS t ht) k hk
theorem BY {l:List Term}{x:Str}:∀(f at_:Nat) (deep:Int) (p:List Nat),bV l f at_ deep=some p→∀a:Int,0≤a→a.toNat=at_→(x∈dJ l f a↔∃i t,i∈p∧l[i]? =some t∧t.kind=0∧t.name=x):=by
 intro f
 induction f with
 | zero=>intro at_ deep p h;simp [bV] at h
 | succ f ih=>
  intro at_ deep p h a ha0 ha
  obtain⟨t,p0,q0,hx,hok,h0,h1,rfl⟩:=cG h
  have hops:=vn hok
  have e0:x∈dJ l f t.l↔∃i t,i∈p0∧l[i]? =some t∧t.kind=0∧t.name=x:=by
   split at h0
   ·rename_i ho
    simp only [Option.some.injEq] at h0;subst h0
    rw [hops.2.2.2.1 ho,eP dq];simp
   ·rename_i ho
    exact ih _ _ _ h0 t.l (oR hok ho).1 rfl
  have e1:x∈dJ l f t.r↔∃i t,i∈q0∧l[i]? =some t∧t.kind=0∧t.name=x:=by
   split at h1
   ·rename_i ho
    simp only [Option.some.injEq] at h1;subst h1
    rw [hops.2.2.2.2 ho,eP dq];simp
   ·rename_i ho
    exact ih _ _ _ h1 t.r (oQ hok ho).1 rfl
  rw [gS omq (by rw [ha];exact hx)]
  simp only [List.mem_append,List.mem_cons,e0,e1]
  constructor
  ·rintro(⟨i,t',hi,h⟩ | ⟨i,t',hi,h⟩ | h)
   ·exact⟨i,t',.inr (.inl hi),h⟩
   ·exact⟨i,t',.inr (.inr hi),h⟩
   ·split at h
    ·rename_i hk
     exact⟨at_,t,.inl rfl,hx,hk,(List.mem_singleton.1 h).symm⟩
    ·cases h
  ·rintro⟨i,t',(rfl | hi | hi),hh⟩
   ·rw [hx] at hh
    obtain⟨e,hk,hnm⟩:=hh
    obtain rfl:=Option.some.inj e
    right;right
    rw [if_pos hk];simp [hnm]
   ·exact .inl ⟨i,t',hi,hh⟩
   ·exact .inr (.inl ⟨i,t',hi,hh⟩)
theorem Dp (l:List Term)(root:Int):xl l root=fH l root:=by
 cases hd:gw l root with
 | none=>
  have hm:¬cq l root=true:=by rw [jY,hd];decide
  rw [yS hm];unfold xl;rw [hd]
 | some d=>
  have hm:cq l root=true:=by rw [jY,hd];rfl
  obtain⟨hrg,p,hp,_⟩:=mK.1 hm
  have e:xl l root=gU l (d.map ka) l.length:=by unfold xl;rw [hd]
  rw [e]
  refine AG _ _ (yU _ _ _) (yR _ _) (fun x=>?_)
  rw [B7,BZ hm,BY _ _ _ _ hp root omq rfl]
  constructor
  ·rintro⟨i,t,hi,hx,hb,h⟩
   exact⟨i,t,Ax hd hp (D7 hb rfl),hx,h⟩
  ·rintro⟨i,t,hi,hx,h⟩
   have hpos:=xr hd hp hi
   refine⟨i,t,(List.getElem?_eq_some_iff.1 hx).1,hx,?_,h⟩
   rw [List.getElem?_map]
   cases hdx:d[i]? with
   | none=>rw [hdx] at hpos;simp at hpos
   | some y=>
    rw [hdx] at hpos
    simp at hpos
    simp [ka,hpos]
end Go.Sx
namespace Go.Sx
open Go
def dT (l:List Str):Bool:=decide l.Nodup
theorem lD {l:List Str}{k:Int}{x:Str}(k0:0≤k)(hx:l[k.toNat]? =some x)(h:(l.take k.toNat).Nodup)(hn:x∉l.take k.toNat):(l.take (k+1).toNat).Nodup:=by
 rw [bM k0 hx,List.nodup_append]
 refine⟨h,by simp,fun a ha b hb e=>?_⟩
 simp at hb;subst hb;subst e;exact hn ha
theorem xS {l : List Str} {k : Int} {x : Str} (k0 : 0 ≤ k) (hx : l[k.toNat]? = some x) (h : ci l x = k) : x ∉ l.take k.toNat := by
 intro hm
 obtain ⟨j, hj, he⟩ := List.mem_iff_getElem.1 hm
 rw [List.length_take] at hj
 -- the least such place
 have key : ∀ (l : List Str) (j : Nat), l[j]? = some x → ci l x ≤ j := by
  intro l
  induction l with
  | nil => intro j h; simp at h
  | cons y l ih =>
   intro j h
   unfold ci
   split
   ·omega
   ·cases j with
    | zero => simp at h; subst h; rename_i hne; exact absurd rfl hne
    | succ j =>
     have := ih j (by simpa using h)
     split <;> omega
 have h2 : l[j]? = some x := by rw [List.getElem_take] at he; rw [← he]; exact List.getElem?_eq_getElem omq
 have := key l j h2
 omega
theorem mG {l:List Str}{k:Int}(hk:¬k<l.length)(k0:0≤k)(h:(l.take k.toNat).Nodup):dT l=true:=by
 rw [bA hk k0] at h;exact decide_eq_true h
theorem BT {l:List Str}{k:Int}{x:Str}(k0:0≤k)(hx:l[k.toNat]? =some x)(hm:x∈l.take k.toNat):dT l=false:=by
 refine decide_eq_false fun hn=>?_
 have h1:(l.take (k+1).toNat).Nodup:=hn.sublist (List.take_sublist _ _)
 rw [bM k0 hx,List.nodup_append] at h1
 exact h1.2.2 x hm x sq rfl
theorem xW {l:List Str}{k:Int}{x:Str}(k0:0≤k)(hx:l[k.toNat]? =some x)(h:cj ((l.take k.toNat).drop 0) x=true):dT l=false:=BT k0 hx (by simpa [cj] using h)
theorem has_not {l:List Str}{x:Str}(h:cj (l.drop 0) x=false):x∉l:=by simpa [cj] using h
theorem rb {l:List Str}{k:Int}{x:Str}(k0:0≤k)(hx:l[k.toNat]? =some x)(h:¬ci l x=k):dT l=false:=by
 refine decide_eq_false fun hn=>h ?_
 refine dG k0 hx (fun j hj he=>?_)
 have h1:=(List.getElem?_eq_some_iff.1 hx)
 have h2:=(List.getElem?_eq_some_iff.1 he)
 obtain⟨a1,b1⟩:=h1;obtain⟨a2,b2⟩:=h2
 have:=(List.getElem_inj hn (h₀:=a2) (h₁:=a1)).1 (b2.trans b1.symm)
 omega
theorem yv (s:Str)(l:List Str):(l.foldl cw [s]).length≤l.length+1:=by
 have:∀(l a:List Str),(l.foldl cw a).length≤l.length+a.length:=by
  intro l
  induction l with
  | nil=>intro a;simp
  | cons x l ih=>
   intro a
   have h1:=ih (cw a x)
   have h2:=put_len a x
   simp only [List.foldl_cons,List.length_cons];omega
 simpa using this l [s]
section
variable {l:List Str}{s h:Str}{k:Int}
end
end Go.Sx
namespace Go.Sx
open Go
def lS (s:Str):Str×Str×Bool:=Lib.cut s [46]
end Go.Sx
namespace Go.Sx
open Go
abbrev Sp:=Option Addr×Nat
structure SWay where
 label:Str
 name:Str
 next:Int
def SWay.cells (w:SWay):List Value:=[gs w.label,gs w.name,.int .i64 w.next]
structure SCast where
 role:Str
 proc:Str
 args:List Int
 ap:Sp
def SCast.cells (c:SCast):List Value:=[gs c.role,gs c.proc,.slice c.ap.1 c.args.length c.ap.2]
structure SStep where
 kind:Int
 name:Str
 peer:Str
 label:Str
 proc:Str
 term:Int
 args:List Int
 ap:Sp
 casts:List SCast
 cp:Sp
 ways:List SWay
 wp:Sp
 next:Int
def SStep.cells (s:SStep):List Value:=[.int .i64 s.kind,gs s.name,gs s.peer,gs s.label,gs s.proc,.int .i64 s.term,.slice s.ap.1 s.args.length s.ap.2,.slice s.cp.1 s.casts.length s.cp.2,.slice s.wp.1 s.ways.length s.wp.2,.int .i64 s.next]
structure SArm where
 label:Str
 ck:Int
 cn:Str
 next:Int
def SArm.cells (a:SArm):List Value:=[gs a.label,.int .i64 a.ck,gs a.cn,.int .i64 a.next]
structure STurn where
 kind:Int
 peer:Str
 arms:List SArm
 ap:Sp
def STurn.cells (t:STurn):List Value:=[.int .i64 t.kind,gs t.peer,.slice t.ap.1 t.arms.length t.ap.2]
structure SLocal where
 name:Str
 turns:List STurn
 tp:Sp
def SLocal.cells (l:SLocal):List Value:=[gs l.name,.slice l.tp.1 l.turns.length l.tp.2]
structure SPoint where
 frm:Str
 to:Str
 arms:List SArm
 ap:Sp
def SPoint.cells (p:SPoint):List Value:=[gs p.frm,gs p.to,.slice p.ap.1 p.arms.length p.ap.2]
structure SProto where
 name:Str
 roles:List Str
 rp:Sp
 points:List SPoint
 pp:Sp
def SProto.cells (p:SProto):List Value:=[gs p.name,.slice p.rp.1 p.roles.length p.rp.2,.slice p.pp.1 p.points.length p.pp.2]
structure SParam where
 name:Str
 ck:Int
 cn:Str
def SParam.cells (p:SParam):List Value:=[gs p.name,.int .i64 p.ck,gs p.cn]
structure SProc where
 name:Str
 params:List SParam
 pp:Sp
 terms:List Term
 tp:Sp
 steps:List SStep
 sp:Sp
def SProc.cells (q:SProc):List Value:=[gs q.name,.slice q.pp.1 q.params.length q.pp.2,.slice q.tp.1 q.terms.length q.tp.2,.slice q.sp.1 q.steps.length q.sp.2]
structure SProg where
 protos:List SProto
 rp:Sp
 locals:List SLocal
 lp:Sp
 procs:List SProc
 qp:Sp
def SProg.cells (p:SProg):List Value:=[.slice p.rp.1 p.protos.length p.rp.2,.slice p.lp.1 p.locals.length p.lp.2,.slice p.qp.1 p.procs.length p.qp.2]
instance :Cells 3 SWay.cells:=⟨fun _=>rfl,by decide,fun _=>rfl⟩
instance :Cells 3 SCast.cells:=⟨fun _=>rfl,by decide,fun _=>rfl⟩
instance :Cells 10 SStep.cells:=⟨fun _=>rfl,by decide,fun _=>rfl⟩
instance :Cells 4 SArm.cells:=⟨fun _=>rfl,by decide,fun _=>rfl⟩
instance :Cells 3 STurn.cells:=⟨fun _=>rfl,by decide,fun _=>rfl⟩
instance :Cells 2 SLocal.cells:=⟨fun _=>rfl,by decide,fun _=>rfl⟩
instance :Cells 3 SPoint.cells:=⟨fun _=>rfl,by decide,fun _=>rfl⟩
instance :Cells 3 SProto.cells:=⟨fun _=>rfl,by decide,fun _=>rfl⟩
instance :Cells 3 SParam.cells:=⟨fun _=>rfl,by decide,fun _=>rfl⟩
instance :Cells 4 SProc.cells:=⟨fun _=>rfl,by decide,fun _=>rfl⟩
structure TurnOk (H:Hp)(t:STurn):Prop where
 a:RdSl H 4 SArm.cells (.slice t.ap.1 t.arms.length t.ap.2) t.arms
 z:∀a∈t.arms,a.cn.length≤4294960000
theorem TurnOk.le {H H':Hp}{t:STurn}(h:TurnOk H t)(hl:H.le H'):TurnOk H' t:=⟨h.a.le hl,h.z⟩
structure LocalOk (H:Hp)(l:SLocal):Prop where
 t:RdSl H 3 STurn.cells (.slice l.tp.1 l.turns.length l.tp.2) l.turns
 ts:∀t∈l.turns,TurnOk H t
theorem LocalOk.le {H H':Hp}{l:SLocal}(h:LocalOk H l)(hl:H.le H'):LocalOk H' l:=⟨h.t.le hl,fun t ht=>(h.ts t ht).le hl⟩
structure PointOk (H:Hp)(p:SPoint):Prop where
 a:RdSl H 4 SArm.cells (.slice p.ap.1 p.arms.length p.ap.2) p.arms
 z:∀a∈p.arms,a.cn.length≤4294960000
theorem PointOk.le {H H':Hp}{p:SPoint}(h:PointOk H p)(hl:H.le H'):PointOk H' p:=⟨h.a.le hl,h.z⟩
structure ProtoOk (H:Hp)(p:SProto):Prop where
 r:RdSl H 1 Str.cells (.slice p.rp.1 p.roles.length p.rp.2) p.roles
 pt:RdSl H 3 SPoint.cells (.slice p.pp.1 p.points.length p.pp.2) p.points
 ps:∀x∈p.points,PointOk H x
theorem ProtoOk.le {H H':Hp}{p:SProto}(h:ProtoOk H p)(hl:H.le H'):ProtoOk H' p:=⟨h.r.le hl,h.pt.le hl,fun x hx=>(h.ps x hx).le hl⟩
structure StepOk (H:Hp)(s:SStep):Prop where
 a:RdSl H 1 I64.cells (.slice s.ap.1 s.args.length s.ap.2) s.args
 c:RdSl H 3 SCast.cells (.slice s.cp.1 s.casts.length s.cp.2) s.casts
 cs:∀c∈s.casts,RdSl H 1 I64.cells (.slice c.ap.1 c.args.length c.ap.2) c.args
 w:RdSl H 3 SWay.cells (.slice s.wp.1 s.ways.length s.wp.2) s.ways
theorem StepOk.le {H H':Hp}{s:SStep}(h:StepOk H s)(hl:H.le H'):StepOk H' s:=⟨h.a.le hl,h.c.le hl,fun c hc=>(h.cs c hc).le hl,h.w.le hl⟩
structure ProcOk (H:Hp)(q:SProc):Prop where
 pa:RdSl H 3 SParam.cells (.slice q.pp.1 q.params.length q.pp.2) q.params
 pz:∀x∈q.params,x.cn.length≤4294960000
 pl:q.params.length≤2000000
 t:RdSl H 6 Term.cells (.slice q.tp.1 q.terms.length q.tp.2) q.terms
 tn:∀t∈q.terms,t.name.length≤9223372036854775807
 s:RdSl H 10 SStep.cells (.slice q.sp.1 q.steps.length q.sp.2) q.steps
 ss:∀s∈q.steps,StepOk H s
theorem ProcOk.le {H H':Hp}{q:SProc}(h:ProcOk H q)(hl:H.le H'):ProcOk H' q:=⟨h.pa.le hl,h.pz,h.pl,h.t.le hl,h.tn,h.s.le hl,fun s hs=>(h.ss s hs).le hl⟩
structure ProgOk (H:Hp)(P:SProg):Prop where
 r:RdSl H 3 SProto.cells (.slice P.rp.1 P.protos.length P.rp.2) P.protos
 rs:∀p∈P.protos,ProtoOk H p
 l:RdSl H 2 SLocal.cells (.slice P.lp.1 P.locals.length P.lp.2) P.locals
 ls:∀l∈P.locals,LocalOk H l
 q:RdSl H 4 SProc.cells (.slice P.qp.1 P.procs.length P.qp.2) P.procs
 qs:∀q∈P.procs,ProcOk H q
theorem ProgOk.le {H H':Hp}{P:SProg}(h:ProgOk H P)(hl:H.le H'):ProgOk H' P:=⟨h.r.le hl,fun p hp=>(h.rs p hp).le hl,h.l.le hl,fun l hh=>(h.ls l hh).le hl,h.q.le hl,fun q hq=>(h.qs q hq).le hl⟩
def fA (k:Int):Bool:=decide (k=1)||(decide (k=2)||(decide (k=4)||(decide (k=7)||(decide (k=8)||decide (k=9)))))
def aL (s:SStep):List Int:=if fA s.kind=true then [s.next] else s.ways.map (·.next)
def a8 (s:SStep):List Int:=((if s.kind=1∨s.kind=2∨s.kind=3∨(s.kind=4∧s.term≠ -1) then [s.term] else [])++s.args)++s.casts.flatMap (·.args)
def bK (s:SStep):List Str:=if s.kind=1∨s.kind=8 then [s.name] else if s.kind=5 then s.ways.map (·.name) else List.replicate (aL s).length []
def eS (w:SWay):Bool:=(decide (w.label=[])&& !decide (w.name=[]))||((!decide (w.label=[])&& !aH w.label)||(!decide (w.name=[])&& !aH w.name))
def w00:SWay:=⟨[],[],0⟩
def lu (w:SWay):Bool:=decide (w.label=[])&&decide (w.name=[])
def eA (s:SStep):Bool:=
 if s.kind=3 then decide ((s.ways.length:Int)=2)&&(lu (s.ways[0]?.getD w00)&&lu (s.ways[1]?.getD w00))
 else decide ((1:Int)≤s.ways.length)&&(decide ((s.ways.length:Int)≤7)&&(s.ways.all (fun w=>!eS w)&&dT (s.ways.map (·.label))))
def dr (s:SStep):SStep:=
 {kind:=s.kind
  name:=if s.kind=1∨s.kind=4∨s.kind=5∨s.kind=8∨s.kind=9 then [] else s.name
  peer:=if s.kind=4∨s.kind=5∨s.kind=8 then [] else s.peer
  label:=if s.kind=4∨s.kind=8 then [] else s.label
  proc:=if s.kind=6∨s.kind=7 then [] else s.proc
  term:=if s.kind=1∨s.kind=2∨s.kind=3∨s.kind=4 then -1 else s.term
  args:=if s.kind=6∨s.kind=7 then [] else s.args
  ap:=if s.kind=6∨s.kind=7 then(none,0) else s.ap
  casts:=if s.kind=8 then [] else s.casts
  cp:=if s.kind=8 then(none,0) else s.cp
  ways:=if s.kind=3∨s.kind=5 then [] else s.ways
  wp:=if s.kind=3∨s.kind=5 then(none,0) else s.wp
  next:=if fA s.kind=true then -1 else s.next}
def je (x:SStep):Bool:=!decide (x.name=[])||(!decide (x.peer=[])||(!decide (x.label=[])||(!decide (x.proc=[])||(!decide (x.term= -1)||(decide (0<(x.args.length:Int))||(decide (0<(x.casts.length:Int))||(decide (0<(x.ways.length:Int))|| !decide (x.next= -1))))))))
def dD (c:SCast):Bool:=!aH c.role||(!aH c.proc||decide (6<(c.args.length:Int)))
def dO (s:SStep):Bool:=
 if s.kind<0∨10<s.kind then false
 else if je (dr s)=true then false
 else if s.kind=1∨s.kind=9 then aH s.name
 else if s.kind=3 then eA s
 else if s.kind=4 then aH s.name&&(aH s.peer&&aH s.label)
 else if s.kind=5 then aH s.name&&(aH s.peer&&eA s)
 else if s.kind=6∨s.kind=7 then aH s.proc&&decide ((s.args.length:Int)≤6)
 else if s.kind=8 then aH s.name&&(aH s.label&&(aH s.peer&&(decide ((1:Int)≤s.casts.length)&&(decide ((s.casts.length:Int)≤4)&&s.casts.all (fun c=>!dD c)))))
 else true
def cv (l:List Term):Nat→Int→List Int
 | 0,_=>[]
 | f+1,at_=>if at_<0 then [] else match l[at_.toNat]? with
  | none=>[]
  | some t=>cv l f t.l++(cv l f t.r++[at_])
theorem db {l:List Term}{f:Nat}{at_:Int}(h:at_<0):cv l f at_=[]:=by
 cases f with
 | zero=>rfl
 | succ f=>unfold cv;rw [if_pos h]
theorem fe {l:List Term}{f:Nat}{at_:Int}{t:Term}(h:¬at_<0)(hx:l[at_.toNat]? =some t):cv l (f+1) at_=cv l f t.l++(cv l f t.r++[at_]):=by
 rw [cv,if_neg h,hx]
def postS (l:List Term)(root:Int):List Int:=cv l (root.toNat+1) root
def cf (l:List SProc)(s:Str):Int:=ci (l.map (·.name)) s
structure SFault where
 e:Int
 part:Int
 at_:Int
def SFault.cells (f:SFault):List Value:=[.int .i64 f.e,.int .i64 f.part,.int .i64 f.at_]
def okF:SFault:=⟨0,0,0⟩
end Go.Sx
namespace Go.Sx
open Go
theorem BW {b:Bool}(h:(!b)=true):b=false:=by simpa using h
theorem nb_F {b:Bool}(h:(!b)=false):b=true:=by simpa using h
theorem rH (l:List SProc)(s:Str):cf l s= -1∨(0≤cf l s∧cf l s<l.length):=by
 have:=mE (l.map (·.name)) s
 rwa [List.length_map] at this
def q00:SProc:=⟨[],[],(none,0),[],(none,0),[],(none,0)⟩
def lR (l:List SProc)(k:Int):SProc:=l[k.toNat]?.getD q00
theorem iK {α:Type}{s:List α}{i:Int}{e:α}(h:s[i.toNat]? =some e):i<s.length:=by
 have:=(List.getElem?_eq_some_iff.1 h).1;omega
theorem RdSl.cast {α:Type}{H:Hp}{m:Nat}{enc:α→List Value}{v:Value}{l l':List α}(h:RdSl H m enc v l)(e:l=l'):RdSl H m enc v l':=e▸h
theorem iJ {α β:Type}{f:α→β}{l:List α}{k:Nat}{x:α}(h:l[k]? =some x):(l.map f)[k]? =some (f x):=by rw [List.getElem?_map,h];rfl
theorem cd {α:Type}{p:α→Bool}{l:List α}{k:Int}{x:α}(k0:0≤k)(hx:l[k.toNat]? =some x)(hp:p x=true){b:Bool}(h:b=(l.drop k.toNat).all p):b=(l.drop (k+1).toNat).all p:=by
 rw [h,bE hx,List.all_cons,hp,Bool.true_and,show(k+1).toNat=k.toNat+1 by omega]
theorem dm {α:Type}{p:α→Bool}{l:List α}{k:Int}{x:α}(k0:0≤k)(hx:l[k.toNat]? =some x)(hp:p x=false){b:Bool}(h:b=(l.drop k.toNat).all p):b=false:=by
 rw [h,bE hx,List.all_cons,hp,Bool.false_and]
theorem cP {α:Type}{p:α→Bool}{l:List α}{k:Int}(k0:0≤k)(hk:¬k<l.length){b:Bool}(h:b=(l.drop k.toNat).all p):b=true:=by
 rw [h,List.drop_of_length_le omq];rfl
theorem OwnSl.cast {α:Type}{m:Nat}{enc:α→List Value}{v:Value}{l l':List α}{ob:ak}(h:OwnSl m enc v l ob)(e:l=l'):OwnSl m enc v l' ob:=e▸h
def jJ (s:SStep):List Int:=(if s.kind=1∨s.kind=2∨s.kind=3∨(s.kind=4∧s.term≠ -1) then [s.term] else [])++s.args
theorem uS {s:SStep}(h:s.kind=1∨s.kind=2∨s.kind=3):jJ s=[s.term]++s.args:=by
 unfold jJ;rcases h with e | e | e<;>simp [e]
theorem uT {s:SStep}(h:s.kind=4)(h2:¬s.term= -1):jJ s=[s.term]++s.args:=by unfold jJ;simp [h,h2]
theorem kB {s:SStep}(h:¬s.kind=1∧¬s.kind=2∧¬s.kind=3)(h2:¬s.kind=4∨s.term= -1):jJ s=s.args:=by
 unfold jJ;obtain⟨a,b,c⟩:=h
 rcases h2 with h2 | h2<;>simp [a,b,c,h2]
theorem ng (s:SStep):jJ s++s.casts.flatMap (·.args)=a8 s:=rfl
theorem nk (s:SStep):(jJ s).length≤1+s.args.length:=by unfold jJ;split<;>simp<;>omega
theorem BV (s:SStep)(h:s.ways.length≤1000):(aL s).length≤1000:=by unfold aL;split<;>simp<;>omega
theorem gL {s:SStep}(h:dO s=true):s.ways.length≤7∧(s.args.length≤6∧s.casts.length≤4∧∀c∈s.casts,c.args.length≤6):=by
 unfold dO at h
 split at h; · cases h
 split at h; · cases h
 rename_i hk hb
 have hb:je (dr s)=false:=by simpa using hb
 simp only [je,Bool.or_eq_false_iff,decide_eq_false_iff_not] at hb
 obtain⟨-, -, -, -, -,ha,hc,hw, -⟩:=hb
 have hw0:¬(s.kind=3∨s.kind=5)→s.ways.length≤7:=fun hn=>by
  simp only [dr,if_neg hn] at hw;omega
 have ha0:¬(s.kind=6∨s.kind=7)→s.args.length≤6:=fun hn=>by
  simp only [dr,if_neg hn] at ha;omega
 have hc0:¬s.kind=8→s.casts.length=0:=fun hn=>by
  simp only [dr,if_neg hn] at hc;omega
 have hcn:¬s.kind=8→s.casts.length≤4∧∀c∈s.casts,c.args.length≤6:=fun hn=>by
  have h0:=List.length_eq_zero_iff.1 (hc0 hn)
  rw [h0];exact⟨by simp,fun c hc=>by cases hc⟩
 have wy:eA s=true→s.ways.length≤7:=fun hy=>by
  unfold eA at hy
  split at hy
  ·simp only [Bool.and_eq_true,decide_eq_true_eq] at hy;omega
  ·simp only [Bool.and_eq_true,decide_eq_true_eq] at hy;omega
 split at h
 ·rename_i h1
  exact⟨hw0 omq,ha0 omq,hcn omq⟩
 split at h
 ·rename_i h1 h3
  exact⟨wy h,ha0 omq,hcn omq⟩
 split at h
 ·exact⟨hw0 omq,ha0 omq,hcn omq⟩
 split at h
 ·simp only [Bool.and_eq_true] at h
  exact⟨wy h.2.2,ha0 omq,hcn omq⟩
 split at h
 ·simp only [Bool.and_eq_true,decide_eq_true_eq] at h
  exact⟨hw0 omq,by omega,hcn omq⟩
 split at h
 ·rename_i h8
  simp only [Bool.and_eq_true,decide_eq_true_eq] at h
  obtain⟨-, -, -, -,h4,h5⟩:=h
  refine⟨hw0 omq,ha0 omq,by omega,fun c hc=>?_⟩
  have h6:=List.all_eq_true.1 h5 c hc
  simp only [dD,Bool.not_eq_true',Bool.or_eq_false_iff,decide_eq_false_iff_not] at h6
  omega
 ·exact⟨hw0 omq,ha0 omq,hcn omq⟩
theorem uB {α:Type}{enc:α→List Value}{x:α}{u:Value}(he:enc x=[u]):∀n:Nat,(List.replicate n x).flatMap enc=gX n [u]
 | 0=>rfl
 | n+1=>by rw [List.replicate_succ,List.flatMap_cons,uB he n,he];rfl
theorem DP {l:List Str}{b n:Nat}(e:l=List.replicate n ([]:Str))(hn:n≤1000):OwnSl 1 Str.cells (.slice (some ⟨b,0,none⟩) n n) l [(b,gX n [gs []])]:=by
 subst e
 exact OwnSl.blk (enc:=Str.cells) (List.replicate n ([]:Str)) sq (uB (enc:=Str.cells) (x:=([]:Str)) rfl n).symm omq
section
variable {s:SStep}{k:Int}{x w0 w1:SWay}
theorem ways_3 {b:Bool}(hk:s.kind=3)(h0:s.ways[(0:Int).toNat]? =some w0)(h1:s.ways[(1:Int).toNat]? =some w1)(h:b=(decide ((s.ways.length:Int)=2)&&(lu w0&&lu w1))):b=eA s:=by
 unfold eA
 rw [if_pos hk,h]
 rw [show(0:Int).toNat=0 from rfl] at h0
 rw [show(1:Int).toNat=1 from rfl] at h1
 rw [h0,h1];rfl
theorem ways_3n (hk:s.kind=3)(h:decide ((s.ways.length:Int)=2)=false):false=eA s:=by
 unfold eA;rw [if_pos hk,h];rfl
theorem ways_n (hk:¬s.kind=3)(h:¬((1:Int)≤s.ways.length∧(s.ways.length:Int)≤7)):eA s=false:=by
 unfold eA
 rw [if_neg hk]
 by_cases h1:(1:Int)≤s.ways.length
 ·rw [decide_eq_true h1,decide_eq_false (fun h2=>h ⟨h1,h2⟩)];rfl
 ·rw [decide_eq_false h1];rfl
theorem Dj (hk:¬s.kind=3)(k0:0≤k)(hx:s.ways[k.toNat]? =some x)(hb:eS x=true)(h:s.ways.all (fun w=>!eS w)=(s.ways.drop k.toNat).all (fun w=>!eS w)):eA s=false:=by
 unfold eA
 rw [if_neg hk,dm (p:=fun w=>!eS w) k0 hx (by simp [hb]) h]
 simp
theorem Di (hk:¬s.kind=3)(hn:(1:Int)≤s.ways.length∧(s.ways.length:Int)≤7)(k0:0≤k)(he:¬k<s.ways.length)(h:s.ways.all (fun w=>!eS w)=(s.ways.drop k.toNat).all (fun w=>!eS w)):eA s=dT (s.ways.map (·.label)):=by
 unfold eA
 rw [if_neg hk,cP (p:=fun w=>!eS w) k0 he h,decide_eq_true hn.1,decide_eq_true hn.2]
 simp
theorem bare_rd {H:Hp}(hs:StepOk H s):StepOk H (dr s):=by
 unfold dr
 constructor<;>simp only
 ·by_cases h:s.kind=6∨s.kind=7
  ·simp only [if_pos h];exact RdSl.nil
  ·simp only [if_neg h];exact hs.a
 ·by_cases h:s.kind=8
  ·simp only [if_pos h];exact RdSl.nil
  ·simp only [if_neg h];exact hs.c
 ·by_cases h:s.kind=8
  ·simp only [if_pos h];intro c hc;cases hc
  ·simp only [if_neg h];exact hs.cs
 ·by_cases h:s.kind=3∨s.kind=5
  ·simp only [if_pos h];exact RdSl.nil
  ·simp only [if_neg h];exact hs.w
end
end Go.Sx
namespace Go.Sx
open Go
theorem Cc {l:List Term}:∀(f:Nat) (at_ deep:Int) (met:List Bool),0≤at_→1≤deep→(cL l f at_ deep met).1=true→(cv l f at_).length+1≤2 ^ (26 - deep.toNat):=by
 intro f
 induction f with
 | zero=>intro at_ deep met _ _ h;simp [cL] at h
 | succ f ih=>
  intro at_ deep met h0 hd h
  cases hx:l[at_.toNat]? with
  | none=>simp [cL,hx] at h
  | some t=>
   by_cases hg:met[at_.toNat]?.getD false=true∨24<deep∨ah t.kind<0∨ce t=false
   ·rw [rk hx hg] at h;cases h
   ·have hgg:yO deep met at_ t:=by
     refine⟨?_,?_,?_,?_⟩
     ·cases hb:met[at_.toNat]?.getD false with
      | false=>rfl
      | true=>exact absurd (.inl hb) hg
     ·intro h1;exact hg (.inr (.inl h1))
     ·intro h1;exact hg (.inr (.inr (.inl h1)))
     ·cases hb:ce t with
      | true=>rfl
      | false=>exact absurd (.inr (.inr (.inr hb))) hg
    generalize h00:opW (ah t.kind) at_ (fun to m=>cL l f to (deep+1) m) 0 t.l (met.set at_.toNat true)=r0
    obtain⟨b0,m0⟩:=r0
    cases b0 with
    | false=>rw [rm hx hgg h00] at h;cases h
    | true=>
     generalize h11:opW (ah t.kind) at_ (fun to m=>cL l f to (deep+1) m) 1 t.r m0=r1
     rw [km hx hgg h00 h11] at h
     have h24:=hgg.2.1
     have h1:0<2 ^ (26 - (deep+1).toNat):=Nat.two_pow_pos _
     have key:∀(i to:Int) (m m':List Bool),opW (ah t.kind) at_ (fun to m=>cL l f to (deep+1) m) i to m=(true,m')→(cv l f to).length+1≤2 ^ (26 - (deep+1).toNat):=by
      intro i to m m' he
      by_cases hi:i<ah t.kind
      ·by_cases hb:to<0∨at_≤to
       ·rw [pD omq hb] at he;cases he
       ·rw [pC omq omq omq] at he
        exact ih to (deep+1) m omq omq (by rw [he])
      ·rw [vm omq] at he
       have:to= -1:=by simpa using congrArg Prod.fst he
       rw [db omq];simp;omega
     have k0:=key 0 t.l _ _ h00
     have k1:=key 1 t.r _ r1.2 (by rw [h11];cases r1;simp at h;simp [h])
     rw [fe omq hx]
     have hp:2 ^ (26 - deep.toNat)=2 * 2 ^ (26 - (deep+1).toNat):=by
      rw [show 26 - deep.toNat=(26 - (deep+1).toNat)+1 by omega,Nat.pow_succ];omega
     simp only [List.length_append,List.length_cons,List.length_nil]
     omega
theorem nI {l:List Term}{root:Int}(h:cq l root=true):(cv l (root.toNat+1) root).length≤33554432:=by
 unfold cq at h
 split at h
 ·cases h
 ·split at h
  ·cases h
  ·split at h
   ·cases h
   ·have:=Cc _ _ _ _ omq dq h
    simp at this
    omega
theorem gF {l:List Term}:∀(f:Nat) (at_:Int),∀k∈cv l f at_,0≤k∧k<l.length
 | 0,at_,k,h=>by cases h
 | f+1,at_,k,h=>by
  rw [cv] at h
  split at h
  ·cases h
  ·split at h
   ·cases h
   ·rename_i hn t hx
    rcases List.mem_append.1 h with h | h
    ·exact gF f _ k h
    ·rcases List.mem_append.1 h with h | h
     ·exact gF f _ k h
     ·simp at h;subst h
      have:=(List.getElem?_eq_some_iff.1 hx).1
      omega
def br (l:List SProc)(name:Str)(n:Int):Bool:=decide (0≤cf l name)&&decide (((lR l (cf l name)).params.length:Int)=n)
def dv (s:SStep):List Str:=s.peer::s.casts.map (·.role)
def lP (x:SProto)(s:SStep):Bool:=decide (((dv s).length:Int)=x.roles.length)&&(dT (dv s)&&(dv s).all (fun r=>cj x.roles r))
def dk (s:SStep):List SProto→Bool
 | []=>false
 | x::r=>if x.name=s.label then lP x s else dk s r
def eg (P:SProg)(s:SStep):Bool:=dk s P.protos
def cu (ts:List Term)(s:SStep):List Str:=(a8 s).flatMap (fH ts)++(if s.kind=4∨s.kind=5∨s.kind=9 then [s.name] else [])
def stepE (P:SProg)(ts:List Term)(s:SStep)(bound:List Str):Int:=
 if(cu ts s).all (fun n=>cj bound n)=false then 1505
 else if(bK s).all (fun n=>!(!decide (n=[])&&cj bound n))=false then 1506
 else if(!decide (s.proc=[])&& !br P.procs s.proc s.args.length)=true then 1507
 else if s.casts.all (fun c=>br P.procs c.proc (c.args.length+1))=false then 1507
 else if(decide (s.kind=8)&& !eg P s)=true then 1508 else 0
def di (ck:Int)(cn:Str):Bool:=
 if ck<0∨5<ck then false
 else if ck≠5 then decide (cn=[])
 else aH (lS cn).1&&(!(lS cn).2.2||aH (lS cn).2.1)
def fm (n:Int)(a:SArm):Bool:=aH a.label&&(di a.ck a.cn&&(!decide (a.next<0)&& !decide (n≤a.next)))
def dZ (l:List SArm)(n:Int):Bool:=(decide (1≤l.length)&&decide (l.length≤6))&&(l.all (fm n)&&dT (l.map (·.label)))
def fo (n:Int)(t:STurn):Bool:=
 if t.kind=0 then decide (t.peer=[])&& !decide (0<(t.arms.length:Int))
 else if t.kind=1∨t.kind=2 then aH t.peer&&dZ t.arms n
 else false
def bP (l:SLocal):Bool:=(decide (1≤l.turns.length)&&decide (l.turns.length≤40))&&l.turns.all (fo l.turns.length)
def dH (x:SPoint):STurn:=if ¬x.frm=[]∨¬x.to=[]∨0<x.arms.length then⟨1,x.to,x.arms,x.ap⟩ else⟨0,[],x.arms,x.ap⟩
def eV (x:SPoint):Bool:=decide (x.frm=[])&&(decide (x.to=[])&&decide ((x.arms.length:Int)=0))
def eT (roles:List Str)(x:SPoint):Bool:=cj roles x.frm&&(cj roles x.to&& !decide (x.frm=x.to))
def eE (roles:List Str)(x:SPoint):Bool:=eV x||eT roles x
def cB (p:SProto):Bool:=aH p.name&&(decide ((2:Int)≤p.roles.length)&&(decide ((p.roles.length:Int)≤5)&&(dT p.roles&& !decide ((24:Int)<p.points.length))))
def cy (p:SProto):Bool:=cB p&&(p.roles.all aH&&(p.points.all (eE p.roles)&&bP ⟨[],p.points.map dH,(none,0)⟩))
def bG (q:SProc):Bool:=aH q.name&&(decide ((q.params.length:Int)≤6)&&(decide ((1:Int)≤q.steps.length)&&(decide ((q.steps.length:Int)≤80)&&decide ((q.terms.length:Int)≤160))))
def eU (x:SParam):Bool:=aH x.name&&di x.ck x.cn
def dM (l:List SProc)(i:Int)(q:SProc):SFault:=
 if(bG q&&q.params.all eU)=false then⟨1500,i, -1⟩
 else if(decide (cf l q.name<i)|| !dT (q.params.map (·.name)))=true then⟨1501,i, -1⟩ else okF
def aG (l:List Int)(i:Int):Int:=l[i.toNat]?.getD 0
def fZ (l:List Int)(i:Int):List Int:=l.set i.toNat (IntKind.i64.wrap (aG l i+1))
def bO (n at_:Int):List Int→List Int→List Int→Option (List Int×List Int)
 | [],c,d=>some (c,d)
 | t::r,c,d=>if t≤at_∨n≤t then none else bO n at_ r (fZ c t) (d.set t.toNat (aG d at_))
def eR:List Int→List Bool→Option (List Bool)
 | [],u=>some u
 | k::r,u=>if u[k.toNat]?.getD false=true then none else eR r (u.set k.toNat true)
def bT (ts:List Term):List Int→List Bool→Option (List Bool)
 | [],u=>some u
 | t::r,u=>if cq ts t=false then none else match eR (postS ts t) u with
  | none=>none
  | some u2=>bT ts r u2
def cR (s:SStep)(at_:Int)(d:List Int):List Int:=if s.kind=3∨s.kind=5 then fZ d at_ else d
def bB (q:SProc)(i:Int):List SStep→Int→List Int→List Int→List Bool→SFault
 | [],_,_,_,_=>okF
 | s::r,at_,c,d,u=>
  if dO s=false then⟨1500,i,at_⟩
  else if 0<at_∧¬aG c at_=1 then⟨1502,i,at_⟩
  else match bO q.steps.length at_ (aL s) c (cR s at_ d) with
   | none=>⟨1502,i,at_⟩
   | some (c2,d2)=>
    if 24<aG d2 at_ then⟨1502,i,at_⟩
    else match bT q.terms (a8 s) u with
     | none=>⟨1503,i,at_⟩
     | some u2=>bB q i r (at_+1) c2 d2 u2
def d9 (i:Int)(q:SProc):SFault:=bB q i q.steps 0 (List.replicate q.steps.length 0) (List.replicate q.steps.length 0) (List.replicate q.terms.length false)
def iZ (b:List (List Str))(at_:Int)(t:Int)(m:Str):List (List Str):=b.set t.toNat ((b[at_.toNat]?.getD [])++(if m=[] then [] else [m]))
def dE (at_:Int):List Int→List Str→List (List Str)→List (List Str)
 | [],_,b=>b
 | t::r,ms,b=>dE at_ r (ms.drop 1) (iZ b at_ t (ms.headD []))
def dz (P:SProg)(q:SProc)(i:Int):List SStep→Int→List (List Str)→SFault
 | [],_,_=>okF
 | s::r,at_,b=>
  let e:=stepE P q.terms s (b[at_.toNat]?.getD [])
  if e≠0 then⟨e,i,at_⟩ else dz P q i r (at_+1) (dE at_ (aL s) (bK s) b)
def ij (q:SProc):List (List Str):=(List.replicate q.steps.length ([]:List Str)).set 0 (q.params.map (·.name))
def er (P:SProg)(i:Int)(q:SProc):SFault:=dz P q i q.steps 0 (ij q)
def cb (f:Int→SProc→SFault):List SProc→Int→SFault
 | [],_=>okF
 | q::r,i=>if(f i q).e≠0 then f i q else cb f r (i+1)
def aS (l:List SProc)(i:Int)(q:SProc):SFault:=if(dM l i q).e≠0 then dM l i q else d9 i q
def gk (P:SProg):SFault:=
 if 6<(P.protos.length:Int)∨12<(P.locals.length:Int)∨24<(P.procs.length:Int) then⟨1500, -1, -1⟩
 else if P.protos.all cy=false then⟨1500, -1, -1⟩
 else if P.locals.all (fun l=>bP l&&aH l.name)=false then⟨1500, -1, -1⟩
 else okF
def da:Str:=[109,97,105,110]
def fT (l:List SProc):SFault:=if cf l da<0∨0<((lR l (cf l da)).params.length:Int) then⟨1504, -1, -1⟩ else okF
def bJ (P:SProg):SFault:=
 if(gk P).e≠0 then gk P
 else if(cb (aS P.procs) P.procs 0).e≠0 then cb (aS P.procs) P.procs 0
 else if(fT P.procs).e≠0 then fT P.procs
 else cb (er P) P.procs 0
end Go.Sx
namespace Go.Sx
open Go
section
variable {P:SProg}{ts:List Term}{s:SStep}{bound:List Str}
theorem step_1 (h:(cu ts s).all (fun n=>cj bound n)=false):stepE P ts s bound=1505:=by unfold stepE;rw [if_pos h]
theorem step_2 (h:(cu ts s).all (fun n=>cj bound n)=true)(h2:(bK s).all (fun n=>!(!decide (n=[])&&cj bound n))=false):stepE P ts s bound=1506:=by
 unfold stepE;rw [if_neg (by rw [h];decide),if_pos h2]
theorem step_3 (h:(cu ts s).all (fun n=>cj bound n)=true)(h2:(bK s).all (fun n=>!(!decide (n=[])&&cj bound n))=true)(h3:(!decide (s.proc=[])&& !br P.procs s.proc s.args.length)=true):stepE P ts s bound=1507:=by
 unfold stepE;rw [if_neg (by rw [h];decide),if_neg (by rw [h2];decide),if_pos h3]
theorem step_4 (h:(cu ts s).all (fun n=>cj bound n)=true)(h2:(bK s).all (fun n=>!(!decide (n=[])&&cj bound n))=true)(h3:(!decide (s.proc=[])&& !br P.procs s.proc s.args.length)=false)
  (h4:s.casts.all (fun c=>br P.procs c.proc (c.args.length+1))=false):stepE P ts s bound=1507:=by
 unfold stepE;rw [if_neg (by rw [h];decide),if_neg (by rw [h2];decide),if_neg (by rw [h3];decide),if_pos h4]
theorem step_5 (h:(cu ts s).all (fun n=>cj bound n)=true)(h2:(bK s).all (fun n=>!(!decide (n=[])&&cj bound n))=true)(h3:(!decide (s.proc=[])&& !br P.procs s.proc s.args.length)=false)
  (h4:s.casts.all (fun c=>br P.procs c.proc (c.args.length+1))=true) (h5:(decide (s.kind=8)&& !eg P s)=true):stepE P ts s bound=1508:=by
 unfold stepE;rw [if_neg (by rw [h];decide),if_neg (by rw [h2];decide),if_neg (by rw [h3];decide),if_neg (by rw [h4];decide),if_pos h5]
theorem step_6 (h:(cu ts s).all (fun n=>cj bound n)=true)(h2:(bK s).all (fun n=>!(!decide (n=[])&&cj bound n))=true)(h3:(!decide (s.proc=[])&& !br P.procs s.proc s.args.length)=false)
  (h4:s.casts.all (fun c=>br P.procs c.proc (c.args.length+1))=true) (h5:(decide (s.kind=8)&& !eg P s)=false):stepE P ts s bound=0:=by
 unfold stepE;rw [if_neg (by rw [h];decide),if_neg (by rw [h2];decide),if_neg (by rw [h3];decide),if_neg (by rw [h4];decide),if_neg (by rw [h5];decide)]
theorem Bq (h:s.args.length≤6∧s.casts.length≤4∧∀c∈s.casts,c.args.length≤6):(a8 s).length≤100:=by
 have h1:=nk s
 have h2:∀l:List SCast,(∀c∈l,c.args.length≤6)→(l.flatMap (·.args)).length≤6 * l.length:=by
  intro l
  induction l with
  | nil=>simp
  | cons c l ih=>
   intro h
   have:=ih (fun x hx=>h x (by simp [hx]))
   have:=h c sq
   simp only [List.flatMap_cons,List.length_append,List.length_cons];omega
 have h3:=h2 s.casts h.2.2
 rw [← ng,List.length_append]
 omega
theorem Av:∀(r:List Int),(r.flatMap (fH ts)).length≤16777216 * r.length
 | []=>by simp
 | t::r=>by
  have:=Av r
  have:=tN ts t
  simp only [List.flatMap_cons,List.length_append,List.length_cons];omega
theorem zu {l:List SProc}{i:Int}{q:SProc}(h:(bG q&&q.params.all eU)=false):dM l i q=⟨1500,i, -1⟩:=by unfold dM;rw [if_pos h]
theorem zt {l:List SProc}{i:Int}{q:SProc}(h:(bG q&&q.params.all eU)=true)(h2:(decide (cf l q.name<i)|| !dT (q.params.map (·.name)))=true):dM l i q=⟨1501,i, -1⟩:=by
 unfold dM;rw [if_neg (by rw [h];decide),if_pos h2]
theorem zr {l:List SProc}{i:Int}{q:SProc}(h:(bG q&&q.params.all eU)=true)(h2:(decide (cf l q.name<i)|| !dT (q.params.map (·.name)))=false):dM l i q=okF:=by
 unfold dM;rw [if_neg (by rw [h];decide),if_neg (by rw [h2];decide)]
end
theorem zm {k:Int}{l:List SArm}{x:SArm}(k0:0≤k)(hx:l[k.toNat]? =some x)(h:((l.take k.toNat).map (·.label)).Nodup)(hn:x.label∉(l.take k.toNat).map (·.label)):((l.take (k+1).toNat).map (·.label)).Nodup:=by
 rw [bR k0 hx,List.nodup_append]
 refine⟨h,by simp,?_⟩
 intro a ha b hb e
 simp at hb
 subst hb;subst e
 exact hn ha
section
variable {l:List SArm}{n k:Int}{x:SArm}
theorem yF (h:¬(1≤l.length∧l.length≤6)):false=dZ l n:=by
 unfold dZ
 by_cases h1:1≤l.length
 ·rw [decide_eq_true h1,decide_eq_false (fun h2=>h ⟨h1,h2⟩)];rfl
 ·rw [decide_eq_false h1];rfl
theorem EZ (k0:0≤k)(hx:l[k.toNat]? =some x)(h:fm n x=false∨x.label∈(l.take k.toNat).map (·.label)):false=dZ l n:=by
 unfold dZ
 rcases h with h | h
 ·rw [show l.all (fm n)=false from ?_]; · simp
  rw [List.all_eq_false]
  exact⟨x,List.mem_of_getElem? hx,by simp [h]⟩
 ·rw [show dT (l.map (·.label))=false from ?_]; · simp
  unfold dT
  refine decide_eq_false (fun hn=>?_)
  have e:l.map (·.label)=(l.take k.toNat).map (·.label)++(l.drop k.toNat).map (·.label):=by rw [← List.map_append,List.take_append_drop]
  rw [e,List.nodup_append] at hn
  rw [bE hx,List.map_cons] at hn
  exact hn.2.2 _ h _ (List.mem_cons_self ..) rfl
theorem EY (hl:1≤l.length∧l.length≤6)(k0:0≤k)(hk:¬k<l.length)(h:(l.take k.toNat).all (fm n)=true)(hn:((l.take k.toNat).map (·.label)).Nodup):true=dZ l n:=by
 rw [bA hk k0] at h hn
 unfold dZ dT
 rw [decide_eq_true hl.1,decide_eq_true hl.2,h,decide_eq_true hn];rfl
end
section
variable {l:SLocal}{k:Int}{x:STurn}
theorem ux (h:¬(1≤l.turns.length∧l.turns.length≤40)):false=bP l:=by
 unfold bP
 by_cases h1:1≤l.turns.length
 ·rw [decide_eq_true h1,decide_eq_false (fun h2=>h ⟨h1,h2⟩)];rfl
 ·rw [decide_eq_false h1];rfl
theorem ja (k0:0≤k)(hx:l.turns[k.toNat]? =some x)(hb:fo l.turns.length x=false)(h:l.turns.all (fo l.turns.length)=(l.turns.drop k.toNat).all (fo l.turns.length)):false=bP l:=by
 unfold bP;rw [dm k0 hx hb h];simp
theorem Cf (hl:1≤l.turns.length∧l.turns.length≤40)(k0:0≤k)(hk:¬k<l.turns.length)(h:l.turns.all (fo l.turns.length)=(l.turns.drop k.toNat).all (fo l.turns.length)):true=bP l:=by
 unfold bP;rw [cP k0 hk h,decide_eq_true hl.1,decide_eq_true hl.2];rfl
end
theorem sH (ck:Int)(cn:Str)(p q:Sp):bP ⟨[],[⟨1,[120],[⟨[120],ck,cn,0⟩],p⟩],q⟩=di ck cn:=by
 simp [bP,fo,dZ,fm,dT,show aH [120]=true by decide]
theorem AX {x:SPoint}(h:¬x.frm=[]∨¬x.to=[]∨0<x.arms.length):dH x=⟨1,x.to,x.arms,x.ap⟩:=by unfold dH;rw [if_pos h]
theorem AY {x:SPoint}(h:¬(¬x.frm=[]∨¬x.to=[]∨0<x.arms.length)):dH x=⟨0,[],x.arms,x.ap⟩:=by unfold dH;rw [if_neg h]
theorem yr {H:Hp}{p:SProto}(hP:ProtoOk H p):∀t∈p.points.map dH,TurnOk H t:=by
 intro t ht
 obtain⟨x,hx,rfl⟩:=List.mem_map.1 ht
 have h:=hP.ps x hx
 unfold dH
 split<;>exact⟨h.a,h.z⟩
theorem pt_1 {r:List Str}{x:SPoint}(h:eV x=true):eE r x=true:=by unfold eE;rw [h];rfl
theorem pt_2 {r:List Str}{x:SPoint}(h:(!eT r x)=false):eE r x=true:=by unfold eE;rw [nb_F h,Bool.or_true]
theorem pt_3 {r:List Str}{x:SPoint}(h1:eV x=false)(h:(!eT r x)=true):eE r x=false:=by unfold eE;rw [BW h,h1];rfl
theorem px {p:SProto}(h:(!cB p)=true):false=cy p:=by unfold cy;rw [BW h];rfl
theorem pw {p:SProto}(h1:p.roles.all aH=false):false=cy p:=by unfold cy;rw [h1];simp
theorem pu {p:SProto}(h1:p.points.all (eE p.roles)=false):false=cy p:=by unfold cy;rw [h1];simp
theorem pq {p:SProto}{q:Sp}(h:cB p=true)(h1:p.roles.all aH=true)(h2:p.points.all (eE p.roles)=true):bP ⟨[],p.points.map dH,q⟩=cy p:=by
 unfold cy;rw [h,h1,h2];rfl
theorem DZ {p:SProto}(h:cB p=true):p.points.length≤24:=by
 unfold cB at h;simp only [Bool.and_eq_true,decide_eq_true_eq,Bool.not_eq_true',decide_eq_false_iff_not] at h;omega
section
variable {pg:SProg}{s:SStep}{k:Int}{x:SProto}
theorem zj (k0:0≤k)(hx:pg.protos[k.toNat]? =some x)(hn:¬x.name=s.label)(h:eg pg s=dk s (pg.protos.drop k.toNat)):eg pg s=dk s (pg.protos.drop (k+1).toNat):=by
 rw [h,bE hx,dk,if_neg hn,show(k+1).toNat=k.toNat+1 by omega]
theorem kJ (k0:0≤k)(hk:¬k<pg.protos.length)(h:eg pg s=dk s (pg.protos.drop k.toNat)):eg pg s=false:=by
 rw [h,List.drop_of_length_le omq];rfl
theorem pB (k0:0≤k)(hx:pg.protos[k.toNat]? =some x)(hn:x.name=s.label)(h:eg pg s=dk s (pg.protos.drop k.toNat))(hb:(!(decide (((dv s).length:Int)=x.roles.length)&&dT (dv s)))=true):eg pg s=false:=by
 rw [h,bE hx,dk,if_pos hn,lP]
 have hb:=BW hb
 cases h1:decide (((dv s).length:Int)=x.roles.length) with
 | false=>rfl
 | true=>rw [h1] at hb;simp at hb;simp [hb]
theorem pA {b:Bool}(k0:0≤k)(hx:pg.protos[k.toNat]? =some x)(hn:x.name=s.label)(h:eg pg s=dk s (pg.protos.drop k.toNat))(hb:(!(decide (((dv s).length:Int)=x.roles.length)&&dT (dv s)))=false)(ha:(dv s).all (fun r=>cj x.roles r)=b):eg pg s=b:=by
 rw [h,bE hx,dk,if_pos hn,lP]
 have hb:=nb_F hb
 simp only [Bool.and_eq_true] at hb
 rw [hb.1,hb.2,ha];simp
end
theorem EA {q:SProc}{k:Int}{x:SParam}{b b2:Bool}(k0:0≤k)(hx:q.params[k.toNat]? =some x)(h:b=(bG q&&(q.params.take k.toNat).all eU))(h2:b2=(b&&eU x)):b2=(bG q&&(q.params.take (k+1).toNat).all eU):=by
 rw [h2,h,bM k0 hx,List.all_append];simp [Bool.and_assoc]
section
variable {pg:SProg}
theorem Bf (h:(decide (6<(pg.protos.length:Int))||(decide (12<(pg.locals.length:Int))||decide (24<(pg.procs.length:Int))))=true):gk pg=⟨1500, -1, -1⟩:=by
 unfold gk;rw [if_pos (by simpa using h)]
theorem E2 (h:(decide (6<(pg.protos.length:Int))||(decide (12<(pg.locals.length:Int))||decide (24<(pg.procs.length:Int))))=false):¬(6<(pg.protos.length:Int)∨12<(pg.locals.length:Int)∨24<(pg.procs.length:Int)):=by
 intro e;rw [← Bool.not_eq_true] at h;exact h (by simpa using e)
theorem Be (h:(decide (6<(pg.protos.length:Int))||(decide (12<(pg.locals.length:Int))||decide (24<(pg.procs.length:Int))))=false)(h2:pg.protos.all cy=false):gk pg=⟨1500, -1, -1⟩:=by
 unfold gk;rw [if_neg (E2 h),if_pos h2]
theorem Bd (h:(decide (6<(pg.protos.length:Int))||(decide (12<(pg.locals.length:Int))||decide (24<(pg.procs.length:Int))))=false)(h2:pg.protos.all cy=true)(h3:pg.locals.all (fun l=>bP l&&aH l.name)=false):gk pg=⟨1500, -1, -1⟩:=by
 unfold gk;rw [if_neg (E2 h),if_neg (by rw [h2];decide),if_pos h3]
theorem Bc (h:(decide (6<(pg.protos.length:Int))||(decide (12<(pg.locals.length:Int))||decide (24<(pg.procs.length:Int))))=false)(h2:pg.protos.all cy=true)(h3:pg.locals.all (fun l=>bP l&&aH l.name)=true):gk pg=okF:=by
 unfold gk;rw [if_neg (E2 h),if_neg (by rw [h2];decide),if_neg (by rw [h3];decide)]
end
theorem po:∀n:Nat,gX n [Value.int .i64 0]=(List.replicate n (0:Int)).map (Value.int .i64)
 | 0=>rfl
 | n+1=>by rw [List.replicate_succ,List.map_cons,← po n];rfl
theorem AH:∀n:Nat,gX n [Value.bool false]=(List.replicate n false).map Value.bool
 | 0=>rfl
 | n+1=>by rw [List.replicate_succ,List.map_cons,← AH n];rfl
theorem bs_get {c:List Bool}{k:Int}(h:k.toNat<c.length):(c.map Value.bool)[0+k.toNat * 1]? =some (.bool (c[k.toNat]?.getD false)):=by
 rw [show 0+k.toNat * 1=k.toNat by omega,List.getElem?_map,List.getElem?_eq_getElem h]
 simp [h]
theorem bs_set {c:List Bool}{k:Int}{x:Bool}:(c.map Value.bool).set (0+k.toNat * 1) (.bool x)=(c.set k.toNat x).map Value.bool:=by
 rw [show 0+k.toNat * 1=k.toNat by omega,List.map_set]
theorem ib {c:List Int}{k:Int}(h:k.toNat<c.length):(c.map (Value.int .i64))[0+k.toNat * 1]? =some (.int .i64 (aG c k)):=by
 rw [show 0+k.toNat * 1=k.toNat by omega,List.getElem?_map,List.getElem?_eq_getElem h]
 simp [aG,h]
theorem vz {c:List Int}{k x:Int}:(c.map (Value.int .i64)).set (0+k.toNat * 1) (.int .i64 x)=(c.set k.toNat x).map (Value.int .i64):=by
 rw [show 0+k.toNat * 1=k.toNat by omega,List.map_set]
section
variable {n at_:Int}{L:List Int}{k x:Int}{c d c2 d2:List Int}{N:Option (List Int×List Int)}
theorem ng_bad (k0:0≤k)(hx:L[k.toNat]? =some x)(hb:(decide (x≤at_)||decide (n≤x))=true)(h:N=bO n at_ (L.drop k.toNat) c d):N=none:=by
 rw [h,bE hx,bO,if_pos (by simpa using hb)]
theorem ng_next (k0:0≤k)(hx:L[k.toNat]? =some x)(hb:(decide (x≤at_)||decide (n≤x))=false)(h:N=bO n at_ (L.drop k.toNat) c d):N=bO n at_ (L.drop (k+1).toNat) (fZ c x) (d.set x.toNat (aG d at_)):=by
 rw [h,bE hx,bO,if_neg (by intro e;rw [Bool.or_eq_false_iff] at hb;simp at hb;omega),show(k+1).toNat=k.toNat+1 by omega]
theorem ng_end (k0:0≤k)(hk:¬k<L.length)(h:N=bO n at_ (L.drop k.toNat) c d):N=some (c,d):=by
 rw [h,List.drop_of_length_le omq];rfl
end
section
variable {L:List Int}{k x:Int}{u u2:List Bool}{N:Option (List Bool)}{ts:List Term}
theorem ug_bad (k0:0≤k)(hx:L[k.toNat]? =some x)(hb:u[x.toNat]?.getD false=true)(h:N=eR (L.drop k.toNat) u):N=none:=by
 rw [h,bE hx,eR,if_pos hb]
theorem ug_next (k0:0≤k)(hx:L[k.toNat]? =some x)(hb:u[x.toNat]?.getD false=false)(h:N=eR (L.drop k.toNat) u):N=eR (L.drop (k+1).toNat) (u.set x.toNat true):=by
 rw [h,bE hx,eR,if_neg (by rw [hb];decide),show(k+1).toNat=k.toNat+1 by omega]
theorem ug_end (k0:0≤k)(hk:¬k<L.length)(h:N=eR (L.drop k.toNat) u):N=some u:=by
 rw [h,List.drop_of_length_le omq];rfl
theorem rg_may (k0:0≤k)(hx:L[k.toNat]? =some x)(hb:cq ts x=false)(h:N=bT ts (L.drop k.toNat) u):N=none:=by
 rw [h,bE hx,bT,if_pos hb]
theorem rg_bad (k0:0≤k)(hx:L[k.toNat]? =some x)(hb:cq ts x=true)(hu:eR (postS ts x) u=none)(h:N=bT ts (L.drop k.toNat) u):N=none:=by
 rw [h,bE hx,bT,if_neg (by rw [hb];decide),hu]
theorem rg_next (k0:0≤k)(hx:L[k.toNat]? =some x)(hb:cq ts x=true)(hu:eR (postS ts x) u=some u2)(h:N=bT ts (L.drop k.toNat) u):N=bT ts (L.drop (k+1).toNat) u2:=by
 rw [h,bE hx,bT,if_neg (by rw [hb];decide),hu,show(k+1).toNat=k.toNat+1 by omega]
theorem rg_end (k0:0≤k)(hk:¬k<L.length)(h:N=bT ts (L.drop k.toNat) u):N=some u:=by
 rw [h,List.drop_of_length_le omq];rfl
end
section
variable {q:SProc}{i k:Int}{s:SStep}{c d c2 d2:List Int}{u u2:List Bool}{F:SFault}
theorem sh_form (k0:0≤k)(hx:q.steps[k.toNat]? =some s)(hm:dO s=false)(h:F=bB q i (q.steps.drop k.toNat) k c d u):F=⟨1500,i,k⟩:=by
 rw [h,bE hx,bB,if_pos hm]
theorem sh_tree (k0:0≤k)(hx:q.steps[k.toNat]? =some s)(hm:dO s=true)(ht:(decide (0<k)&& !decide (aG c k=1))=true)(h:F=bB q i (q.steps.drop k.toNat) k c d u):F=⟨1502,i,k⟩:=by
 rw [h,bE hx,bB,if_neg (by rw [hm];decide),if_pos (by simpa using ht)]
theorem sh_n (k0:0≤k)(hx:q.steps[k.toNat]? =some s)(hm:dO s=true)(ht:(decide (0<k)&& !decide (aG c k=1))=false)(hn:bO q.steps.length k (aL s) c (cR s k d)=none)(h:F=bB q i (q.steps.drop k.toNat) k c d u):F=⟨1502,i,k⟩:=by
 rw [h,bE hx,bB,if_neg (by rw [hm];decide),if_neg (by intro e;simp [e] at ht),hn]
theorem sh_d (k0:0≤k)(hx:q.steps[k.toNat]? =some s)(hm:dO s=true)(ht:(decide (0<k)&& !decide (aG c k=1))=false)(hn:bO q.steps.length k (aL s) c (cR s k d)=some (c2,d2))(hd:24<aG d2 k)
  (h:F=bB q i (q.steps.drop k.toNat) k c d u):F=⟨1502,i,k⟩:=by
 rw [h,bE hx,bB,if_neg (by rw [hm];decide),if_neg (by intro e;simp [e] at ht),hn];simp only;rw [if_pos hd]
theorem sh_t (k0:0≤k)(hx:q.steps[k.toNat]? =some s)(hm:dO s=true)(ht:(decide (0<k)&& !decide (aG c k=1))=false)(hn:bO q.steps.length k (aL s) c (cR s k d)=some (c2,d2))(hd:¬24<aG d2 k)
  (hr:bT q.terms (a8 s) u=none) (h:F=bB q i (q.steps.drop k.toNat) k c d u):F=⟨1503,i,k⟩:=by
 rw [h,bE hx,bB,if_neg (by rw [hm];decide),if_neg (by intro e;simp [e] at ht),hn];simp only;rw [if_neg hd,hr]
theorem sh_next (k0:0≤k)(hx:q.steps[k.toNat]? =some s)(hm:dO s=true)(ht:(decide (0<k)&& !decide (aG c k=1))=false)(hn:bO q.steps.length k (aL s) c (cR s k d)=some (c2,d2))(hd:¬24<aG d2 k)
  (hr:bT q.terms (a8 s) u=some u2) (h:F=bB q i (q.steps.drop k.toNat) k c d u):F=bB q i (q.steps.drop (k+1).toNat) (k+1) c2 d2 u2:=by
 rw [h,bE hx,bB,if_neg (by rw [hm];decide),if_neg (by intro e;simp [e] at ht),hn];simp only;rw [if_neg hd,hr,show(k+1).toNat=k.toNat+1 by omega]
theorem sh_end (k0:0≤k)(hk:¬k<q.steps.length)(h:F=bB q i (q.steps.drop k.toNat) k c d u):F=okF:=by
 rw [h,List.drop_of_length_le omq];rfl
theorem deep_T (h:(decide (s.kind=3)||decide (s.kind=5))=true):fZ d k=cR s k d:=by unfold cR;rw [if_pos (by simpa using h)]
theorem deep_F (h:(decide (s.kind=3)||decide (s.kind=5))=false):d=cR s k d:=by unfold cR;rw [if_neg (by intro e;rcases e with e | e<;>simp [e] at h)]
theorem vD:(cR s k d).length=d.length:=by unfold cR fZ;split<;>simp
end
theorem mR (c:List Int)(k:Int):(fZ c k).length=c.length:=by simp [fZ]
end Go.Sx
namespace Go.Sx
open Go
abbrev nilV:Value:=.slice none 0 0
abbrev yM:=Int×List Value×List (List Str)
def BRow (H:Hp)(vs:List Value)(b:List (List Str)):Prop:=vs.length=b.length∧(∀(i:Nat) v x,vs[i]? =some v→b[i]? =some x→RdSl H 1 Str.cells v x)∧∀(i:Nat) x,b[i]? =some x→x.length≤2000000+i
theorem BRow.le {H H':Hp}{vs:List Value}{b:List (List Str)}(h:BRow H vs b)(hl:H.le H'):BRow H' vs b:=⟨h.1,fun i v x h1 h2=>(h.2.1 i v x h1 h2).le hl,h.2.2⟩
theorem BRow.set {H:Hp}{vs:List Value}{b:List (List Str)}(h:BRow H vs b){t:Nat}{v:Value}{x:List Str}(hx:RdSl H 1 Str.cells v x)(hl:x.length≤2000000+t):BRow H (vs.set t v) (b.set t x):=by
 refine⟨by simp [h.1],fun i v' x' h1 h2=>?_,fun i x' h2=>?_⟩
 ·rw [List.getElem?_set] at h1 h2
  by_cases e:t=i
  ·subst e
   rw [if_pos rfl] at h1 h2
   split at h1
   ·rw [h.1] at *
    rename_i hl
    rw [if_pos hl] at h2
    cases h1;cases h2;exact hx
   ·cases h1
  ·rw [if_neg e] at h1 h2;exact h.2.1 i v' x' h1 h2
 ·rw [List.getElem?_set] at h2
  by_cases e:t=i
  ·subst e
   rw [if_pos rfl] at h2
   split at h2
   ·cases h2;exact hl
   ·cases h2
  ·rw [if_neg e] at h2;exact h.2.2 i x' h2
theorem BRow.at_ {H:Hp}{vs:List Value}{b:List (List Str)}(h:BRow H vs b){k:Int}(hk:k.toNat<b.length):∃v x,vs[k.toNat]? =some v∧b[k.toNat]? =some x∧RdSl H 1 Str.cells v x:=by
 have h1:=List.getElem?_eq_getElem (l:=vs) (i:=k.toNat) (by rw [h.1];exact hk)
 have h2:=List.getElem?_eq_getElem hk
 exact⟨_,_,h1,h2,h.2.1 _ _ _ h1 h2⟩
theorem xM (v:Value):∀n:Nat,gX n [v]=List.replicate n v
 | 0=>rfl
 | n+1=>by rw [List.replicate_succ,← xM v n];rfl
theorem DQ (v:Value)(n:Nat):(List.replicate n v).set 0 v=List.replicate n v:=by
 cases n<;>rfl
theorem DH {vs:List Value}{v:Value}(h:0<vs.length):(vs.set 0 v)[0+(0:Int).toNat * 1]? =some v:=by
 show(vs.set 0 v)[0]? =some v
 rw [List.getElem?_set,if_pos rfl,if_pos h]
theorem DG {vs:List Value}{v:Value}{k:Int}(h:k.toNat<vs.length):(vs.set (0+k.toNat * 1) v)[0+k.toNat * 1]? =some v:=by
 rw [List.getElem?_set,if_pos rfl,if_pos omq]
theorem get_k {vs:List Value}{v:Value}{k:Int}(h:vs[k.toNat]? =some v):vs[0+k.toNat * 1]? =some v:=by
 rwa [show 0+k.toNat * 1=k.toNat by omega]
theorem DF {vs:List Value}{v:Value}{k:Int}:vs.set (0+k.toNat * 1) v=vs.set k.toNat v:=by rw [show 0+k.toNat * 1=k.toNat by omega]
theorem brow0 {H:Hp}{q:SProc}{v:Value}(h:RdSl H 1 Str.cells v (q.params.map (·.name)))(hl:q.params.length≤2000000):BRow H ((List.replicate q.steps.length nilV).set 0 v) (ij q):=by
 unfold ij
 refine BRow.set ⟨by simp,fun i v' x' h1 h2=>?_,fun i x' h2=>?_⟩ h (by simpa using hl)
 ·rw [List.getElem?_replicate] at h1 h2
  split at h1
  ·rename_i hl
   rw [if_pos hl] at h2
   cases h1;cases h2;exact RdSl.nil
  ·cases h1
 ·rw [List.getElem?_replicate] at h2
  split at h2
  ·cases h2;simp
  ·cases h2
theorem rR (q:SProc):(ij q).length=q.steps.length:=by simp [ij]
def bI (q:SProc):Prop:=∀(k:Nat) (s:SStep),q.steps[k]? =some s→dO s=true∧∀t∈aL s,(k:Int)<t∧t<q.steps.length
theorem ri {n at_:Int}:∀{L c d c2 d2},bO n at_ L c d=some (c2,d2)→∀t∈L,at_<t∧t<n
 | [],_,_,_,_,_,t,ht=>by cases ht
 | x::r,c,d,c2,d2,h,t,ht=>by
  rw [bO] at h
  split at h
  ·cases h
  ·rcases List.mem_cons.1 ht with rfl | ht
   ·omega
   ·exact ri h t ht
theorem uV {q:SProc}{i:Int}:∀(l:List SStep) (k:Nat) (c d:List Int) (u:List Bool),l=q.steps.drop k→bB q i l k c d u=okF→∀(j:Nat) (s:SStep),k≤j→q.steps[j]? =some s→dO s=true∧∀t∈aL s,(j:Int)<t∧t<q.steps.length:=by
 intro l
 induction l with
 | nil=>
  intro k c d u hl _ j s hj hs
  have h1:=(List.getElem?_eq_some_iff.1 hs).1
  have h2:(q.steps.drop k).length=0:=by rw [← hl];rfl
  rw [List.length_drop] at h2;omega
 | cons x r ih=>
  intro k c d u hl h j s hj hs
  have hx:q.steps[k]? =some x:=by
   have h1:(q.steps.drop k)[0]? =some x:=by rw [← hl];rfl
   rwa [List.getElem?_drop,Nat.add_zero] at h1
  have hr:r=q.steps.drop (k+1):=by
   have h1:(q.steps.drop k).drop 1=r:=by rw [← hl];rfl
   rw [← h1,List.drop_drop]
  rw [bB] at h
  split at h
  ·cases h
  ·rename_i hm
   split at h
   ·cases h
   ·split at h
    ·cases h
    ·rename_i c2 d2 hn
     split at h
     ·cases h
     ·split at h
      ·cases h
      ·rename_i u2 _
       rcases Nat.lt_or_ge k j with hlt | hge
       ·exact ih (k+1) c2 d2 u2 hr (by rw [← h];rfl) j s hlt hs
       ·have:j=k:=by omega
        subst this
        rw [hx] at hs;cases hs
        exact⟨by simpa using hm,ri hn⟩
theorem lH {q:SProc}{i:Int}(h:d9 i q=okF):bI q:=fun k s hs=>uV _ 0 _ _ _ rfl h k s (Nat.zero_le _) hs
theorem nT (s:SStep):(bK s).length=(aL s).length:=by
 unfold bK
 split
 ·rename_i h;unfold aL;rw [if_pos (by rcases h with h | h<;>simp [fA,h])];rfl
 ·split
  ·rename_i h;unfold aL;rw [if_neg (by simp [fA,h])];simp
  ·simp
section
variable {pg:SProg}{q:SProc}{i k:Int}{s:SStep}{b:List (List Str)}{x:List Str}{F:SFault}
theorem sn_bad (k0:0≤k)(hx:q.steps[k.toNat]? =some s)(hb:b[k.toNat]? =some x)(he:¬stepE pg q.terms s x=0)(h:F=dz pg q i (q.steps.drop k.toNat) k b):F=⟨stepE pg q.terms s x,i,k⟩:=by
 rw [h,bE hx,dz,hb];simp only [Option.getD_some];rw [if_pos he]
theorem sn_next (k0:0≤k)(hx:q.steps[k.toNat]? =some s)(hb:b[k.toNat]? =some x)(he:stepE pg q.terms s x=0)(h:F=dz pg q i (q.steps.drop k.toNat) k b):
  F=dz pg q i (q.steps.drop (k+1).toNat) (k+1) (dE k (aL s) (bK s) b):=by
 rw [h,bE hx,dz,hb];simp only [Option.getD_some];rw [if_neg (by simpa using he),show(k+1).toNat=k.toNat+1 by omega]
theorem sn_end (k0:0≤k)(hk:¬k<q.steps.length)(h:F=dz pg q i (q.steps.drop k.toNat) k b):F=okF:=by
 rw [h,List.drop_of_length_le omq];rfl
variable {N M:List Int}{ms:List Str}{j t:Int}{m:Str}{B b':List (List Str)}
theorem A9 {L:List Int}{ms:List Str}(j0:0≤j)(ht:L[j.toNat]? =some t)(hm:ms[j.toNat]? =some m)(h:B=dE k (L.drop j.toNat) (ms.drop j.toNat) b'):B=dE k (L.drop (j+1).toNat) (ms.drop (j+1).toNat) (iZ b' k t m):=by
 rw [h,bE ht,bE hm,dE,show(j+1).toNat=j.toNat+1 by omega];rfl
theorem bg_end {L:List Int}{ms:List Str}(j0:0≤j)(hj:¬j<L.length)(h:B=dE k (L.drop j.toNat) (ms.drop j.toNat) b'):B=b':=by
 rw [h,List.drop_of_length_le omq];rfl
theorem putAt_T (hb:b'[k.toNat]? =some x)(hm:¬m=[]):iZ b' k t m=b'.set t.toNat (x++[m]):=by unfold iZ;rw [hb,if_neg hm];rfl
theorem putAt_F (hb:b'[k.toNat]? =some x)(hm:m=[]):iZ b' k t m=b'.set t.toNat x:=by unfold iZ;rw [hb,if_pos hm];simp
end
theorem EU {s:SStep}{j:Int}(h0:0≤j)(h:j<(aL s).length):∃m,(bK s)[j.toNat]? =some m:=al h0 (by rw [nT];exact h)
end Go.Sx
namespace Go.Sx
open Go
def PgAt (H:Hp)(b:Nat)(pg:SProg):Prop:=∀(j:Nat) v,pg.cells[j]? =some v→H b j=some v
theorem PgAt.le {H H':Hp}{b:Nat}{pg:SProg}(h:PgAt H b pg)(hl:H.le H'):PgAt H' b pg:=fun j v hv=>hl _ _ _ (h j v hv)
theorem PgAt.add {H:Hp}{b:Nat}{pg:SProg}(h:PgAt H b pg):∀(j:Nat) v,pg.cells[j]? =some v→H b (0+j)=some v:=fun j v hv=>by rw [Nat.zero_add];exact h j v hv
def Fc.cells (f:FuncId):List Value:=[.func (.func f) #[] #[]]
def CellAt (H:Hp)(b:Nat)(v:Value):Prop:=H b 0=some v
theorem CellAt.le {H H':Hp}{b:Nat}{v:Value}(h:CellAt H b v)(hl:H.le H'):CellAt H' b v:=hl _ _ _ h
theorem lQ {l:List SProc}{i:Int}{q:SProc}(h:(dM l i q).e=0):1≤q.steps.length∧q.steps.length≤80∧q.terms.length≤160:=by
 unfold dM at h
 split at h
 ·cases h
 ·rename_i hg
  have hg:(bG q&&q.params.all eU)=true:=by simpa using hg
  simp only [Bool.and_eq_true] at hg
  have h1:=hg.1
  unfold bG at h1
  simp only [Bool.and_eq_true,decide_eq_true_eq] at h1
  omega
theorem fV {q:SProc}{i:Int}:∀(l:List SStep) (k:Int) (c d:List Int) (u:List Bool),(bB q i l k c d u).e=0→bB q i l k c d u=okF
 | [],_,_,_,_,_=>rfl
 | s::r,k,c,d,u,h=>by
  rw [bB] at h ⊢
  split at h
  ·cases h
  ·rename_i h1
   rw [if_neg h1]
   split at h
   ·cases h
   ·rename_i h2
    rw [if_neg h2]
    split at h
    ·cases h
    ·rename_i c2 d2 h3
     split at h
     ·cases h
     ·rename_i h4
      try simp only at h ⊢
      rw [if_neg h4]
      split at h
      ·cases h
      ·exact fV r (k+1) _ _ _ h
theorem Bx {q:SProc}{i:Int}(h:(d9 i q).e=0):bI q:=lH (i:=i) (fV _ _ _ _ _ h)
def yN (q:SProc):Prop:=bI q∧1≤q.steps.length∧q.steps.length≤80∧q.terms.length≤160
theorem uF {l:List SProc}:∀(r:List SProc) (i:Int),(cb (aS l) r i).e=0→∀q∈r,yN q
 | [],_,_,q,hq=>by cases hq
 | x::r,i,h,q,hq=>by
  rw [cb] at h
  split at h
  ·rename_i h1;exact absurd h h1
  ·rename_i h1
   have h1:(aS l i x).e=0:=by simpa using h1
   rcases List.mem_cons.1 hq with rfl | hq
   ·unfold aS at h1
    split at h1
    ·rename_i h2;exact absurd h1 h2
    ·rename_i h2
     exact⟨Bx h1,lQ (by simpa using h2)⟩
   ·exact uF r (i+1) h q hq
section
variable {f:Int→SProc→SFault}{l:List SProc}{k:Int}{q:SProc}{F:SFault}
theorem rK (k0:0≤k)(hx:l[k.toNat]? =some q)(he:¬(f k q).e=0)(h:F=cb f (l.drop k.toNat) k):F=f k q:=by
 rw [h,bE hx,cb,if_pos he]
theorem uE (k0:0≤k)(hx:l[k.toNat]? =some q)(he:(f k q).e=0)(h:F=cb f (l.drop k.toNat) k):F=cb f (l.drop (k+1).toNat) (k+1):=by
 rw [h,bE hx,cb,if_neg (by simpa using he),show(k+1).toNat=k.toNat+1 by omega]
theorem yw (k0:0≤k)(hk:¬k<l.length)(h:F=cb f (l.drop k.toNat) k):F=okF:=by
 rw [h,List.drop_of_length_le omq];rfl
theorem hs_1 {pl:List SProc}(h:¬(dM pl k q).e=0):aS pl k q=dM pl k q:=by unfold aS;rw [if_pos h]
theorem hs_2 {pl:List SProc}(h:(dM pl k q).e=0):aS pl k q=d9 k q:=by unfold aS;rw [if_neg (by simpa using h)]
end
theorem Es {l:List SProc}(h:(decide (cf l da<0)||decide (0<((lR l (cf l da)).params.length:Int)))=true):fT l=⟨1504, -1, -1⟩:=by
 unfold fT;rw [if_pos (by simpa using h)]
theorem Er {l:List SProc}(h:(decide (cf l da<0)||decide (0<((lR l (cf l da)).params.length:Int)))=false):fT l=okF:=by
 unfold fT;rw [if_neg (by intro e;rw [← Bool.not_eq_true] at h;exact h (by simpa using e))]
section
variable {pg:SProg}
theorem chk_0 (h:¬(gk pg).e=0):bJ pg=gk pg:=by unfold bJ;rw [if_pos h]
theorem chk_1 (h0:(gk pg).e=0)(h:¬(cb (aS pg.procs) pg.procs 0).e=0):bJ pg=cb (aS pg.procs) pg.procs 0:=by unfold bJ;rw [if_neg (by simpa using h0),if_pos h]
theorem chk_2 (h0:(gk pg).e=0)(h1:(cb (aS pg.procs) pg.procs 0).e=0)(h:¬(fT pg.procs).e=0):bJ pg=fT pg.procs:=by
 unfold bJ;rw [if_neg (by simpa using h0),if_neg (by simpa using h1),if_pos h]
theorem chk_3 (h0:(gk pg).e=0)(h1:(cb (aS pg.procs) pg.procs 0).e=0)(h2:(fT pg.procs).e=0):bJ pg=cb (er pg) pg.procs 0:=by
 unfold bJ;rw [if_neg (by simpa using h0),if_neg (by simpa using h1),if_neg (by simpa using h2)]
theorem qK {q:SProc}{i:Int}:∀(l:List SStep) (k:Int) (b:List (List Str)),(dz pg q i l k b).e=0→dz pg q i l k b=okF
 | [],_,_,_=>rfl
 | s::r,k,b,h=>by
  rw [dz] at h ⊢
  try simp only at h ⊢
  split at h
  ·rename_i h1;exact absurd h h1
  ·rename_i h1;rw [if_neg h1];exact qK r _ _ h
theorem A3 {f:Int→SProc→SFault}(hf:∀i q,(f i q).e=0→f i q=okF):∀(l:List SProc) (i:Int),(cb f l i).e=0→cb f l i=okF
 | [],_,_=>rfl
 | q::r,i,h=>by
  rw [cb] at h ⊢
  split at h
  ·rename_i h1;exact absurd h h1
  ·rename_i h1;rw [if_neg h1];exact A3 hf r _ h
theorem EN (h3:(cb (er pg) pg.procs 0).e=0)(h0:(gk pg).e=0)(h1:(cb (aS pg.procs) pg.procs 0).e=0)(h2:(fT pg.procs).e=0):bJ pg=okF:=by
 rw [chk_3 h0 h1 h2];exact A3 (fun i q h=>qK _ _ _ h) _ _ h3
theorem ii (h:(bJ pg).e=0):(gk pg).e=0∧(cb (aS pg.procs) pg.procs 0).e=0∧(fT pg.procs).e=0∧(cb (er pg) pg.procs 0).e=0:=by
 unfold bJ at h
 split at h
 ·rename_i h1;exact absurd h h1
 ·rename_i h1
  split at h
  ·rename_i h2;exact absurd h h2
  ·rename_i h2
   split at h
   ·rename_i h3;exact absurd h h3
   ·rename_i h3
    exact⟨by simpa using h1,by simpa using h2,by simpa using h3,h⟩
end
end Go.Sx
