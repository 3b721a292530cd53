import Derived.Test.YtjnlogbbcceaoaaGreatE2
import Derived.KernelRfl
import Derived.Sort.Walk0
import Derived.Lib.ItoaNum
import Derived.Lib.IndexMore
set_option linter.all false
set_option maxRecDepth 100000
set_option maxHeartbeats 32000000
namespace Go.Sx
open Go Go.ChangeShapes Go.WideShapes Go.ChangeAt Go.RowKit
def Ca (W:World):Hp:=fun b o=>W.cell? ⟨b,o,none⟩
theorem St.below {W W':World}{H H':Hp}{L:aq}(h:St [] W H H' L W'):Below W.heap.size W W':=
 ⟨h.os,h.tape,h.output,h.size,fun k hk=>h.old k hk sq⟩
theorem Fn.callsT {P:Program}{f:FuncId}{args:List Value}{W:World}{u:Value}(h:Fn P f args (Ca W) (fun v _=>v=u)):Calls P f args.toArray W fun e W'=>e= .returned u∧Below W.heap.size W W':=
 (h W (St.start (fun b o u hu=>hu))).mono (by
  rintro e W' ⟨v',H',L',rfl,hst,hk,rfl⟩
  exact⟨rfl,hst.below⟩)
section
variable {HH:Type}{enc:TypeId×Value→HH}{P:Program}
theorem nu (hl:laidOutB P=true){W W':World}(hB:Below W.heap.size W W'){sp:Nat→Bool}:∀(ts:List TypeId) (vs:List Value) (ds:List (DataW HH)) (ps:List MemPlace),
  (∀t∈ts,P.readableRec t=true∧t<P.types.size)→DataW.TrodAll enc P W 0 (fun _=>true) true ts vs ds ps→(∀x∈ps,x.block<W.heap.size)→(∀x∈ps,sp x.block=true)→DataW.TrodAll enc P W' 0 sp true ts vs ds ps
 | [],[],[],ps,_,h,_,_=>h
 | t::ts,v::vs,d::ds,ps,hr,h,hlt,hs=>by
  obtain⟨p,q,h1,h2,rfl⟩:=h
  refine⟨p,q,?_,?_,rfl⟩
  ·exact WideElems.Trod_stays hl (hr t sq).1 (hr t sq).2 h1 (fun x hx=>hB.same (hlt x (List.mem_append_left _ hx))) (fun x hx=>hs x (List.mem_append_left _ hx))
  ·exact nu hl hB ts vs ds q (fun u hu=>hr u (List.mem_cons_of_mem _ hu)) h2 (fun x hx=>hlt x (List.mem_append_right _ hx)) (fun x hx=>hs x (List.mem_append_right _ hx))
 | [],[],_::_,_,_,h,_,_=>h.elim
 | [],_::_,_,_,_,h,_,_=>h.elim
 | _::_,[],_,_,_,h,_,_=>h.elim
 | _::_,_::_,[],_,_,h,_,_=>h.elim
theorem I3 {f:Func}{s:ChangeSpec}{W W':World}{args:Array Value}{ds gs:List (DataW HH)}{before:List MemPlace}{tb:TypeId}(hW:DataW.Whole enc P f.params.toList s.vars false W args.toList ds gs before)
  (hv:s.vars=[]) (hvs:(s.fn HH (ds++gs)).vars=[]) (hres:(s.fn HH (ds++gs)).results=[.lit (.bool true)]) (hargs:(s.fn HH (ds++gs)).args=ds) (hrt:f.resultTypes= #[tb]) (hb:P.underlying tb=some .bool) (hl:laidOutB P=true)
  (hread:∀t∈f.params.toList,P.readableRec t=true∧t<P.types.size) (hB:Below W.heap.size W W'):s.post enc P f false true false false W args (.bool true) W':=by
 have hW0:=hW
 obtain⟨p,q,hA,hV,he,hfz,hnd⟩:=hW
 rw [hv] at hV
 have hq:gs=[]∧q=[]:=by
  cases gs with
  | nil=>exact⟨rfl,hV⟩
  | cons g gs=>exact hV.elim
 obtain⟨rfl,rfl⟩:=hq
 rw [List.append_nil] at he
 subst he
 have hlt:∀x∈before,x.block<W.heap.size:=fun x hx=>hW0.lt x hx
 refine⟨ds,[],before,[],before,[],hW0,?_,?_,?_,World.keptBut_mono (fun x hx=>⟨hx,.inr (.inl hx)⟩) (hB.frame (· ∈before)),fun h=>(by cases h)⟩
 ·rw [hres,hrt]
  exact trodAll_mk1 (shut_bool hb _)
 ·rw [hargs]
  exact nu hl hB _ _ _ _ hread hA hlt (fun x hx=>by simpa using hlt x hx)
 ·rw [hv,hvs]
  exact rfl
theorem gs_of (s:ByteArray):Value.string s=gs s.data.toList:=by
 show Value.string s=Value.string ⟨s.data.toList.toArray⟩
 rw [Array.toArray_toList]
def Opens (P:Program)(t:TypeId){α:Type}(en:α→List Value)(ok:Hp→α→Prop):Prop:=
 ∀(HH:Type) (enc:TypeId×Value→HH) (W:World) (fuel:Nat) (cs:List Value) (x:DataW HH×List MemPlace),DataW.trod enc P W 0 (fun _=>true) true fuel t cs=some x→∃a:α,cs=en a∧ok (Ca W) a
theorem dX {t:TypeId}(ht:P.underlying t=some (.int .i64)):Opens P t (fun n:Int=>[.int .i64 n]) (fun _ n=> -9223372036854775808≤n∧n≤9223372036854775807):=by
 intro HH enc W fuel cs x h
 obtain⟨n,rfl,_,hw⟩:=DataW.trod_int ht h
 refine⟨n,rfl,?_⟩
 simpa [Lit.wf,IntKind.min,IntKind.max,IntKind.signed,IntKind.bits] using hw
theorem F0 {t:TypeId}(ht:P.underlying t=some .string):Opens P t (fun s:Str=>[gs s]) (fun _ s=>s.length≤9223372036854775807):=by
 intro HH enc W fuel cs x h
 obtain⟨s,rfl,_,hw⟩:=DataW.trod_string ht h
 refine⟨s.data.toList,by rw [gs_of],?_⟩
 show s.data.toList.length≤_
 rw [Array.length_toList]
 exact hw
theorem Ft {W:World}{a:Addr}{v:Value}(h:W.cell? a=some v):a.spot=none:=by
 unfold World.cell? at h
 split at h
 ·split at h
  ·cases h
  ·rename_i hs;simpa using hs
 ·cases h
theorem r7 {α:Type}{Q:Nat→α→Prop}:∀{len:Nat},(∀i,i<len→∃z,Q i z)→∃l:List α,l.length=len∧∀i z,l[i]? =some z→Q i z
 | 0,_=>⟨[],rfl,fun i z h=>by simp at h⟩
 | len+1,h=>by
  obtain⟨l,h1,h2⟩:=r7 (fun i hi=>h i (Nat.lt_succ_of_lt hi))
  obtain⟨z,hz⟩:=h len (Nat.lt_succ_self _)
  refine⟨l++[z],by simp [h1],fun i y hy=>?_⟩
  by_cases hi:i<l.length
  ·rw [List.getElem?_append_left hi] at hy;exact h2 i y hy
  ·rw [List.getElem?_append_right om] at hy
   have hi0:i - l.length=0:=by
    rcases Nat.eq_zero_or_pos (i - l.length) with h | h
    ·exact h
    ·rw [List.getElem?_eq_none (by simp;omega)] at hy;cases hy
   rw [hi0] at hy
   simp only [List.getElem?_cons_zero,Option.some.injEq] at hy
   subst hy
   have:i=len:=by omega
   subst this
   exact hz
theorem len2 {α:Type}{l:List α}(h:l.length=2):∃c0 c1,l=[c0,c1]:=by
 match l,h with
 | [c0,c1],_=>exact⟨c0,c1,rfl⟩
theorem Dp {α:Type}{l:List α}(h:l.length=3):∃c0 c1 c2,l=[c0,c1,c2]:=by
 match l,h with
 | [c0,c1,c2],_=>exact⟨c0,c1,c2,rfl⟩
theorem len4 {α:Type}{l:List α}(h:l.length=4):∃c0 c1 c2 c3,l=[c0,c1,c2,c3]:=by
 match l,h with
 | [c0,c1,c2,c3],_=>exact⟨c0,c1,c2,c3,rfl⟩
theorem len6 {α:Type}{l:List α}(h:l.length=6):∃c0 c1 c2 c3 c4 c5,l=[c0,c1,c2,c3,c4,c5]:=by
 match l,h with
 | [c0,c1,c2,c3,c4,c5],_=>exact⟨c0,c1,c2,c3,c4,c5,rfl⟩
theorem len10 {α:Type}{l:List α}(h:l.length=10):∃c0 c1 c2 c3 c4 c5 c6 c7 c8 c9,l=[c0,c1,c2,c3,c4,c5,c6,c7,c8,c9]:=by
 match l,h with
 | [c0,c1,c2,c3,c4,c5,c6,c7,c8,c9],_=>exact⟨c0,c1,c2,c3,c4,c5,c6,c7,c8,c9,rfl⟩
theorem Opens.one {t:TypeId}{α:Type}{en:α→List Value}{ok:Hp→α→Prop}{W:World}{v:Value}{d:DataW HH}{p:List MemPlace}(h:Opens P t en ok)(hT:DataW.Trod enc P W 0 (fun _=>true) true t v d p):
  ∃a:α,v.cells.toList=en a∧ok (Ca W) a:=by
 obtain⟨fuel,hf⟩:=hT
 exact h HH enc W fuel _ _ hf
end
end Go.Sx
namespace Go.Sx
open Go
def I64.ok (_:Hp)(n:Int):Prop:=BZ n
theorem qq {P:Program}{t:TypeId}(ht:P.underlying t=some (.int .i64)):Opens P t I64.cells I64.ok:=dX ht
end Go.Sx
namespace Go.Sx
open Go
end Go.Sx
namespace Go.Sx
open Go
def Cp (b:Bool):List Value:=[.bool b]
def eM (x:Int):Bool:=decide (0<x)
def nv (d:List Int)(k n:Nat):List Bool:=(d.take k).map eM++List.replicate (n - k) false
theorem CS (d:List Int)(n:Nat):nv d (0:Int).toNat n=List.replicate n false:=by simp [nv]
theorem Fo {d:List Int}{k:Int}{n:Nat}{x:Int}(h0:0≤k)(hk:k<n)(hx:d[k.toNat]? =some x)(hd:d.length=n):
  ((nv d k.toNat n).map Value.bool).set (0+k.toNat * 1) (.bool (decide (0<x)))=(nv d (k+1).toNat n).map Value.bool:=by
 have hlt:k.toNat<d.length:=by omega
 rw [yx]
 congr 1
 unfold nv
 rw [bi h0 hx,List.map_append,List.set_append_right (h:=by simp;omega)]
 have e:k.toNat - (List.map eM (List.take k.toNat d)).length=0:=by simp;omega
 rw [e,show n - k.toNat=(n - (k+1).toNat)+1 by omega,List.replicate_succ,List.set_cons_zero,List.append_assoc]
 rfl
theorem Fp {d:List Int}{k:Int}{n:Nat}(h:¬k<n)(hd:d.length=n)(h0:0≤k):nv d k.toNat n=d.map eM:=by
 unfold nv
 rw [List.take_of_length_le om,show n - k.toNat=0 by omega]
 simp
theorem mr {d:List Int}{k n:Nat}(h:k≤n)(hd:d.length=n):(nv d k n).length=n:=by
 unfold nv;simp;omega
theorem RdSl.bools {H:Hp}{b cap:Nat}{d:List Bool}(h:∀o v,(d.map Value.bool)[o]? =some v→H b o=some v)(hm:d.length≤9223372036854775807)(hcap:d.length≤cap:=by first | exact Nat.le_refl _ | omega | (simp;done) | (simp;omega)):RdSl H 1 Cp (.slice (some ⟨b,0,none⟩) d.length cap) d:=by
 refine⟨⟨_,_,rfl⟩,hm,fun _=>⟨_,rfl⟩,fun i x hx j u hu=>?_,fun a n c e=>by injection e with _ _ e;omega⟩
 cases j with
 | zero=>
  simp only [Cp,List.getElem?_cons_zero,Option.some.injEq] at hu
  subst hu
  refine h _ _ ?_
  simp [off,hx]
 | succ j=>simp [Cp] at hu
def JB (r:Option (List Int))(n:Nat)(v:Value)(H':Hp):Prop:=match r with
 | none=>v= .tuple #[.slice none 0 0,.bool false]
 | some d=>∃sv,v= .tuple #[sv,.bool true]∧RdSl H' 1 Cp sv (d.map eM)∧d.length=n
theorem IG {d:List Int}{k:Nat}{b:Bool}(h:(d.map eM)[k]? =some b)(hb:b=true):0<d[k]?.getD 0:=by
 rw [List.getElem?_map] at h
 cases hx:d[k]? with
 | none=>rw [hx] at h;cases h
 | some x=>
  rw [hx] at h
  have:eM x=b:=by simpa using h
  rw [hb] at this
  simpa [eM] using this
end Go.Sx
namespace Go.Sx
open Go
def cj:List Str→Str→List Str
 | [],s=>[s]
 | x::r,s=>if Op.bytesLess x s=true then x::cj r s else if x=s then x::r else s::x::r
theorem Iw {l:List Str}{s x:Str}{k:Int}(h0:0≤k)(h:cj l s=l.take k.toNat++cj (l.drop k.toNat) s)(hx:l[k.toNat]? =some x)(hc:Op.bytesLess x s=true):
  cj l s=l.take (k+1).toNat++cj (l.drop (k+1).toNat) s:=by
 have hlt:k.toNat<l.length:=(List.getElem?_eq_some_iff.1 hx).1
 have hx':l[k.toNat]=x:=(List.getElem?_eq_some_iff.1 hx).2
 rw [h,bi h0 hx,List.drop_eq_getElem_cons hlt,hx',cj,if_pos hc,show(k+1).toNat=k.toNat+1 by omega]
 simp
theorem Ix {l:List Str}{s x:Str}{k:Int}(h:cj l s=l.take k.toNat++cj (l.drop k.toNat) s)(hx:l[k.toNat]? =some x)(hc:¬Op.bytesLess x s=true)(he:x=s):cj l s=l:=by
 have hlt:k.toNat<l.length:=(List.getElem?_eq_some_iff.1 hx).1
 have hx':l[k.toNat]=x:=(List.getElem?_eq_some_iff.1 hx).2
 rw [h,List.drop_eq_getElem_cons hlt,hx',cj,if_neg hc,if_pos he,← hx',← List.drop_eq_getElem_cons hlt,List.take_append_drop]
theorem put_mid {l:List Str}{s x:Str}{k:Int}(h:cj l s=l.take k.toNat++cj (l.drop k.toNat) s)(hx:l[k.toNat]? =some x)(hc:¬Op.bytesLess x s=true)(he:¬x=s):
  cj l s=([]++(l.take k.toNat).drop 0++[s])++(l.take l.length).drop k.toNat:=by
 have hlt:k.toNat<l.length:=(List.getElem?_eq_some_iff.1 hx).1
 have hx':l[k.toNat]=x:=(List.getElem?_eq_some_iff.1 hx).2
 rw [h,List.drop_eq_getElem_cons hlt,hx',cj,if_neg hc,if_neg he,← hx',← List.drop_eq_getElem_cons hlt]
 simp
theorem put_end {l:List Str}{s:Str}{k:Int}(h:cj l s=l.take k.toNat++cj (l.drop k.toNat) s)(h1:¬k<l.length):
  cj l s=([]++(l.take k.toNat).drop 0++[s])++(l.take l.length).drop k.toNat:=by
 rw [h,List.drop_eq_nil_of_le (show l.length≤k.toNat by omega),cj]
 have e1:l.drop k.toNat=[]:=List.drop_eq_nil_of_le om
 simp [e1]
theorem EG (l:List Str)(s:Str):(cj l s).length≤l.length+1:=by
 induction l with
 | nil=>simp [cj]
 | cons x r ih=>
  unfold cj
  split
  ·simp;omega
  ·split<;>simp
end Go.Sx
namespace Go.Sx
open Go
def ep (l:List Term)(bs:List Bool):Nat→List Str
 | 0=>[]
 | k+1=>match l[k]?,bs[k]? with
  | some t,some b=>if b=true∧t.kind=0 then cj (ep l bs k) t.name else ep l bs k
  | _,_=>ep l bs k
theorem CN (l:List Term)(bs:List Bool)(k:Nat):ep l bs (k+1)=match l[k]?,bs[k]? with
  | some t,some b=>if b=true∧t.kind=0 then cj (ep l bs k) t.name else ep l bs k
  | _,_=>ep l bs k:=rfl
theorem varsK_T {l:List Term}{bs:List Bool}{k:Int}{t:Term}{b:Bool}(h0:0≤k)(hx:l[k.toNat]? =some t)(hb:bs[k.toNat]? =some b)(h:b=true∧t.kind=0):ep l bs (k+1).toNat=cj (ep l bs k.toNat) t.name:=by
 rw [show(k+1).toNat=k.toNat+1 by omega,ep,hx,hb];exact if_pos h
theorem Et {l:List Term}{bs:List Bool}{k:Int}{t:Term}{b:Bool}(h0:0≤k)(hx:l[k.toNat]? =some t)(hb:bs[k.toNat]? =some b)(h:¬(b=true∧t.kind=0)):ep l bs (k+1).toNat=ep l bs k.toNat:=by
 rw [show(k+1).toNat=k.toNat+1 by omega,ep,hx,hb];exact if_neg h
theorem xw (l:List Term)(bs:List Bool)(k:Nat):(ep l bs k).length≤k:=by
 induction k with
 | zero=>simp [ep]
 | succ k ih=>
  unfold ep
  split
  ·split
   ·have:=EG (ep l bs k) (by assumption:Term).name;omega
   ·omega
  ·omega
def fI (l:List Term)(root:Int):List Str:=match eq l root with
 | none=>[]
 | some d=>ep l (d.map eM) l.length
def wl (l:List Str):Prop:=l.Pairwise (· < ·)
theorem ED:∀(a b:List Str),wl a→wl b→(∀x,x∈a↔x∈b)→a=b
 | [],[],_,_,_=>rfl
 | [],y::b,_,_,h=>absurd ((h y).2 List.mem_cons_self) sq
 | x::a,[],_,_,h=>absurd ((h x).1 List.mem_cons_self) sq
 | x::a,y::b,ha,hb,h=>by
  have ha':=List.pairwise_cons.1 ha
  have hb':=List.pairwise_cons.1 hb
  have e:x=y:=by
   rcases List.mem_cons.1 ((h x).1 List.mem_cons_self) with e | h1
   ·exact e
   ·rcases List.mem_cons.1 ((h y).2 List.mem_cons_self) with e | h2
    ·exact e.symm
    ·exact absurd (ha'.1 y h2) (List.lt_asymm (hb'.1 x h1))
  subst e
  rw [ED a b ha'.2 hb'.2 (fun z=>?_)]
  constructor
  ·intro hz
   rcases List.mem_cons.1 ((h z).1 (List.mem_cons_of_mem _ hz)) with e | h1
   ·subst e;exact absurd (ha'.1 z hz) (List.lt_irrefl z)
   ·exact h1
  ·intro hz
   rcases List.mem_cons.1 ((h z).2 (List.mem_cons_of_mem _ hz)) with e | h1
   ·subst e;exact absurd (hb'.1 z hz) (List.lt_irrefl z)
   ·exact h1
theorem zi {l:List Str}{s x:Str}:x∈cj l s↔x=s∨x∈l:=by
 induction l with
 | nil=>simp [cj]
 | cons y r ih=>
  unfold cj
  split
  ·simp only [List.mem_cons,ih]
   constructor
   ·rintro(h | h | h)<;>simp [h]
   ·rintro(h | h | h)<;>simp [h]
  ·split
   ·rename_i h;subst h;simp
   ·simp
theorem Iv {l:List Str}{s:Str}(h:wl l):wl (cj l s):=by
 induction l with
 | nil=>simp [cj,wl]
 | cons y r ih=>
  have h':=List.pairwise_cons.1 h
  unfold cj
  split
  ·rename_i hc
   rw [Go.Proofs.bytesLess_eq] at hc
   refine List.pairwise_cons.2 ⟨fun z hz=>?_,ih h'.2⟩
   rcases zi.1 hz with rfl | hz
   ·simpa using hc
   ·exact h'.1 z hz
  ·split
   ·exact h
   ·rename_i hc hne
    rw [Go.Proofs.bytesLess_eq] at hc
    have hle:s≤y:=List.not_lt.1 (by simpa using hc)
    have hlt:s<y:=by
     apply Classical.byContradiction
     intro hn
     exact hne (List.le_antisymm (List.not_lt.1 hn) hle)
    refine List.pairwise_cons.2 ⟨fun z hz=>?_,h⟩
    rcases List.mem_cons.1 hz with rfl | hz
    ·exact hlt
    ·exact List.lt_trans hlt (h'.1 z hz)
theorem CO (l:List Term)(bs:List Bool)(k:Nat):wl (ep l bs k):=by
 induction k with
 | zero=>simp [ep,wl]
 | succ k ih=>
  unfold ep
  split
  ·split
   ·exact Iv ih
   ·exact ih
  ·exact ih
theorem F8 {l:List Term}{bs:List Bool}{x:Str}{k:Nat}:x∈ep l bs k↔∃i t,i<k∧l[i]? =some t∧bs[i]? =some true∧t.kind=0∧t.name=x:=by
 induction k with
 | zero=>simp [ep]
 | succ k ih=>
  have e:(∃i t,i<k+1∧l[i]? =some t∧bs[i]? =some true∧t.kind=0∧t.name=x)↔(∃t,l[k]? =some t∧bs[k]? =some true∧t.kind=0∧t.name=x)∨x∈ep l bs k:=by
   rw [ih]
   constructor
   ·rintro⟨i,t,hi,h⟩
    by_cases hk:i=k
    ·subst hk;exact .inl ⟨t,h⟩
    ·exact .inr ⟨i,t,by omega,h⟩
   ·rintro(⟨t,h⟩ | ⟨i,t,hi,h⟩)
    ·exact⟨k,t,by omega,h⟩
    ·exact⟨i,t,by omega,h⟩
  rw [e,CN]
  split
  ·rename_i t b hx hb
   split
   ·rename_i h
    rw [zi]
    constructor
    ·rintro(h1 | h1)
     ·exact .inl ⟨t,hx,by rw [hb,h.1],h.2,h1.symm⟩
     ·exact .inr h1
    ·rintro(⟨t',h1,h2,h3,h4⟩ | h1)
     ·rw [hx] at h1;obtain rfl:=Option.some.inj h1;exact .inl h4.symm
     ·exact .inr h1
   ·rename_i h
    constructor
    ·exact .inr
    ·rintro(⟨t',h1,h2,h3,h4⟩ | h1)
     ·rw [hx] at h1;obtain rfl:=Option.some.inj h1
      rw [hb] at h2;exact absurd ⟨Option.some.inj h2,h3⟩ h
     ·exact h1
  ·rename_i hno
   constructor
   ·exact .inr
   ·rintro(⟨t',h1,h2,h3,h4⟩ | h1)
    ·exact absurd h2 (hno t' true h1)
    ·exact h1
theorem zw {zs:List Str}(h:zs.Pairwise (· ≤ ·)):wl (Lib.compact zs):=by
 unfold wl Lib.compact Lib.compactUpTo
 rw [List.pairwise_map]
 have hp:((List.range zs.length).filter (Lib.keeps zs.toArray)).Pairwise (· < ·):=List.pairwise_lt_range.filter _
 refine hp.imp_of_mem (fun {i j} hi hj hij=>?_)
 simp only [List.mem_filter,List.mem_range] at hi hj
 have hj0:¬j=0:=by omega
 have hk:=hj.2
 simp only [Lib.keeps,decide_eq_true_eq] at hk
 have hne:=hk.resolve_left hj0
 rw [getElem!_pos zs.toArray j (by simpa using hj.1),getElem!_pos zs.toArray (j - 1) (by simp;omega)] at hne
 rw [getElem!_pos zs.toArray j (by simpa using hj.1),getElem!_pos zs.toArray i (by simpa using hi.1)]
 simp only [List.getElem_toArray] at hne ⊢
 have hP:=List.pairwise_iff_getElem.1 h
 have h1:zs[j - 1]'om≤zs[j]'(hj.1):=hP (j - 1) j om hj.1 om
 have h2:zs[j - 1]'om<zs[j]'(hj.1):=by
  apply Classical.byContradiction
  intro hn
  exact hne (List.le_antisymm (List.not_lt.1 hn) h1)
 by_cases he:i=j - 1
 ·subst he;exact h2
 ·have h3:zs[i]'(hi.1)≤zs[j - 1]'om:=hP i (j - 1) hi.1 om om
  exact List.lt_of_le_of_lt h3 h2
theorem CV (l:List Str):(jw l).Pairwise (· ≤ ·):=by
 have:=List.pairwise_mergeSort (le:=fun x y:Str=>decide (x≤y)) (fun a b c h1 h2=>by simp only [decide_eq_true_eq] at *;exact List.le_trans h1 h2) (fun a b=>by simp only [Bool.or_eq_true,decide_eq_true_eq];exact List.le_total a b) l
 exact this.imp (fun h=>by simpa using h)
theorem CL (l:List Term)(root:Int):wl (iH l root):=by
 unfold iH
 split
 ·exact zw (CV _)
 ·exact List.Pairwise.nil
theorem tY {d d':List Int}{i:Nat}{at_:Int}(h:dQ d i at_=some d')(hn:Nn d)(hi:i<d.length):
  0<d'[at_.toNat]?.getD 0∧(∀j:Nat,0<d[j]?.getD 0→0<d'[j]?.getD 0)∧(∀j:Nat,i≤j→d'[j]?.getD 0=d[j]?.getD 0)∧Nn d'∧d'.length=d.length:=by
 unfold dQ at h
 split at h
 ·cases h
 ·rename_i hg
  obtain rfl:=Option.some.inj h
  simp only [Int.toNat_natCast]
  have hp:=hn i
  have hlt:at_.toNat<i:=by omega
  have hv:0<(d.set at_.toNat (d[i]?.getD 0+1))[at_.toNat]?.getD 0:=by rw [yN om];omega
  refine⟨hv,fun j hj=>?_,fun j hj=>jD om,mo hn om,by simp⟩
  by_cases e:at_.toNat=j
  ·subst e;exact hv
  ·rw [jD e];exact hj
theorem yH {l:List Term}{d d':List Int}{i:Nat}(h:cW l i d=some d')(hn:Nn d):
  (0<d[i]?.getD 0→∀t,l[i]? =some t→(1≤al t.kind→0<d'[t.l.toNat]?.getD 0)∧(2≤al t.kind→0<d'[t.r.toNat]?.getD 0))∧(∀j:Nat,0<d[j]?.getD 0→0<d'[j]?.getD 0)∧(∀j:Nat,i≤j→d'[j]?.getD 0=d[j]?.getD 0)∧Nn d':=by
 unfold cW at h
 simp only [Int.toNat_natCast] at h
 split at h
 ·rename_i h0
  obtain rfl:=Option.some.inj h
  exact⟨fun hp=>absurd h0 om,fun j hj=>hj,fun j _=>rfl,hn⟩
 ·rename_i h0
  have hi:i<d.length:=by
   apply Classical.byContradiction
   intro hge
   exact h0 (by rw [List.getElem?_eq_none om];rfl)
  cases hx:l[i]? with
  | none=>rw [hx] at h;cases h
  | some t=>
   rw [hx] at h
   simp only at h
   split at h
   ·cases h
   ·unfold fF at h
    split at h
    ·obtain rfl:=Option.some.inj h
     refine⟨fun _ t' ht=>?_,fun j hj=>hj,fun j _=>rfl,hn⟩
     obtain rfl:=Option.some.inj ht
     exact⟨fun h1=>by omega,fun h1=>by omega⟩
    ·cases h2:dQ d i t.l with
     | none=>rw [h2] at h;cases h
     | some d2=>
      rw [h2] at h
      simp only at h
      obtain⟨a1,a2,a3,a4,a5⟩:=tY h2 hn hi
      split at h
      ·obtain rfl:=Option.some.inj h
       refine⟨fun _ t' ht=>?_,a2,a3,a4⟩
       obtain rfl:=Option.some.inj ht
       exact⟨fun _=>a1,fun h1=>by omega⟩
      ·obtain⟨b1,b2,b3,b4,b5⟩:=tY h a4 om
       refine⟨fun _ t' ht=>?_,fun j hj=>b2 j (a2 j hj),fun j hj=>(b3 j hj).trans (a3 j hj),b4⟩
       obtain rfl:=Option.some.inj ht
       exact⟨fun _=>b2 _ a1,fun _=>b1⟩
theorem oW {l:List Term}:∀(n:Nat) (d d':List Int),cE l n d=some d'→Nn d→
  (∀j:Nat,0<d[j]?.getD 0→0<d'[j]?.getD 0)∧(∀j:Nat,n≤j→d'[j]?.getD 0=d[j]?.getD 0)∧(∀i:Nat,i<n→0<d'[i]?.getD 0→∀t,l[i]? =some t→(1≤al t.kind→0<d'[t.l.toNat]?.getD 0)∧(2≤al t.kind→0<d'[t.r.toNat]?.getD 0))
 | 0,d,d',h,hn=>by obtain rfl:=Option.some.inj h;exact⟨fun j hj=>hj,fun j _=>rfl,fun i hi=>by omega⟩
 | n+1,d,d',h,hn=>by
  simp only [cE] at h
  cases hs:cW l n d with
  | none=>rw [hs] at h;cases h
  | some d1=>
   rw [hs] at h
   simp only at h
   obtain⟨a1,a2,a3,a4⟩:=yH hs hn
   obtain⟨b1,b2,b3⟩:=oW n d1 d' h a4
   refine⟨fun j hj=>b1 j (a2 j hj),fun j hj=>(b2 j om).trans (a3 j om),fun i hi hp t ht=>?_⟩
   by_cases e:i=n
   ·subst e
    have hp1:0<d[i]?.getD 0:=by rw [← a3 i (Nat.le_refl _),← b2 i (Nat.le_refl _)];exact hp
    have:=a1 hp1 t ht
    exact⟨fun h1=>b1 _ (this.1 h1),fun h1=>b1 _ (this.2 h1)⟩
   ·exact b3 i om hp t ht
theorem IB {l:List Term}{S:Nat→Prop}:∀(f at_:Nat) (deep:Int) (p:List Nat),cA l f at_ deep=some p→S at_→(∀i,i≤at_→S i→∀t,l[i]? =some t→(1≤al t.kind→S t.l.toNat)∧(2≤al t.kind→S t.r.toNat))→∀i∈p,S i:=by
 intro f
 induction f with
 | zero=>intro at_ deep p h;simp [cA] at h
 | succ f ih=>
  intro at_ deep p h hS hc i hi
  obtain⟨t,p0,q0,hx,hok,h0,h1,rfl⟩:=dh h
  have hcl:=hc at_ (Nat.le_refl _) hS t hx
  rcases List.mem_cons.1 hi with rfl | hi
  ·exact hS
  ·rcases List.mem_append.1 hi with hi | hi
   ·split at h0
    ·simp only [Option.some.injEq] at h0;subst h0;cases hi
    ·rename_i ho
     have:=rT hok ho
     exact ih _ _ _ h0 (hcl.1 om) (fun j hj=>hc j om) i hi
   ·split at h1
    ·simp only [Option.some.injEq] at h1;subst h1;cases hi
    ·rename_i ho
     have:=rS hok ho
     exact ih _ _ _ h1 (hcl.2 om) (fun j hj=>hc j om) i hi
theorem A2 {l:List Term}{root:Int}{d:List Int}{p:List Nat}(h:eq l root=some d)(hp:cA l (root.toNat+1) root.toNat 1=some p){k:Nat}(hk:k∈p):0<d[k]?.getD 0:=by
 unfold eq at h
 split at h
 ·cases h
 ·rename_i hg
  obtain⟨a1,a2,a3⟩:=oW _ _ _ h (pQ _ _)
  refine IB (S:=fun i=>0<d[i]?.getD 0) _ _ _ _ hp (a1 _ (by rw [yN (by simp;omega)];decide)) (fun i hi hS t ht=>a3 i om hS t ht) k hk
theorem F6 {l:List Term}{x:Str}:∀(f at_:Nat) (deep:Int) (p:List Nat),cA l f at_ deep=some p→∀a:Int,0≤a→a.toNat=at_→(x∈fH l f a↔∃i t,i∈p∧l[i]? =some t∧t.kind=0∧t.name=x):=by
 intro f
 induction f with
 | zero=>intro at_ deep p h;simp [cA] at h
 | succ f ih=>
  intro at_ deep p h a ha0 ha
  obtain⟨t,p0,q0,hx,hok,h0,h1,rfl⟩:=dh h
  have hops:=EL hok
  have e0:x∈fH l f t.l↔∃i t,i∈p0∧l[i]? =some t∧t.kind=0∧t.name=x:=by
   split at h0
   ·rename_i ho
    simp only [Option.some.injEq] at h0;subst h0
    rw [hops.2.2.2.1 ho,jP dq];simp
   ·rename_i ho
    exact ih _ _ _ h0 t.l (rT hok ho).1 rfl
  have e1:x∈fH l f t.r↔∃i t,i∈q0∧l[i]? =some t∧t.kind=0∧t.name=x:=by
   split at h1
   ·rename_i ho
    simp only [Option.some.injEq] at h1;subst h1
    rw [hops.2.2.2.2 ho,jP dq];simp
   ·rename_i ho
    exact ih _ _ _ h1 t.r (rS hok ho).1 rfl
  rw [lC om (by rw [ha];exact hx)]
  simp only [List.mem_append,List.mem_cons,e0,e1]
  constructor
  ·rintro(⟨i,t',hi,h⟩ | ⟨i,t',hi,h⟩ | h)
   ·exact⟨i,t',.inr (.inl hi),h⟩
   ·exact⟨i,t',.inr (.inr hi),h⟩
   ·split at h
    ·rename_i hk
     exact⟨at_,t,.inl rfl,hx,hk,(List.mem_singleton.1 h).symm⟩
    ·cases h
  ·rintro⟨i,t',(rfl | hi | hi),hh⟩
   ·rw [hx] at hh
    obtain⟨e,hk,hnm⟩:=hh
    obtain rfl:=Option.some.inj e
    right;right
    rw [if_pos hk];simp [hnm]
   ·exact .inl ⟨i,t',hi,hh⟩
   ·exact .inr (.inl ⟨i,t',hi,hh⟩)
theorem HL (l:List Term)(root:Int):fI l root=iH l root:=by
 cases hd:eq l root with
 | none=>
  have hm:¬cN l root=true:=by rw [lH,hd];decide
  rw [CM hm];unfold fI;rw [hd]
 | some d=>
  have hm:cN l root=true:=by rw [lH,hd];rfl
  obtain⟨hrg,p,hp,_⟩:=BH.1 hm
  have e:fI l root=ep l (d.map eM) l.length:=by unfold fI;rw [hd]
  rw [e]
  refine ED _ _ (CO _ _ _) (CL _ _) (fun x=>?_)
  rw [F8,F7 hm,F6 _ _ _ _ hp root om rfl]
  constructor
  ·rintro⟨i,t,hi,hx,hb,h⟩
   exact⟨i,t,Eu hd hp (IG hb rfl),hx,h⟩
  ·rintro⟨i,t,hi,hx,h⟩
   have hpos:=A2 hd hp hi
   refine⟨i,t,(List.getElem?_eq_some_iff.1 hx).1,hx,?_,h⟩
   rw [List.getElem?_map]
   cases hdx:d[i]? with
   | none=>rw [hdx] at hpos;simp at hpos
   | some y=>
    rw [hdx] at hpos
    simp at hpos
    simp [eM,hpos]
end Go.Sx
namespace Go.Sx
open Go
def dt (l:List Str):Bool:=decide l.Nodup
theorem nO {l:List Str}{k:Int}{x:Str}(k0:0≤k)(hx:l[k.toNat]? =some x)(h:(l.take k.toNat).Nodup)(hn:x∉l.take k.toNat):(l.take (k+1).toNat).Nodup:=by
 rw [bi k0 hx,List.nodup_append]
 refine⟨h,by simp,fun a ha b hb e=>?_⟩
 simp at hb;subst hb;subst e;exact hn ha
theorem Bp {l : List Str} {k : Int} {x : Str} (k0 : 0 ≤ k) (hx : l[k.toNat]? = some x) (h : bS l x = k) : x ∉ l.take k.toNat := by
 intro hm
 obtain ⟨j, hj, he⟩ := List.mem_iff_getElem.1 hm
 rw [List.length_take] at hj
 -- the least such place
 have key : ∀ (l : List Str) (j : Nat), l[j]? = some x → bS l x ≤ j := by
  intro l
  induction l with
  | nil => intro j h; simp at h
  | cons y l ih =>
   intro j h
   unfold bS
   split
   ·omega
   ·cases j with
    | zero => simp at h; subst h; rename_i hne; exact absurd rfl hne
    | succ j =>
     have := ih j (by simpa using h)
     split <;> omega
 have h2 : l[j]? = some x := by rw [List.getElem_take] at he; rw [← he]; exact List.getElem?_eq_getElem om
 have := key l j h2
 omega
theorem ph {l:List Str}{k:Int}(hk:¬k<l.length)(k0:0≤k)(h:(l.take k.toNat).Nodup):dt l=true:=by
 rw [aX hk k0] at h;exact decide_eq_true h
theorem F1 {l:List Str}{k:Int}{x:Str}(k0:0≤k)(hx:l[k.toNat]? =some x)(hm:x∈l.take k.toNat):dt l=false:=by
 refine decide_eq_false fun hn=>?_
 have h1:(l.take (k+1).toNat).Nodup:=hn.sublist (List.take_sublist _ _)
 rw [bi k0 hx,List.nodup_append] at h1
 exact h1.2.2 x hm x sq rfl
theorem BA {l:List Str}{k:Int}{x:Str}(k0:0≤k)(hx:l[k.toNat]? =some x)(h:bI ((l.take k.toNat).drop 0) x=true):dt l=false:=F1 k0 hx (by simpa [bI] using h)
theorem has_not {l:List Str}{x:Str}(h:bI (l.drop 0) x=false):x∉l:=by simpa [bI] using h
theorem uI {l:List Str}{k:Int}{x:Str}(k0:0≤k)(hx:l[k.toNat]? =some x)(h:¬bS l x=k):dt l=false:=by
 refine decide_eq_false fun hn=>h ?_
 refine cS k0 hx (fun j hj he=>?_)
 have h1:=(List.getElem?_eq_some_iff.1 hx)
 have h2:=(List.getElem?_eq_some_iff.1 he)
 obtain⟨a1,b1⟩:=h1;obtain⟨a2,b2⟩:=h2
 have:=(List.getElem_inj hn (h₀:=a2) (h₁:=a1)).1 (b2.trans b1.symm)
 omega
theorem Cf (s:Str)(l:List Str):(l.foldl cj [s]).length≤l.length+1:=by
 have:∀(l a:List Str),(l.foldl cj a).length≤l.length+a.length:=by
  intro l
  induction l with
  | nil=>intro a;simp
  | cons x l ih=>
   intro a
   have h1:=ih (cj a x)
   have h2:=EG a x
   simp only [List.foldl_cons,List.length_cons];omega
 simpa using this l [s]
section
variable {l:List Str}{s h:Str}{k:Int}
end
end Go.Sx
namespace Go.Sx
open Go
def n7 (s:Str):Str×Str×Bool:=Lib.cut s [46]
end Go.Sx
