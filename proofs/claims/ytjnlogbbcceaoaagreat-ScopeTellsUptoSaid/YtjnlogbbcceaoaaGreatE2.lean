import Derived.Test.YtjnlogbbcceaoaaGreatE1
import Derived.Test.YtjnlogbbcceaoaaGreatRows
import Derived.ProofKit
import Derived.Deep.Slices
set_option linter.all false
set_option maxRecDepth 100000
set_option maxHeartbeats 32000000
namespace Go.Sx
open Go
abbrev Str:=List UInt8
theorem bj {α:Type}{l:List α}{n:Nat}{x:α}(h:l[n]? =some x):l.drop n=x::l.drop (n+1):=by
 obtain⟨hlt,rfl⟩:=List.getElem?_eq_some_iff.1 h
 exact List.drop_eq_getElem_cons hlt
theorem nN {k:Int}(h:0≤k):(k+1).toNat=k.toNat+1:=by omega
theorem Jg {α:Type}{l:List α}{k:Int}(h:¬k<l.length):l.drop k.toNat=[]:=List.drop_eq_nil_of_le om
theorem E4 {α:Type}{l:List α}{k:Int}{x:α}(hk:0≤k)(h:l[k.toNat]? =some x):l.drop k.toNat=x::l.drop (k+1).toNat:=by
 rw [nN hk];exact bj h
def fZ (c:UInt8):Bool:=decide ((97:Int)≤c.toNat)&&decide ((c.toNat:Int)≤122)
def kB (c:UInt8):Bool:=decide ((48:Int)≤c.toNat)&&decide ((c.toNat:Int)≤57)
def gh (c:UInt8):Bool:=fZ c||kB c
def kw1 (s:Str):Bool:=(decide (s=[97,110,100])||(decide (s=[97,115])||(decide (s=[97,116])||(decide (s=[98,111,111,108])||(decide (s=[99,97,108,108])||(decide (s=[99,104,97,110])||(decide (s=[100,114,111,112])||(decide (s=[101,108,115,101])||(decide (s=[101,109,112,116,121])||(decide (s=[101,110,100])||(decide (s=[102,97,105,108])||(decide (s=[102,97,108,115,101])||decide (s=[102,114,111,109])))))))))))))
def kw2 (s:Str):Bool:=(decide (s=[104,101,97,114])||(decide (s=[105,102])||(decide (s=[105,110,116])||(decide (s=[106,111,105,110])||(decide (s=[108,101,110])||(decide (s=[108,101,116])||(decide (s=[108,105,115,116])||(decide (s=[108,111,99,97,108])||(decide (s=[108,111,115,116])||(decide (s=[109,111,100])||(decide (s=[110,111,116])||(decide (s=[111,112,101,110])||decide (s=[111,114])))))))))))))
def kw3 (s:Str):Bool:=(decide (s=[112,114,105,110,116])||(decide (s=[112,114,111,99])||(decide (s=[112,114,111,116,111,99,111,108])||(decide (s=[112,117,115,104])||(decide (s=[114,111,108,101,115])||(decide (s=[115,97,121])||(decide (s=[115,112,97,119,110])||(decide (s=[115,116,111,112])||(decide (s=[116,101,120,116])||(decide (s=[116,111])||(decide (s=[116,114,117,101])||(decide (s=[117,110,105,116])||decide (s=[119,105,116,104])))))))))))))
def rkw1 (s:Str):Bool:=(decide (s=[97,110,100])||(decide (s=[97,115])||(decide (s=[97,116])||(decide (s=[98,111,111,108])||(decide (s=[99,97,108,108])||(decide (s=[99,104,97,110])||(decide (s=[100,114,111,112])||(decide (s=[101,108,115,101])||(decide (s=[101,109,112,116,121])||(decide (s=[101,110,100])||(decide (s=[102,97,105,108])||(decide (s=[102,97,108,115,101])||(decide (s=[102,114,111,109])||(decide (s=[104,101,97,114])||(decide (s=[105,102])||(decide (s=[105,110,116])||(decide (s=[106,111,105,110])||(decide (s=[108,101,110])||(decide (s=[108,101,116])||decide (s=[108,105,115,116]))))))))))))))))))))
def rkw2 (s:Str):Bool:=(decide (s=[108,111,99,97,108])||(decide (s=[108,111,115,116])||(decide (s=[109,111,100])||(decide (s=[110,111,116])||(decide (s=[111,112,101,110])||(decide (s=[111,114])||(decide (s=[112,114,105,110,116])||(decide (s=[112,114,111,99])||(decide (s=[112,114,111,116,111,99,111,108])||(decide (s=[112,117,115,104])||(decide (s=[114,111,108,101,115])||(decide (s=[115,97,121])||(decide (s=[115,112,97,119,110])||(decide (s=[115,116,111,112])||(decide (s=[116,101,120,116])||(decide (s=[116,111])||(decide (s=[116,114,117,101])||(decide (s=[117,110,105,116])||decide (s=[119,105,116,104])))))))))))))))))))
def fw (s:Str):Bool:=kw1 s||(kw2 s||kw3 s)
theorem C0 (s:Str):(rkw1 s||rkw2 s)=fw s:=by
 simp only [rkw1,rkw2,fw,kw1,kw2,kw3,Bool.or_assoc]
def aN (s:Str):Bool:=
 if(s.length:Int)<1 then false else if(12:Int)<s.length then false else if fZ (s.headD 0)=false then false else if fw s then false
 else(s.drop 1).all gh
theorem Cb {s:Str}{c:UInt8}(h:s[(0:Int).toNat]? =some c):s.headD 0=c:=by
 cases s with
 | nil=>simp at h
 | cons a s=>simpa using h
structure Typing where
 name:Str
 kind:Int
 at_:Int
structure Term where
 kind:Int
 name:Str
 n:Int
 text:Str
 l:Int
 r:Int
def Term.cells (t:Term):List Value:=[.int .i64 t.kind,gs t.name,.int .i64 t.n,gs t.text,.int .i64 t.l,.int .i64 t.r]
def BZ (n:Int):Prop:= -9223372036854775808≤n∧n≤9223372036854775807
theorem rY {α:Type}{enc:α→List Value}{k:Nat}:∀{l:List α},(∀x∈l,(enc x).length=k)→∀(i:Nat) (x:α),l[i]? =some x→∀j u,(enc x)[j]? =some u→(l.flatMap enc)[i * k+j]? =some u
 | [],_,i,x,hx,_,_,_=>by simp at hx
 | y::l,hk,0,x,hx,j,u,hu=>by
  simp only [List.getElem?_cons_zero,Option.some.injEq] at hx
  subst hx
  have:j<(enc y).length:=(List.getElem?_eq_some_iff.1 hu).1
  simp only [List.flatMap_cons,Nat.zero_mul,Nat.zero_add]
  rw [List.getElem?_append_left this];exact hu
 | y::l,hk,i+1,x,hx,j,u,hu=>by
  have h1:=hk y sq
  simp only [List.flatMap_cons]
  rw [List.getElem?_append_right (by rw [h1,Nat.succ_mul];omega),h1,show(i+1) * k+j - k=i * k+j by rw [Nat.succ_mul];omega]
  exact rY (fun z hz=>hk z (List.mem_cons_of_mem _ hz)) i x (by simpa using hx) j u hu
theorem RdSl.blk {α:Type}{H:Hp}{enc:α→List Value}{k b cap:Nat}{cs:List Value}{l:List α}(h:∀o v,cs[o]? =some v→H b o=some v)(hk:∀x∈l,(enc x).length=k)(hc:cs=l.flatMap enc)
  (hm:l.length≤9223372036854775807) (hcap:l.length≤cap:=by first | exact Nat.le_refl _ | omega | (simp;done) | (simp;omega)):RdSl H k enc (.slice (some ⟨b,0,none⟩) l.length cap) l:=by
 subst hc
 refine⟨⟨_,_,rfl⟩,hm,fun _=>⟨_,rfl⟩,fun i x hx j u hu=>?_,fun a n c e=>by injection e with _ _ e;omega⟩
 have:=rY hk i x hx j u hu
 simp only [off,Nat.zero_add]
 exact h _ _ this
theorem RdSl.nil {α:Type}{H:Hp}{enc:α→List Value}{k:Nat}:RdSl H k enc (.slice none 0 0) []:=
 ⟨⟨_,_,rfl⟩,by simp,fun h=>absurd rfl h,fun i x hx=>by simp at hx,fun a n c _=>by simp⟩
end Go.Sx
namespace Go.Sx
open Go
theorem F5 {s:Str}(h:decide ((s.length:Int)<1)=true∨decide ((12:Int)<s.length)=true∨(∃c,s[(0:Int).toNat]? =some c∧(!fZ c)=true)∨fw s=true):aN s=false:=by
 unfold aN
 rcases h with h | h | ⟨c,hc,h⟩ | h
 ·rw [if_pos (of_decide_eq_true h)]
 ·split
  ·rfl
  ·rw [if_pos (of_decide_eq_true h)]
 ·rw [Cb hc]
  split
  ·rfl
  split
  ·rfl
  rw [if_pos (by simpa using h)]
 ·split
  ·rfl
  split
  ·rfl
  split
  ·rfl
  first | rfl | rw [if_pos h]
theorem mG {s:Str}{c:UInt8}(h1:decide ((s.length:Int)<1)=false)(h2:decide ((12:Int)<s.length)=false)(hc:s[(0:Int).toNat]? =some c)(h3:(!fZ c)=false)(h4:fw s=false):aN s=(s.drop 1).all gh:=by
 unfold aN
 rw [if_neg (of_decide_eq_false h1),if_neg (of_decide_eq_false h2),Cb hc,if_neg (by simpa using h3),if_neg (by simp [h4])]
theorem zh {s:Str}{k:Int}{c:UInt8}(h:(s.drop 1).all gh=(s.drop k.toNat).all gh)(hk:0≤k)(hc:s[k.toNat]? =some c)(hx:(!fZ c)=false∨(!kB c)=false):(s.drop 1).all gh=(s.drop (k+1).toNat).all gh:=by
 rw [h,E4 hk hc,List.all_cons]
 have:gh c=true:=by unfold gh;rcases hx with hx | hx<;>simp at hx<;>simp [hx]
 simp [this]
theorem BC {s:Str}{k:Int}(hn:aN s=(s.drop 1).all gh)(h:(s.drop 1).all gh=(s.drop k.toNat).all gh)(hk:¬k<s.length):aN s=true:=by
 rw [hn,h,Jg hk];rfl
theorem BD {s:Str}{k:Int}{c:UInt8}(hn:aN s=(s.drop 1).all gh)(h:(s.drop 1).all gh=(s.drop k.toNat).all gh)(hk:0≤k)(hc:s[k.toNat]? =some c)(h1:(!fZ c)=true)(h2:(!kB c)=true):aN s=false:=by
 rw [hn,h,E4 hk hc,List.all_cons]
 have:gh c=false:=by unfold gh;simp at h1 h2;simp [h1,h2]
 simp [this]
end Go.Sx
namespace Go.Sx
open Go
def al (k:Int):Int:=if k<0∨19<k then -1 else if k≤5 then 0 else if k=15∨k=16 then 1 else 2
def cG (t:Term):Bool:=
 if t.kind=0 then aN t.name&&(decide (t.n=0)&&decide (t.text=[]))
 else if t.kind=1 then decide (t.name=[])&&decide (t.text=[])
 else if t.kind=2 then decide (t.name=[])&&(decide (t.text=[])&&(decide (t.n=0)||decide (t.n=1)))
 else if t.kind=3 then decide (t.name=[])&&(decide (t.n=0)&&decide ((t.text.length:Int)≤24))
 else decide (t.name=[])&&(decide (t.n=0)&&decide (t.text=[]))
def opW (k at_:Int)(rec:Int→List Bool→Bool×List Bool)(i to:Int)(met:List Bool):Bool×List Bool:=
 if k≤i then(decide (to= -1),met) else if to<0∨at_≤to then(false,met) else rec to met
def db (l:List Term):Nat→Int→Int→List Bool→Bool×List Bool
 | 0,_,_,met=>(false,met)
 | f+1,at_,deep,met=>
  match l[at_.toNat]? with
  | none=>(false,met)
  | some t=>
   if met[at_.toNat]?.getD false=true∨24<deep∨al t.kind<0∨cG t=false then(false,met)
   else
    let a:=opW (al t.kind) at_ (fun to m=>db l f to (deep+1) m) 0 t.l (met.set at_.toNat true)
    if a.1=false then(false,a.2) else opW (al t.kind) at_ (fun to m=>db l f to (deep+1) m) 1 t.r a.2
theorem uS {l:List Term}{f:Nat}{at_ deep:Int}{met:List Bool}{t:Term}(hx:l[at_.toNat]? =some t)(h:met[at_.toNat]?.getD false=true∨24<deep∨al t.kind<0∨cG t=false):
  db l (f+1) at_ deep met=(false,met):=by
 simp only [db,hx];rw [if_pos h]
def CD (deep:Int)(met:List Bool)(at_:Int)(t:Term):Prop:=met[at_.toNat]?.getD false=false∧¬24<deep∧¬al t.kind<0∧cG t=true
theorem uT {l:List Term}{f:Nat}{at_ deep:Int}{met m:List Bool}{t:Term}(hx:l[at_.toNat]? =some t)(h:CD deep met at_ t)
  (h0:opW (al t.kind) at_ (fun to m=>db l f to (deep+1) m) 0 t.l (met.set at_.toNat true)=(false,m)):db l (f+1) at_ deep met=(false,m):=by
 obtain⟨h1,h2,h3,h4⟩:=h
 simp only [db,hx];rw [if_neg (by simp [h1,h2,h3,h4]),h0];rfl
theorem lY {l:List Term}{f:Nat}{at_ deep:Int}{met m:List Bool}{t:Term}{r:Bool×List Bool}(hx:l[at_.toNat]? =some t)(h:CD deep met at_ t)
  (h0:opW (al t.kind) at_ (fun to m=>db l f to (deep+1) m) 0 t.l (met.set at_.toNat true)=(true,m))
  (h5:opW (al t.kind) at_ (fun to m=>db l f to (deep+1) m) 1 t.r m=r):db l (f+1) at_ deep met=r:=by
 obtain⟨h1,h2,h3,h4⟩:=h
 simp only [db,hx];rw [if_neg (by simp [h1,h2,h3,h4]),h0];simpa using h5
theorem ze {k at_:Int}{rec:Int→List Bool→Bool×List Bool}{i to:Int}{met:List Bool}(h:k≤i)(hb:¬to= -1):opW k at_ rec i to met=(false,met):=by
 unfold opW;rw [if_pos h];simp [hb]
theorem iQ {k at_:Int}{rec:Int→List Bool→Bool×List Bool}{i to:Int}{met:List Bool}(h:k≤i)(hb:to= -1):opW k at_ rec i to met=(true,met):=by
 unfold opW;rw [if_pos h];simp [hb]
theorem je {k at_:Int}{rec:Int→List Bool→Bool×List Bool}{i to:Int}{met:List Bool}{r:Bool×List Bool}(h:¬k≤i)(h2:decide (to<0)=false)(h3:decide (at_≤to)=false)(e:rec to met=r):opW k at_ rec i to met=r:=by
 unfold opW;rw [if_neg h,if_neg (by simp at h2 h3;omega)];exact e
theorem Di {k at_:Int}{rec:Int→List Bool→Bool×List Bool}{i to:Int}{met:List Bool}(h:¬k≤i)(h2:decide (to<0)=true):opW k at_ rec i to met=(false,met):=by
 unfold opW;rw [if_neg h,if_pos (.inl (of_decide_eq_true h2))]
theorem Dh {k at_:Int}{rec:Int→List Bool→Bool×List Bool}{i to:Int}{met:List Bool}(h:¬k≤i)(h2:decide (at_≤to)=true):opW k at_ rec i to met=(false,met):=by
 unfold opW;rw [if_neg h,if_pos (.inr (of_decide_eq_true h2))]
theorem zf {k at_:Int}{rec:Int→List Bool→Bool×List Bool}{i to:Int}{met:List Bool}(h:k≤i):opW k at_ rec i to met=(decide (to= -1),met):=by
 unfold opW;rw [if_pos h]
theorem sG {k at_:Int}{rec:Int→List Bool→Bool×List Bool}{i to:Int}{met:List Bool}(h:¬k≤i)(h2:to<0∨at_≤to):opW k at_ rec i to met=(false,met):=by
 unfold opW;rw [if_neg h,if_pos h2]
theorem sF {k at_:Int}{rec:Int→List Bool→Bool×List Bool}{i to:Int}{met:List Bool}(h:¬k≤i)(h2:¬to<0)(h3:¬at_≤to):opW k at_ rec i to met=rec to met:=by
 unfold opW;rw [if_neg h,if_neg om]
theorem GA {met:List Bool}{i:Nat}(h:i<met.length):(met.map Value.bool)[0+i * 1]? =some (.bool (met[i]?.getD false)):=by
 simp [List.getElem?_eq_getElem h]
theorem yx (met:List Bool)(i:Nat)(b:Bool):(met.map Value.bool).set (0+i * 1) (.bool b)=(met.set i b).map Value.bool:=by
 simp [List.map_set]
theorem uq (n:Nat):iE n [Value.bool false]=(List.replicate n false).map Value.bool:=by
 induction n with
 | zero=>rfl
 | succ n ih=>simp [iE,ih,List.replicate_succ]
def cN (l:List Term)(root:Int):Bool:=
 if(160:Int)<l.length then false else if root<0 then false else if(l.length:Int)≤root then false else(db l (root.toNat+1) root 1 (List.replicate l.length false)).1
theorem pw {l:List Term}{root:Int}(h:decide ((160:Int)<l.length)=true):cN l root=false:=by unfold cN;rw [if_pos (of_decide_eq_true h)]
theorem pu {l:List Term}{root:Int}(h:decide (root<0)=true):cN l root=false:=by
 unfold cN;split
 ·rfl
 ·rw [if_pos (of_decide_eq_true h)]
theorem pq {l:List Term}{root:Int}(h:(l.length:Int)≤root):cN l root=false:=by
 unfold cN;split
 ·rfl
 ·split
  ·rfl
  ·first | rfl | rw [if_pos h]
theorem EQ {l:List Term}{root:Int}(h1:decide ((160:Int)<l.length)=false)(h2:decide (root<0)=false)(h3:¬(l.length:Int)≤root):(l.length:Int)≤160∧0≤root∧root<l.length:=by
 have:=of_decide_eq_false h1;have:=of_decide_eq_false h2;omega
theorem qv {l:List Term}{root:Int}(h:(l.length:Int)≤160∧0≤root∧root<l.length):cN l root=(db l (root.toNat+1) root 1 (List.replicate l.length false)).1:=by
 unfold cN;rw [if_neg om,if_neg om,if_neg om]
end Go.Sx
namespace Go.Sx
open Go
def Tr (l:List Term):Nat→Int→Prop
 | 0,_=>False
 | f+1,at_=>0≤at_∧∃t,l[at_.toNat]? =some t∧0≤al t.kind∧cG t=true∧(1≤al t.kind→Tr l f t.l)∧(al t.kind<1→t.l= -1)∧(2≤al t.kind→Tr l f t.r)∧(al t.kind<2→t.r= -1)
def gE (t:Term):Bool:=if t.kind=0 then aN t.name else decide (t.name=[])
def m8 (t:Term):Bool:=decide (t.n=0)||(decide (t.kind=1)||(decide (t.kind=2)&&decide (t.n=1)))
def jQ (t:Term):Bool:=decide (t.text=[])||(decide (t.kind=3)&&decide ((t.text.length:Int)≤24))
def fJ (t:Term):Bool:=decide (al t.kind<0)||((decide (al t.kind<2)&& !decide (t.r= -1))||(decide (al t.kind<1)&& !decide (t.l= -1)))
def f9 (t:Term):Bool:=!fJ t&&(gE t&&(m8 t&&jQ t))
def dQ (d:List Int)(i at_:Int):Option (List Int):=
 if at_<0∨i≤at_∨0<d[at_.toNat]?.getD 0 then none else some (d.set at_.toNat (d[i.toNat]?.getD 0+1))
def fF (d:List Int)(i:Int)(t:Term):Option (List Int):=
 if al t.kind≤0 then some d else match dQ d i t.l with
  | none=>none
  | some d1=>if al t.kind≤1 then some d1 else dQ d1 i t.r
def cW (l:List Term)(i:Int)(d:List Int):Option (List Int):=
 if d[i.toNat]?.getD 0=0 then some d else match l[i.toNat]? with
  | none=>none
  | some t=>if f9 t=false∨24<d[i.toNat]?.getD 0 then none else fF d i t
def cE (l:List Term):Nat→List Int→Option (List Int)
 | 0,d=>some d
 | n+1,d=>match cW l n d with
  | none=>none
  | some d'=>cE l n d'
def eq (l:List Term)(root:Int):Option (List Int):=
 if(160:Int)<l.length∨root<0∨(l.length:Int)≤root then none else cE l (root+1).toNat ((List.replicate l.length 0).set root.toNat 1)
def I6 (x:Int):List Value:=[.int .i64 x]
theorem j7 {d:List Int}{i:Nat}(h:i<d.length):(d.map (Value.int .i64))[0+i * 1]? =some (.int .i64 (d[i]?.getD 0)):=by
 simp [List.getElem?_eq_getElem h]
theorem vi (d:List Int)(i:Nat)(x:Int):(d.map (Value.int .i64)).set (0+i * 1) (.int .i64 x)=(d.set i x).map (Value.int .i64):=by
 simp [List.map_set]
theorem FH (n:Nat):iE n [Value.int .i64 0]=(List.replicate n 0).map (Value.int .i64):=by
 induction n with
 | zero=>rfl
 | succ n ih=>simp [iE,ih,List.replicate_succ]
theorem RdSl.ints {H:Hp}{b cap:Nat}{d:List Int}(h:∀o v,(d.map (Value.int .i64))[o]? =some v→H b o=some v)(hm:d.length≤9223372036854775807)(hcap:d.length≤cap:=by first | exact Nat.le_refl _ | omega | (simp;done) | (simp;omega)):RdSl H 1 I6 (.slice (some ⟨b,0,none⟩) d.length cap) d:=by
 refine⟨⟨_,_,rfl⟩,hm,fun _=>⟨_,rfl⟩,fun i x hx j u hu=>?_,fun a n c e=>by injection e with _ _ e;omega⟩
 cases j with
 | zero=>
  simp only [I6,List.getElem?_cons_zero,Option.some.injEq] at hu
  subst hu
  refine h _ _ ?_
  simp [off,hx]
 | succ j=>simp [I6] at hu
def TreeR (r:Option (List Int))(n:Nat)(v:Value)(H':Hp):Prop:=match r with
 | none=>v= .tuple #[.slice none 0 0,.bool false]
 | some d=>∃sv,v= .tuple #[sv,.bool true]∧RdSl H' 1 I6 sv d∧d.length=n
theorem A3 {r:Option (List Int)}{n:Nat}{v:Value}{H':Hp}(h:TreeR r n v H'):(r=none∧v= .tuple #[.slice none 0 0,.bool false])∨∃d sv,r=some d∧v= .tuple #[sv,.bool true]∧RdSl H' 1 I6 sv d∧d.length=n:=by
 cases r with
 | none=>exact .inl ⟨rfl,h⟩
 | some d=>obtain⟨sv,h1,h2,h3⟩:=h;exact .inr ⟨d,sv,rfl,h1,h2,h3⟩
theorem sm {l:List Term}{root:Int}(h:(160:Int)<l.length∨root<0∨(l.length:Int)≤root):eq l root=none:=by unfold eq;rw [if_pos h]
theorem Ev {l:List Term}{root:Int}(h:(l.length:Int)≤160∧0≤root∧root<l.length):eq l root=cE l (root+1).toNat ((List.replicate l.length 0).set root.toNat 1):=by unfold eq;rw [if_neg om]
theorem nw {l:List Term}{i:Int}{d:List Int}(h0:0≤i):cE l (i+1).toNat d=match cW l i d with | none=>none | some d'=>cE l i.toNat d':=by
 rw [nN h0]
 simp only [cE,Int.toNat_of_nonneg h0]
theorem pW {l:List Term}{i:Int}{d:List Int}{r:Option (List Int)}(h0:0≤i)(h:r=cE l (i+1).toNat d)(hs:cW l i d=none):r=none:=by rw [h,nw h0,hs]
theorem iS {l:List Term}{i:Int}{d d':List Int}{r:Option (List Int)}(h0:0≤i)(h:r=cE l (i+1).toNat d)(hs:cW l i d=some d'):r=cE l (i - 1+1).toNat d':=by rw [h,nw h0,hs,show i - 1+1=i by omega]
theorem nM {l:List Term}{i:Int}{d:List Int}(h:d[i.toNat]?.getD 0=0):cW l i d=some d:=by unfold cW;rw [if_pos h]
theorem tX {l:List Term}{i:Int}{d:List Int}{t:Term}(hx:l[i.toNat]? =some t)(h:¬d[i.toNat]?.getD 0=0)(ha:f9 t=false∨24<d[i.toNat]?.getD 0):cW l i d=none:=by unfold cW;rw [if_neg h];simp only [hx];rw [if_pos ha]
theorem f3 {l:List Term}{i:Int}{d:List Int}{t:Term}(hx:l[i.toNat]? =some t)(h:¬d[i.toNat]?.getD 0=0)(ha:f9 t=true)(h24:¬24<d[i.toNat]?.getD 0):cW l i d=fF d i t:=by
 unfold cW;rw [if_neg h];simp only [hx];rw [if_neg (by simp [ha];omega)]
theorem pX {d:List Int}{i:Int}{t:Term}(h:al t.kind≤0):fF d i t=some d:=by unfold fF;rw [if_pos h]
theorem xG {d:List Int}{i:Int}{t:Term}(h:¬al t.kind≤0)(h1:dQ d i t.l=none):fF d i t=none:=by unfold fF;rw [if_neg h,h1]
theorem xH {d d1:List Int}{i:Int}{t:Term}(h:¬al t.kind≤0)(h1:dQ d i t.l=some d1)(h2:al t.kind≤1):fF d i t=some d1:=by unfold fF;rw [if_neg h,h1];simp only;rw [if_pos h2]
theorem mt {d d1:List Int}{i:Int}{t:Term}{r:Option (List Int)}(h:¬al t.kind≤0)(h1:dQ d i t.l=some d1)(h2:¬al t.kind≤1)(h3:dQ d1 i t.r=r):fF d i t=r:=by unfold fF;rw [if_neg h,h1];simp only;rw [if_neg h2,h3]
theorem oU {d:List Int}{i at_:Int}(h:at_<0∨i≤at_∨0<d[at_.toNat]?.getD 0):dQ d i at_=none:=by unfold dQ;rw [if_pos h]
theorem oT {d:List Int}{i at_:Int}(h1:¬at_<0)(h2:¬i≤at_)(h3:¬0<d[at_.toNat]?.getD 0):dQ d i at_=some (d.set at_.toNat (d[i.toNat]?.getD 0+1)):=by unfold dQ;rw [if_neg om]
theorem za (k:Int):al k≤2:=by unfold al;(repeat' split)<;>omega
theorem jD {d:List Int}{i j:Nat}{x:Int}(h:j≠i):(d.set j x)[i]?.getD 0=d[i]?.getD 0:=by simp [h]
def Nn (d:List Int):Prop:=∀i:Nat,0≤d[i]?.getD 0
theorem mo {d:List Int}{j:Nat}{x:Int}(h:Nn d)(hx:0≤x):Nn (d.set j x):=by
 intro i
 rw [List.getElem?_set]
 split
 ·split
  ·simpa using hx
  ·simp
 ·exact h i
theorem pQ (n r:Nat):Nn ((List.replicate n 0).set r 1):=mo (fun i=>by rw [List.getElem?_replicate];split<;>simp) om
theorem HU {l:List Term}{i:Int}{d:List Int}{r:Option (List Int)}(h:r=cE l (i+1).toNat d)(h0:¬0≤i):r=some d:=by
 rw [h,show(i+1).toNat=0 by omega];rfl
end Go.Sx
namespace Go.Sx
open Go
theorem mayW_Tr {l:List Term}:∀(f:Nat) (at_ deep:Int) (met:List Bool),0≤at_→(db l f at_ deep met).1=true→Tr l f at_:=by
 intro f
 induction f with
 | zero=>intro at_ deep met _ h;simp [db] at h
 | succ f ih=>
  intro at_ deep met h0 h
  cases hx:l[at_.toNat]? with
  | none=>simp [db,hx] at h
  | some t=>
   by_cases hg:met[at_.toNat]?.getD false=true∨24<deep∨al t.kind<0∨cG t=false
   ·rw [uS hx hg] at h;cases h
   ·have hgg:CD deep met at_ t:=by
     refine⟨?_,?_,?_,?_⟩
     ·cases hb:met[at_.toNat]?.getD false with
      | false=>rfl
      | true=>exact absurd (.inl hb) hg
     ·intro h1;exact hg (.inr (.inl h1))
     ·intro h1;exact hg (.inr (.inr (.inl h1)))
     ·cases hb:cG t with
      | true=>rfl
      | false=>exact absurd (.inr (.inr (.inr hb))) hg
    generalize h00:opW (al t.kind) at_ (fun to m=>db l f to (deep+1) m) 0 t.l (met.set at_.toNat true)=r0
    obtain⟨b0,m0⟩:=r0
    cases b0 with
    | false=>rw [uT hx hgg h00] at h;cases h
    | true=>
     generalize h11:opW (al t.kind) at_ (fun to m=>db l f to (deep+1) m) 1 t.r m0=r1
     rw [lY hx hgg h00 h11] at h
     have key:∀(i to:Int) (m m':List Bool),opW (al t.kind) at_ (fun to m=>db l f to (deep+1) m) i to m=(true,m')→(i<al t.kind→Tr l f to)∧(al t.kind≤i→to= -1):=by
      intro i to m m' he
      refine⟨fun hi=>?_,fun hi=>?_⟩
      ·by_cases hb:to<0∨at_≤to
       ·rw [sG om hb] at he;cases he
       ·rw [sF om om om] at he
        exact ih to (deep+1) m om (by rw [he])
      ·rw [zf hi] at he
       simpa using congrArg Prod.fst he
     have k0:=key 0 t.l _ _ h00
     have k1:=key 1 t.r _ r1.2 (by rw [h11];cases r1;simp at h;simp [h])
     exact⟨h0,t,hx,by have:=hgg.2.2.1;omega,hgg.2.2.2,fun h=>k0.1 om,fun h=>k0.2 om,fun h=>k1.1 om,fun h=>k1.2 om⟩
theorem mJ {l:List Term}{root:Int}(h:cN l root=true):Tr l (root.toNat+1) root:=by
 unfold cN at h
 split at h
 ·cases h
 ·split at h
  ·cases h
  ·split at h
   ·cases h
   ·exact mayW_Tr _ _ _ _ om h
end Go.Sx
namespace Go.Sx
open Go
section
variable {l:List Term}{env:List Typing}{f:Nat}{at_:Int}{t:Term}(hx:l[at_.toNat]? =some t)
include hx
end
def okT (t:Term)(at_ deep:Int):Bool:=
 (decide (0≤al t.kind)&&cG t)&&((decide (deep≤24))&&
 ((if al t.kind<1 then decide (t.l= -1) else decide (0≤t.l)&&decide (t.l<at_))&&(if al t.kind<2 then decide (t.r= -1) else decide (0≤t.r)&&decide (t.r<at_))))
def cA (l:List Term):Nat→Nat→Int→Option (List Nat)
 | 0,_,_=>none
 | f+1,at_,deep=>match l[at_]? with
  | none=>none
  | some t=>if okT t at_ deep=false then none else
   match(if al t.kind<1 then some [] else cA l f t.l.toNat (deep+1)) with
   | none=>none
   | some p=>match(if al t.kind<2 then some [] else cA l f t.r.toNat (deep+1)) with
    | none=>none
    | some q=>some (at_::(p++q))
theorem rT {t:Term}{at_ deep:Int}(h:okT t at_ deep=true)(hk:¬al t.kind<1):0≤t.l∧t.l<at_:=by
 unfold okT at h
 simp only [Bool.and_eq_true] at h
 have:=h.2.2.1
 rw [if_neg hk] at this
 simpa using this
theorem rS {t:Term}{at_ deep:Int}(h:okT t at_ deep=true)(hk:¬al t.kind<2):0≤t.r∧t.r<at_:=by
 unfold okT at h
 simp only [Bool.and_eq_true] at h
 have:=h.2.2.2
 rw [if_neg hk] at this
 simpa using this
theorem dh {l:List Term}{f at_:Nat}{deep:Int}{p:List Nat}(h:cA l (f+1) at_ deep=some p):∃t p0 q0,l[at_]? =some t∧okT t at_ deep=true∧
  (if al t.kind<1 then some [] else cA l f t.l.toNat (deep+1))=some p0∧(if al t.kind<2 then some [] else cA l f t.r.toNat (deep+1))=some q0∧p=at_::(p0++q0):=by
 simp only [cA] at h
 cases hx:l[at_]? with
 | none=>rw [hx] at h;cases h
 | some t=>
  rw [hx] at h
  simp only at h
  cases hok:okT t at_ deep with
  | false=>rw [hok] at h;simp at h
  | true=>
   rw [hok] at h
   simp only [Bool.true_eq_false,if_false] at h
   cases h0:(if al t.kind<1 then some [] else cA l f t.l.toNat (deep+1)) with
   | none=>rw [h0] at h;cases h
   | some p0=>
    rw [h0] at h
    simp only at h
    cases h1:(if al t.kind<2 then some [] else cA l f t.r.toNat (deep+1)) with
    | none=>rw [h1] at h;cases h
    | some q0=>
     rw [h1] at h
     simp only [Option.some.injEq] at h
     exact⟨t,p0,q0,rfl,hok,h0,h1,h.symm⟩
theorem sB {l:List Term}{f at_:Nat}{deep:Int}{t:Term}{p0 q0:List Nat}(hx:l[at_]? =some t)(hok:okT t at_ deep=true)
  (h0:(if al t.kind<1 then some [] else cA l f t.l.toNat (deep+1))=some p0) (h1:(if al t.kind<2 then some [] else cA l f t.r.toNat (deep+1))=some q0):cA l (f+1) at_ deep=some (at_::(p0++q0)):=by
 simp only [cA,hx,hok,h0,h1]
 simp
theorem sC {l:List Term}:∀(f at_:Nat) (deep:Int) (p:List Nat),cA l f at_ deep=some p→∀x∈p,x≤at_:=by
 intro f
 induction f with
 | zero=>intro at_ deep p h;simp [cA] at h
 | succ f ih=>
  intro at_ deep p h
  obtain⟨t,p0,q0,hx,hok,h0,h1,rfl⟩:=dh h
  intro x hx'
  rcases List.mem_cons.1 hx' with rfl | hx'
  ·exact Nat.le_refl _
  rcases List.mem_append.1 hx' with hx' | hx'
  ·split at h0
   ·simp only [Option.some.injEq] at h0;subst h0;cases hx'
   ·rename_i hk
    have:=rT hok hk
    have:=ih _ _ _ h0 x hx'
    omega
  ·split at h1
   ·simp only [Option.some.injEq] at h1;subst h1;cases hx'
   ·rename_i hk
    have:=rS hok hk
    have:=ih _ _ _ h1 x hx'
    omega
theorem hY {l:List Term}{f at_:Nat}{deep:Int}{p:List Nat}(h:cA l f at_ deep=some p):at_∈p:=by
 cases f with
 | zero=>simp [cA] at h
 | succ f=>obtain⟨t,p0,q0,hx,hok,h0,h1,rfl⟩:=dh h;simp
theorem xX {l:List Term}:∀(f g at_:Nat) (deep:Int),at_<f→at_<g→cA l f at_ deep=cA l g at_ deep:=by
 intro f
 induction f with
 | zero=>intro g at_ deep h;omega
 | succ f ih=>
  intro g at_ deep hf hg
  cases g with
  | zero=>omega
  | succ g=>
   simp only [cA]
   cases hx:l[at_]? with
   | none=>rfl
   | some t=>
    simp only
    cases hok:okT t at_ deep with
    | false=>simp
    | true=>
     simp only [Bool.true_eq_false,if_false]
     have e0:(if al t.kind<1 then some [] else cA l f t.l.toNat (deep+1))=(if al t.kind<1 then some [] else cA l g t.l.toNat (deep+1)):=by
      split
      ·rfl
      ·rename_i hk;have:=rT hok hk;exact ih g _ _ om om
     have e1:(if al t.kind<2 then some [] else cA l f t.r.toNat (deep+1))=(if al t.kind<2 then some [] else cA l g t.r.toNat (deep+1)):=by
      split
      ·rfl
      ·rename_i hk;have:=rS hok hk;exact ih g _ _ om om
     rw [e0,e1]
def vK (met:List Bool)(p:List Nat):Prop:=∀x∈p,met[x]?.getD false=false
theorem ji {met:List Bool}{i y:Nat}(h:i<met.length):(met.set i true)[y]?.getD false=(met[y]?.getD false||decide (y=i)):=by
 by_cases hy:y=i
 ·subst hy;simp [h]
 ·simp [hy,List.getElem?_set,Ne.symm hy]
theorem IP {t:Term}{at_ deep:Int}(h1:0≤al t.kind)(h2:cG t=true)(h3:deep≤24)(h4:al t.kind<1→t.l= -1)(h5:¬al t.kind<1→0≤t.l∧t.l<at_)
  (h6:al t.kind<2→t.r= -1) (h7:¬al t.kind<2→0≤t.r∧t.r<at_):okT t at_ deep=true:=by
 unfold okT
 simp only [Bool.and_eq_true,decide_eq_true_eq]
 refine⟨⟨h1,h2⟩,h3,?_,?_⟩
 ·split
  ·rename_i h;simpa using h4 h
  ·rename_i h;simpa using h5 h
 ·split
  ·rename_i h;simpa using h6 h
  ·rename_i h;simpa using h7 h
theorem IY {l : List Term} : ∀ (f : Nat) (at_ deep : Int) (met : List Bool), 0 ≤ at_ → at_ < l.length → at_.toNat < f → met.length = l.length →
  ((∃ p, cA l f at_.toNat deep = some p ∧ p.Nodup ∧ vK met p) → (db l f at_ deep met).1 = true) ∧
  ((db l f at_ deep met).1 = true → ∃ p, cA l f at_.toNat deep = some p ∧ p.Nodup ∧ vK met p ∧ (∀ y, (db l f at_ deep met).2[y]?.getD false = (met[y]?.getD false || decide (y ∈ p))) ∧ (db l f at_ deep met).2.length = l.length) := by
 intro f
 induction f with
 | zero => intro at_ deep met h0 h1 h2; omega
 | succ f ih =>
  intro at_ deep met h0 h1 hf hlen
  obtain ⟨t, hx⟩ := aj h0 h1
  have hlt : at_.toNat < met.length := by omega
  have hcast : ((at_.toNat : Nat) : Int) = at_ := Int.toNat_of_nonneg h0
  by_cases hg : CD deep met at_ t
  ·obtain ⟨g1, g2, g3, g4⟩ := hg
   have hgg : CD deep met at_ t := ⟨g1, g2, g3, g4⟩
   -- one operand
   have op : ∀ (i to : Int) (m : List Bool), m.length = l.length → i < 2 → 0 ≤ i → (0 ≤ to → to < at_ → al t.kind > i →
     ((∃ p, cA l f to.toNat (deep + 1) = some p ∧ p.Nodup ∧ vK m p) → (db l f to (deep + 1) m).1 = true) ∧
     ((db l f to (deep + 1) m).1 = true → ∃ p, cA l f to.toNat (deep + 1) = some p ∧ p.Nodup ∧ vK m p ∧ (∀ y, (db l f to (deep + 1) m).2[y]?.getD false = (m[y]?.getD false || decide (y ∈ p))) ∧ (db l f to (deep + 1) m).2.length = l.length)) :=
    fun i to m hm _ _ ht0 ht1 _ => ih to (deep + 1) m ht0 om om hm
   have side : ∀ (i to : Int) (m : List Bool), m.length = l.length → 0 ≤ i → i < 2 →
     (((al t.kind < i + 1 → to = -1) ∧ (¬ al t.kind < i + 1 → 0 ≤ to ∧ to < at_) ∧ ∃ p, (if al t.kind < i + 1 then some [] else cA l f to.toNat (deep + 1)) = some p ∧ p.Nodup ∧ vK m p) → (opW (al t.kind) at_ (fun to m => db l f to (deep + 1) m) i to m).1 = true) ∧
     ((opW (al t.kind) at_ (fun to m => db l f to (deep + 1) m) i to m).1 = true → (al t.kind < i + 1 → to = -1) ∧ (¬ al t.kind < i + 1 → 0 ≤ to ∧ to < at_) ∧
      ∃ p, (if al t.kind < i + 1 then some [] else cA l f to.toNat (deep + 1)) = some p ∧ p.Nodup ∧ vK m p ∧ (∀ y, (opW (al t.kind) at_ (fun to m => db l f to (deep + 1) m) i to m).2[y]?.getD false = (m[y]?.getD false || decide (y ∈ p))) ∧ (opW (al t.kind) at_ (fun to m => db l f to (deep + 1) m) i to m).2.length = l.length) := by
    intro i to m hm hi0 hi2
    by_cases hk : al t.kind ≤ i
    ·rw [zf hk]
     have hk' : al t.kind < i + 1 := by omega
     refine ⟨fun h => by simpa using h.1 hk', fun h => ⟨fun _ => by simpa using h, fun hn => absurd hk' hn, [], by rw [if_pos hk'], List.nodup_nil, by simp [vK], by simp, hm⟩⟩
    ·have hk' : ¬ al t.kind < i + 1 := by omega
     by_cases hb : to < 0 ∨ at_ ≤ to
     ·rw [sG hk hb]
      refine ⟨fun h => ?_, fun h => by cases h⟩
      have := h.2.1 hk'
      omega
     ·rw [sF hk om om]
      have hh := op i to m hm hi2 hi0 om om om
      refine ⟨fun h => ?_, fun h => ?_⟩
      ·obtain ⟨_, _, p, h1, h2, h3⟩ := h
       rw [if_neg hk'] at h1
       exact hh.1 ⟨p, h1, h2, h3⟩
      ·obtain ⟨p, h1, h2, h3, h4, h5⟩ := hh.2 h
       exact ⟨fun hn => absurd hn hk', fun _ => by omega, p, by rw [if_neg hk']; exact h1, h2, h3, h4, h5⟩
   have hm1 : (met.set at_.toNat true).length = l.length := by simp [hlen]
   have s0 := side 0 t.l (met.set at_.toNat true) hm1 om om
   generalize h00 : opW (al t.kind) at_ (fun to m => db l f to (deep + 1) m) 0 t.l (met.set at_.toNat true) = r0 at s0
   obtain ⟨b0, m0⟩ := r0
   simp only [Int.zero_add] at s0
   constructor
   ·rintro ⟨p, hp, hnd, hcl⟩
    obtain ⟨t', p0, q0, hx', hok, e0, e1, rfl⟩ := dh hp
    obtain rfl : t = t' := by rw [hx] at hx'; exact Option.some.inj hx'
    rw [hcast] at hok
    simp only [List.nodup_cons, List.nodup_append, List.mem_append, not_or] at hnd
    obtain ⟨⟨n1, n2⟩, n3, n4, n5⟩ := hnd
    have ok' := hok
    unfold okT at ok'
    simp only [Bool.and_eq_true, decide_eq_true_eq] at ok'
    have hb0 : b0 = true := by
     refine s0.1 ⟨fun hk => ?_, fun hk => rT hok hk, p0, e0, n3, fun x hxp => ?_⟩
     ·have := ok'.2.2.1; rw [if_pos hk] at this; simpa using this
     ·rw [ji hlt]
      have hne : x ≠ at_.toNat := fun e => n1 (e ▸ hxp)
      simp [hne, hcl x (by simp [hxp])]
    subst hb0
    obtain ⟨_, _, p0', e0', _, _, hm0, hl0⟩ := s0.2 rfl
    obtain rfl : p0 = p0' := by rw [e0] at e0'; exact Option.some.inj e0'
    have s1 := side 1 t.r m0 hl0 om om
    simp only [show (1 : Int) + 1 = 2 from rfl] at s1
    rw [lY hx hgg h00 rfl]
    refine s1.1 ⟨fun hk => ?_, fun hk => rS hok hk, q0, e1, n4, fun x hxq => ?_⟩
    ·have := ok'.2.2.2; rw [if_pos hk] at this; simpa using this
    ·rw [hm0, ji hlt]
     have hne : x ≠ at_.toNat := fun e => n2 (e ▸ hxq)
     have hnp : x ∉ p0 := fun hxp => n5 x hxp x hxq rfl
     simp [hne, hnp, hcl x (by simp [hxq])]
   ·intro hb
    cases b0 with
    | false => rw [uT hx hgg h00] at hb; cases hb
    | true =>
     obtain ⟨a1, a2, p0, e0, n3, c0, hm0, hl0⟩ := s0.2 rfl
     have s1 := side 1 t.r m0 hl0 om om
     simp only [show (1 : Int) + 1 = 2 from rfl] at s1
     rw [lY hx hgg h00 rfl] at hb ⊢
     obtain ⟨a3, a4, q0, e1, n4, c1, hm2, hl2⟩ := s1.2 hb
     have hok : okT t at_.toNat deep = true := by
      rw [hcast]; exact IP om g4 om a1 a2 a3 a4
     have hat0 : at_.toNat ∉ p0 := fun hh => by
      have := c0 _ hh; rw [ji hlt] at this; simp at this
     have hat1 : at_.toNat ∉ q0 := fun hh => by
      have := c1 _ hh; rw [hm0, ji hlt] at this; simp at this
     refine ⟨at_.toNat :: (p0 ++ q0), sB hx hok e0 e1, ?_, ?_, ?_, hl2⟩
     ·simp only [List.nodup_cons, List.nodup_append, List.mem_append, not_or]
      refine ⟨⟨hat0, hat1⟩, n3, n4, fun x hxp y hyq e => ?_⟩
      subst e
      have := c1 x hyq
      rw [hm0] at this
      simp [hxp] at this
     ·intro x hxp
      rcases List.mem_cons.1 hxp with rfl | hxp
      ·exact g1
      rcases List.mem_append.1 hxp with hxp | hxp
      ·have := c0 x hxp; rw [ji hlt] at this; simp at this; exact this.1
      ·have := c1 x hxp; rw [hm0, ji hlt] at this; simp at this; exact this.1.1
     ·intro y
      rw [hm2, hm0, ji hlt]
      simp only [List.mem_cons, List.mem_append, Bool.or_assoc]
      congr 1
      rw [Bool.eq_iff_iff]
      simp
  ·have hbad : met[at_.toNat]?.getD false = true ∨ 24 < deep ∨ al t.kind < 0 ∨ cG t = false := by
    by_cases a1 : met[at_.toNat]?.getD false = true
    ·exact .inl a1
    by_cases a2 : 24 < deep
    ·exact .inr (.inl a2)
    by_cases a3 : al t.kind < 0
    ·exact .inr (.inr (.inl a3))
    by_cases a4 : cG t = false
    ·exact .inr (.inr (.inr a4))
    exact absurd ⟨by simpa using a1, a2, a3, by simpa using a4⟩ hg
   rw [uS hx hbad]
   refine ⟨fun h => ?_, fun h => by cases h⟩
   obtain ⟨p, hp, hnd, hcl⟩ := h
   obtain ⟨t', p0, q0, hx', hok, e0, e1, rfl⟩ := dh hp
   obtain rfl : t = t' := by rw [hx] at hx'; exact Option.some.inj hx'
   unfold okT at hok
   simp only [Bool.and_eq_true, decide_eq_true_eq] at hok
   have hself := hcl at_.toNat sq
   rcases hbad with h | h | h | h
   ·rw [hself] at h; cases h
   ·omega
   ·omega
   ·rw [hok.1.2] at h; cases h
theorem EP {l:List Term}{root:Int}(hr:0≤root∧root<l.length):(db l (root.toNat+1) root 1 (List.replicate l.length false)).1=true↔∃p,cA l (root.toNat+1) root.toNat 1=some p∧p.Nodup:=by
 have h:=IY (l:=l) (root.toNat+1) root 1 (List.replicate l.length false) hr.1 hr.2 om sq
 constructor
 ·intro hb
  obtain⟨p,h1,h2,_⟩:=h.2 hb
  exact⟨p,h1,h2⟩
 ·rintro⟨p,h1,h2⟩
  exact h.1 ⟨p,h1,h2,fun x _=>by rw [List.getElem?_replicate];split<;>rfl⟩
def cc (l:List Term)(a:Nat)(v:Int)(y:Nat):Nat:=match cA l (a+1) a v with
 | some p=>p.count y
 | none=>0
def cnt (l:List Term):Nat→List Int→Nat→Nat
 | 0,_,_=>0
 | n+1,d,y=>cnt l n d y+(if d[n]?.getD 0=0 then 0 else cc l n (d[n]?.getD 0) y)
def gd (l:List Term):Nat→List Int→Prop
 | 0,_=>True
 | n+1,d=>gd l n d∧(d[n]?.getD 0=0∨(cA l (n+1) n (d[n]?.getD 0)).isSome=true)
def yE (l:List Term)(n:Nat)(d:List Int):Prop:=gd l n d∧∀y,cnt l n d y≤1
theorem Jk {l:List Term}:∀(n:Nat) (d:List Int) (y:Nat),n≤y→cnt l n d y=0
 | 0,_,_,_=>rfl
 | n+1,d,y,h=>by
  simp only [cnt,Jk n d y om,Nat.zero_add]
  split
  ·rfl
  ·unfold cc
   split
   ·rename_i p hp
    refine List.count_eq_zero.2 (fun hm=>?_)
    have:=sC _ _ _ _ hp y hm
    omega
   ·rfl
theorem vy {l:List Term}{a:Nat}{v:Int}{y:Nat}:∀(n:Nat) (d:List Int),n≤a→cnt l n (d.set a v) y=cnt l n d y
 | 0,_,_=>rfl
 | n+1,d,h=>by
  simp only [cnt,vy (a:=a) (v:=v) n d om,jD (show a≠n by omega)]
theorem yn {l:List Term}{a:Nat}{v:Int}:∀(n:Nat) (d:List Int),n≤a→(gd l n (d.set a v)↔gd l n d)
 | 0,_,_=>Iff.rfl
 | n+1,d,h=>by
  simp only [gd,yn (a:=a) (v:=v) n d om,jD (show a≠n by omega)]
theorem yN {d:List Int}{a:Nat}{v:Int}(h:a<d.length):(d.set a v)[a]?.getD 0=v:=by simp [h]
theorem pG {l:List Term}{a:Nat}{v:Int}{y:Nat}:∀(n:Nat) (d:List Int),a<n→a<d.length→d[a]?.getD 0=0→0<v→cnt l n (d.set a v) y=cnt l n d y+cc l a v y
 | 0,_,h,_,_,_=>by omega
 | n+1,d,h,hl,h0,hv=>by
  by_cases ha:a=n
  ·subst ha
   simp only [cnt,vy a d (Nat.le_refl _),yN hl,h0,if_true]
   rw [if_neg om]
   omega
  ·simp only [cnt,pG n d om hl h0 hv,jD ha]
   omega
theorem zu {l:List Term}{a:Nat}{v:Int}:∀(n:Nat) (d:List Int),a<n→a<d.length→d[a]?.getD 0=0→0<v→(gd l n (d.set a v)↔gd l n d∧(cA l (a+1) a v).isSome=true)
 | 0,_,h,_,_,_=>by omega
 | n+1,d,h,hl,h0,hv=>by
  by_cases ha:a=n
  ·subst ha
   simp only [gd,yn a d (Nat.le_refl _),yN hl,h0,true_or,and_true]
   constructor
   ·rintro⟨h1,h2⟩
    refine⟨h1,h2.resolve_left om⟩
   ·rintro⟨h1,h2⟩;exact⟨h1,.inr h2⟩
  ·simp only [gd,zu n d om hl h0 hv,jD ha]
   constructor
   ·rintro⟨⟨h1,h2⟩,h3⟩;exact⟨⟨h1,h3⟩,h2⟩
   ·rintro⟨⟨h1,h3⟩,h2⟩;exact⟨⟨h1,h2⟩,h3⟩
theorem zx {l:List Term}{a:Nat}:∀(n:Nat) (d:List Int),a<n→¬d[a]?.getD 0=0→gd l n d→1≤cnt l n d a
 | 0,_,h,_,_=>by omega
 | n+1,d,h,h0,hg=>by
  simp only [cnt]
  by_cases ha:a=n
  ·subst ha
   rw [if_neg h0]
   have:=hg.2.resolve_left h0
   obtain⟨p,hp⟩:=Option.isSome_iff_exists.1 this
   unfold cc
   rw [hp]
   have:=List.count_pos_iff.2 (hY hp)
   simp only
   omega
  ·have:=zx n d om h0 hg.1
   omega
theorem DF {t:Term}:f9 t=true↔0≤al t.kind∧cG t=true∧(al t.kind<1→t.l= -1)∧(al t.kind<2→t.r= -1):=by
 have hform:fJ t=false↔0≤al t.kind∧(al t.kind<2→t.r= -1)∧(al t.kind<1→t.l= -1):=by
  unfold fJ
  simp only [Bool.or_eq_false_iff,Bool.and_eq_false_iff,decide_eq_false_iff_not,Bool.not_eq_false',decide_eq_true_eq]
  constructor
  ·rintro⟨h1,h2,h3⟩
   exact⟨by omega,fun h=>h2.resolve_left om,fun h=>h3.resolve_left om⟩
  ·rintro⟨h1,h2,h3⟩
   refine⟨by omega,?_,?_⟩
   ·by_cases h:al t.kind<2
    ·exact .inr (h2 h)
    ·exact .inl h
   ·by_cases h:al t.kind<1
    ·exact .inr (h3 h)
    ·exact .inl h
 have hf:(gE t&&(m8 t&&jQ t))=cG t:=by
  unfold gE m8 jQ cG
  by_cases k0:t.kind=0
  ·simp [k0]
  by_cases k1:t.kind=1
  ·simp [k1]
  by_cases k2:t.kind=2
  ·simp only [k2]
   simp
   by_cases a:t.name=[]<;>by_cases b:t.text=[]<;>by_cases c:t.n=0<;>by_cases e:t.n=1<;>simp [a,b,c,e]
  by_cases k3:t.kind=3
  ·simp only [k3]
   simp
   by_cases a:t.name=[]<;>by_cases b:t.text=[]<;>by_cases c:t.n=0<;>simp [a,b,c]
  ·simp [k0,k1,k2,k3]
 unfold f9
 rw [Bool.and_eq_true,hf,Bool.not_eq_true',hform]
 constructor
 ·rintro⟨⟨h1,h2,h3⟩,h4⟩;exact⟨h1,h4,h3,h2⟩
 ·rintro⟨h1,h2,h3,h4⟩;exact⟨⟨h1,h4,h3⟩,h2⟩
theorem sH {t:Term}{at_ deep:Int}:okT t at_ deep=true↔f9 t=true∧deep≤24∧(¬al t.kind<1→0≤t.l∧t.l<at_)∧(¬al t.kind<2→0≤t.r∧t.r<at_):=by
 rw [DF]
 constructor
 ·intro h
  have ok':=h
  unfold okT at ok'
  simp only [Bool.and_eq_true,decide_eq_true_eq] at ok'
  refine⟨⟨ok'.1.1,ok'.1.2,fun hk=>?_,fun hk=>?_⟩,ok'.2.1,rT h,rS h⟩
  ·have:=ok'.2.2.1;rw [if_pos hk] at this;simpa using this
  ·have:=ok'.2.2.2;rw [if_pos hk] at this;simpa using this
 ·rintro⟨⟨h1,h2,h3,h4⟩,h5,h6,h7⟩
  exact IP h1 h2 h5 h3 h6 h4 h7
theorem yW {l:List Term}{n:Nat}{v:Int}{t:Term}(hx:l[n]? =some t)(h:¬okT t n v=true):(cA l (n+1) n v).isSome=false:=by
 cases hp:cA l (n+1) n v with
 | none=>rfl
 | some p=>
  obtain⟨t',p0,q0,hx',hok,_⟩:=dh hp
  obtain rfl:t=t':=by rw [hx] at hx';exact Option.some.inj hx'
  exact absurd hok h
theorem scan {l:List Term}:∀(n:Nat) (d:List Int),n≤l.length→d.length=l.length→Nn d→((cE l n d).isSome=true↔yE l n d):=by
 intro n
 induction n with
 | zero=>intro d _ _ _;exact⟨fun _=>⟨trivial,fun y=>by simp [cnt]⟩,fun _=>rfl⟩
 | succ n ih=>
  intro d hn hd hnn
  have hN:=hnn n
  simp only [cE]
  by_cases h0:d[n]?.getD 0=0
  ·rw [nM (by simpa using h0)]
   simp only
   rw [ih d om hd hnn]
   unfold yE
   simp only [gd,cnt,h0,if_true,true_or,and_true,Nat.add_zero]
  ·obtain⟨t,hx⟩:∃t,l[n]? =some t:=⟨l[n]'om,List.getElem?_eq_getElem om⟩
   have hpos:0<d[n]?.getD 0:=by omega
   have gdN:gd l (n+1) d→(cA l (n+1) n (d[n]?.getD 0)).isSome=true:=fun h=>h.2.resolve_left h0
   by_cases hbad:f9 t=false∨24<d[n]?.getD 0
   ·rw [tX (t:=t) (by simpa using hx) (by simpa using h0) (by simpa using hbad)]
    refine⟨fun h=>(by cases h),fun h=>?_⟩
    have h1:=gdN h.1
    rw [yW hx (fun hok=>?_)] at h1
    ·cases h1
    ·rw [sH] at hok
     rcases hbad with hb | hb
     ·rw [hok.1] at hb;cases hb
     ·omega
   ·have hal:f9 t=true:=by
     cases hb:f9 t with
     | true=>rfl
     | false=>exact absurd (.inl hb) hbad
    have h24:¬24<d[n]?.getD 0:=fun h=>hbad (.inr h)
    rw [f3 (t:=t) (by simpa using hx) (by simpa using h0) hal (by simpa using h24)]
    have hself0:cnt l n d n=0:=Jk n d n (Nat.le_refl _)
    by_cases k1:al t.kind<1
    ·rw [pX om]
     simp only
     rw [ih d om hd hnn]
     have hok:okT t n (d[n]?.getD 0)=true:=sH.2 ⟨hal,by omega,fun h=>absurd k1 h,fun h=>absurd om h⟩
     have hp:cA l (n+1) n (d[n]?.getD 0)=some (n::([]++[])):=sB hx hok (by rw [if_pos k1]) (by rw [if_pos om])
     have hc:∀y,cnt l (n+1) d y=cnt l n d y+[n].count y:=fun y=>by
      simp only [cnt,if_neg h0];unfold cc;rw [hp];simp
     unfold yE
     constructor
     ·rintro⟨a,b⟩
      refine⟨⟨a,.inr (by rw [hp];rfl)⟩,fun y=>?_⟩
      rw [hc]
      by_cases hy:y=n
      ·subst hy;rw [hself0];simp
      ·have:[n].count y=0:=List.count_eq_zero.2 (by simpa using hy)
       have:=b y;omega
     ·rintro⟨a,b⟩
      exact⟨a.1,fun y=>by have:=b y;rw [hc] at this;omega⟩
    ·have k1':¬al t.kind≤0:=by omega
     by_cases hb1:t.l<0∨(n:Int)≤t.l∨0<d[t.l.toNat]?.getD 0
     ·rw [xG k1' (oU hb1)]
      refine⟨fun h=>(by cases h),fun h=>?_⟩
      have h1:=gdN h.1
      obtain⟨p,hp⟩:=Option.isSome_iff_exists.1 h1
      obtain⟨t',p0,q0,hx',hok,e0,e1,rfl⟩:=dh hp
      obtain rfl:t=t':=by rw [hx] at hx';exact Option.some.inj hx'
      have hl:=rT hok k1
      rw [if_neg k1] at e0
      have hpos':=hb1.resolve_left om |>.resolve_left om
      have c1:=zx (l:=l) n d (a:=t.l.toNat) om om h.1.1
      have c2:=h.2 t.l.toNat
      simp only [cnt,if_neg h0] at c2
      unfold cc at c2
      rw [hp] at c2
      have hm:1≤(n::(p0++q0)).count t.l.toNat:=List.count_pos_iff.2 (by simp [hY e0])
      simp only at c2
      omega
     ·have b1:¬t.l<0:=fun h=>hb1 (.inl h)
      have b2:¬(n:Int)≤t.l:=fun h=>hb1 (.inr (.inl h))
      have b3:¬0<d[t.l.toNat]?.getD 0:=fun h=>hb1 (.inr (.inr h))
      have b3':d[t.l.toNat]?.getD 0=0:=by have:=hnn t.l.toNat;omega
      have o1:=oT (d:=d) (i:=(n:Int)) b1 b2 b3
      simp only [Int.toNat_natCast] at o1
      have hln:t.l.toNat<n:=by omega
      have hl1:(d.set t.l.toNat (d[n]?.getD 0+1)).length=l.length:=by simp [hd]
      have hnn1:Nn (d.set t.l.toNat (d[n]?.getD 0+1)):=mo hnn om
      have cs1:∀y,cnt l n (d.set t.l.toNat (d[n]?.getD 0+1)) y=cnt l n d y+cc l t.l.toNat (d[n]?.getD 0+1) y:=fun y=>pG n d hln om b3' om
      have gs1:=zu (l:=l) (v:=d[n]?.getD 0+1) n d hln om b3' om
      have fu1:cA l n t.l.toNat (d[n]?.getD 0+1)=cA l (t.l.toNat+1) t.l.toNat (d[n]?.getD 0+1):=xX _ _ _ _ hln om
      by_cases k2:al t.kind<2
      ·rw [xH k1' o1 om]
       simp only
       rw [ih _ om hl1 hnn1]
       have hok:okT t n (d[n]?.getD 0)=true:=sH.2 ⟨hal,by omega,fun _=>by omega,fun h=>absurd k2 h⟩
       unfold yE
       rw [gs1]
       cases hp0:cA l (t.l.toNat+1) t.l.toNat (d[n]?.getD 0+1) with
       | none=>
        refine⟨fun h=>by simp at h,fun h=>?_⟩
        have h1:=gdN h.1
        obtain⟨p,hp⟩:=Option.isSome_iff_exists.1 h1
        obtain⟨t',p0,q0,hx',_,e0,e1,rfl⟩:=dh hp
        obtain rfl:t=t':=by rw [hx] at hx';exact Option.some.inj hx'
        rw [if_neg k1,fu1,hp0] at e0
        cases e0
       | some p0=>
        have hp:cA l (n+1) n (d[n]?.getD 0)=some (n::(p0++[])):=sB hx hok (by rw [if_neg k1,fu1,hp0]) (by rw [if_pos k2])
        have hc:∀y,cnt l (n+1) d y=cnt l n d y+(n::(p0++[])).count y:=fun y=>by
         simp only [cnt,if_neg h0];unfold cc;rw [hp]
        have hc0:∀y,cc l t.l.toNat (d[n]?.getD 0+1) y=p0.count y:=fun y=>by unfold cc;rw [hp0]
        have hn0:p0.count n=0:=List.count_eq_zero.2 (fun hm=>by have:=sC _ _ _ _ hp0 n hm;omega)
        constructor
        ·rintro⟨⟨a,_⟩,b⟩
         refine⟨⟨a,.inr (by rw [hp];rfl)⟩,fun y=>?_⟩
         have:=b y
         rw [cs1,hc0] at this
         rw [hc]
         by_cases hy:y=n
         ·subst hy;simp [hself0,hn0]
         ·simp only [List.append_nil,List.count_cons,beq_iff_eq,Ne.symm hy,if_false];omega
        ·rintro⟨a,b⟩
         refine⟨⟨a.1,rfl⟩,fun y=>?_⟩
         have:=b y
         rw [hc] at this
         simp only [List.append_nil,List.count_cons] at this
         rw [cs1,hc0]
         omega
      ·by_cases hb2:t.r<0∨(n:Int)≤t.r∨0<(d.set t.l.toNat (d[n]?.getD 0+1))[t.r.toNat]?.getD 0
       ·rw [mt k1' o1 om (oU hb2)]
        refine⟨fun h=>(by cases h),fun h=>?_⟩
        have h1:=gdN h.1
        obtain⟨p,hp⟩:=Option.isSome_iff_exists.1 h1
        obtain⟨t',p0,q0,hx',hok,e0,e1,rfl⟩:=dh hp
        obtain rfl:t=t':=by rw [hx] at hx';exact Option.some.inj hx'
        have hr:=rS hok k2
        rw [if_neg k1] at e0
        rw [if_neg k2] at e1
        have hpos':=hb2.resolve_left om |>.resolve_left om
        have c2:=h.2 t.r.toNat
        simp only [cnt,if_neg h0] at c2
        unfold cc at c2
        rw [hp] at c2
        simp only [List.count_cons,List.count_append] at c2
        have hm:1≤q0.count t.r.toNat:=List.count_pos_iff.2 (hY e1)
        by_cases he:t.l.toNat=t.r.toNat
        ·have hm':1≤p0.count t.r.toNat:=List.count_pos_iff.2 (he▸hY e0)
         omega
        ·rw [jD he] at hpos'
         have c1:=zx (l:=l) n d (a:=t.r.toNat) om om h.1.1
         omega
       ·have b4:¬t.r<0:=fun h=>hb2 (.inl h)
        have b5:¬(n:Int)≤t.r:=fun h=>hb2 (.inr (.inl h))
        have b6:¬0<(d.set t.l.toNat (d[n]?.getD 0+1))[t.r.toNat]?.getD 0:=fun h=>hb2 (.inr (.inr h))
        have b6':(d.set t.l.toNat (d[n]?.getD 0+1))[t.r.toNat]?.getD 0=0:=by have:=hnn1 t.r.toNat;omega
        have o2:=oT (d:=d.set t.l.toNat (d[n]?.getD 0+1)) (i:=(n:Int)) b4 b5 b6
        simp only [Int.toNat_natCast,jD (show t.l.toNat≠n by omega)] at o2
        have hrn:t.r.toNat<n:=by omega
        rw [mt k1' o1 om o2]
        simp only
        rw [ih _ om (by simp [hd]) (mo hnn1 om)]
        have cs2:∀y,cnt l n ((d.set t.l.toNat (d[n]?.getD 0+1)).set t.r.toNat (d[n]?.getD 0+1)) y=cnt l n d y+cc l t.l.toNat (d[n]?.getD 0+1) y+cc l t.r.toNat (d[n]?.getD 0+1) y:=fun y=>by
         rw [pG n _ hrn om b6' om,cs1]
        have gs2:=zu (l:=l) (v:=d[n]?.getD 0+1) n (d.set t.l.toNat (d[n]?.getD 0+1)) hrn om b6' om
        have fu2:cA l n t.r.toNat (d[n]?.getD 0+1)=cA l (t.r.toNat+1) t.r.toNat (d[n]?.getD 0+1):=xX _ _ _ _ hrn om
        have hok:okT t n (d[n]?.getD 0)=true:=sH.2 ⟨hal,by omega,fun _=>by omega,fun _=>by omega⟩
        unfold yE
        rw [gs2,gs1]
        have hno:(cA l (t.l.toNat+1) t.l.toNat (d[n]?.getD 0+1)=none∨cA l (t.r.toNat+1) t.r.toNat (d[n]?.getD 0+1)=none)→¬gd l (n+1) d:=by
         intro hh hg
         obtain⟨p,hp⟩:=Option.isSome_iff_exists.1 (gdN hg)
         obtain⟨t',p0,q0,hx',_,e0,e1,rfl⟩:=dh hp
         obtain rfl:t=t':=by rw [hx] at hx';exact Option.some.inj hx'
         rw [if_neg k1,fu1] at e0
         rw [if_neg k2,fu2] at e1
         rcases hh with hh | hh
         ·rw [hh] at e0;cases e0
         ·rw [hh] at e1;cases e1
        cases hp0:cA l (t.l.toNat+1) t.l.toNat (d[n]?.getD 0+1) with
        | none=>exact⟨fun h=>by simp at h,fun h=>absurd h.1 (hno (.inl hp0))⟩
        | some p0=>
         cases hq0:cA l (t.r.toNat+1) t.r.toNat (d[n]?.getD 0+1) with
         | none=>exact⟨fun h=>by simp at h,fun h=>absurd h.1 (hno (.inr hq0))⟩
         | some q0=>
          have hp:cA l (n+1) n (d[n]?.getD 0)=some (n::(p0++q0)):=sB hx hok (by rw [if_neg k1,fu1,hp0]) (by rw [if_neg k2,fu2,hq0])
          have hc:∀y,cnt l (n+1) d y=cnt l n d y+(n::(p0++q0)).count y:=fun y=>by
           simp only [cnt,if_neg h0];unfold cc;rw [hp]
          have hc0:∀y,cc l t.l.toNat (d[n]?.getD 0+1) y=p0.count y:=fun y=>by unfold cc;rw [hp0]
          have hc1:∀y,cc l t.r.toNat (d[n]?.getD 0+1) y=q0.count y:=fun y=>by unfold cc;rw [hq0]
          have hn0:p0.count n=0:=List.count_eq_zero.2 (fun hm=>by have:=sC _ _ _ _ hp0 n hm;omega)
          have hn1:q0.count n=0:=List.count_eq_zero.2 (fun hm=>by have:=sC _ _ _ _ hq0 n hm;omega)
          constructor
          ·rintro⟨⟨⟨a,_⟩,_⟩,b⟩
           refine⟨⟨a,.inr (by rw [hp];rfl)⟩,fun y=>?_⟩
           have:=b y
           rw [cs2,hc0,hc1] at this
           rw [hc]
           by_cases hy:y=n
           ·subst hy;simp [hself0,hn0,hn1]
           ·simp only [List.count_cons,List.count_append,beq_iff_eq,Ne.symm hy,if_false];omega
          ·rintro⟨a,b⟩
           refine⟨⟨⟨a.1,rfl⟩,rfl⟩,fun y=>?_⟩
           have:=b y
           rw [hc] at this
           simp only [List.count_cons,List.count_append] at this
           rw [cs2,hc0,hc1]
           omega
theorem lH {l:List Term}{root:Int}:cN l root=(eq l root).isSome:=by
 by_cases h:(l.length:Int)≤160∧0≤root∧root<l.length
 ·rw [qv h,Ev h,Bool.eq_iff_iff,EP h.2,nN h.2.1]
  rw [scan (root.toNat+1) _ om sq (pQ _ _)]
  have hz:∀i:Nat,(List.replicate l.length (0:Int))[i]?.getD 0=0:=fun i=>by rw [List.getElem?_replicate];split<;>simp
  have hc0:∀(n y:Nat),cnt l n (List.replicate l.length 0) y=0:=by
   intro n y
   induction n with
   | zero=>rfl
   | succ n ih=>simp only [cnt,ih,hz,if_true]
  have hg0:∀n:Nat,gd l n (List.replicate l.length 0):=by
   intro n
   induction n with
   | zero=>trivial
   | succ n ih=>exact⟨ih,.inl (hz n)⟩
  unfold yE
  rw [zu (root.toNat+1) _ om (by simp;omega) (hz _) om]
  constructor
  ·rintro⟨p,h1,h2⟩
   refine⟨⟨hg0 _,by rw [h1];rfl⟩,fun y=>?_⟩
   rw [pG (root.toNat+1) _ om (by simp;omega) (hz _) om,hc0]
   unfold cc
   rw [h1]
   have:=List.nodup_iff_count.1 h2 y
   simp only
   omega
  ·rintro⟨⟨_,h1⟩,h2⟩
   obtain⟨p,hp⟩:=Option.isSome_iff_exists.1 h1
   refine⟨p,hp,List.nodup_iff_count.2 (fun y=>?_)⟩
   have:=h2 y
   rw [pG (root.toNat+1) _ om (by simp;omega) (hz _) om,hc0] at this
   unfold cc at this
   rw [hp] at this
   simp only at this
   omega
 ·have h1:(160:Int)<l.length∨root<0∨(l.length:Int)≤root:=by omega
  rw [sm h1]
  rcases h1 with h | h | h
  ·rw [pw (by simpa using h)];rfl
  ·rw [pu (by simpa using h)];rfl
  ·rw [pq h];rfl
end Go.Sx
namespace Go.Sx
open Go
end Go.Sx
namespace Go.Sx
open Go
end Go.Sx
namespace Go.Sx
open Go
def I64.cells (n:Int):List Value:=[.int .i64 n]
def Str.cells (s:Str):List Value:=[gs s]
instance :Cells 1 I64.cells:=⟨fun _=>rfl,by decide,fun _=>rfl⟩
instance :Cells 1 Str.cells:=⟨fun _=>rfl,by decide,fun _=>rfl⟩
instance :Cells 6 Term.cells:=⟨fun _=>rfl,by decide,fun _=>rfl⟩
theorem bi {α:Type}{l:List α}{k:Int}{x:α}(hk:0≤k)(hx:l[k.toNat]? =some x):l.take (k+1).toNat=l.take k.toNat++[x]:=by
 rw [show(k+1).toNat=k.toNat+1 by omega,List.take_add_one,hx];rfl
theorem aX {α:Type}{l:List α}{k:Int}(h:¬k<l.length)(h2:0≤k):l.take k.toNat=l:=List.take_of_length_le om
theorem bv {α β:Type}{f:α→β}{l:List α}{k:Int}{x:α}(hk:0≤k)(hx:l[k.toNat]? =some x):(l.take (k+1).toNat).map f=(l.take k.toNat).map f++[f x]:=by
 rw [bi hk hx];simp
end Go.Sx
namespace Go.Sx
open Go
end Go.Sx
namespace Go.Sx
open Go
end Go.Sx
namespace Go.Sx
open Go
end Go.Sx
namespace Go.Sx
open Go
theorem enc_gs (s:Str):Go.Proofs.encStr s=gs s:=rfl
theorem vQ (d:List Str)(cs:List Value)(h:d.length≤cs.length):(Go.Sort.putCells Go.Proofs.encStr 0 d.toArray cs.toArray).toList=d.map gs++cs.drop d.length:=by
 apply List.ext_getElem?
 intro k
 rw [List.getElem?_append]
 by_cases hk:k<d.length
 ·simp [Go.Sort.putCells,hk,show k<cs.length by omega]
  rfl
 ·by_cases hc:k<cs.length
  ·simp [Go.Sort.putCells,hk,hc,show d.length+(k - d.length)=k by omega]
  ·simp [Go.Sort.putCells,hk,hc,show d.length+(k - d.length)=k by omega]
section
variable {P:Program}{n:Nat}{ops:Array Oper}{Q:Exit→Act→World→Prop}{E:Env}{M:List Nat}{w0:World}{H0 H:Hp}{L:aq}{C:World→Prop}{rest:List Oper}{dst:Option Nat}{op:Op}{ty:TypeId}{pos:String}{aft:Array Edge}
theorem St.row {w:World}{b:Nat}{cs:List Value}{R:aq}{d:List Str}(h:St M w0 H0 H ((b,cs)::R) w)(hd:d.length≤cs.length)(q:Nat)(os:Array Obj):
  St M w0 H0 H ((b,d.map gs++cs.drop d.length)::R) (Go.Sort.grow (Go.Sort.putRow Go.Proofs.encStr (Go.Sort.ahead w q) b 0 d.toArray) os):=by
 have h1:St M w0 H0 H ((b,d.map gs++cs.drop d.length)::R) (Go.Sort.putRow Go.Proofs.encStr (Go.Sort.ahead w q) b 0 d.toArray):=by
  refine h.set (Upd.here _) _ sq rfl rfl rfl (fun t ht=>?_) (fun k hk=>?_)
  ·have e:(Go.Sort.putCells Go.Proofs.encStr 0 d.toArray cs.toArray)=(d.map gs++cs.drop d.length).toArray:=by
    apply Array.ext'
    rw [vQ d cs hd]
   simp [Go.Sort.putRow,Go.Sort.mapBlock,Array.getElem?_modify,ht,Go.Sort.onCells,e]
  ·simp [Go.Sort.putRow,Go.Sort.mapBlock,Array.getElem?_modify,Ne.symm hk]
 refine Ext.st (w:=Go.Sort.putRow Go.Proofs.encStr (Go.Sort.ahead w q) b 0 d.toArray) ⟨rfl,rfl,rfl,by simp [Go.Sort.grow],fun k hk=>?_⟩ h1
 simp only [Go.Sort.grow]
 rw [Array.getElem?_append_left hk]
theorem St.holds {w:World}{b:Nat}{cs:List Value}{R:aq}{d:List Str}(h:St M w0 H0 H ((b,cs)::R) w)(hd:cs.take d.length=d.map gs):Go.Sort.Holds Go.Proofs.encStr w b 0 d.toArray:=by
 intro j hj
 have hj':j<d.length:=by simpa using hj
 have h1:cs[j]? =some (gs d[j]):=by
  have:(cs.take d.length)[j]? =some (gs d[j]):=by rw [hd];simp [hj']
  rw [List.getElem?_take] at this
  simpa [hj'] using this
 constructor
 ·rw [Nat.zero_add,h.cell (.here _) j,h1]
  simp [hj',enc_gs]
 ·obtain⟨t,ht⟩:=h.own (b,cs) sq
  have ht':w.heap[b]? =some (.cells cs.toArray t (0,0)):=ht
  simp [World.frozen?,ht']
theorem CA {ι:Type}{f:FuncId}{args:List Value}{Φ:Value→ι→Prop}{C':ι→World→Prop}(hE:cZ P E op f args)(hF:∀w,C w→Calls P f args.toArray w (fun e w'=>∃v i,e= .returned v∧Φ v i∧C' i w'))(hd:cD dst n=true)
  (h:∀v i,Φ v i→TL P n ops Q rest (cz dst v E) (C' i)):TL P n ops Q ({dst:=dst,op:=op,type:=ty,pos:=pos,after:=aft,guard:=none}::rest) E C:=by
 intro a w he hw
 refine cJ rfl (fun K hK=>?_)
 unfold Oper.wp
 rw [hE n a w _ rfl he]
 refine(hF w hw).mono ?_
 rintro e w' ⟨v,i,rfl,hΦ,hC⟩
 exact hK _ _ (h v i hΦ _ _ (he.put hd) hC)
structure SortC (P:Program)(f:FuncId):Prop where
 some:∀(b off cap:Nat) (ss:List Str) (w:World),Go.Sort.Holds Go.Proofs.encStr w b off ss.toArray→b<w.heap.size→ss.length<4611686018427387904→
  Calls P f #[.slice (some ⟨b,off,none⟩) ss.length cap] w fun e w'=>e= .returned (.tuple #[])∧∃n os,w'=Go.Sort.grow (Go.Sort.putRow Go.Proofs.encStr (Go.Sort.ahead w n) b off (ss.mergeSort fun x y=>decide (x≤y)).toArray) os
 none:∀(p:Option Addr) (cap:Nat) (w:World),Calls P f #[.slice p 0 cap] w fun e w'=>e= .returned (.tuple #[])∧w'=w
def jw (l:List Str):List Str:=l.mergeSort fun x y=>decide (x≤y)
theorem jV (l:List Str):(jw l).length=l.length:=List.length_mergeSort _
theorem pE (l:List Str):l.flatMap Str.cells=l.map gs:=by
 induction l with
 | nil=>rfl
 | cons x l ih=>simp [Str.cells,ih]
theorem Ig {f:FuncId}(hS:SortC P f){v:Value}{xs:List Str}{ob:aq}{F:aq→aq}(hO:OwnSl 1 Str.cells v xs ob)(hU:Tl ob L F)(hm:xs.length<4611686018427387904){w:World}(hw:St M w0 H0 H L w):
  Calls P f #[v] w (fun e w'=>∃u ob',e= .returned u∧(u= .tuple #[]∧OwnSl 1 Str.cells v (jw xs) ob')∧St M w0 H0 H (F ob') w'):=by
 obtain⟨R,hp1,hp2⟩:=hU.perm
 rcases hO with ⟨rfl,rfl,rfl⟩ | ⟨b,cap,cs,rfl,rfl,hcl,htk,hle,hcm⟩
 ·refine(hS.none none 0 w).mono ?_
  rintro e w' ⟨rfl,rfl⟩
  exact⟨_,[],rfl,⟨rfl,by rw [show jw []=[] by unfold jw;simp];exact OwnSl.nil⟩,hw.perm (hp1.trans (hp2 []).symm)⟩
 ·have hwR:=hw.perm hp1
  have ht:cs.take xs.length=xs.map gs:=by rw [← pE,← htk,Nat.mul_one]
  have hlen:xs.length≤cs.length:=by omega
  refine(hS.some b 0 cap xs w (hwR.holds ht) (hwR.lt (p:=(b,cs)) sq) hm).mono ?_
  rintro e w' ⟨rfl,q,os,rfl⟩
  have h2:=hwR.row (d:=jw xs) (by rw [jV];exact hlen) q os
  refine⟨_,[(b,(jw xs).map gs++cs.drop (jw xs).length)],rfl,⟨rfl,.inr ⟨b,cap,_,by rw [jV],rfl,?_,?_,by rw [jV];exact hle,hcm⟩⟩,h2.perm (hp2 [(b,_)]).symm⟩
  ·simp [jV];omega
  ·rw [Nat.mul_one,pE,List.take_left' sq]
theorem TL.sort {f:FuncId}{v:Value}{xs:List Str}{ob:aq}{F:aq→aq}(hE:cZ P E op f [v])(hS:SortC P f)(hO:OwnSl 1 Str.cells v xs ob)(hU:Tl ob L F)(hm:xs.length<4611686018427387904)(hd:cD dst n=true)
  (h:∀ob',OwnSl 1 Str.cells v (jw xs) ob'→TL P n ops Q rest (cz dst (.tuple #[]) E) (St M w0 H0 H (F ob'))):
  TL P n ops Q ({dst:=dst,op:=op,type:=ty,pos:=pos,after:=aft,guard:=none}::rest) E (St M w0 H0 H L):=
 CA (ι:=aq) (Φ:=fun u ob'=>u= .tuple #[]∧OwnSl 1 Str.cells v (jw xs) ob') (C':=fun ob'=>St M w0 H0 H (F ob')) hE (fun w hw=>Ig hS hO hU hm hw) hd (fun u ob' hΦ=>by obtain⟨rfl,hO'⟩:=hΦ;exact h ob' hO')
structure CompactC (P:Program)(f:FuncId):Prop where
 some:∀(b off cap:Nat) (zs:List Str) (w:World),Go.Sort.Holds Go.Proofs.encStr w b off zs.toArray→zs.length≤9223372036854775807→zs.length≤cap→
  Calls P f #[.slice (some ⟨b,off,none⟩) zs.length cap] w fun e w'=>e= .returned (.slice (some ⟨b,off,none⟩) (Lib.compact zs).length cap)∧∃q,w'=Go.Sort.putRow Go.Proofs.encStr (Go.Sort.ahead w q) b off (Lib.compact zs++List.replicate (zs.length - (Lib.compact zs).length) []).toArray
 none:∀(p:Option Addr) (cap:Nat) (w:World),Calls P f #[.slice p 0 cap] w fun e w'=>e= .returned (.slice p 0 cap)∧w'=w
theorem Bb {f:FuncId}(hS:CompactC P f){v:Value}{xs:List Str}{ob:aq}{F:aq→aq}(hO:OwnSl 1 Str.cells v xs ob)(hU:Tl ob L F){w:World}(hw:St M w0 H0 H L w):
  Calls P f #[v] w (fun e w'=>∃u ob',e= .returned u∧OwnSl 1 Str.cells u (Lib.compact xs) ob'∧St M w0 H0 H (F ob') w'):=by
 obtain⟨R,hp1,hp2⟩:=hU.perm
 rcases hO with ⟨rfl,rfl,rfl⟩ | ⟨b,cap,cs,rfl,rfl,hcl,htk,hle,hcm⟩
 ·refine(hS.none none 0 w).mono ?_
  rintro e w' ⟨rfl,rfl⟩
  exact⟨_,[],rfl,OwnSl.nil,hw.perm (hp1.trans (hp2 []).symm)⟩
 ·have hwR:=hw.perm hp1
  have ht:cs.take xs.length=xs.map gs:=by rw [← pE,← htk,Nat.mul_one]
  have hlen:xs.length≤cs.length:=by omega
  have hc:=Lib.compact_length_le xs
  refine(hS.some b 0 cap xs w (hwR.holds ht) om hle).mono ?_
  rintro e w' ⟨rfl,q,rfl⟩
  have hl2:(Lib.compact xs++List.replicate (xs.length - (Lib.compact xs).length) ([]:Str)).length=xs.length:=by simp;omega
  have h2:=hwR.row (d:=Lib.compact xs++List.replicate (xs.length - (Lib.compact xs).length) []) (by rw [hl2];exact hlen) q #[]
  have hg:∀W:World,Go.Sort.grow W #[]=W:=fun W=>by simp [Go.Sort.grow]
  rw [hg,hl2] at h2
  refine⟨_,[(b,(Lib.compact xs++List.replicate (xs.length - (Lib.compact xs).length) ([]:Str)).map gs++cs.drop xs.length)],rfl,.inr ⟨b,cap,_,rfl,rfl,?_,?_,by omega,hcm⟩,h2.perm (hp2 [(b,_)]).symm⟩
  ·rw [List.length_append,List.length_map,hl2];simp;omega
  ·rw [Nat.mul_one,pE,List.map_append,List.append_assoc,List.take_left' sq]
theorem TL.compact {f:FuncId}{v:Value}{xs:List Str}{ob:aq}{F:aq→aq}(hE:cZ P E op f [v])(hS:CompactC P f)(hO:OwnSl 1 Str.cells v xs ob)(hU:Tl ob L F)(hd:cD dst n=true)
  (h:∀a c ob',OwnSl 1 Str.cells (.slice a (Lib.compact xs).length c) (Lib.compact xs) ob'→TL P n ops Q rest (cz dst (.slice a (Lib.compact xs).length c) E) (St M w0 H0 H (F ob'))):
  TL P n ops Q ({dst:=dst,op:=op,type:=ty,pos:=pos,after:=aft,guard:=none}::rest) E (St M w0 H0 H L):=
 CA (ι:=aq) (Φ:=fun u ob'=>OwnSl 1 Str.cells u (Lib.compact xs) ob') (C':=fun ob'=>St M w0 H0 H (F ob')) hE (fun w hw=>Bb hS hO hU hw) hd (fun u ob' hΦ=>by obtain⟨a,c,rfl⟩:=hΦ.form;exact h a c ob' hΦ)
end
end Go.Sx
namespace Go.Sx
open Go
def fH (l:List Term):Nat→Int→List Str
 | 0,_=>[]
 | f+1,at_=>if at_<0 then [] else match l[at_.toNat]? with
  | none=>[]
  | some t=>fH l f t.l++(fH l f t.r++(if t.kind=0 then [t.name] else []))
theorem jP {l:List Term}{f:Nat}{at_:Int}(h:at_<0):fH l f at_=[]:=by
 cases f with
 | zero=>rfl
 | succ f=>unfold fH;rw [if_pos h]
theorem lC {l:List Term}{f:Nat}{at_:Int}{t:Term}(h:¬at_<0)(hx:l[at_.toNat]? =some t):fH l (f+1) at_=fH l f t.l++(fH l f t.r++(if t.kind=0 then [t.name] else [])):=by
 rw [fH,if_neg h,hx]
theorem Ga {l:List Term}:∀(f:Nat) (at_ deep:Int) (met:List Bool),0≤at_→1≤deep→(db l f at_ deep met).1=true→(fH l f at_).length≤2 ^ (25 - deep.toNat):=by
 intro f
 induction f with
 | zero=>intro at_ deep met _ _ h;simp [db] at h
 | succ f ih=>
  intro at_ deep met h0 hd h
  cases hx:l[at_.toNat]? with
  | none=>simp [db,hx] at h
  | some t=>
   by_cases hg:met[at_.toNat]?.getD false=true∨24<deep∨al t.kind<0∨cG t=false
   ·rw [uS hx hg] at h;cases h
   ·have hgg:CD deep met at_ t:=by
     refine⟨?_,?_,?_,?_⟩
     ·cases hb:met[at_.toNat]?.getD false with
      | false=>rfl
      | true=>exact absurd (.inl hb) hg
     ·intro h1;exact hg (.inr (.inl h1))
     ·intro h1;exact hg (.inr (.inr (.inl h1)))
     ·cases hb:cG t with
      | true=>rfl
      | false=>exact absurd (.inr (.inr (.inr hb))) hg
    generalize h00:opW (al t.kind) at_ (fun to m=>db l f to (deep+1) m) 0 t.l (met.set at_.toNat true)=r0
    obtain⟨b0,m0⟩:=r0
    cases b0 with
    | false=>rw [uT hx hgg h00] at h;cases h
    | true=>
     generalize h11:opW (al t.kind) at_ (fun to m=>db l f to (deep+1) m) 1 t.r m0=r1
     rw [lY hx hgg h00 h11] at h
     have h24:=hgg.2.1
     have key:∀(i to:Int) (m m':List Bool),opW (al t.kind) at_ (fun to m=>db l f to (deep+1) m) i to m=(true,m')→(i<al t.kind→(fH l f to).length≤2 ^ (25 - (deep+1).toNat))∧(al t.kind≤i→fH l f to=[]):=by
      intro i to m m' he
      refine⟨fun hi=>?_,fun hi=>?_⟩
      ·by_cases hb:to<0∨at_≤to
       ·rw [sG om hb] at he;cases he
       ·rw [sF om om om] at he
        exact ih to (deep+1) m om om (by rw [he])
      ·rw [zf hi] at he
       have:to= -1:=by simpa using congrArg Prod.fst he
       exact jP om
     have k0:=key 0 t.l _ _ h00
     have k1:=key 1 t.r _ r1.2 (by rw [h11];cases r1;simp at h;simp [h])
     rw [lC om hx]
     have hp:2 ^ (25 - deep.toNat)=2 * 2 ^ (25 - (deep+1).toNat):=by
      rw [show 25 - deep.toNat=(25 - (deep+1).toNat)+1 by omega,Nat.pow_succ];omega
     have h1:0<2 ^ (25 - (deep+1).toNat):=Nat.two_pow_pos _
     simp only [List.length_append]
     by_cases hk:t.kind=0
     ·have ho:al t.kind=0:=by rw [hk];decide
      rw [k0.2 om,k1.2 om,if_pos hk]
      simp;omega
     ·rw [if_neg hk]
      have a0:(fH l f t.l).length≤2 ^ (25 - (deep+1).toNat):=by
       rcases Int.lt_or_le 0 (al t.kind) with ho | ho
       ·exact k0.1 ho
       ·rw [k0.2 ho];simp
      have a1:(fH l f t.r).length≤2 ^ (25 - (deep+1).toNat):=by
       rcases Int.lt_or_le 1 (al t.kind) with ho | ho
       ·exact k1.1 ho
       ·rw [k1.2 ho];simp
      simp;omega
theorem yg {l:List Term}{root:Int}(h:cN l root=true):(fH l (root.toNat+1) root).length≤16777216:=by
 unfold cN at h
 split at h
 ·cases h
 ·split at h
  ·cases h
  ·split at h
   ·cases h
   ·have:=Ga _ _ _ _ om dq h
    exact this
def iH (l:List Term)(root:Int):List Str:=if cN l root then Lib.compact (jw (fH l (root.toNat+1) root)) else []
def bS (l:List Str)(s:Str):Int:=match l with
 | []=> -1
 | x::r=>if x=s then 0 else if bS r s<0 then -1 else bS r s+1
theorem kp (l:List Str)(s:Str):bS l s= -1∨(0≤bS l s∧bS l s<l.length):=by
 induction l with
 | nil=>exact .inl rfl
 | cons x r ih=>
  unfold bS
  split
  ·right;simp only [List.length_cons,Int.natCast_add];omega
  ·split
   ·exact .inl rfl
   ·right;simp only [List.length_cons,Int.natCast_add];omega
theorem cS {l:List Str}{s:Str}{k:Int}(h0:0≤k)(hx:l[k.toNat]? =some s)(hn:∀j:Nat,j<k.toNat→l[j]? ≠some s):bS l s=k:=by
 induction l generalizing k with
 | nil=>simp at hx
 | cons x r ih=>
  unfold bS
  by_cases hk:k=0
  ·subst hk
   simp at hx
   rw [if_pos hx]
  ·have hne:¬x=s:=by
    have:=hn 0 om
    simpa using this
   rw [if_neg hne]
   have e:=ih (k:=k - 1) om (by
    rw [show k.toNat=(k - 1).toNat+1 by omega] at hx
    simpa using hx) (fun j hj=>by
     have:=hn (j+1) om
     simpa using this)
   rw [e,if_neg om];omega
theorem ya {l:List Str}{s:Str}(hn:s∉l):bS l s= -1:=by
 induction l with
 | nil=>rfl
 | cons x r ih=>
  simp only [List.mem_cons,not_or] at hn
  unfold bS
  rw [if_neg (fun e=>hn.1 e.symm),ih hn.2];rfl
theorem C9 {l:List Str}{s:Str}:0≤bS l s↔s∈l:=by
 constructor
 ·intro h
  apply Classical.byContradiction
  intro hn
  rw [ya hn] at h
  omega
 ·intro h
  induction l with
  | nil=>cases h
  | cons x r ih=>
   unfold bS
   split
   ·decide
   ·rename_i hne
    have h1:=ih (by rcases List.mem_cons.1 h with rfl | h;exact absurd rfl hne;exact h)
    rw [if_neg om];omega
theorem jd {l:List Str}{s x:Str}{k:Int}(h0:0≤k)(h:∀j:Nat,j<k.toNat→l[j]? ≠some s)(hx:l[k.toNat]? =some x)(hne:¬x=s):∀j:Nat,j<(k+1).toNat→l[j]? ≠some s:=by
 intro j hj
 by_cases hk:j=k.toNat
 ·subst hk;rw [hx];simpa using hne
 ·exact h j om
theorem dU {l:List Str}{s:Str}{k:Int}(h:∀j:Nat,j<k.toNat→l[j]? ≠some s)(hk:¬k<l.length):bS l s= -1:=by
 refine ya (fun hm=>?_)
 obtain⟨j,hj⟩:=List.mem_iff_getElem?.1 hm
 exact h j (by have:=(List.getElem?_eq_some_iff.1 hj).1;omega) hj
def bI (l:List Str)(s:Str):Bool:=decide (s∈l)
theorem vp (l:List Str)(s:Str):decide (0≤bS l s)=bI l s:=by
 unfold bI
 rw [Bool.eq_iff_iff];simp only [decide_eq_true_eq]
 exact C9
end Go.Sx
namespace Go.Sx
open Go
theorem BF {zs:List Str}{x:Str}:x∈Lib.compact zs↔x∈zs:=by
 unfold Lib.compact Lib.compactUpTo
 simp only [List.mem_map,List.mem_filter,List.mem_range]
 constructor
 ·rintro⟨j,⟨hj,_⟩,rfl⟩
  have:j<zs.toArray.size:=by simpa using hj
  rw [getElem!_pos zs.toArray j this]
  simp
 ·intro hx
  obtain⟨j,hj,rfl⟩:=List.getElem_of_mem hx
  have key:∀j (hj:j<zs.length),∃i,(i<zs.length∧Lib.keeps zs.toArray i=true)∧zs.toArray[i]! =zs[j]:=by
   intro j
   induction j with
   | zero=>
    intro hj
    refine⟨0,⟨hj,by simp [Lib.keeps]⟩,?_⟩
    rw [getElem!_pos zs.toArray 0 (by simpa using hj)];simp
   | succ j ih=>
    intro hj
    by_cases hk:Lib.keeps zs.toArray (j+1)=true
    ·refine⟨j+1,⟨hj,hk⟩,?_⟩
     rw [getElem!_pos zs.toArray (j+1) (by simpa using hj)];simp
    ·obtain⟨i,hi,he⟩:=ih om
     refine⟨i,hi,?_⟩
     rw [he]
     have:zs.toArray[j+1]! =zs.toArray[j]! :=by
      simpa [Lib.keeps] using hk
     rw [getElem!_pos zs.toArray (j+1) (by simpa using hj),getElem!_pos zs.toArray j (by simp;omega)] at this
     simpa using this.symm
  obtain⟨i,hi,he⟩:=key j hj
  exact⟨i,hi,he⟩
theorem F9 {zs:List Str}{x:Str}:x∈jw zs↔x∈zs:=by unfold jw;exact List.mem_mergeSort
theorem F7 {l:List Term}{root:Int}{x:Str}(h:cN l root=true):x∈iH l root↔x∈fH l (root.toNat+1) root:=by
 unfold iH;rw [if_pos h,BF,F9]
theorem CM {l:List Term}{root:Int}(h:¬cN l root=true):iH l root=[]:=by unfold iH;rw [if_neg h]
theorem Cl (zs:List Str):(Lib.compact zs).length≤zs.length:=Lib.compact_length_le zs
theorem xu (l:List Term)(root:Int):(iH l root).length≤16777216:=by
 unfold iH
 split
 ·rename_i h
  have:=Cl (jw (fH l (root.toNat+1) root))
  rw [jV] at this
  have:=yg h
  omega
 ·simp
end Go.Sx
namespace Go.Sx
open Go
theorem BH {l:List Term}{root:Int}:cN l root=true↔((l.length:Int)≤160∧0≤root∧root<l.length)∧∃p,cA l (root.toNat+1) root.toNat 1=some p∧p.Nodup:=by
 by_cases h:(l.length:Int)≤160∧0≤root∧root<l.length
 ·rw [qv h,EP h.2]
  exact⟨fun h2=>⟨h,h2⟩,fun h2=>h2.2⟩
 ·constructor
  ·intro hm
   exfalso
   unfold cN at hm
   split at hm
   ·cases hm
   ·split at hm
    ·cases hm
    ·split at hm
     ·cases hm
     ·omega
  ·intro h2;exact absurd h2.1 h
theorem EL {t:Term}{at_ deep:Int}(h:okT t at_ deep=true):0≤al t.kind∧cG t=true∧deep≤24∧(al t.kind<1→t.l= -1)∧(al t.kind<2→t.r= -1):=by
 unfold okT at h
 simp only [Bool.and_eq_true,decide_eq_true_eq] at h
 refine⟨h.1.1,h.1.2,h.2.1,fun h1=>?_,fun h1=>?_⟩
 ·have:=h.2.2.1;rw [if_pos h1] at this;simpa using this
 ·have:=h.2.2.2;rw [if_pos h1] at this;simpa using this
theorem IA {l:List Term}:∀(f at_:Nat) (deep:Int) (p:List Nat),cA l f at_ deep=some p→∀i∈p,∃g q d,cA l g i d=some q∧q.Sublist p∧deep≤d:=by
 intro f
 induction f with
 | zero=>intro at_ deep p h;simp [cA] at h
 | succ f ih=>
  intro at_ deep p h i hi
  obtain⟨t,p0,q0,hx,hok,h0,h1,rfl⟩:=dh h
  rcases List.mem_cons.1 hi with rfl | hi
  ·exact⟨f+1,_,deep,h,List.Sublist.refl _,Int.le_refl _⟩
  rcases List.mem_append.1 hi with hi | hi
  ·split at h0
   ·simp only [Option.some.injEq] at h0;subst h0;cases hi
   ·obtain⟨g,q,d,e1,e2,e3⟩:=ih _ _ _ h0 i hi
    exact⟨g,q,d,e1,e2.trans ((List.sublist_append_left _ _).trans (List.sublist_cons_self _ _)),by omega⟩
  ·split at h1
   ·simp only [Option.some.injEq] at h1;subst h1;cases hi
   ·obtain⟨g,q,d,e1,e2,e3⟩:=ih _ _ _ h1 i hi
    exact⟨g,q,d,e1,e2.trans ((List.sublist_append_right _ _).trans (List.sublist_cons_self _ _)),by omega⟩
theorem Bn {l:List Term}:∀(f at_:Nat) (deep:Int) (p:List Nat),cA l f at_ deep=some p→∀i∈p,∀t,l[i]? =some t→(1≤al t.kind→t.l.toNat∈p)∧(2≤al t.kind→t.r.toNat∈p):=by
 intro f at_ deep p h i hi t ht
 obtain⟨g,q,d,e1,e2,_⟩:=IA f at_ deep p h i hi
 cases g with
 | zero=>simp [cA] at e1
 | succ g=>
  obtain⟨t',p0,q0,hx,hok,h0,h1,rfl⟩:=dh e1
  rw [ht] at hx
  obtain rfl:=Option.some.inj hx
  refine⟨fun ho=>e2.subset ?_,fun ho=>e2.subset ?_⟩
  ·rw [if_neg om] at h0
   have:=hY h0
   simp [this]
  ·rw [if_neg om] at h1
   have:=hY h1
   simp [this]
theorem EH {d:List Int}{j a:Nat}{x:Int}(h:0<(d.set j x)[a]?.getD 0):a=j∨0<d[a]?.getD 0:=by
 by_cases e:j=a
 ·exact .inl e.symm
 ·rw [jD e] at h;exact .inr h
theorem xI {S:Nat→Prop}{d d':List Int}{i at_:Int}(h:dQ d i at_=some d')(hd:∀j,0<d[j]?.getD 0→S j)(ha:S at_.toNat):∀j,0<d'[j]?.getD 0→S j:=by
 unfold dQ at h
 split at h
 ·cases h
 ·obtain rfl:=Option.some.inj h
  intro j hj
  rcases EH hj with rfl | hj
  ·exact ha
  ·exact hd j hj
theorem rK {l:List Term}{S:Nat→Prop}(hS:∀i t,S i→l[i]? =some t→(1≤al t.kind→S t.l.toNat)∧(2≤al t.kind→S t.r.toNat)):
  ∀(n:Nat) (d d':List Int),cE l n d=some d'→Nn d→(∀j,0<d[j]?.getD 0→S j)→∀j,0<d'[j]?.getD 0→S j
 | 0,d,d',h,_,hd=>by obtain rfl:=Option.some.inj h;exact hd
 | n+1,d,d',h,hn,hd=>by
  simp only [cE] at h
  cases hs:cW l n d with
  | none=>rw [hs] at h;cases h
  | some d1=>
   rw [hs] at h
   simp only at h
   have key:Nn d1∧∀j,0<d1[j]?.getD 0→S j:=by
    unfold cW at hs
    split at hs
    ·obtain rfl:=Option.some.inj hs;exact⟨hn,hd⟩
    ·rename_i h0
     simp only [Int.toNat_natCast] at hs h0
     cases hx:l[n]? with
     | none=>rw [hx] at hs;cases hs
     | some t=>
      rw [hx] at hs
      simp only at hs
      split at hs
      ·cases hs
      ·have hpos:0<d[n]?.getD 0:=by have:=hn n;omega
       have hc:=hS n t (hd n hpos) hx
       unfold fF at hs
       split at hs
       ·obtain rfl:=Option.some.inj hs;exact⟨hn,hd⟩
       ·rename_i h1
        have nset:∀{d d':List Int} {a:Int},dQ d n a=some d'→Nn d→Nn d':=by
         intro d d' a e hn
         unfold dQ at e
         split at e
         ·cases e
         ·obtain rfl:=Option.some.inj e
          simp only [Int.toNat_natCast]
          exact mo hn (by have:=hn n;omega)
        cases h2:dQ d n t.l with
        | none=>rw [h2] at hs;cases hs
        | some d2=>
         rw [h2] at hs
         simp only at hs
         have a1:=xI h2 hd (hc.1 om)
         split at hs
         ·obtain rfl:=Option.some.inj hs;exact⟨nset h2 hn,a1⟩
         ·exact⟨nset hs (nset h2 hn),xI hs a1 (hc.2 om)⟩
   exact rK hS n d1 d' h key.1 key.2
theorem Eu {l:List Term}{root:Int}{d:List Int}{p:List Nat}(h:eq l root=some d)(hp:cA l (root.toNat+1) root.toNat 1=some p){k:Nat}(hk:0<d[k]?.getD 0):k∈p:=by
 unfold eq at h
 split at h
 ·cases h
 ·refine rK (S:=fun i=>i∈p) (fun i t hi ht=>Bn _ _ _ _ hp i hi t ht) _ _ _ h (pQ _ _) (fun j hj=>?_) k hk
  rcases EH hj with rfl | hj
  ·exact hY hp
  ·rw [List.getElem?_replicate] at hj
   split at hj<;>simp at hj
end Go.Sx
