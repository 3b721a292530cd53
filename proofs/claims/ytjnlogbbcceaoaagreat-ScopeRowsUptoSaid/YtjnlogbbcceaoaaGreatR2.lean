import Derived.Test.YtjnlogbbcceaoaaGreatR1
import Derived.Test.YtjnlogbbcceaoaaGreatRows
import Derived.ProofKit
import Derived.Deep.Slices
set_option linter.all false
set_option maxRecDepth 100000
set_option maxHeartbeats 32000000
namespace Go.Sx
open Go
abbrev Str:=List UInt8
theorem bJ {α:Type}{l:List α}{n:Nat}{x:α}(h:l[n]? =some x):l.drop n=x::l.drop (n+1):=by
 obtain⟨hlt,rfl⟩:=List.getElem?_eq_some_iff.1 h
 exact List.drop_eq_getElem_cons hlt
theorem rz {k:Int}(h:0≤k):(k+1).toNat=k.toNat+1:=by omega
theorem E7 {α:Type}{l:List α}{k:Int}(h:¬k<l.length):l.drop k.toNat=[]:=List.drop_eq_nil_of_le om
theorem BJ {α:Type}{l:List α}{k:Int}{x:α}(hk:0≤k)(h:l[k.toNat]? =some x):l.drop k.toNat=x::l.drop (k+1).toNat:=by
 rw [rz hk];exact bJ h
def fm (c:UInt8):Bool:=decide ((97:Int)≤c.toNat)&&decide ((c.toNat:Int)≤122)
def iT (c:UInt8):Bool:=decide ((48:Int)≤c.toNat)&&decide ((c.toNat:Int)≤57)
def eW (c:UInt8):Bool:=fm c||iT c
def kw1 (s:Str):Bool:=(decide (s=[97,110,100])||(decide (s=[97,115])||(decide (s=[97,116])||(decide (s=[98,111,111,108])||(decide (s=[99,97,108,108])||(decide (s=[99,104,97,110])||(decide (s=[100,114,111,112])||(decide (s=[101,108,115,101])||(decide (s=[101,109,112,116,121])||(decide (s=[101,110,100])||(decide (s=[102,97,105,108])||(decide (s=[102,97,108,115,101])||decide (s=[102,114,111,109])))))))))))))
def kw2 (s:Str):Bool:=(decide (s=[104,101,97,114])||(decide (s=[105,102])||(decide (s=[105,110,116])||(decide (s=[106,111,105,110])||(decide (s=[108,101,110])||(decide (s=[108,101,116])||(decide (s=[108,105,115,116])||(decide (s=[108,111,99,97,108])||(decide (s=[108,111,115,116])||(decide (s=[109,111,100])||(decide (s=[110,111,116])||(decide (s=[111,112,101,110])||decide (s=[111,114])))))))))))))
def kw3 (s:Str):Bool:=(decide (s=[112,114,105,110,116])||(decide (s=[112,114,111,99])||(decide (s=[112,114,111,116,111,99,111,108])||(decide (s=[112,117,115,104])||(decide (s=[114,111,108,101,115])||(decide (s=[115,97,121])||(decide (s=[115,112,97,119,110])||(decide (s=[115,116,111,112])||(decide (s=[116,101,120,116])||(decide (s=[116,111])||(decide (s=[116,114,117,101])||(decide (s=[117,110,105,116])||decide (s=[119,105,116,104])))))))))))))
def rkw1 (s:Str):Bool:=(decide (s=[97,110,100])||(decide (s=[97,115])||(decide (s=[97,116])||(decide (s=[98,111,111,108])||(decide (s=[99,97,108,108])||(decide (s=[99,104,97,110])||(decide (s=[100,114,111,112])||(decide (s=[101,108,115,101])||(decide (s=[101,109,112,116,121])||(decide (s=[101,110,100])||(decide (s=[102,97,105,108])||(decide (s=[102,97,108,115,101])||(decide (s=[102,114,111,109])||(decide (s=[104,101,97,114])||(decide (s=[105,102])||(decide (s=[105,110,116])||(decide (s=[106,111,105,110])||(decide (s=[108,101,110])||(decide (s=[108,101,116])||decide (s=[108,105,115,116]))))))))))))))))))))
def rkw2 (s:Str):Bool:=(decide (s=[108,111,99,97,108])||(decide (s=[108,111,115,116])||(decide (s=[109,111,100])||(decide (s=[110,111,116])||(decide (s=[111,112,101,110])||(decide (s=[111,114])||(decide (s=[112,114,105,110,116])||(decide (s=[112,114,111,99])||(decide (s=[112,114,111,116,111,99,111,108])||(decide (s=[112,117,115,104])||(decide (s=[114,111,108,101,115])||(decide (s=[115,97,121])||(decide (s=[115,112,97,119,110])||(decide (s=[115,116,111,112])||(decide (s=[116,101,120,116])||(decide (s=[116,111])||(decide (s=[116,114,117,101])||(decide (s=[117,110,105,116])||decide (s=[119,105,116,104])))))))))))))))))))
def dT (s:Str):Bool:=kw1 s||(kw2 s||kw3 s)
theorem zX (s:Str):(rkw1 s||rkw2 s)=dT s:=by
 simp only [rkw1,rkw2,dT,kw1,kw2,kw3,Bool.or_assoc]
def au (s:Str):Bool:=
 if(s.length:Int)<1 then false else if(12:Int)<s.length then false else if fm (s.headD 0)=false then false else if dT s then false
 else(s.drop 1).all eW
theorem zl {s:Str}{c:UInt8}(h:s[(0:Int).toNat]? =some c):s.headD 0=c:=by
 cases s with
 | nil=>simp at h
 | cons a s=>simpa using h
structure Typing where
 name:Str
 kind:Int
 at_:Int
structure Term where
 kind:Int
 name:Str
 n:Int
 text:Str
 l:Int
 r:Int
def Term.cells (t:Term):List Value:=[.int .i64 t.kind,gs t.name,.int .i64 t.n,gs t.text,.int .i64 t.l,.int .i64 t.r]
def E1 (n:Int):Prop:= -9223372036854775808≤n∧n≤9223372036854775807
theorem pG {α:Type}{enc:α→List Value}{k:Nat}:∀{l:List α},(∀x∈l,(enc x).length=k)→∀(i:Nat) (x:α),l[i]? =some x→∀j u,(enc x)[j]? =some u→(l.flatMap enc)[i * k+j]? =some u
 | [],_,i,x,hx,_,_,_=>by simp at hx
 | y::l,hk,0,x,hx,j,u,hu=>by
  simp only [List.getElem?_cons_zero,Option.some.injEq] at hx
  subst hx
  have:j<(enc y).length:=(List.getElem?_eq_some_iff.1 hu).1
  simp only [List.flatMap_cons,Nat.zero_mul,Nat.zero_add]
  rw [List.getElem?_append_left this];exact hu
 | y::l,hk,i+1,x,hx,j,u,hu=>by
  have h1:=hk y sq
  simp only [List.flatMap_cons]
  rw [List.getElem?_append_right (by rw [h1,Nat.succ_mul];omega),h1,show(i+1) * k+j - k=i * k+j by rw [Nat.succ_mul];omega]
  exact pG (fun z hz=>hk z (List.mem_cons_of_mem _ hz)) i x (by simpa using hx) j u hu
theorem RdSl.blk {α:Type}{H:Hp}{enc:α→List Value}{k b cap:Nat}{cs:List Value}{l:List α}(h:∀o v,cs[o]? =some v→H b o=some v)(hk:∀x∈l,(enc x).length=k)(hc:cs=l.flatMap enc)
  (hm:l.length≤9223372036854775807) (hcap:l.length≤cap:=by first | exact Nat.le_refl _ | omega | (simp;done) | (simp;omega)):RdSl H k enc (.slice (some ⟨b,0,none⟩) l.length cap) l:=by
 subst hc
 refine⟨⟨_,_,rfl⟩,hm,fun _=>⟨_,rfl⟩,fun i x hx j u hu=>?_,fun a n c e=>by injection e with _ _ e;omega⟩
 have:=pG hk i x hx j u hu
 simp only [off,Nat.zero_add]
 exact h _ _ this
theorem RdSl.nil {α:Type}{H:Hp}{enc:α→List Value}{k:Nat}:RdSl H k enc (.slice none 0 0) []:=
 ⟨⟨_,_,rfl⟩,by simp,fun h=>absurd rfl h,fun i x hx=>by simp at hx,fun a n c _=>by simp⟩
end Go.Sx
namespace Go.Sx
open Go
theorem Cs {s:Str}(h:decide ((s.length:Int)<1)=true∨decide ((12:Int)<s.length)=true∨(∃c,s[(0:Int).toNat]? =some c∧(!fm c)=true)∨dT s=true):au s=false:=by
 unfold au
 rcases h with h | h | ⟨c,hc,h⟩ | h
 ·rw [if_pos (of_decide_eq_true h)]
 ·split
  ·rfl
  ·rw [if_pos (of_decide_eq_true h)]
 ·rw [zl hc]
  split
  ·rfl
  split
  ·rfl
  rw [if_pos (by simpa using h)]
 ·split
  ·rfl
  split
  ·rfl
  split
  ·rfl
  first | rfl | rw [if_pos h]
theorem oq {s:Str}{c:UInt8}(h1:decide ((s.length:Int)<1)=false)(h2:decide ((12:Int)<s.length)=false)(hc:s[(0:Int).toNat]? =some c)(h3:(!fm c)=false)(h4:dT s=false):au s=(s.drop 1).all eW:=by
 unfold au
 rw [if_neg (of_decide_eq_false h1),if_neg (of_decide_eq_false h2),zl hc,if_neg (by simpa using h3),if_neg (by simp [h4])]
theorem wJ {s:Str}{k:Int}{c:UInt8}(h:(s.drop 1).all eW=(s.drop k.toNat).all eW)(hk:0≤k)(hc:s[k.toNat]? =some c)(hx:(!fm c)=false∨(!iT c)=false):(s.drop 1).all eW=(s.drop (k+1).toNat).all eW:=by
 rw [h,BJ hk hc,List.all_cons]
 have:eW c=true:=by unfold eW;rcases hx with hx | hx<;>simp at hx<;>simp [hx]
 simp [this]
theorem y8 {s:Str}{k:Int}(hn:au s=(s.drop 1).all eW)(h:(s.drop 1).all eW=(s.drop k.toNat).all eW)(hk:¬k<s.length):au s=true:=by
 rw [hn,h,E7 hk];rfl
theorem y9 {s:Str}{k:Int}{c:UInt8}(hn:au s=(s.drop 1).all eW)(h:(s.drop 1).all eW=(s.drop k.toNat).all eW)(hk:0≤k)(hc:s[k.toNat]? =some c)(h1:(!fm c)=true)(h2:(!iT c)=true):au s=false:=by
 rw [hn,h,BJ hk hc,List.all_cons]
 have:eW c=false:=by unfold eW;simp at h1 h2;simp [h1,h2]
 simp [this]
end Go.Sx
namespace Go.Sx
open Go
def ak (k:Int):Int:=if k<0∨19<k then -1 else if k≤5 then 0 else if k=15∨k=16 then 1 else 2
def bF (t:Term):Bool:=
 if t.kind=0 then au t.name&&(decide (t.n=0)&&decide (t.text=[]))
 else if t.kind=1 then decide (t.name=[])&&decide (t.text=[])
 else if t.kind=2 then decide (t.name=[])&&(decide (t.text=[])&&(decide (t.n=0)||decide (t.n=1)))
 else if t.kind=3 then decide (t.name=[])&&(decide (t.n=0)&&decide ((t.text.length:Int)≤24))
 else decide (t.name=[])&&(decide (t.n=0)&&decide (t.text=[]))
def opW (k at_:Int)(rec:Int→List Bool→Bool×List Bool)(i to:Int)(met:List Bool):Bool×List Bool:=
 if k≤i then(decide (to= -1),met) else if to<0∨at_≤to then(false,met) else rec to met
def cP (l:List Term):Nat→Int→Int→List Bool→Bool×List Bool
 | 0,_,_,met=>(false,met)
 | f+1,at_,deep,met=>
  match l[at_.toNat]? with
  | none=>(false,met)
  | some t=>
   if met[at_.toNat]?.getD false=true∨24<deep∨ak t.kind<0∨bF t=false then(false,met)
   else
    let a:=opW (ak t.kind) at_ (fun to m=>cP l f to (deep+1) m) 0 t.l (met.set at_.toNat true)
    if a.1=false then(false,a.2) else opW (ak t.kind) at_ (fun to m=>cP l f to (deep+1) m) 1 t.r a.2
theorem su {l:List Term}{f:Nat}{at_ deep:Int}{met:List Bool}{t:Term}(hx:l[at_.toNat]? =some t)(h:met[at_.toNat]?.getD false=true∨24<deep∨ak t.kind<0∨bF t=false):
  cP l (f+1) at_ deep met=(false,met):=by
 simp only [cP,hx];rw [if_pos h]
def zI (deep:Int)(met:List Bool)(at_:Int)(t:Term):Prop:=met[at_.toNat]?.getD false=false∧¬24<deep∧¬ak t.kind<0∧bF t=true
theorem sx {l:List Term}{f:Nat}{at_ deep:Int}{met m:List Bool}{t:Term}(hx:l[at_.toNat]? =some t)(h:zI deep met at_ t)
  (h0:opW (ak t.kind) at_ (fun to m=>cP l f to (deep+1) m) 0 t.l (met.set at_.toNat true)=(false,m)):cP l (f+1) at_ deep met=(false,m):=by
 obtain⟨h1,h2,h3,h4⟩:=h
 simp only [cP,hx];rw [if_neg (by simp [h1,h2,h3,h4]),h0];rfl
theorem ku {l:List Term}{f:Nat}{at_ deep:Int}{met m:List Bool}{t:Term}{r:Bool×List Bool}(hx:l[at_.toNat]? =some t)(h:zI deep met at_ t)
  (h0:opW (ak t.kind) at_ (fun to m=>cP l f to (deep+1) m) 0 t.l (met.set at_.toNat true)=(true,m))
  (h5:opW (ak t.kind) at_ (fun to m=>cP l f to (deep+1) m) 1 t.r m=r):cP l (f+1) at_ deep met=r:=by
 obtain⟨h1,h2,h3,h4⟩:=h
 simp only [cP,hx];rw [if_neg (by simp [h1,h2,h3,h4]),h0];simpa using h5
theorem wG {k at_:Int}{rec:Int→List Bool→Bool×List Bool}{i to:Int}{met:List Bool}(h:k≤i)(hb:¬to= -1):opW k at_ rec i to met=(false,met):=by
 unfold opW;rw [if_pos h];simp [hb]
theorem gN {k at_:Int}{rec:Int→List Bool→Bool×List Bool}{i to:Int}{met:List Bool}(h:k≤i)(hb:to= -1):opW k at_ rec i to met=(true,met):=by
 unfold opW;rw [if_pos h];simp [hb]
theorem ij {k at_:Int}{rec:Int→List Bool→Bool×List Bool}{i to:Int}{met:List Bool}{r:Bool×List Bool}(h:¬k≤i)(h2:decide (to<0)=false)(h3:decide (at_≤to)=false)(e:rec to met=r):opW k at_ rec i to met=r:=by
 unfold opW;rw [if_neg h,if_neg (by simp at h2 h3;omega)];exact e
theorem Ai {k at_:Int}{rec:Int→List Bool→Bool×List Bool}{i to:Int}{met:List Bool}(h:¬k≤i)(h2:decide (to<0)=true):opW k at_ rec i to met=(false,met):=by
 unfold opW;rw [if_neg h,if_pos (.inl (of_decide_eq_true h2))]
theorem Ah {k at_:Int}{rec:Int→List Bool→Bool×List Bool}{i to:Int}{met:List Bool}(h:¬k≤i)(h2:decide (at_≤to)=true):opW k at_ rec i to met=(false,met):=by
 unfold opW;rw [if_neg h,if_pos (.inr (of_decide_eq_true h2))]
theorem wH {k at_:Int}{rec:Int→List Bool→Bool×List Bool}{i to:Int}{met:List Bool}(h:k≤i):opW k at_ rec i to met=(decide (to= -1),met):=by
 unfold opW;rw [if_pos h]
theorem p9 {k at_:Int}{rec:Int→List Bool→Bool×List Bool}{i to:Int}{met:List Bool}(h:¬k≤i)(h2:to<0∨at_≤to):opW k at_ rec i to met=(false,met):=by
 unfold opW;rw [if_neg h,if_pos h2]
theorem p8 {k at_:Int}{rec:Int→List Bool→Bool×List Bool}{i to:Int}{met:List Bool}(h:¬k≤i)(h2:¬to<0)(h3:¬at_≤to):opW k at_ rec i to met=rec to met:=by
 unfold opW;rw [if_neg h,if_neg om]
theorem CU {met:List Bool}{i:Nat}(h:i<met.length):(met.map Value.bool)[0+i * 1]? =some (.bool (met[i]?.getD false)):=by
 simp [List.getElem?_eq_getElem h]
theorem CT (met:List Bool)(i:Nat)(b:Bool):(met.map Value.bool).set (0+i * 1) (.bool b)=(met.set i b).map Value.bool:=by
 simp [List.map_set]
theorem zY (n:Nat):ic n [Value.bool false]=(List.replicate n false).map Value.bool:=by
 induction n with
 | zero=>rfl
 | succ n ih=>simp [ic,ih,List.replicate_succ]
def cF (l:List Term)(root:Int):Bool:=
 if(160:Int)<l.length then false else if root<0 then false else if(l.length:Int)≤root then false else(cP l (root.toNat+1) root 1 (List.replicate l.length false)).1
theorem m6 {l:List Term}{root:Int}(h:decide ((160:Int)<l.length)=true):cF l root=false:=by unfold cF;rw [if_pos (of_decide_eq_true h)]
theorem m5 {l:List Term}{root:Int}(h:decide (root<0)=true):cF l root=false:=by
 unfold cF;split
 ·rfl
 ·rw [if_pos (of_decide_eq_true h)]
theorem m4 {l:List Term}{root:Int}(h:(l.length:Int)≤root):cF l root=false:=by
 unfold cF;split
 ·rfl
 ·split
  ·rfl
  ·first | rfl | rw [if_pos h]
theorem mayB_in {l:List Term}{root:Int}(h1:decide ((160:Int)<l.length)=false)(h2:decide (root<0)=false)(h3:¬(l.length:Int)≤root):(l.length:Int)≤160∧0≤root∧root<l.length:=by
 have:=of_decide_eq_false h1;have:=of_decide_eq_false h2;omega
theorem ot {l:List Term}{root:Int}(h:(l.length:Int)≤160∧0≤root∧root<l.length):cF l root=(cP l (root.toNat+1) root 1 (List.replicate l.length false)).1:=by
 unfold cF;rw [if_neg om,if_neg om,if_neg om]
end Go.Sx
namespace Go.Sx
open Go
def Tr (l:List Term):Nat→Int→Prop
 | 0,_=>False
 | f+1,at_=>0≤at_∧∃t,l[at_.toNat]? =some t∧0≤ak t.kind∧bF t=true∧(1≤ak t.kind→Tr l f t.l)∧(ak t.kind<1→t.l= -1)∧(2≤ak t.kind→Tr l f t.r)∧(ak t.kind<2→t.r= -1)
def EL (t:Term):Bool:=if t.kind=0 then au t.name else decide (t.name=[])
def numB (t:Term):Bool:=decide (t.n=0)||(decide (t.kind=1)||(decide (t.kind=2)&&decide (t.n=1)))
def DR (t:Term):Bool:=decide (t.text=[])||(decide (t.kind=3)&&decide ((t.text.length:Int)≤24))
def E4 (t:Term):Bool:=decide (ak t.kind<0)||((decide (ak t.kind<2)&& !decide (t.r= -1))||(decide (ak t.kind<1)&& !decide (t.l= -1)))
def jN (t:Term):Bool:=!E4 t&&(EL t&&(numB t&&DR t))
def dR (d:List Int)(i at_:Int):Option (List Int):=
 if at_<0∨i≤at_∨0<d[at_.toNat]?.getD 0 then none else some (d.set at_.toNat (d[i.toNat]?.getD 0+1))
def eT (d:List Int)(i:Int)(t:Term):Option (List Int):=
 if ak t.kind≤0 then some d else match dR d i t.l with
  | none=>none
  | some d1=>if ak t.kind≤1 then some d1 else dR d1 i t.r
def dA (l:List Term)(i:Int)(d:List Int):Option (List Int):=
 if d[i.toNat]?.getD 0=0 then some d else match l[i.toNat]? with
  | none=>none
  | some t=>if jN t=false∨24<d[i.toNat]?.getD 0 then none else eT d i t
def eJ (l:List Term):Nat→List Int→Option (List Int)
 | 0,d=>some d
 | n+1,d=>match dA l n d with
  | none=>none
  | some d'=>eJ l n d'
def iA (l:List Term)(root:Int):Option (List Int):=
 if(160:Int)<l.length∨root<0∨(l.length:Int)≤root then none else eJ l (root+1).toNat ((List.replicate l.length 0).set root.toNat 1)
theorem treeS_F {l:List Term}{root:Int}(h:(160:Int)<l.length∨root<0∨(l.length:Int)≤root):iA l root=none:=by unfold iA;rw [if_pos h]
theorem treeS_T {l:List Term}{root:Int}(h:(l.length:Int)≤160∧0≤root∧root<l.length):iA l root=eJ l (root+1).toNat ((List.replicate l.length 0).set root.toNat 1):=by unfold iA;rw [if_neg om]
theorem zR {l:List Term}{i:Int}{d:List Int}(h:d[i.toNat]?.getD 0=0):dA l i d=some d:=by unfold dA;rw [if_pos h]
theorem zQ {l:List Term}{i:Int}{d:List Int}{t:Term}(hx:l[i.toNat]? =some t)(h:¬d[i.toNat]?.getD 0=0)(ha:jN t=false∨24<d[i.toNat]?.getD 0):dA l i d=none:=by unfold dA;rw [if_neg h];simp only [hx];rw [if_pos ha]
theorem zP {l:List Term}{i:Int}{d:List Int}{t:Term}(hx:l[i.toNat]? =some t)(h:¬d[i.toNat]?.getD 0=0)(ha:jN t=true)(h24:¬24<d[i.toNat]?.getD 0):dA l i d=eT d i t:=by
 unfold dA;rw [if_neg h];simp only [hx];rw [if_neg (by simp [ha];omega)]
theorem B2 {d:List Int}{i:Int}{t:Term}(h:ak t.kind≤0):eT d i t=some d:=by unfold eT;rw [if_pos h]
theorem B0 {d:List Int}{i:Int}{t:Term}(h:¬ak t.kind≤0)(h1:dR d i t.l=none):eT d i t=none:=by unfold eT;rw [if_neg h,h1]
theorem B1 {d d1:List Int}{i:Int}{t:Term}(h:¬ak t.kind≤0)(h1:dR d i t.l=some d1)(h2:ak t.kind≤1):eT d i t=some d1:=by unfold eT;rw [if_neg h,h1];simp only;rw [if_pos h2]
theorem uV {d d1:List Int}{i:Int}{t:Term}{r:Option (List Int)}(h:¬ak t.kind≤0)(h1:dR d i t.l=some d1)(h2:¬ak t.kind≤1)(h3:dR d1 i t.r=r):eT d i t=r:=by unfold eT;rw [if_neg h,h1];simp only;rw [if_neg h2,h3]
theorem yB {d:List Int}{i at_:Int}(h:at_<0∨i≤at_∨0<d[at_.toNat]?.getD 0):dR d i at_=none:=by unfold dR;rw [if_pos h]
theorem yA {d:List Int}{i at_:Int}(h1:¬at_<0)(h2:¬i≤at_)(h3:¬0<d[at_.toNat]?.getD 0):dR d i at_=some (d.set at_.toNat (d[i.toNat]?.getD 0+1)):=by unfold dR;rw [if_neg om]
theorem jz {d:List Int}{i j:Nat}{x:Int}(h:j≠i):(d.set j x)[i]?.getD 0=d[i]?.getD 0:=by simp [h]
def Nn (d:List Int):Prop:=∀i:Nat,0≤d[i]?.getD 0
theorem tq {d:List Int}{j:Nat}{x:Int}(h:Nn d)(hx:0≤x):Nn (d.set j x):=by
 intro i
 rw [List.getElem?_set]
 split
 ·split
  ·simpa using hx
  ·simp
 ·exact h i
theorem tj (n r:Nat):Nn ((List.replicate n 0).set r 1):=tq (fun i=>by rw [List.getElem?_replicate];split<;>simp) om
end Go.Sx
namespace Go.Sx
open Go
theorem mayW_Tr {l:List Term}:∀(f:Nat) (at_ deep:Int) (met:List Bool),0≤at_→(cP l f at_ deep met).1=true→Tr l f at_:=by
 intro f
 induction f with
 | zero=>intro at_ deep met _ h;simp [cP] at h
 | succ f ih=>
  intro at_ deep met h0 h
  cases hx:l[at_.toNat]? with
  | none=>simp [cP,hx] at h
  | some t=>
   by_cases hg:met[at_.toNat]?.getD false=true∨24<deep∨ak t.kind<0∨bF t=false
   ·rw [su hx hg] at h;cases h
   ·have hgg:zI deep met at_ t:=by
     refine⟨?_,?_,?_,?_⟩
     ·cases hb:met[at_.toNat]?.getD false with
      | false=>rfl
      | true=>exact absurd (.inl hb) hg
     ·intro h1;exact hg (.inr (.inl h1))
     ·intro h1;exact hg (.inr (.inr (.inl h1)))
     ·cases hb:bF t with
      | true=>rfl
      | false=>exact absurd (.inr (.inr (.inr hb))) hg
    generalize h00:opW (ak t.kind) at_ (fun to m=>cP l f to (deep+1) m) 0 t.l (met.set at_.toNat true)=r0
    obtain⟨b0,m0⟩:=r0
    cases b0 with
    | false=>rw [sx hx hgg h00] at h;cases h
    | true=>
     generalize h11:opW (ak t.kind) at_ (fun to m=>cP l f to (deep+1) m) 1 t.r m0=r1
     rw [ku hx hgg h00 h11] at h
     have key:∀(i to:Int) (m m':List Bool),opW (ak t.kind) at_ (fun to m=>cP l f to (deep+1) m) i to m=(true,m')→(i<ak t.kind→Tr l f to)∧(ak t.kind≤i→to= -1):=by
      intro i to m m' he
      refine⟨fun hi=>?_,fun hi=>?_⟩
      ·by_cases hb:to<0∨at_≤to
       ·rw [p9 om hb] at he;cases he
       ·rw [p8 om om om] at he
        exact ih to (deep+1) m om (by rw [he])
      ·rw [wH hi] at he
       simpa using congrArg Prod.fst he
     have k0:=key 0 t.l _ _ h00
     have k1:=key 1 t.r _ r1.2 (by rw [h11];cases r1;simp at h;simp [h])
     exact⟨h0,t,hx,by have:=hgg.2.2.1;omega,hgg.2.2.2,fun h=>k0.1 om,fun h=>k0.2 om,fun h=>k1.1 om,fun h=>k1.2 om⟩
theorem mZ {l:List Term}{root:Int}(h:cF l root=true):Tr l (root.toNat+1) root:=by
 unfold cF at h
 split at h
 ·cases h
 ·split at h
  ·cases h
  ·split at h
   ·cases h
   ·exact mayW_Tr _ _ _ _ om h
end Go.Sx
namespace Go.Sx
open Go
section
variable {l:List Term}{env:List Typing}{f:Nat}{at_:Int}{t:Term}(hx:l[at_.toNat]? =some t)
include hx
end
def okT (t:Term)(at_ deep:Int):Bool:=
 (decide (0≤ak t.kind)&&bF t)&&((decide (deep≤24))&&
 ((if ak t.kind<1 then decide (t.l= -1) else decide (0≤t.l)&&decide (t.l<at_))&&(if ak t.kind<2 then decide (t.r= -1) else decide (0≤t.r)&&decide (t.r<at_))))
def cf (l:List Term):Nat→Nat→Int→Option (List Nat)
 | 0,_,_=>none
 | f+1,at_,deep=>match l[at_]? with
  | none=>none
  | some t=>if okT t at_ deep=false then none else
   match(if ak t.kind<1 then some [] else cf l f t.l.toNat (deep+1)) with
   | none=>none
   | some p=>match(if ak t.kind<2 then some [] else cf l f t.r.toNat (deep+1)) with
    | none=>none
    | some q=>some (at_::(p++q))
theorem sd {t:Term}{at_ deep:Int}(h:okT t at_ deep=true)(hk:¬ak t.kind<1):0≤t.l∧t.l<at_:=by
 unfold okT at h
 simp only [Bool.and_eq_true] at h
 have:=h.2.2.1
 rw [if_neg hk] at this
 simpa using this
theorem r7 {t:Term}{at_ deep:Int}(h:okT t at_ deep=true)(hk:¬ak t.kind<2):0≤t.r∧t.r<at_:=by
 unfold okT at h
 simp only [Bool.and_eq_true] at h
 have:=h.2.2.2
 rw [if_neg hk] at this
 simpa using this
theorem cS {l:List Term}{f at_:Nat}{deep:Int}{p:List Nat}(h:cf l (f+1) at_ deep=some p):∃t p0 q0,l[at_]? =some t∧okT t at_ deep=true∧
  (if ak t.kind<1 then some [] else cf l f t.l.toNat (deep+1))=some p0∧(if ak t.kind<2 then some [] else cf l f t.r.toNat (deep+1))=some q0∧p=at_::(p0++q0):=by
 simp only [cf] at h
 cases hx:l[at_]? with
 | none=>rw [hx] at h;cases h
 | some t=>
  rw [hx] at h
  simp only at h
  cases hok:okT t at_ deep with
  | false=>rw [hok] at h;simp at h
  | true=>
   rw [hok] at h
   simp only [Bool.true_eq_false,if_false] at h
   cases h0:(if ak t.kind<1 then some [] else cf l f t.l.toNat (deep+1)) with
   | none=>rw [h0] at h;cases h
   | some p0=>
    rw [h0] at h
    simp only at h
    cases h1:(if ak t.kind<2 then some [] else cf l f t.r.toNat (deep+1)) with
    | none=>rw [h1] at h;cases h
    | some q0=>
     rw [h1] at h
     simp only [Option.some.injEq] at h
     exact⟨t,p0,q0,rfl,hok,h0,h1,h.symm⟩
theorem kP {l:List Term}{f at_:Nat}{deep:Int}{t:Term}{p0 q0:List Nat}(hx:l[at_]? =some t)(hok:okT t at_ deep=true)
  (h0:(if ak t.kind<1 then some [] else cf l f t.l.toNat (deep+1))=some p0) (h1:(if ak t.kind<2 then some [] else cf l f t.r.toNat (deep+1))=some q0):cf l (f+1) at_ deep=some (at_::(p0++q0)):=by
 simp only [cf,hx,hok,h0,h1]
 simp
theorem pZ {l:List Term}:∀(f at_:Nat) (deep:Int) (p:List Nat),cf l f at_ deep=some p→∀x∈p,x≤at_:=by
 intro f
 induction f with
 | zero=>intro at_ deep p h;simp [cf] at h
 | succ f ih=>
  intro at_ deep p h
  obtain⟨t,p0,q0,hx,hok,h0,h1,rfl⟩:=cS h
  intro x hx'
  rcases List.mem_cons.1 hx' with rfl | hx'
  ·exact Nat.le_refl _
  rcases List.mem_append.1 hx' with hx' | hx'
  ·split at h0
   ·simp only [Option.some.injEq] at h0;subst h0;cases hx'
   ·rename_i hk
    have:=sd hok hk
    have:=ih _ _ _ h0 x hx'
    omega
  ·split at h1
   ·simp only [Option.some.injEq] at h1;subst h1;cases hx'
   ·rename_i hk
    have:=r7 hok hk
    have:=ih _ _ _ h1 x hx'
    omega
theorem f6 {l:List Term}{f at_:Nat}{deep:Int}{p:List Nat}(h:cf l f at_ deep=some p):at_∈p:=by
 cases f with
 | zero=>simp [cf] at h
 | succ f=>obtain⟨t,p0,q0,hx,hok,h0,h1,rfl⟩:=cS h;simp
theorem vm {l:List Term}:∀(f g at_:Nat) (deep:Int),at_<f→at_<g→cf l f at_ deep=cf l g at_ deep:=by
 intro f
 induction f with
 | zero=>intro g at_ deep h;omega
 | succ f ih=>
  intro g at_ deep hf hg
  cases g with
  | zero=>omega
  | succ g=>
   simp only [cf]
   cases hx:l[at_]? with
   | none=>rfl
   | some t=>
    simp only
    cases hok:okT t at_ deep with
    | false=>simp
    | true=>
     simp only [Bool.true_eq_false,if_false]
     have e0:(if ak t.kind<1 then some [] else cf l f t.l.toNat (deep+1))=(if ak t.kind<1 then some [] else cf l g t.l.toNat (deep+1)):=by
      split
      ·rfl
      ·rename_i hk;have:=sd hok hk;exact ih g _ _ om om
     have e1:(if ak t.kind<2 then some [] else cf l f t.r.toNat (deep+1))=(if ak t.kind<2 then some [] else cf l g t.r.toNat (deep+1)):=by
      split
      ·rfl
      ·rename_i hk;have:=r7 hok hk;exact ih g _ _ om om
     rw [e0,e1]
def tu (met:List Bool)(p:List Nat):Prop:=∀x∈p,met[x]?.getD false=false
theorem im {met:List Bool}{i y:Nat}(h:i<met.length):(met.set i true)[y]?.getD false=(met[y]?.getD false||decide (y=i)):=by
 by_cases hy:y=i
 ·subst hy;simp [h]
 ·simp [hy,List.getElem?_set,Ne.symm hy]
theorem EF {t:Term}{at_ deep:Int}(h1:0≤ak t.kind)(h2:bF t=true)(h3:deep≤24)(h4:ak t.kind<1→t.l= -1)(h5:¬ak t.kind<1→0≤t.l∧t.l<at_)
  (h6:ak t.kind<2→t.r= -1) (h7:¬ak t.kind<2→0≤t.r∧t.r<at_):okT t at_ deep=true:=by
 unfold okT
 simp only [Bool.and_eq_true,decide_eq_true_eq]
 refine⟨⟨h1,h2⟩,h3,?_,?_⟩
 ·split
  ·rename_i h;simpa using h4 h
  ·rename_i h;simpa using h5 h
 ·split
  ·rename_i h;simpa using h6 h
  ·rename_i h;simpa using h7 h
theorem EO {l : List Term} : ∀ (f : Nat) (at_ deep : Int) (met : List Bool), 0 ≤ at_ → at_ < l.length → at_.toNat < f → met.length = l.length →
  ((∃ p, cf l f at_.toNat deep = some p ∧ p.Nodup ∧ tu met p) → (cP l f at_ deep met).1 = true) ∧
  ((cP l f at_ deep met).1 = true → ∃ p, cf l f at_.toNat deep = some p ∧ p.Nodup ∧ tu met p ∧ (∀ y, (cP l f at_ deep met).2[y]?.getD false = (met[y]?.getD false || decide (y ∈ p))) ∧ (cP l f at_ deep met).2.length = l.length) := by
 intro f
 induction f with
 | zero => intro at_ deep met h0 h1 h2; omega
 | succ f ih =>
  intro at_ deep met h0 h1 hf hlen
  obtain ⟨t, hx⟩ := ao h0 h1
  have hlt : at_.toNat < met.length := by omega
  have hcast : ((at_.toNat : Nat) : Int) = at_ := Int.toNat_of_nonneg h0
  by_cases hg : zI deep met at_ t
  ·obtain ⟨g1, g2, g3, g4⟩ := hg
   have hgg : zI deep met at_ t := ⟨g1, g2, g3, g4⟩
   -- one operand
   have op : ∀ (i to : Int) (m : List Bool), m.length = l.length → i < 2 → 0 ≤ i → (0 ≤ to → to < at_ → ak t.kind > i →
     ((∃ p, cf l f to.toNat (deep + 1) = some p ∧ p.Nodup ∧ tu m p) → (cP l f to (deep + 1) m).1 = true) ∧
     ((cP l f to (deep + 1) m).1 = true → ∃ p, cf l f to.toNat (deep + 1) = some p ∧ p.Nodup ∧ tu m p ∧ (∀ y, (cP l f to (deep + 1) m).2[y]?.getD false = (m[y]?.getD false || decide (y ∈ p))) ∧ (cP l f to (deep + 1) m).2.length = l.length)) :=
    fun i to m hm _ _ ht0 ht1 _ => ih to (deep + 1) m ht0 om om hm
   have side : ∀ (i to : Int) (m : List Bool), m.length = l.length → 0 ≤ i → i < 2 →
     (((ak t.kind < i + 1 → to = -1) ∧ (¬ ak t.kind < i + 1 → 0 ≤ to ∧ to < at_) ∧ ∃ p, (if ak t.kind < i + 1 then some [] else cf l f to.toNat (deep + 1)) = some p ∧ p.Nodup ∧ tu m p) → (opW (ak t.kind) at_ (fun to m => cP l f to (deep + 1) m) i to m).1 = true) ∧
     ((opW (ak t.kind) at_ (fun to m => cP l f to (deep + 1) m) i to m).1 = true → (ak t.kind < i + 1 → to = -1) ∧ (¬ ak t.kind < i + 1 → 0 ≤ to ∧ to < at_) ∧
      ∃ p, (if ak t.kind < i + 1 then some [] else cf l f to.toNat (deep + 1)) = some p ∧ p.Nodup ∧ tu m p ∧ (∀ y, (opW (ak t.kind) at_ (fun to m => cP l f to (deep + 1) m) i to m).2[y]?.getD false = (m[y]?.getD false || decide (y ∈ p))) ∧ (opW (ak t.kind) at_ (fun to m => cP l f to (deep + 1) m) i to m).2.length = l.length) := by
    intro i to m hm hi0 hi2
    by_cases hk : ak t.kind ≤ i
    ·rw [wH hk]
     have hk' : ak t.kind < i + 1 := by omega
     refine ⟨fun h => by simpa using h.1 hk', fun h => ⟨fun _ => by simpa using h, fun hn => absurd hk' hn, [], by rw [if_pos hk'], List.nodup_nil, by simp [tu], by simp, hm⟩⟩
    ·have hk' : ¬ ak t.kind < i + 1 := by omega
     by_cases hb : to < 0 ∨ at_ ≤ to
     ·rw [p9 hk hb]
      refine ⟨fun h => ?_, fun h => by cases h⟩
      have := h.2.1 hk'
      omega
     ·rw [p8 hk om om]
      have hh := op i to m hm hi2 hi0 om om om
      refine ⟨fun h => ?_, fun h => ?_⟩
      ·obtain ⟨_, _, p, h1, h2, h3⟩ := h
       rw [if_neg hk'] at h1
       exact hh.1 ⟨p, h1, h2, h3⟩
      ·obtain ⟨p, h1, h2, h3, h4, h5⟩ := hh.2 h
       exact ⟨fun hn => absurd hn hk', fun _ => by omega, p, by rw [if_neg hk']; exact h1, h2, h3, h4, h5⟩
   have hm1 : (met.set at_.toNat true).length = l.length := by simp [hlen]
   have s0 := side 0 t.l (met.set at_.toNat true) hm1 om om
   generalize h00 : opW (ak t.kind) at_ (fun to m => cP l f to (deep + 1) m) 0 t.l (met.set at_.toNat true) = r0 at s0
   obtain ⟨b0, m0⟩ := r0
   simp only [Int.zero_add] at s0
   constructor
   ·rintro ⟨p, hp, hnd, hcl⟩
    obtain ⟨t', p0, q0, hx', hok, e0, e1, rfl⟩ := cS hp
    obtain rfl : t = t' := by rw [hx] at hx'; exact Option.some.inj hx'
    rw [hcast] at hok
    simp only [List.nodup_cons, List.nodup_append, List.mem_append, not_or] at hnd
    obtain ⟨⟨n1, n2⟩, n3, n4, n5⟩ := hnd
    have ok' := hok
    unfold okT at ok'
    simp only [Bool.and_eq_true, decide_eq_true_eq] at ok'
    have hb0 : b0 = true := by
     refine s0.1 ⟨fun hk => ?_, fun hk => sd hok hk, p0, e0, n3, fun x hxp => ?_⟩
     ·have := ok'.2.2.1; rw [if_pos hk] at this; simpa using this
     ·rw [im hlt]
      have hne : x ≠ at_.toNat := fun e => n1 (e ▸ hxp)
      simp [hne, hcl x (by simp [hxp])]
    subst hb0
    obtain ⟨_, _, p0', e0', _, _, hm0, hl0⟩ := s0.2 rfl
    obtain rfl : p0 = p0' := by rw [e0] at e0'; exact Option.some.inj e0'
    have s1 := side 1 t.r m0 hl0 om om
    simp only [show (1 : Int) + 1 = 2 from rfl] at s1
    rw [ku hx hgg h00 rfl]
    refine s1.1 ⟨fun hk => ?_, fun hk => r7 hok hk, q0, e1, n4, fun x hxq => ?_⟩
    ·have := ok'.2.2.2; rw [if_pos hk] at this; simpa using this
    ·rw [hm0, im hlt]
     have hne : x ≠ at_.toNat := fun e => n2 (e ▸ hxq)
     have hnp : x ∉ p0 := fun hxp => n5 x hxp x hxq rfl
     simp [hne, hnp, hcl x (by simp [hxq])]
   ·intro hb
    cases b0 with
    | false => rw [sx hx hgg h00] at hb; cases hb
    | true =>
     obtain ⟨a1, a2, p0, e0, n3, c0, hm0, hl0⟩ := s0.2 rfl
     have s1 := side 1 t.r m0 hl0 om om
     simp only [show (1 : Int) + 1 = 2 from rfl] at s1
     rw [ku hx hgg h00 rfl] at hb ⊢
     obtain ⟨a3, a4, q0, e1, n4, c1, hm2, hl2⟩ := s1.2 hb
     have hok : okT t at_.toNat deep = true := by
      rw [hcast]; exact EF om g4 om a1 a2 a3 a4
     have hat0 : at_.toNat ∉ p0 := fun hh => by
      have := c0 _ hh; rw [im hlt] at this; simp at this
     have hat1 : at_.toNat ∉ q0 := fun hh => by
      have := c1 _ hh; rw [hm0, im hlt] at this; simp at this
     refine ⟨at_.toNat :: (p0 ++ q0), kP hx hok e0 e1, ?_, ?_, ?_, hl2⟩
     ·simp only [List.nodup_cons, List.nodup_append, List.mem_append, not_or]
      refine ⟨⟨hat0, hat1⟩, n3, n4, fun x hxp y hyq e => ?_⟩
      subst e
      have := c1 x hyq
      rw [hm0] at this
      simp [hxp] at this
     ·intro x hxp
      rcases List.mem_cons.1 hxp with rfl | hxp
      ·exact g1
      rcases List.mem_append.1 hxp with hxp | hxp
      ·have := c0 x hxp; rw [im hlt] at this; simp at this; exact this.1
      ·have := c1 x hxp; rw [hm0, im hlt] at this; simp at this; exact this.1.1
     ·intro y
      rw [hm2, hm0, im hlt]
      simp only [List.mem_cons, List.mem_append, Bool.or_assoc]
      congr 1
      rw [Bool.eq_iff_iff]
      simp
  ·have hbad : met[at_.toNat]?.getD false = true ∨ 24 < deep ∨ ak t.kind < 0 ∨ bF t = false := by
    by_cases a1 : met[at_.toNat]?.getD false = true
    ·exact .inl a1
    by_cases a2 : 24 < deep
    ·exact .inr (.inl a2)
    by_cases a3 : ak t.kind < 0
    ·exact .inr (.inr (.inl a3))
    by_cases a4 : bF t = false
    ·exact .inr (.inr (.inr a4))
    exact absurd ⟨by simpa using a1, a2, a3, by simpa using a4⟩ hg
   rw [su hx hbad]
   refine ⟨fun h => ?_, fun h => by cases h⟩
   obtain ⟨p, hp, hnd, hcl⟩ := h
   obtain ⟨t', p0, q0, hx', hok, e0, e1, rfl⟩ := cS hp
   obtain rfl : t = t' := by rw [hx] at hx'; exact Option.some.inj hx'
   unfold okT at hok
   simp only [Bool.and_eq_true, decide_eq_true_eq] at hok
   have hself := hcl at_.toNat sq
   rcases hbad with h | h | h | h
   ·rw [hself] at h; cases h
   ·omega
   ·omega
   ·rw [hok.1.2] at h; cases h
theorem Bz {l:List Term}{root:Int}(hr:0≤root∧root<l.length):(cP l (root.toNat+1) root 1 (List.replicate l.length false)).1=true↔∃p,cf l (root.toNat+1) root.toNat 1=some p∧p.Nodup:=by
 have h:=EO (l:=l) (root.toNat+1) root 1 (List.replicate l.length false) hr.1 hr.2 om sq
 constructor
 ·intro hb
  obtain⟨p,h1,h2,_⟩:=h.2 hb
  exact⟨p,h1,h2⟩
 ·rintro⟨p,h1,h2⟩
  exact h.1 ⟨p,h1,h2,fun x _=>by rw [List.getElem?_replicate];split<;>rfl⟩
def cc (l:List Term)(a:Nat)(v:Int)(y:Nat):Nat:=match cf l (a+1) a v with
 | some p=>p.count y
 | none=>0
def cnt (l:List Term):Nat→List Int→Nat→Nat
 | 0,_,_=>0
 | n+1,d,y=>cnt l n d y+(if d[n]?.getD 0=0 then 0 else cc l n (d[n]?.getD 0) y)
def gd (l:List Term):Nat→List Int→Prop
 | 0,_=>True
 | n+1,d=>gd l n d∧(d[n]?.getD 0=0∨(cf l (n+1) n (d[n]?.getD 0)).isSome=true)
def vY (l:List Term)(n:Nat)(d:List Int):Prop:=gd l n d∧∀y,cnt l n d y≤1
theorem Fd {l:List Term}:∀(n:Nat) (d:List Int) (y:Nat),n≤y→cnt l n d y=0
 | 0,_,_,_=>rfl
 | n+1,d,y,h=>by
  simp only [cnt,Fd n d y om,Nat.zero_add]
  split
  ·rfl
  ·unfold cc
   split
   ·rename_i p hp
    refine List.count_eq_zero.2 (fun hm=>?_)
    have:=pZ _ _ _ _ hp y hm
    omega
   ·rfl
theorem sQ {l:List Term}{a:Nat}{v:Int}{y:Nat}:∀(n:Nat) (d:List Int),n≤a→cnt l n (d.set a v) y=cnt l n d y
 | 0,_,_=>rfl
 | n+1,d,h=>by
  simp only [cnt,sQ (a:=a) (v:=v) n d om,jz (show a≠n by omega)]
theorem vG {l:List Term}{a:Nat}{v:Int}:∀(n:Nat) (d:List Int),n≤a→(gd l n (d.set a v)↔gd l n d)
 | 0,_,_=>Iff.rfl
 | n+1,d,h=>by
  simp only [gd,vG (a:=a) (v:=v) n d om,jz (show a≠n by omega)]
theorem wv {d:List Int}{a:Nat}{v:Int}(h:a<d.length):(d.set a v)[a]?.getD 0=v:=by simp [h]
theorem ni {l:List Term}{a:Nat}{v:Int}{y:Nat}:∀(n:Nat) (d:List Int),a<n→a<d.length→d[a]?.getD 0=0→0<v→cnt l n (d.set a v) y=cnt l n d y+cc l a v y
 | 0,_,h,_,_,_=>by omega
 | n+1,d,h,hl,h0,hv=>by
  by_cases ha:a=n
  ·subst ha
   simp only [cnt,sQ a d (Nat.le_refl _),wv hl,h0,if_true]
   rw [if_neg om]
   omega
  ·simp only [cnt,ni n d om hl h0 hv,jz ha]
   omega
theorem wP {l:List Term}{a:Nat}{v:Int}:∀(n:Nat) (d:List Int),a<n→a<d.length→d[a]?.getD 0=0→0<v→(gd l n (d.set a v)↔gd l n d∧(cf l (a+1) a v).isSome=true)
 | 0,_,h,_,_,_=>by omega
 | n+1,d,h,hl,h0,hv=>by
  by_cases ha:a=n
  ·subst ha
   simp only [gd,vG a d (Nat.le_refl _),wv hl,h0,true_or,and_true]
   constructor
   ·rintro⟨h1,h2⟩
    refine⟨h1,h2.resolve_left om⟩
   ·rintro⟨h1,h2⟩;exact⟨h1,.inr h2⟩
  ·simp only [gd,wP n d om hl h0 hv,jz ha]
   constructor
   ·rintro⟨⟨h1,h2⟩,h3⟩;exact⟨⟨h1,h3⟩,h2⟩
   ·rintro⟨⟨h1,h3⟩,h2⟩;exact⟨⟨h1,h2⟩,h3⟩
theorem wT {l:List Term}{a:Nat}:∀(n:Nat) (d:List Int),a<n→¬d[a]?.getD 0=0→gd l n d→1≤cnt l n d a
 | 0,_,h,_,_=>by omega
 | n+1,d,h,h0,hg=>by
  simp only [cnt]
  by_cases ha:a=n
  ·subst ha
   rw [if_neg h0]
   have:=hg.2.resolve_left h0
   obtain⟨p,hp⟩:=Option.isSome_iff_exists.1 this
   unfold cc
   rw [hp]
   have:=List.count_pos_iff.2 (f6 hp)
   simp only
   omega
  ·have:=wT n d om h0 hg.1
   omega
theorem AD {t:Term}:jN t=true↔0≤ak t.kind∧bF t=true∧(ak t.kind<1→t.l= -1)∧(ak t.kind<2→t.r= -1):=by
 have hform:E4 t=false↔0≤ak t.kind∧(ak t.kind<2→t.r= -1)∧(ak t.kind<1→t.l= -1):=by
  unfold E4
  simp only [Bool.or_eq_false_iff,Bool.and_eq_false_iff,decide_eq_false_iff_not,Bool.not_eq_false',decide_eq_true_eq]
  constructor
  ·rintro⟨h1,h2,h3⟩
   exact⟨by omega,fun h=>h2.resolve_left om,fun h=>h3.resolve_left om⟩
  ·rintro⟨h1,h2,h3⟩
   refine⟨by omega,?_,?_⟩
   ·by_cases h:ak t.kind<2
    ·exact .inr (h2 h)
    ·exact .inl h
   ·by_cases h:ak t.kind<1
    ·exact .inr (h3 h)
    ·exact .inl h
 have hf:(EL t&&(numB t&&DR t))=bF t:=by
  unfold EL numB DR bF
  by_cases k0:t.kind=0
  ·simp [k0]
  by_cases k1:t.kind=1
  ·simp [k1]
  by_cases k2:t.kind=2
  ·simp only [k2]
   simp
   by_cases a:t.name=[]<;>by_cases b:t.text=[]<;>by_cases c:t.n=0<;>by_cases e:t.n=1<;>simp [a,b,c,e]
  by_cases k3:t.kind=3
  ·simp only [k3]
   simp
   by_cases a:t.name=[]<;>by_cases b:t.text=[]<;>by_cases c:t.n=0<;>simp [a,b,c]
  ·simp [k0,k1,k2,k3]
 unfold jN
 rw [Bool.and_eq_true,hf,Bool.not_eq_true',hform]
 constructor
 ·rintro⟨⟨h1,h2,h3⟩,h4⟩;exact⟨h1,h4,h3,h2⟩
 ·rintro⟨h1,h2,h3,h4⟩;exact⟨⟨h1,h4,h3⟩,h2⟩
theorem qa {t:Term}{at_ deep:Int}:okT t at_ deep=true↔jN t=true∧deep≤24∧(¬ak t.kind<1→0≤t.l∧t.l<at_)∧(¬ak t.kind<2→0≤t.r∧t.r<at_):=by
 rw [AD]
 constructor
 ·intro h
  have ok':=h
  unfold okT at ok'
  simp only [Bool.and_eq_true,decide_eq_true_eq] at ok'
  refine⟨⟨ok'.1.1,ok'.1.2,fun hk=>?_,fun hk=>?_⟩,ok'.2.1,sd h,r7 h⟩
  ·have:=ok'.2.2.1;rw [if_pos hk] at this;simpa using this
  ·have:=ok'.2.2.2;rw [if_pos hk] at this;simpa using this
 ·rintro⟨⟨h1,h2,h3,h4⟩,h5,h6,h7⟩
  exact EF h1 h2 h5 h3 h6 h4 h7
theorem wD {l:List Term}{n:Nat}{v:Int}{t:Term}(hx:l[n]? =some t)(h:¬okT t n v=true):(cf l (n+1) n v).isSome=false:=by
 cases hp:cf l (n+1) n v with
 | none=>rfl
 | some p=>
  obtain⟨t',p0,q0,hx',hok,_⟩:=cS hp
  obtain rfl:t=t':=by rw [hx] at hx';exact Option.some.inj hx'
  exact absurd hok h
theorem scan {l:List Term}:∀(n:Nat) (d:List Int),n≤l.length→d.length=l.length→Nn d→((eJ l n d).isSome=true↔vY l n d):=by
 intro n
 induction n with
 | zero=>intro d _ _ _;exact⟨fun _=>⟨trivial,fun y=>by simp [cnt]⟩,fun _=>rfl⟩
 | succ n ih=>
  intro d hn hd hnn
  have hN:=hnn n
  simp only [eJ]
  by_cases h0:d[n]?.getD 0=0
  ·rw [zR (by simpa using h0)]
   simp only
   rw [ih d om hd hnn]
   unfold vY
   simp only [gd,cnt,h0,if_true,true_or,and_true,Nat.add_zero]
  ·obtain⟨t,hx⟩:∃t,l[n]? =some t:=⟨l[n]'om,List.getElem?_eq_getElem om⟩
   have hpos:0<d[n]?.getD 0:=by omega
   have gdN:gd l (n+1) d→(cf l (n+1) n (d[n]?.getD 0)).isSome=true:=fun h=>h.2.resolve_left h0
   by_cases hbad:jN t=false∨24<d[n]?.getD 0
   ·rw [zQ (t:=t) (by simpa using hx) (by simpa using h0) (by simpa using hbad)]
    refine⟨fun h=>(by cases h),fun h=>?_⟩
    have h1:=gdN h.1
    rw [wD hx (fun hok=>?_)] at h1
    ·cases h1
    ·rw [qa] at hok
     rcases hbad with hb | hb
     ·rw [hok.1] at hb;cases hb
     ·omega
   ·have hal:jN t=true:=by
     cases hb:jN t with
     | true=>rfl
     | false=>exact absurd (.inl hb) hbad
    have h24:¬24<d[n]?.getD 0:=fun h=>hbad (.inr h)
    rw [zP (t:=t) (by simpa using hx) (by simpa using h0) hal (by simpa using h24)]
    have hself0:cnt l n d n=0:=Fd n d n (Nat.le_refl _)
    by_cases k1:ak t.kind<1
    ·rw [B2 om]
     simp only
     rw [ih d om hd hnn]
     have hok:okT t n (d[n]?.getD 0)=true:=qa.2 ⟨hal,by omega,fun h=>absurd k1 h,fun h=>absurd om h⟩
     have hp:cf l (n+1) n (d[n]?.getD 0)=some (n::([]++[])):=kP hx hok (by rw [if_pos k1]) (by rw [if_pos om])
     have hc:∀y,cnt l (n+1) d y=cnt l n d y+[n].count y:=fun y=>by
      simp only [cnt,if_neg h0];unfold cc;rw [hp];simp
     unfold vY
     constructor
     ·rintro⟨a,b⟩
      refine⟨⟨a,.inr (by rw [hp];rfl)⟩,fun y=>?_⟩
      rw [hc]
      by_cases hy:y=n
      ·subst hy;rw [hself0];simp
      ·have:[n].count y=0:=List.count_eq_zero.2 (by simpa using hy)
       have:=b y;omega
     ·rintro⟨a,b⟩
      exact⟨a.1,fun y=>by have:=b y;rw [hc] at this;omega⟩
    ·have k1':¬ak t.kind≤0:=by omega
     by_cases hb1:t.l<0∨(n:Int)≤t.l∨0<d[t.l.toNat]?.getD 0
     ·rw [B0 k1' (yB hb1)]
      refine⟨fun h=>(by cases h),fun h=>?_⟩
      have h1:=gdN h.1
      obtain⟨p,hp⟩:=Option.isSome_iff_exists.1 h1
      obtain⟨t',p0,q0,hx',hok,e0,e1,rfl⟩:=cS hp
      obtain rfl:t=t':=by rw [hx] at hx';exact Option.some.inj hx'
      have hl:=sd hok k1
      rw [if_neg k1] at e0
      have hpos':=hb1.resolve_left om |>.resolve_left om
      have c1:=wT (l:=l) n d (a:=t.l.toNat) om om h.1.1
      have c2:=h.2 t.l.toNat
      simp only [cnt,if_neg h0] at c2
      unfold cc at c2
      rw [hp] at c2
      have hm:1≤(n::(p0++q0)).count t.l.toNat:=List.count_pos_iff.2 (by simp [f6 e0])
      simp only at c2
      omega
     ·have b1:¬t.l<0:=fun h=>hb1 (.inl h)
      have b2:¬(n:Int)≤t.l:=fun h=>hb1 (.inr (.inl h))
      have b3:¬0<d[t.l.toNat]?.getD 0:=fun h=>hb1 (.inr (.inr h))
      have b3':d[t.l.toNat]?.getD 0=0:=by have:=hnn t.l.toNat;omega
      have o1:=yA (d:=d) (i:=(n:Int)) b1 b2 b3
      simp only [Int.toNat_natCast] at o1
      have hln:t.l.toNat<n:=by omega
      have hl1:(d.set t.l.toNat (d[n]?.getD 0+1)).length=l.length:=by simp [hd]
      have hnn1:Nn (d.set t.l.toNat (d[n]?.getD 0+1)):=tq hnn om
      have cs1:∀y,cnt l n (d.set t.l.toNat (d[n]?.getD 0+1)) y=cnt l n d y+cc l t.l.toNat (d[n]?.getD 0+1) y:=fun y=>ni n d hln om b3' om
      have gs1:=wP (l:=l) (v:=d[n]?.getD 0+1) n d hln om b3' om
      have fu1:cf l n t.l.toNat (d[n]?.getD 0+1)=cf l (t.l.toNat+1) t.l.toNat (d[n]?.getD 0+1):=vm _ _ _ _ hln om
      by_cases k2:ak t.kind<2
      ·rw [B1 k1' o1 om]
       simp only
       rw [ih _ om hl1 hnn1]
       have hok:okT t n (d[n]?.getD 0)=true:=qa.2 ⟨hal,by omega,fun _=>by omega,fun h=>absurd k2 h⟩
       unfold vY
       rw [gs1]
       cases hp0:cf l (t.l.toNat+1) t.l.toNat (d[n]?.getD 0+1) with
       | none=>
        refine⟨fun h=>by simp at h,fun h=>?_⟩
        have h1:=gdN h.1
        obtain⟨p,hp⟩:=Option.isSome_iff_exists.1 h1
        obtain⟨t',p0,q0,hx',_,e0,e1,rfl⟩:=cS hp
        obtain rfl:t=t':=by rw [hx] at hx';exact Option.some.inj hx'
        rw [if_neg k1,fu1,hp0] at e0
        cases e0
       | some p0=>
        have hp:cf l (n+1) n (d[n]?.getD 0)=some (n::(p0++[])):=kP hx hok (by rw [if_neg k1,fu1,hp0]) (by rw [if_pos k2])
        have hc:∀y,cnt l (n+1) d y=cnt l n d y+(n::(p0++[])).count y:=fun y=>by
         simp only [cnt,if_neg h0];unfold cc;rw [hp]
        have hc0:∀y,cc l t.l.toNat (d[n]?.getD 0+1) y=p0.count y:=fun y=>by unfold cc;rw [hp0]
        have hn0:p0.count n=0:=List.count_eq_zero.2 (fun hm=>by have:=pZ _ _ _ _ hp0 n hm;omega)
        constructor
        ·rintro⟨⟨a,_⟩,b⟩
         refine⟨⟨a,.inr (by rw [hp];rfl)⟩,fun y=>?_⟩
         have:=b y
         rw [cs1,hc0] at this
         rw [hc]
         by_cases hy:y=n
         ·subst hy;simp [hself0,hn0]
         ·simp only [List.append_nil,List.count_cons,beq_iff_eq,Ne.symm hy,if_false];omega
        ·rintro⟨a,b⟩
         refine⟨⟨a.1,rfl⟩,fun y=>?_⟩
         have:=b y
         rw [hc] at this
         simp only [List.append_nil,List.count_cons] at this
         rw [cs1,hc0]
         omega
      ·by_cases hb2:t.r<0∨(n:Int)≤t.r∨0<(d.set t.l.toNat (d[n]?.getD 0+1))[t.r.toNat]?.getD 0
       ·rw [uV k1' o1 om (yB hb2)]
        refine⟨fun h=>(by cases h),fun h=>?_⟩
        have h1:=gdN h.1
        obtain⟨p,hp⟩:=Option.isSome_iff_exists.1 h1
        obtain⟨t',p0,q0,hx',hok,e0,e1,rfl⟩:=cS hp
        obtain rfl:t=t':=by rw [hx] at hx';exact Option.some.inj hx'
        have hr:=r7 hok k2
        rw [if_neg k1] at e0
        rw [if_neg k2] at e1
        have hpos':=hb2.resolve_left om |>.resolve_left om
        have c2:=h.2 t.r.toNat
        simp only [cnt,if_neg h0] at c2
        unfold cc at c2
        rw [hp] at c2
        simp only [List.count_cons,List.count_append] at c2
        have hm:1≤q0.count t.r.toNat:=List.count_pos_iff.2 (f6 e1)
        by_cases he:t.l.toNat=t.r.toNat
        ·have hm':1≤p0.count t.r.toNat:=List.count_pos_iff.2 (he▸f6 e0)
         omega
        ·rw [jz he] at hpos'
         have c1:=wT (l:=l) n d (a:=t.r.toNat) om om h.1.1
         omega
       ·have b4:¬t.r<0:=fun h=>hb2 (.inl h)
        have b5:¬(n:Int)≤t.r:=fun h=>hb2 (.inr (.inl h))
        have b6:¬0<(d.set t.l.toNat (d[n]?.getD 0+1))[t.r.toNat]?.getD 0:=fun h=>hb2 (.inr (.inr h))
        have b6':(d.set t.l.toNat (d[n]?.getD 0+1))[t.r.toNat]?.getD 0=0:=by have:=hnn1 t.r.toNat;omega
        have o2:=yA (d:=d.set t.l.toNat (d[n]?.getD 0+1)) (i:=(n:Int)) b4 b5 b6
        simp only [Int.toNat_natCast,jz (show t.l.toNat≠n by omega)] at o2
        have hrn:t.r.toNat<n:=by omega
        rw [uV k1' o1 om o2]
        simp only
        rw [ih _ om (by simp [hd]) (tq hnn1 om)]
        have cs2:∀y,cnt l n ((d.set t.l.toNat (d[n]?.getD 0+1)).set t.r.toNat (d[n]?.getD 0+1)) y=cnt l n d y+cc l t.l.toNat (d[n]?.getD 0+1) y+cc l t.r.toNat (d[n]?.getD 0+1) y:=fun y=>by
         rw [ni n _ hrn om b6' om,cs1]
        have gs2:=wP (l:=l) (v:=d[n]?.getD 0+1) n (d.set t.l.toNat (d[n]?.getD 0+1)) hrn om b6' om
        have fu2:cf l n t.r.toNat (d[n]?.getD 0+1)=cf l (t.r.toNat+1) t.r.toNat (d[n]?.getD 0+1):=vm _ _ _ _ hrn om
        have hok:okT t n (d[n]?.getD 0)=true:=qa.2 ⟨hal,by omega,fun _=>by omega,fun _=>by omega⟩
        unfold vY
        rw [gs2,gs1]
        have hno:(cf l (t.l.toNat+1) t.l.toNat (d[n]?.getD 0+1)=none∨cf l (t.r.toNat+1) t.r.toNat (d[n]?.getD 0+1)=none)→¬gd l (n+1) d:=by
         intro hh hg
         obtain⟨p,hp⟩:=Option.isSome_iff_exists.1 (gdN hg)
         obtain⟨t',p0,q0,hx',_,e0,e1,rfl⟩:=cS hp
         obtain rfl:t=t':=by rw [hx] at hx';exact Option.some.inj hx'
         rw [if_neg k1,fu1] at e0
         rw [if_neg k2,fu2] at e1
         rcases hh with hh | hh
         ·rw [hh] at e0;cases e0
         ·rw [hh] at e1;cases e1
        cases hp0:cf l (t.l.toNat+1) t.l.toNat (d[n]?.getD 0+1) with
        | none=>exact⟨fun h=>by simp at h,fun h=>absurd h.1 (hno (.inl hp0))⟩
        | some p0=>
         cases hq0:cf l (t.r.toNat+1) t.r.toNat (d[n]?.getD 0+1) with
         | none=>exact⟨fun h=>by simp at h,fun h=>absurd h.1 (hno (.inr hq0))⟩
         | some q0=>
          have hp:cf l (n+1) n (d[n]?.getD 0)=some (n::(p0++q0)):=kP hx hok (by rw [if_neg k1,fu1,hp0]) (by rw [if_neg k2,fu2,hq0])
          have hc:∀y,cnt l (n+1) d y=cnt l n d y+(n::(p0++q0)).count y:=fun y=>by
           simp only [cnt,if_neg h0];unfold cc;rw [hp]
          have hc0:∀y,cc l t.l.toNat (d[n]?.getD 0+1) y=p0.count y:=fun y=>by unfold cc;rw [hp0]
          have hc1:∀y,cc l t.r.toNat (d[n]?.getD 0+1) y=q0.count y:=fun y=>by unfold cc;rw [hq0]
          have hn0:p0.count n=0:=List.count_eq_zero.2 (fun hm=>by have:=pZ _ _ _ _ hp0 n hm;omega)
          have hn1:q0.count n=0:=List.count_eq_zero.2 (fun hm=>by have:=pZ _ _ _ _ hq0 n hm;omega)
          constructor
          ·rintro⟨⟨⟨a,_⟩,_⟩,b⟩
           refine⟨⟨a,.inr (by rw [hp];rfl)⟩,fun y=>?_⟩
           have:=b y
           rw [cs2,hc0,hc1] at this
           rw [hc]
           by_cases hy:y=n
           ·subst hy;simp [hself0,hn0,hn1]
           ·simp only [List.count_cons,List.count_append,beq_iff_eq,Ne.symm hy,if_false];omega
          ·rintro⟨a,b⟩
           refine⟨⟨⟨a.1,rfl⟩,rfl⟩,fun y=>?_⟩
           have:=b y
           rw [hc] at this
           simp only [List.count_cons,List.count_append] at this
           rw [cs2,hc0,hc1]
           omega
theorem rx {l:List Term}{root:Int}:cF l root=(iA l root).isSome:=by
 by_cases h:(l.length:Int)≤160∧0≤root∧root<l.length
 ·rw [ot h,treeS_T h,Bool.eq_iff_iff,Bz h.2,rz h.2.1]
  rw [scan (root.toNat+1) _ om sq (tj _ _)]
  have hz:∀i:Nat,(List.replicate l.length (0:Int))[i]?.getD 0=0:=fun i=>by rw [List.getElem?_replicate];split<;>simp
  have hc0:∀(n y:Nat),cnt l n (List.replicate l.length 0) y=0:=by
   intro n y
   induction n with
   | zero=>rfl
   | succ n ih=>simp only [cnt,ih,hz,if_true]
  have hg0:∀n:Nat,gd l n (List.replicate l.length 0):=by
   intro n
   induction n with
   | zero=>trivial
   | succ n ih=>exact⟨ih,.inl (hz n)⟩
  unfold vY
  rw [wP (root.toNat+1) _ om (by simp;omega) (hz _) om]
  constructor
  ·rintro⟨p,h1,h2⟩
   refine⟨⟨hg0 _,by rw [h1];rfl⟩,fun y=>?_⟩
   rw [ni (root.toNat+1) _ om (by simp;omega) (hz _) om,hc0]
   unfold cc
   rw [h1]
   have:=List.nodup_iff_count.1 h2 y
   simp only
   omega
  ·rintro⟨⟨_,h1⟩,h2⟩
   obtain⟨p,hp⟩:=Option.isSome_iff_exists.1 h1
   refine⟨p,hp,List.nodup_iff_count.2 (fun y=>?_)⟩
   have:=h2 y
   rw [ni (root.toNat+1) _ om (by simp;omega) (hz _) om,hc0] at this
   unfold cc at this
   rw [hp] at this
   simp only at this
   omega
 ·have h1:(160:Int)<l.length∨root<0∨(l.length:Int)≤root:=by omega
  rw [treeS_F h1]
  rcases h1 with h | h | h
  ·rw [m6 (by simpa using h)];rfl
  ·rw [m5 (by simpa using h)];rfl
  ·rw [m4 h];rfl
end Go.Sx
namespace Go.Sx
open Go
end Go.Sx
namespace Go.Sx
open Go
end Go.Sx
namespace Go.Sx
open Go
def I64.cells (n:Int):List Value:=[.int .i64 n]
def Str.cells (s:Str):List Value:=[gs s]
instance :Cells 1 I64.cells:=⟨fun _=>rfl,by decide,fun _=>rfl⟩
instance :Cells 1 Str.cells:=⟨fun _=>rfl,by decide,fun _=>rfl⟩
instance :Cells 6 Term.cells:=⟨fun _=>rfl,by decide,fun _=>rfl⟩
theorem bT {α:Type}{l:List α}{k:Int}{x:α}(hk:0≤k)(hx:l[k.toNat]? =some x):l.take (k+1).toNat=l.take k.toNat++[x]:=by
 rw [show(k+1).toNat=k.toNat+1 by omega,List.take_add_one,hx];rfl
theorem bC {α:Type}{l:List α}{k:Int}(h:¬k<l.length)(h2:0≤k):l.take k.toNat=l:=List.take_of_length_le om
theorem bQ {α β:Type}{f:α→β}{l:List α}{k:Int}{x:α}(hk:0≤k)(hx:l[k.toNat]? =some x):(l.take (k+1).toNat).map f=(l.take k.toNat).map f++[f x]:=by
 rw [bT hk hx];simp
end Go.Sx
namespace Go.Sx
open Go
end Go.Sx
namespace Go.Sx
open Go
end Go.Sx
namespace Go.Sx
open Go
end Go.Sx
namespace Go.Sx
open Go
theorem enc_gs (s:Str):Go.Proofs.encStr s=gs s:=rfl
theorem tD (d:List Str)(cs:List Value)(h:d.length≤cs.length):(Go.Sort.putCells Go.Proofs.encStr 0 d.toArray cs.toArray).toList=d.map gs++cs.drop d.length:=by
 apply List.ext_getElem?
 intro k
 rw [List.getElem?_append]
 by_cases hk:k<d.length
 ·simp [Go.Sort.putCells,hk,show k<cs.length by omega]
  rfl
 ·by_cases hc:k<cs.length
  ·simp [Go.Sort.putCells,hk,hc,show d.length+(k - d.length)=k by omega]
  ·simp [Go.Sort.putCells,hk,hc,show d.length+(k - d.length)=k by omega]
section
variable {P:Program}{n:Nat}{ops:Array Oper}{Q:Exit→Act→World→Prop}{E:Env}{M:List Nat}{w0:World}{H0 H:Hp}{L:aj}{C:World→Prop}{rest:List Oper}{dst:Option Nat}{op:Op}{ty:TypeId}{pos:String}{aft:Array Edge}
theorem St.row {w:World}{b:Nat}{cs:List Value}{R:aj}{d:List Str}(h:St M w0 H0 H ((b,cs)::R) w)(hd:d.length≤cs.length)(q:Nat)(os:Array Obj):
  St M w0 H0 H ((b,d.map gs++cs.drop d.length)::R) (Go.Sort.grow (Go.Sort.putRow Go.Proofs.encStr (Go.Sort.ahead w q) b 0 d.toArray) os):=by
 have h1:St M w0 H0 H ((b,d.map gs++cs.drop d.length)::R) (Go.Sort.putRow Go.Proofs.encStr (Go.Sort.ahead w q) b 0 d.toArray):=by
  refine h.set (Upd.here _) _ sq rfl rfl rfl (fun t ht=>?_) (fun k hk=>?_)
  ·have e:(Go.Sort.putCells Go.Proofs.encStr 0 d.toArray cs.toArray)=(d.map gs++cs.drop d.length).toArray:=by
    apply Array.ext'
    rw [tD d cs hd]
   simp [Go.Sort.putRow,Go.Sort.mapBlock,Array.getElem?_modify,ht,Go.Sort.onCells,e]
  ·simp [Go.Sort.putRow,Go.Sort.mapBlock,Array.getElem?_modify,Ne.symm hk]
 refine Ext.st (w:=Go.Sort.putRow Go.Proofs.encStr (Go.Sort.ahead w q) b 0 d.toArray) ⟨rfl,rfl,rfl,by simp [Go.Sort.grow],fun k hk=>?_⟩ h1
 simp only [Go.Sort.grow]
 rw [Array.getElem?_append_left hk]
theorem St.holds {w:World}{b:Nat}{cs:List Value}{R:aj}{d:List Str}(h:St M w0 H0 H ((b,cs)::R) w)(hd:cs.take d.length=d.map gs):Go.Sort.Holds Go.Proofs.encStr w b 0 d.toArray:=by
 intro j hj
 have hj':j<d.length:=by simpa using hj
 have h1:cs[j]? =some (gs d[j]):=by
  have:(cs.take d.length)[j]? =some (gs d[j]):=by rw [hd];simp [hj']
  rw [List.getElem?_take] at this
  simpa [hj'] using this
 constructor
 ·rw [Nat.zero_add,h.cell (.here _) j,h1]
  simp [hj',enc_gs]
 ·obtain⟨t,ht⟩:=h.own (b,cs) sq
  have ht':w.heap[b]? =some (.cells cs.toArray t (0,0)):=ht
  simp [World.frozen?,ht']
theorem zD {ι:Type}{f:FuncId}{args:List Value}{Φ:Value→ι→Prop}{C':ι→World→Prop}(hE:cA P E op f args)(hF:∀w,C w→Calls P f args.toArray w (fun e w'=>∃v i,e= .returned v∧Φ v i∧C' i w'))(hd:cu dst n=true)
  (h:∀v i,Φ v i→TL P n ops Q rest (cr dst v E) (C' i)):TL P n ops Q ({dst:=dst,op:=op,type:=ty,pos:=pos,after:=aft,guard:=none}::rest) E C:=by
 intro a w he hw
 refine cE rfl (fun K hK=>?_)
 unfold Oper.wp
 rw [hE n a w _ rfl he]
 refine(hF w hw).mono ?_
 rintro e w' ⟨v,i,rfl,hΦ,hC⟩
 exact hK _ _ (h v i hΦ _ _ (he.put hd) hC)
structure SortC (P:Program)(f:FuncId):Prop where
 some:∀(b off cap:Nat) (ss:List Str) (w:World),Go.Sort.Holds Go.Proofs.encStr w b off ss.toArray→b<w.heap.size→ss.length<4611686018427387904→
  Calls P f #[.slice (some ⟨b,off,none⟩) ss.length cap] w fun e w'=>e= .returned (.tuple #[])∧∃n os,w'=Go.Sort.grow (Go.Sort.putRow Go.Proofs.encStr (Go.Sort.ahead w n) b off (ss.mergeSort fun x y=>decide (x≤y)).toArray) os
 none:∀(p:Option Addr) (cap:Nat) (w:World),Calls P f #[.slice p 0 cap] w fun e w'=>e= .returned (.tuple #[])∧w'=w
def i9 (l:List Str):List Str:=l.mergeSort fun x y=>decide (x≤y)
theorem i8 (l:List Str):(i9 l).length=l.length:=List.length_mergeSort _
theorem ng (l:List Str):l.flatMap Str.cells=l.map gs:=by
 induction l with
 | nil=>rfl
 | cons x l ih=>simp [Str.cells,ih]
theorem Ed {f:FuncId}(hS:SortC P f){v:Value}{xs:List Str}{ob:aj}{F:aj→aj}(hO:OwnSl 1 Str.cells v xs ob)(hU:Tl ob L F)(hm:xs.length<4611686018427387904){w:World}(hw:St M w0 H0 H L w):
  Calls P f #[v] w (fun e w'=>∃u ob',e= .returned u∧(u= .tuple #[]∧OwnSl 1 Str.cells v (i9 xs) ob')∧St M w0 H0 H (F ob') w'):=by
 obtain⟨R,hp1,hp2⟩:=hU.perm
 rcases hO with ⟨rfl,rfl,rfl⟩ | ⟨b,cap,cs,rfl,rfl,hcl,htk,hle,hcm⟩
 ·refine(hS.none none 0 w).mono ?_
  rintro e w' ⟨rfl,rfl⟩
  exact⟨_,[],rfl,⟨rfl,by rw [show i9 []=[] by unfold i9;simp];exact OwnSl.nil⟩,hw.perm (hp1.trans (hp2 []).symm)⟩
 ·have hwR:=hw.perm hp1
  have ht:cs.take xs.length=xs.map gs:=by rw [← ng,← htk,Nat.mul_one]
  have hlen:xs.length≤cs.length:=by omega
  refine(hS.some b 0 cap xs w (hwR.holds ht) (hwR.lt (p:=(b,cs)) sq) hm).mono ?_
  rintro e w' ⟨rfl,q,os,rfl⟩
  have h2:=hwR.row (d:=i9 xs) (by rw [i8];exact hlen) q os
  refine⟨_,[(b,(i9 xs).map gs++cs.drop (i9 xs).length)],rfl,⟨rfl,.inr ⟨b,cap,_,by rw [i8],rfl,?_,?_,by rw [i8];exact hle,hcm⟩⟩,h2.perm (hp2 [(b,_)]).symm⟩
  ·simp [i8];omega
  ·rw [Nat.mul_one,ng,List.take_left' sq]
theorem TL.sort {f:FuncId}{v:Value}{xs:List Str}{ob:aj}{F:aj→aj}(hE:cA P E op f [v])(hS:SortC P f)(hO:OwnSl 1 Str.cells v xs ob)(hU:Tl ob L F)(hm:xs.length<4611686018427387904)(hd:cu dst n=true)
  (h:∀ob',OwnSl 1 Str.cells v (i9 xs) ob'→TL P n ops Q rest (cr dst (.tuple #[]) E) (St M w0 H0 H (F ob'))):
  TL P n ops Q ({dst:=dst,op:=op,type:=ty,pos:=pos,after:=aft,guard:=none}::rest) E (St M w0 H0 H L):=
 zD (ι:=aj) (Φ:=fun u ob'=>u= .tuple #[]∧OwnSl 1 Str.cells v (i9 xs) ob') (C':=fun ob'=>St M w0 H0 H (F ob')) hE (fun w hw=>Ed hS hO hU hm hw) hd (fun u ob' hΦ=>by obtain⟨rfl,hO'⟩:=hΦ;exact h ob' hO')
structure CompactC (P:Program)(f:FuncId):Prop where
 some:∀(b off cap:Nat) (zs:List Str) (w:World),Go.Sort.Holds Go.Proofs.encStr w b off zs.toArray→zs.length≤9223372036854775807→zs.length≤cap→
  Calls P f #[.slice (some ⟨b,off,none⟩) zs.length cap] w fun e w'=>e= .returned (.slice (some ⟨b,off,none⟩) (Lib.compact zs).length cap)∧∃q,w'=Go.Sort.putRow Go.Proofs.encStr (Go.Sort.ahead w q) b off (Lib.compact zs++List.replicate (zs.length - (Lib.compact zs).length) []).toArray
 none:∀(p:Option Addr) (cap:Nat) (w:World),Calls P f #[.slice p 0 cap] w fun e w'=>e= .returned (.slice p 0 cap)∧w'=w
theorem yM {f:FuncId}(hS:CompactC P f){v:Value}{xs:List Str}{ob:aj}{F:aj→aj}(hO:OwnSl 1 Str.cells v xs ob)(hU:Tl ob L F){w:World}(hw:St M w0 H0 H L w):
  Calls P f #[v] w (fun e w'=>∃u ob',e= .returned u∧OwnSl 1 Str.cells u (Lib.compact xs) ob'∧St M w0 H0 H (F ob') w'):=by
 obtain⟨R,hp1,hp2⟩:=hU.perm
 rcases hO with ⟨rfl,rfl,rfl⟩ | ⟨b,cap,cs,rfl,rfl,hcl,htk,hle,hcm⟩
 ·refine(hS.none none 0 w).mono ?_
  rintro e w' ⟨rfl,rfl⟩
  exact⟨_,[],rfl,OwnSl.nil,hw.perm (hp1.trans (hp2 []).symm)⟩
 ·have hwR:=hw.perm hp1
  have ht:cs.take xs.length=xs.map gs:=by rw [← ng,← htk,Nat.mul_one]
  have hlen:xs.length≤cs.length:=by omega
  have hc:=Lib.compact_length_le xs
  refine(hS.some b 0 cap xs w (hwR.holds ht) om hle).mono ?_
  rintro e w' ⟨rfl,q,rfl⟩
  have hl2:(Lib.compact xs++List.replicate (xs.length - (Lib.compact xs).length) ([]:Str)).length=xs.length:=by simp;omega
  have h2:=hwR.row (d:=Lib.compact xs++List.replicate (xs.length - (Lib.compact xs).length) []) (by rw [hl2];exact hlen) q #[]
  have hg:∀W:World,Go.Sort.grow W #[]=W:=fun W=>by simp [Go.Sort.grow]
  rw [hg,hl2] at h2
  refine⟨_,[(b,(Lib.compact xs++List.replicate (xs.length - (Lib.compact xs).length) ([]:Str)).map gs++cs.drop xs.length)],rfl,.inr ⟨b,cap,_,rfl,rfl,?_,?_,by omega,hcm⟩,h2.perm (hp2 [(b,_)]).symm⟩
  ·rw [List.length_append,List.length_map,hl2];simp;omega
  ·rw [Nat.mul_one,ng,List.map_append,List.append_assoc,List.take_left' sq]
theorem TL.compact {f:FuncId}{v:Value}{xs:List Str}{ob:aj}{F:aj→aj}(hE:cA P E op f [v])(hS:CompactC P f)(hO:OwnSl 1 Str.cells v xs ob)(hU:Tl ob L F)(hd:cu dst n=true)
  (h:∀a c ob',OwnSl 1 Str.cells (.slice a (Lib.compact xs).length c) (Lib.compact xs) ob'→TL P n ops Q rest (cr dst (.slice a (Lib.compact xs).length c) E) (St M w0 H0 H (F ob'))):
  TL P n ops Q ({dst:=dst,op:=op,type:=ty,pos:=pos,after:=aft,guard:=none}::rest) E (St M w0 H0 H L):=
 zD (ι:=aj) (Φ:=fun u ob'=>OwnSl 1 Str.cells u (Lib.compact xs) ob') (C':=fun ob'=>St M w0 H0 H (F ob')) hE (fun w hw=>yM hS hO hU hw) hd (fun u ob' hΦ=>by obtain⟨a,c,rfl⟩:=hΦ.form;exact h a c ob' hΦ)
end
end Go.Sx
namespace Go.Sx
open Go
def fh (l:List Term):Nat→Int→List Str
 | 0,_=>[]
 | f+1,at_=>if at_<0 then [] else match l[at_.toNat]? with
  | none=>[]
  | some t=>fh l f t.l++(fh l f t.r++(if t.kind=0 then [t.name] else []))
theorem kI {l:List Term}{f:Nat}{at_:Int}(h:at_<0):fh l f at_=[]:=by
 cases f with
 | zero=>rfl
 | succ f=>unfold fh;rw [if_pos h]
theorem i6 {l:List Term}{f:Nat}{at_:Int}{t:Term}(h:¬at_<0)(hx:l[at_.toNat]? =some t):fh l (f+1) at_=fh l f t.l++(fh l f t.r++(if t.kind=0 then [t.name] else [])):=by
 rw [fh,if_neg h,hx]
theorem Cw {l:List Term}:∀(f:Nat) (at_ deep:Int) (met:List Bool),0≤at_→1≤deep→(cP l f at_ deep met).1=true→(fh l f at_).length≤2 ^ (25 - deep.toNat):=by
 intro f
 induction f with
 | zero=>intro at_ deep met _ _ h;simp [cP] at h
 | succ f ih=>
  intro at_ deep met h0 hd h
  cases hx:l[at_.toNat]? with
  | none=>simp [cP,hx] at h
  | some t=>
   by_cases hg:met[at_.toNat]?.getD false=true∨24<deep∨ak t.kind<0∨bF t=false
   ·rw [su hx hg] at h;cases h
   ·have hgg:zI deep met at_ t:=by
     refine⟨?_,?_,?_,?_⟩
     ·cases hb:met[at_.toNat]?.getD false with
      | false=>rfl
      | true=>exact absurd (.inl hb) hg
     ·intro h1;exact hg (.inr (.inl h1))
     ·intro h1;exact hg (.inr (.inr (.inl h1)))
     ·cases hb:bF t with
      | true=>rfl
      | false=>exact absurd (.inr (.inr (.inr hb))) hg
    generalize h00:opW (ak t.kind) at_ (fun to m=>cP l f to (deep+1) m) 0 t.l (met.set at_.toNat true)=r0
    obtain⟨b0,m0⟩:=r0
    cases b0 with
    | false=>rw [sx hx hgg h00] at h;cases h
    | true=>
     generalize h11:opW (ak t.kind) at_ (fun to m=>cP l f to (deep+1) m) 1 t.r m0=r1
     rw [ku hx hgg h00 h11] at h
     have h24:=hgg.2.1
     have key:∀(i to:Int) (m m':List Bool),opW (ak t.kind) at_ (fun to m=>cP l f to (deep+1) m) i to m=(true,m')→(i<ak t.kind→(fh l f to).length≤2 ^ (25 - (deep+1).toNat))∧(ak t.kind≤i→fh l f to=[]):=by
      intro i to m m' he
      refine⟨fun hi=>?_,fun hi=>?_⟩
      ·by_cases hb:to<0∨at_≤to
       ·rw [p9 om hb] at he;cases he
       ·rw [p8 om om om] at he
        exact ih to (deep+1) m om om (by rw [he])
      ·rw [wH hi] at he
       have:to= -1:=by simpa using congrArg Prod.fst he
       exact kI om
     have k0:=key 0 t.l _ _ h00
     have k1:=key 1 t.r _ r1.2 (by rw [h11];cases r1;simp at h;simp [h])
     rw [i6 om hx]
     have hp:2 ^ (25 - deep.toNat)=2 * 2 ^ (25 - (deep+1).toNat):=by
      rw [show 25 - deep.toNat=(25 - (deep+1).toNat)+1 by omega,Nat.pow_succ];omega
     have h1:0<2 ^ (25 - (deep+1).toNat):=Nat.two_pow_pos _
     simp only [List.length_append]
     by_cases hk:t.kind=0
     ·have ho:ak t.kind=0:=by rw [hk];decide
      rw [k0.2 om,k1.2 om,if_pos hk]
      simp;omega
     ·rw [if_neg hk]
      have a0:(fh l f t.l).length≤2 ^ (25 - (deep+1).toNat):=by
       rcases Int.lt_or_le 0 (ak t.kind) with ho | ho
       ·exact k0.1 ho
       ·rw [k0.2 ho];simp
      have a1:(fh l f t.r).length≤2 ^ (25 - (deep+1).toNat):=by
       rcases Int.lt_or_le 1 (ak t.kind) with ho | ho
       ·exact k1.1 ho
       ·rw [k1.2 ho];simp
      simp;omega
theorem vz {l:List Term}{root:Int}(h:cF l root=true):(fh l (root.toNat+1) root).length≤16777216:=by
 unfold cF at h
 split at h
 ·cases h
 ·split at h
  ·cases h
  ·split at h
   ·cases h
   ·have:=Cw _ _ _ _ om dq h
    exact this
def j7 (l:List Term)(root:Int):List Str:=if cF l root then Lib.compact (i9 (fh l (root.toNat+1) root)) else []
def cl (l:List Str)(s:Str):Int:=match l with
 | []=> -1
 | x::r=>if x=s then 0 else if cl r s<0 then -1 else cl r s+1
theorem jG (l:List Str)(s:Str):cl l s= -1∨(0≤cl l s∧cl l s<l.length):=by
 induction l with
 | nil=>exact .inl rfl
 | cons x r ih=>
  unfold cl
  split
  ·right;simp only [List.length_cons,Int.natCast_add];omega
  ·split
   ·exact .inl rfl
   ·right;simp only [List.length_cons,Int.natCast_add];omega
theorem dI {l:List Str}{s:Str}{k:Int}(h0:0≤k)(hx:l[k.toNat]? =some s)(hn:∀j:Nat,j<k.toNat→l[j]? ≠some s):cl l s=k:=by
 induction l generalizing k with
 | nil=>simp at hx
 | cons x r ih=>
  unfold cl
  by_cases hk:k=0
  ·subst hk
   simp at hx
   rw [if_pos hx]
  ·have hne:¬x=s:=by
    have:=hn 0 om
    simpa using this
   rw [if_neg hne]
   have e:=ih (k:=k - 1) om (by
    rw [show k.toNat=(k - 1).toNat+1 by omega] at hx
    simpa using hx) (fun j hj=>by
     have:=hn (j+1) om
     simpa using this)
   rw [e,if_neg om];omega
theorem vo {l:List Str}{s:Str}(hn:s∉l):cl l s= -1:=by
 induction l with
 | nil=>rfl
 | cons x r ih=>
  simp only [List.mem_cons,not_or] at hn
  unfold cl
  rw [if_neg (fun e=>hn.1 e.symm),ih hn.2];rfl
theorem rW {l:List Str}{s:Str}:0≤cl l s↔s∈l:=by
 constructor
 ·intro h
  apply Classical.byContradiction
  intro hn
  rw [vo hn] at h
  omega
 ·intro h
  induction l with
  | nil=>cases h
  | cons x r ih=>
   unfold cl
   split
   ·decide
   ·rename_i hne
    have h1:=ih (by rcases List.mem_cons.1 h with rfl | h;exact absurd rfl hne;exact h)
    rw [if_neg om];omega
theorem lO {l:List Str}{s x:Str}{k:Int}(h0:0≤k)(h:∀j:Nat,j<k.toNat→l[j]? ≠some s)(hx:l[k.toNat]? =some x)(hne:¬x=s):∀j:Nat,j<(k+1).toNat→l[j]? ≠some s:=by
 intro j hj
 by_cases hk:j=k.toNat
 ·subst hk;rw [hx];simpa using hne
 ·exact h j om
theorem fC {l:List Str}{s:Str}{k:Int}(h:∀j:Nat,j<k.toNat→l[j]? ≠some s)(hk:¬k<l.length):cl l s= -1:=by
 refine vo (fun hm=>?_)
 obtain⟨j,hj⟩:=List.mem_iff_getElem?.1 hm
 exact h j (by have:=(List.getElem?_eq_some_iff.1 hj).1;omega) hj
def cj (l:List Str)(s:Str):Bool:=decide (s∈l)
theorem sI (l:List Str)(s:Str):decide (0≤cl l s)=cj l s:=by
 unfold cj
 rw [Bool.eq_iff_iff];simp only [decide_eq_true_eq]
 exact rW
end Go.Sx
namespace Go.Sx
open Go
theorem za {zs:List Str}{x:Str}:x∈Lib.compact zs↔x∈zs:=by
 unfold Lib.compact Lib.compactUpTo
 simp only [List.mem_map,List.mem_filter,List.mem_range]
 constructor
 ·rintro⟨j,⟨hj,_⟩,rfl⟩
  have:j<zs.toArray.size:=by simpa using hj
  rw [getElem!_pos zs.toArray j this]
  simp
 ·intro hx
  obtain⟨j,hj,rfl⟩:=List.getElem_of_mem hx
  have key:∀j (hj:j<zs.length),∃i,(i<zs.length∧Lib.keeps zs.toArray i=true)∧zs.toArray[i]! =zs[j]:=by
   intro j
   induction j with
   | zero=>
    intro hj
    refine⟨0,⟨hj,by simp [Lib.keeps]⟩,?_⟩
    rw [getElem!_pos zs.toArray 0 (by simpa using hj)];simp
   | succ j ih=>
    intro hj
    by_cases hk:Lib.keeps zs.toArray (j+1)=true
    ·refine⟨j+1,⟨hj,hk⟩,?_⟩
     rw [getElem!_pos zs.toArray (j+1) (by simpa using hj)];simp
    ·obtain⟨i,hi,he⟩:=ih om
     refine⟨i,hi,?_⟩
     rw [he]
     have:zs.toArray[j+1]! =zs.toArray[j]! :=by
      simpa [Lib.keeps] using hk
     rw [getElem!_pos zs.toArray (j+1) (by simpa using hj),getElem!_pos zs.toArray j (by simp;omega)] at this
     simpa using this.symm
  obtain⟨i,hi,he⟩:=key j hj
  exact⟨i,hi,he⟩
theorem Cu {zs:List Str}{x:Str}:x∈i9 zs↔x∈zs:=by unfold i9;exact List.mem_mergeSort
theorem Ct {l:List Term}{root:Int}{x:Str}(h:cF l root=true):x∈j7 l root↔x∈fh l (root.toNat+1) root:=by
 unfold j7;rw [if_pos h,za,Cu]
theorem zw (zs:List Str):(Lib.compact zs).length≤zs.length:=Lib.compact_length_le zs
theorem uM (l:List Term)(root:Int):(j7 l root).length≤16777216:=by
 unfold j7
 split
 ·rename_i h
  have:=zw (i9 (fh l (root.toNat+1) root))
  rw [i8] at this
  have:=vz h
  omega
 ·simp
end Go.Sx
namespace Go.Sx
open Go
theorem zc {l:List Term}{root:Int}:cF l root=true↔((l.length:Int)≤160∧0≤root∧root<l.length)∧∃p,cf l (root.toNat+1) root.toNat 1=some p∧p.Nodup:=by
 by_cases h:(l.length:Int)≤160∧0≤root∧root<l.length
 ·rw [ot h,Bz h.2]
  exact⟨fun h2=>⟨h,h2⟩,fun h2=>h2.2⟩
 ·constructor
  ·intro hm
   exfalso
   unfold cF at hm
   split at hm
   ·cases hm
   ·split at hm
    ·cases hm
    ·split at hm
     ·cases hm
     ·omega
  ·intro h2;exact absurd h2.1 h
theorem okT_ops {t:Term}{at_ deep:Int}(h:okT t at_ deep=true):0≤ak t.kind∧bF t=true∧deep≤24∧(ak t.kind<1→t.l= -1)∧(ak t.kind<2→t.r= -1):=by
 unfold okT at h
 simp only [Bool.and_eq_true,decide_eq_true_eq] at h
 refine⟨h.1.1,h.1.2,h.2.1,fun h1=>?_,fun h1=>?_⟩
 ·have:=h.2.2.1;rw [if_pos h1] at this;simpa using this
 ·have:=h.2.2.2;rw [if_pos h1] at this;simpa using this
theorem Ex {l:List Term}{f at_:Nat}{deep:Int}{p:List Nat}(h:cf l f at_ deep=some p):at_<l.length:=by
 cases f with
 | zero=>simp [cf] at h
 | succ f=>obtain⟨t,p0,q0,hx,_⟩:=cS h;exact(List.getElem?_eq_some_iff.1 hx).1
theorem Ew {l:List Term}:∀(f at_:Nat) (deep:Int) (p:List Nat),cf l f at_ deep=some p→∀i∈p,∃g q d,cf l g i d=some q∧q.Sublist p∧deep≤d:=by
 intro f
 induction f with
 | zero=>intro at_ deep p h;simp [cf] at h
 | succ f ih=>
  intro at_ deep p h i hi
  obtain⟨t,p0,q0,hx,hok,h0,h1,rfl⟩:=cS h
  rcases List.mem_cons.1 hi with rfl | hi
  ·exact⟨f+1,_,deep,h,List.Sublist.refl _,Int.le_refl _⟩
  rcases List.mem_append.1 hi with hi | hi
  ·split at h0
   ·simp only [Option.some.injEq] at h0;subst h0;cases hi
   ·obtain⟨g,q,d,e1,e2,e3⟩:=ih _ _ _ h0 i hi
    exact⟨g,q,d,e1,e2.trans ((List.sublist_append_left _ _).trans (List.sublist_cons_self _ _)),by omega⟩
  ·split at h1
   ·simp only [Option.some.injEq] at h1;subst h1;cases hi
   ·obtain⟨g,q,d,e1,e2,e3⟩:=ih _ _ _ h1 i hi
    exact⟨g,q,d,e1,e2.trans ((List.sublist_append_right _ _).trans (List.sublist_cons_self _ _)),by omega⟩
theorem yX {l:List Term}:∀(f at_:Nat) (deep:Int) (p:List Nat),cf l f at_ deep=some p→∀i∈p,∀t,l[i]? =some t→(1≤ak t.kind→t.l.toNat∈p)∧(2≤ak t.kind→t.r.toNat∈p):=by
 intro f at_ deep p h i hi t ht
 obtain⟨g,q,d,e1,e2,_⟩:=Ew f at_ deep p h i hi
 cases g with
 | zero=>simp [cf] at e1
 | succ g=>
  obtain⟨t',p0,q0,hx,hok,h0,h1,rfl⟩:=cS e1
  rw [ht] at hx
  obtain rfl:=Option.some.inj hx
  refine⟨fun ho=>e2.subset ?_,fun ho=>e2.subset ?_⟩
  ·rw [if_neg om] at h0
   have:=f6 h0
   simp [this]
  ·rw [if_neg om] at h1
   have:=f6 h1
   simp [this]
theorem Bs {d:List Int}{j a:Nat}{x:Int}(h:0<(d.set j x)[a]?.getD 0):a=j∨0<d[a]?.getD 0:=by
 by_cases e:j=a
 ·exact .inl e.symm
 ·rw [jz e] at h;exact .inr h
theorem uW {S:Nat→Prop}{d d':List Int}{i at_:Int}(h:dR d i at_=some d')(hd:∀j,0<d[j]?.getD 0→S j)(ha:S at_.toNat):∀j,0<d'[j]?.getD 0→S j:=by
 unfold dR at h
 split at h
 ·cases h
 ·obtain rfl:=Option.some.inj h
  intro j hj
  rcases Bs hj with rfl | hj
  ·exact ha
  ·exact hd j hj
theorem pj {l:List Term}{S:Nat→Prop}(hS:∀i t,S i→l[i]? =some t→(1≤ak t.kind→S t.l.toNat)∧(2≤ak t.kind→S t.r.toNat)):
  ∀(n:Nat) (d d':List Int),eJ l n d=some d'→Nn d→(∀j,0<d[j]?.getD 0→S j)→∀j,0<d'[j]?.getD 0→S j
 | 0,d,d',h,_,hd=>by obtain rfl:=Option.some.inj h;exact hd
 | n+1,d,d',h,hn,hd=>by
  simp only [eJ] at h
  cases hs:dA l n d with
  | none=>rw [hs] at h;cases h
  | some d1=>
   rw [hs] at h
   simp only at h
   have key:Nn d1∧∀j,0<d1[j]?.getD 0→S j:=by
    unfold dA at hs
    split at hs
    ·obtain rfl:=Option.some.inj hs;exact⟨hn,hd⟩
    ·rename_i h0
     simp only [Int.toNat_natCast] at hs h0
     cases hx:l[n]? with
     | none=>rw [hx] at hs;cases hs
     | some t=>
      rw [hx] at hs
      simp only at hs
      split at hs
      ·cases hs
      ·have hpos:0<d[n]?.getD 0:=by have:=hn n;omega
       have hc:=hS n t (hd n hpos) hx
       unfold eT at hs
       split at hs
       ·obtain rfl:=Option.some.inj hs;exact⟨hn,hd⟩
       ·rename_i h1
        have nset:∀{d d':List Int} {a:Int},dR d n a=some d'→Nn d→Nn d':=by
         intro d d' a e hn
         unfold dR at e
         split at e
         ·cases e
         ·obtain rfl:=Option.some.inj e
          simp only [Int.toNat_natCast]
          exact tq hn (by have:=hn n;omega)
        cases h2:dR d n t.l with
        | none=>rw [h2] at hs;cases hs
        | some d2=>
         rw [h2] at hs
         simp only at hs
         have a1:=uW h2 hd (hc.1 om)
         split at hs
         ·obtain rfl:=Option.some.inj hs;exact⟨nset h2 hn,a1⟩
         ·exact⟨nset hs (nset h2 hn),uW hs a1 (hc.2 om)⟩
   exact pj hS n d1 d' h key.1 key.2
theorem tree_in {l:List Term}{root:Int}{d:List Int}{p:List Nat}(h:iA l root=some d)(hp:cf l (root.toNat+1) root.toNat 1=some p){k:Nat}(hk:0<d[k]?.getD 0):k∈p:=by
 unfold iA at h
 split at h
 ·cases h
 ·refine pj (S:=fun i=>i∈p) (fun i t hi ht=>yX _ _ _ _ hp i hi t ht) _ _ _ h (tj _ _) (fun j hj=>?_) k hk
  rcases Bs hj with rfl | hj
  ·exact f6 hp
  ·rw [List.getElem?_replicate] at hj
   split at hj<;>simp at hj
end Go.Sx
