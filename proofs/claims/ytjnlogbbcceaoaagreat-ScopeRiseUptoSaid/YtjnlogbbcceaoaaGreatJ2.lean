import Derived.Test.YtjnlogbbcceaoaaGreatJ1
import Derived.Test.YtjnlogbbcceaoaaGreatRows
import Derived.ProofKit
import Derived.Deep.Slices
set_option linter.all false
set_option maxRecDepth 100000
set_option maxHeartbeats 32000000
namespace Go.Sx
open Go
abbrev Str:=List UInt8
theorem bE {α:Type}{l:List α}{n:Nat}{x:α}(h:l[n]? =some x):l.drop n=x::l.drop (n+1):=by
 obtain⟨hlt,rfl⟩:=List.getElem?_eq_some_iff.1 h
 exact List.drop_eq_getElem_cons hlt
theorem qC {k:Int}(h:0≤k):(k+1).toNat=k.toNat+1:=by omega
theorem EJ {α:Type}{l:List α}{k:Int}(h:¬k<l.length):l.drop k.toNat=[]:=List.drop_eq_nil_of_le omq
theorem A4 {α:Type}{l:List α}{k:Int}{x:α}(hk:0≤k)(h:l[k.toNat]? =some x):l.drop k.toNat=x::l.drop (k+1).toNat:=by
 rw [qC hk];exact bE h
def fh (c:UInt8):Bool:=decide ((97:Int)≤c.toNat)&&decide ((c.toNat:Int)≤122)
def jC (c:UInt8):Bool:=decide ((48:Int)≤c.toNat)&&decide ((c.toNat:Int)≤57)
def fw (c:UInt8):Bool:=fh c||jC c
def kw1 (s:Str):Bool:=(decide (s=[97,110,100])||(decide (s=[97,115])||(decide (s=[97,116])||(decide (s=[98,111,111,108])||(decide (s=[99,97,108,108])||(decide (s=[99,104,97,110])||(decide (s=[100,114,111,112])||(decide (s=[101,108,115,101])||(decide (s=[101,109,112,116,121])||(decide (s=[101,110,100])||(decide (s=[102,97,105,108])||(decide (s=[102,97,108,115,101])||decide (s=[102,114,111,109])))))))))))))
def kw2 (s:Str):Bool:=(decide (s=[104,101,97,114])||(decide (s=[105,102])||(decide (s=[105,110,116])||(decide (s=[106,111,105,110])||(decide (s=[108,101,110])||(decide (s=[108,101,116])||(decide (s=[108,105,115,116])||(decide (s=[108,111,99,97,108])||(decide (s=[108,111,115,116])||(decide (s=[109,111,100])||(decide (s=[110,111,116])||(decide (s=[111,112,101,110])||decide (s=[111,114])))))))))))))
def kw3 (s:Str):Bool:=(decide (s=[112,114,105,110,116])||(decide (s=[112,114,111,99])||(decide (s=[112,114,111,116,111,99,111,108])||(decide (s=[112,117,115,104])||(decide (s=[114,111,108,101,115])||(decide (s=[115,97,121])||(decide (s=[115,112,97,119,110])||(decide (s=[115,116,111,112])||(decide (s=[116,101,120,116])||(decide (s=[116,111])||(decide (s=[116,114,117,101])||(decide (s=[117,110,105,116])||decide (s=[119,105,116,104])))))))))))))
def rkw1 (s:Str):Bool:=(decide (s=[97,110,100])||(decide (s=[97,115])||(decide (s=[97,116])||(decide (s=[98,111,111,108])||(decide (s=[99,97,108,108])||(decide (s=[99,104,97,110])||(decide (s=[100,114,111,112])||(decide (s=[101,108,115,101])||(decide (s=[101,109,112,116,121])||(decide (s=[101,110,100])||(decide (s=[102,97,105,108])||(decide (s=[102,97,108,115,101])||(decide (s=[102,114,111,109])||(decide (s=[104,101,97,114])||(decide (s=[105,102])||(decide (s=[105,110,116])||(decide (s=[106,111,105,110])||(decide (s=[108,101,110])||(decide (s=[108,101,116])||decide (s=[108,105,115,116]))))))))))))))))))))
def rkw2 (s:Str):Bool:=(decide (s=[108,111,99,97,108])||(decide (s=[108,111,115,116])||(decide (s=[109,111,100])||(decide (s=[110,111,116])||(decide (s=[111,112,101,110])||(decide (s=[111,114])||(decide (s=[112,114,105,110,116])||(decide (s=[112,114,111,99])||(decide (s=[112,114,111,116,111,99,111,108])||(decide (s=[112,117,115,104])||(decide (s=[114,111,108,101,115])||(decide (s=[115,97,121])||(decide (s=[115,112,97,119,110])||(decide (s=[115,116,111,112])||(decide (s=[116,101,120,116])||(decide (s=[116,111])||(decide (s=[116,114,117,101])||(decide (s=[117,110,105,116])||decide (s=[119,105,116,104])))))))))))))))))))
def eH (s:Str):Bool:=kw1 s||(kw2 s||kw3 s)
theorem y5 (s:Str):(rkw1 s||rkw2 s)=eH s:=by
 simp only [rkw1,rkw2,eH,kw1,kw2,kw3,Bool.or_assoc]
def aH (s:Str):Bool:=
 if(s.length:Int)<1 then false else if(12:Int)<s.length then false else if fh (s.headD 0)=false then false else if eH s then false
 else(s.drop 1).all fw
theorem yq {s:Str}{c:UInt8}(h:s[(0:Int).toNat]? =some c):s.headD 0=c:=by
 cases s with
 | nil=>simp at h
 | cons a s=>simpa using h
structure Typing where
 name:Str
 kind:Int
 at_:Int
structure Term where
 kind:Int
 name:Str
 n:Int
 text:Str
 l:Int
 r:Int
def Term.cells (t:Term):List Value:=[.int .i64 t.kind,gs t.name,.int .i64 t.n,gs t.text,.int .i64 t.l,.int .i64 t.r]
def yp (n:Int):Prop:= -9223372036854775808≤n∧n≤9223372036854775807
theorem oV {α:Type}{enc:α→List Value}{k:Nat}:∀{l:List α},(∀x∈l,(enc x).length=k)→∀(i:Nat) (x:α),l[i]? =some x→∀j u,(enc x)[j]? =some u→(l.flatMap enc)[i * k+j]? =some u
 | [],_,i,x,hx,_,_,_=>by simp at hx
 | y::l,hk,0,x,hx,j,u,hu=>by
  simp only [List.getElem?_cons_zero,Option.some.injEq] at hx
  subst hx
  have:j<(enc y).length:=(List.getElem?_eq_some_iff.1 hu).1
  simp only [List.flatMap_cons,Nat.zero_mul,Nat.zero_add]
  rw [List.getElem?_append_left this];exact hu
 | y::l,hk,i+1,x,hx,j,u,hu=>by
  have h1:=hk y sq
  simp only [List.flatMap_cons]
  rw [List.getElem?_append_right (by rw [h1,Nat.succ_mul];omega),h1,show(i+1) * k+j - k=i * k+j by rw [Nat.succ_mul];omega]
  exact oV (fun z hz=>hk z (List.mem_cons_of_mem _ hz)) i x (by simpa using hx) j u hu
theorem RdSl.blk {α:Type}{H:Hp}{enc:α→List Value}{k b cap:Nat}{cs:List Value}{l:List α}(h:∀o v,cs[o]? =some v→H b o=some v)(hk:∀x∈l,(enc x).length=k)(hc:cs=l.flatMap enc)
  (hm:l.length≤9223372036854775807) (hcap:l.length≤cap:=by first | exact Nat.le_refl _ | omega | (simp;done) | (simp;omega)):RdSl H k enc (.slice (some ⟨b,0,none⟩) l.length cap) l:=by
 subst hc
 refine⟨⟨_,_,rfl⟩,hm,fun _=>⟨_,rfl⟩,fun i x hx j u hu=>?_,fun a n c e=>by injection e with _ _ e;omega⟩
 have:=oV hk i x hx j u hu
 simp only [off,Nat.zero_add]
 exact h _ _ this
theorem RdSl.nil {α:Type}{H:Hp}{enc:α→List Value}{k:Nat}:RdSl H k enc (.slice none 0 0) []:=
 ⟨⟨_,_,rfl⟩,by simp,fun h=>absurd rfl h,fun i x hx=>by simp at hx,fun a n c _=>by simp⟩
end Go.Sx
namespace Go.Sx
open Go
theorem BX {s:Str}(h:decide ((s.length:Int)<1)=true∨decide ((12:Int)<s.length)=true∨(∃c,s[(0:Int).toNat]? =some c∧(!fh c)=true)∨eH s=true):aH s=false:=by
 unfold aH
 rcases h with h | h | ⟨c,hc,h⟩ | h
 ·rw [if_pos (of_decide_eq_true h)]
 ·split
  ·rfl
  ·rw [if_pos (of_decide_eq_true h)]
 ·rw [yq hc]
  split
  ·rfl
  split
  ·rfl
  rw [if_pos (by simpa using h)]
 ·split
  ·rfl
  split
  ·rfl
  split
  ·rfl
  first | rfl | rw [if_pos h]
theorem nF {s:Str}{c:UInt8}(h1:decide ((s.length:Int)<1)=false)(h2:decide ((12:Int)<s.length)=false)(hc:s[(0:Int).toNat]? =some c)(h3:(!fh c)=false)(h4:eH s=false):aH s=(s.drop 1).all fw:=by
 unfold aH
 rw [if_neg (of_decide_eq_false h1),if_neg (of_decide_eq_false h2),yq hc,if_neg (by simpa using h3),if_neg (by simp [h4])]
theorem vq {s:Str}{k:Int}{c:UInt8}(h:(s.drop 1).all fw=(s.drop k.toNat).all fw)(hk:0≤k)(hc:s[k.toNat]? =some c)(hx:(!fh c)=false∨(!jC c)=false):(s.drop 1).all fw=(s.drop (k+1).toNat).all fw:=by
 rw [h,A4 hk hc,List.all_cons]
 have:fw c=true:=by unfold fw;rcases hx with hx | hx<;>simp at hx<;>simp [hx]
 simp [this]
theorem xY {s:Str}{k:Int}(hn:aH s=(s.drop 1).all fw)(h:(s.drop 1).all fw=(s.drop k.toNat).all fw)(hk:¬k<s.length):aH s=true:=by
 rw [hn,h,EJ hk];rfl
theorem xZ {s:Str}{k:Int}{c:UInt8}(hn:aH s=(s.drop 1).all fw)(h:(s.drop 1).all fw=(s.drop k.toNat).all fw)(hk:0≤k)(hc:s[k.toNat]? =some c)(h1:(!fh c)=true)(h2:(!jC c)=true):aH s=false:=by
 rw [hn,h,A4 hk hc,List.all_cons]
 have:fw c=false:=by unfold fw;simp at h1 h2;simp [h1,h2]
 simp [this]
end Go.Sx
namespace Go.Sx
open Go
def ah (k:Int):Int:=if k<0∨19<k then -1 else if k≤5 then 0 else if k=15∨k=16 then 1 else 2
def ce (t:Term):Bool:=
 if t.kind=0 then aH t.name&&(decide (t.n=0)&&decide (t.text=[]))
 else if t.kind=1 then decide (t.name=[])&&decide (t.text=[])
 else if t.kind=2 then decide (t.name=[])&&(decide (t.text=[])&&(decide (t.n=0)||decide (t.n=1)))
 else if t.kind=3 then decide (t.name=[])&&(decide (t.n=0)&&decide ((t.text.length:Int)≤24))
 else decide (t.name=[])&&(decide (t.n=0)&&decide (t.text=[]))
def opW (k at_:Int)(rec:Int→List Bool→Bool×List Bool)(i to:Int)(met:List Bool):Bool×List Bool:=
 if k≤i then(decide (to= -1),met) else if to<0∨at_≤to then(false,met) else rec to met
def cL (l:List Term):Nat→Int→Int→List Bool→Bool×List Bool
 | 0,_,_,met=>(false,met)
 | f+1,at_,deep,met=>
  match l[at_.toNat]? with
  | none=>(false,met)
  | some t=>
   if met[at_.toNat]?.getD false=true∨24<deep∨ah t.kind<0∨ce t=false then(false,met)
   else
    let a:=opW (ah t.kind) at_ (fun to m=>cL l f to (deep+1) m) 0 t.l (met.set at_.toNat true)
    if a.1=false then(false,a.2) else opW (ah t.kind) at_ (fun to m=>cL l f to (deep+1) m) 1 t.r a.2
theorem rk {l:List Term}{f:Nat}{at_ deep:Int}{met:List Bool}{t:Term}(hx:l[at_.toNat]? =some t)(h:met[at_.toNat]?.getD false=true∨24<deep∨ah t.kind<0∨ce t=false):
  cL l (f+1) at_ deep met=(false,met):=by
 simp only [cL,hx];rw [if_pos h]
def yO (deep:Int)(met:List Bool)(at_:Int)(t:Term):Prop:=met[at_.toNat]?.getD false=false∧¬24<deep∧¬ah t.kind<0∧ce t=true
theorem rm {l:List Term}{f:Nat}{at_ deep:Int}{met m:List Bool}{t:Term}(hx:l[at_.toNat]? =some t)(h:yO deep met at_ t)
  (h0:opW (ah t.kind) at_ (fun to m=>cL l f to (deep+1) m) 0 t.l (met.set at_.toNat true)=(false,m)):cL l (f+1) at_ deep met=(false,m):=by
 obtain⟨h1,h2,h3,h4⟩:=h
 simp only [cL,hx];rw [if_neg (by simp [h1,h2,h3,h4]),h0];rfl
theorem km {l:List Term}{f:Nat}{at_ deep:Int}{met m:List Bool}{t:Term}{r:Bool×List Bool}(hx:l[at_.toNat]? =some t)(h:yO deep met at_ t)
  (h0:opW (ah t.kind) at_ (fun to m=>cL l f to (deep+1) m) 0 t.l (met.set at_.toNat true)=(true,m))
  (h5:opW (ah t.kind) at_ (fun to m=>cL l f to (deep+1) m) 1 t.r m=r):cL l (f+1) at_ deep met=r:=by
 obtain⟨h1,h2,h3,h4⟩:=h
 simp only [cL,hx];rw [if_neg (by simp [h1,h2,h3,h4]),h0];simpa using h5
theorem vj {k at_:Int}{rec:Int→List Bool→Bool×List Bool}{i to:Int}{met:List Bool}(h:k≤i)(hb:¬to= -1):opW k at_ rec i to met=(false,met):=by
 unfold opW;rw [if_pos h];simp [hb]
theorem gG {k at_:Int}{rec:Int→List Bool→Bool×List Bool}{i to:Int}{met:List Bool}(h:k≤i)(hb:to= -1):opW k at_ rec i to met=(true,met):=by
 unfold opW;rw [if_pos h];simp [hb]
theorem hY {k at_:Int}{rec:Int→List Bool→Bool×List Bool}{i to:Int}{met:List Bool}{r:Bool×List Bool}(h:¬k≤i)(h2:decide (to<0)=false)(h3:decide (at_≤to)=false)(e:rec to met=r):opW k at_ rec i to met=r:=by
 unfold opW;rw [if_neg h,if_neg (by simp at h2 h3;omega)];exact e
theorem zl {k at_:Int}{rec:Int→List Bool→Bool×List Bool}{i to:Int}{met:List Bool}(h:¬k≤i)(h2:decide (to<0)=true):opW k at_ rec i to met=(false,met):=by
 unfold opW;rw [if_neg h,if_pos (.inl (of_decide_eq_true h2))]
theorem zk {k at_:Int}{rec:Int→List Bool→Bool×List Bool}{i to:Int}{met:List Bool}(h:¬k≤i)(h2:decide (at_≤to)=true):opW k at_ rec i to met=(false,met):=by
 unfold opW;rw [if_neg h,if_pos (.inr (of_decide_eq_true h2))]
theorem vm {k at_:Int}{rec:Int→List Bool→Bool×List Bool}{i to:Int}{met:List Bool}(h:k≤i):opW k at_ rec i to met=(decide (to= -1),met):=by
 unfold opW;rw [if_pos h]
theorem pD {k at_:Int}{rec:Int→List Bool→Bool×List Bool}{i to:Int}{met:List Bool}(h:¬k≤i)(h2:to<0∨at_≤to):opW k at_ rec i to met=(false,met):=by
 unfold opW;rw [if_neg h,if_pos h2]
theorem pC {k at_:Int}{rec:Int→List Bool→Bool×List Bool}{i to:Int}{met:List Bool}(h:¬k≤i)(h2:¬to<0)(h3:¬at_≤to):opW k at_ rec i to met=rec to met:=by
 unfold opW;rw [if_neg h,if_neg omq]
theorem CC {met:List Bool}{i:Nat}(h:i<met.length):(met.map Value.bool)[0+i * 1]? =some (.bool (met[i]?.getD false)):=by
 simp [List.getElem?_eq_getElem h]
theorem CB (met:List Bool)(i:Nat)(b:Bool):(met.map Value.bool).set (0+i * 1) (.bool b)=(met.set i b).map Value.bool:=by
 simp [List.map_set]
theorem y6 (n:Nat):gX n [Value.bool false]=(List.replicate n false).map Value.bool:=by
 induction n with
 | zero=>rfl
 | succ n ih=>simp [gX,ih,List.replicate_succ]
def cq (l:List Term)(root:Int):Bool:=
 if(160:Int)<l.length then false else if root<0 then false else if(l.length:Int)≤root then false else(cL l (root.toNat+1) root 1 (List.replicate l.length false)).1
theorem mN {l:List Term}{root:Int}(h:decide ((160:Int)<l.length)=true):cq l root=false:=by unfold cq;rw [if_pos (of_decide_eq_true h)]
theorem mM {l:List Term}{root:Int}(h:decide (root<0)=true):cq l root=false:=by
 unfold cq;split
 ·rfl
 ·rw [if_pos (of_decide_eq_true h)]
theorem mL {l:List Term}{root:Int}(h:(l.length:Int)≤root):cq l root=false:=by
 unfold cq;split
 ·rfl
 ·split
  ·rfl
  ·first | rfl | rw [if_pos h]
theorem mayB_in {l:List Term}{root:Int}(h1:decide ((160:Int)<l.length)=false)(h2:decide (root<0)=false)(h3:¬(l.length:Int)≤root):(l.length:Int)≤160∧0≤root∧root<l.length:=by
 have:=of_decide_eq_false h1;have:=of_decide_eq_false h2;omega
theorem nJ {l:List Term}{root:Int}(h:(l.length:Int)≤160∧0≤root∧root<l.length):cq l root=(cL l (root.toNat+1) root 1 (List.replicate l.length false)).1:=by
 unfold cq;rw [if_neg omq,if_neg omq,if_neg omq]
end Go.Sx
namespace Go.Sx
open Go
def Tr (l:List Term):Nat→Int→Prop
 | 0,_=>False
 | f+1,at_=>0≤at_∧∃t,l[at_.toNat]? =some t∧0≤ah t.kind∧ce t=true∧(1≤ah t.kind→Tr l f t.l)∧(ah t.kind<1→t.l= -1)∧(2≤ah t.kind→Tr l f t.r)∧(ah t.kind<2→t.r= -1)
def Ei (t:Term):Bool:=if t.kind=0 then aH t.name else decide (t.name=[])
def numB (t:Term):Bool:=decide (t.n=0)||(decide (t.kind=1)||(decide (t.kind=2)&&decide (t.n=1)))
def Dy (t:Term):Bool:=decide (t.text=[])||(decide (t.kind=3)&&decide ((t.text.length:Int)≤24))
def EF (t:Term):Bool:=decide (ah t.kind<0)||((decide (ah t.kind<2)&& !decide (t.r= -1))||(decide (ah t.kind<1)&& !decide (t.l= -1)))
def jE (t:Term):Bool:=!EF t&&(Ei t&&(numB t&&Dy t))
def dR (d:List Int)(i at_:Int):Option (List Int):=
 if at_<0∨i≤at_∨0<d[at_.toNat]?.getD 0 then none else some (d.set at_.toNat (d[i.toNat]?.getD 0+1))
def eQ (d:List Int)(i:Int)(t:Term):Option (List Int):=
 if ah t.kind≤0 then some d else match dR d i t.l with
  | none=>none
  | some d1=>if ah t.kind≤1 then some d1 else dR d1 i t.r
def dy (l:List Term)(i:Int)(d:List Int):Option (List Int):=
 if d[i.toNat]?.getD 0=0 then some d else match l[i.toNat]? with
  | none=>none
  | some t=>if jE t=false∨24<d[i.toNat]?.getD 0 then none else eQ d i t
def eB (l:List Term):Nat→List Int→Option (List Int)
 | 0,d=>some d
 | n+1,d=>match dy l n d with
  | none=>none
  | some d'=>eB l n d'
def gw (l:List Term)(root:Int):Option (List Int):=
 if(160:Int)<l.length∨root<0∨(l.length:Int)≤root then none else eB l (root+1).toNat ((List.replicate l.length 0).set root.toNat 1)
theorem treeS_F {l:List Term}{root:Int}(h:(160:Int)<l.length∨root<0∨(l.length:Int)≤root):gw l root=none:=by unfold gw;rw [if_pos h]
theorem treeS_T {l:List Term}{root:Int}(h:(l.length:Int)≤160∧0≤root∧root<l.length):gw l root=eB l (root+1).toNat ((List.replicate l.length 0).set root.toNat 1):=by unfold gw;rw [if_neg omq]
theorem yZ {l:List Term}{i:Int}{d:List Int}(h:d[i.toNat]?.getD 0=0):dy l i d=some d:=by unfold dy;rw [if_pos h]
theorem yY {l:List Term}{i:Int}{d:List Int}{t:Term}(hx:l[i.toNat]? =some t)(h:¬d[i.toNat]?.getD 0=0)(ha:jE t=false∨24<d[i.toNat]?.getD 0):dy l i d=none:=by unfold dy;rw [if_neg h];simp only [hx];rw [if_pos ha]
theorem yX {l:List Term}{i:Int}{d:List Int}{t:Term}(hx:l[i.toNat]? =some t)(h:¬d[i.toNat]?.getD 0=0)(ha:jE t=true)(h24:¬24<d[i.toNat]?.getD 0):dy l i d=eQ d i t:=by
 unfold dy;rw [if_neg h];simp only [hx];rw [if_neg (by simp [ha];omega)]
theorem Bp {d:List Int}{i:Int}{t:Term}(h:ah t.kind≤0):eQ d i t=some d:=by unfold eQ;rw [if_pos h]
theorem Bn {d:List Int}{i:Int}{t:Term}(h:¬ah t.kind≤0)(h1:dR d i t.l=none):eQ d i t=none:=by unfold eQ;rw [if_neg h,h1]
theorem Bo {d d1:List Int}{i:Int}{t:Term}(h:¬ah t.kind≤0)(h1:dR d i t.l=some d1)(h2:ah t.kind≤1):eQ d i t=some d1:=by unfold eQ;rw [if_neg h,h1];simp only;rw [if_pos h2]
theorem tT {d d1:List Int}{i:Int}{t:Term}{r:Option (List Int)}(h:¬ah t.kind≤0)(h1:dR d i t.l=some d1)(h2:¬ah t.kind≤1)(h3:dR d1 i t.r=r):eQ d i t=r:=by unfold eQ;rw [if_neg h,h1];simp only;rw [if_neg h2,h3]
theorem xu {d:List Int}{i at_:Int}(h:at_<0∨i≤at_∨0<d[at_.toNat]?.getD 0):dR d i at_=none:=by unfold dR;rw [if_pos h]
theorem xt {d:List Int}{i at_:Int}(h1:¬at_<0)(h2:¬i≤at_)(h3:¬0<d[at_.toNat]?.getD 0):dR d i at_=some (d.set at_.toNat (d[i.toNat]?.getD 0+1)):=by unfold dR;rw [if_neg omq]
theorem ju {d:List Int}{i j:Nat}{x:Int}(h:j≠i):(d.set j x)[i]?.getD 0=d[i]?.getD 0:=by simp [h]
def Nn (d:List Int):Prop:=∀i:Nat,0≤d[i]?.getD 0
theorem r9 {d:List Int}{j:Nat}{x:Int}(h:Nn d)(hx:0≤x):Nn (d.set j x):=by
 intro i
 rw [List.getElem?_set]
 split
 ·split
  ·simpa using hx
  ·simp
 ·exact h i
theorem r7 (n r:Nat):Nn ((List.replicate n 0).set r 1):=r9 (fun i=>by rw [List.getElem?_replicate];split<;>simp) omq
end Go.Sx
namespace Go.Sx
open Go
theorem mayW_Tr {l:List Term}:∀(f:Nat) (at_ deep:Int) (met:List Bool),0≤at_→(cL l f at_ deep met).1=true→Tr l f at_:=by
 intro f
 induction f with
 | zero=>intro at_ deep met _ h;simp [cL] at h
 | succ f ih=>
  intro at_ deep met h0 h
  cases hx:l[at_.toNat]? with
  | none=>simp [cL,hx] at h
  | some t=>
   by_cases hg:met[at_.toNat]?.getD false=true∨24<deep∨ah t.kind<0∨ce t=false
   ·rw [rk hx hg] at h;cases h
   ·have hgg:yO deep met at_ t:=by
     refine⟨?_,?_,?_,?_⟩
     ·cases hb:met[at_.toNat]?.getD false with
      | false=>rfl
      | true=>exact absurd (.inl hb) hg
     ·intro h1;exact hg (.inr (.inl h1))
     ·intro h1;exact hg (.inr (.inr (.inl h1)))
     ·cases hb:ce t with
      | true=>rfl
      | false=>exact absurd (.inr (.inr (.inr hb))) hg
    generalize h00:opW (ah t.kind) at_ (fun to m=>cL l f to (deep+1) m) 0 t.l (met.set at_.toNat true)=r0
    obtain⟨b0,m0⟩:=r0
    cases b0 with
    | false=>rw [rm hx hgg h00] at h;cases h
    | true=>
     generalize h11:opW (ah t.kind) at_ (fun to m=>cL l f to (deep+1) m) 1 t.r m0=r1
     rw [km hx hgg h00 h11] at h
     have key:∀(i to:Int) (m m':List Bool),opW (ah t.kind) at_ (fun to m=>cL l f to (deep+1) m) i to m=(true,m')→(i<ah t.kind→Tr l f to)∧(ah t.kind≤i→to= -1):=by
      intro i to m m' he
      refine⟨fun hi=>?_,fun hi=>?_⟩
      ·by_cases hb:to<0∨at_≤to
       ·rw [pD omq hb] at he;cases he
       ·rw [pC omq omq omq] at he
        exact ih to (deep+1) m omq (by rw [he])
      ·rw [vm hi] at he
       simpa using congrArg Prod.fst he
     have k0:=key 0 t.l _ _ h00
     have k1:=key 1 t.r _ r1.2 (by rw [h11];cases r1;simp at h;simp [h])
     exact⟨h0,t,hx,by have:=hgg.2.2.1;omega,hgg.2.2.2,fun h=>k0.1 omq,fun h=>k0.2 omq,fun h=>k1.1 omq,fun h=>k1.2 omq⟩
theorem iz {l:List Term}{root:Int}(h:cq l root=true):Tr l (root.toNat+1) root:=by
 unfold cq at h
 split at h
 ·cases h
 ·split at h
  ·cases h
  ·split at h
   ·cases h
   ·exact mayW_Tr _ _ _ _ omq h
end Go.Sx
namespace Go.Sx
open Go
section
variable {l:List Term}{env:List Typing}{f:Nat}{at_:Int}{t:Term}(hx:l[at_.toNat]? =some t)
include hx
end
def okT (t:Term)(at_ deep:Int):Bool:=
 (decide (0≤ah t.kind)&&ce t)&&((decide (deep≤24))&&
 ((if ah t.kind<1 then decide (t.l= -1) else decide (0≤t.l)&&decide (t.l<at_))&&(if ah t.kind<2 then decide (t.r= -1) else decide (0≤t.r)&&decide (t.r<at_))))
def bV (l:List Term):Nat→Nat→Int→Option (List Nat)
 | 0,_,_=>none
 | f+1,at_,deep=>match l[at_]? with
  | none=>none
  | some t=>if okT t at_ deep=false then none else
   match(if ah t.kind<1 then some [] else bV l f t.l.toNat (deep+1)) with
   | none=>none
   | some p=>match(if ah t.kind<2 then some [] else bV l f t.r.toNat (deep+1)) with
    | none=>none
    | some q=>some (at_::(p++q))
theorem oR {t:Term}{at_ deep:Int}(h:okT t at_ deep=true)(hk:¬ah t.kind<1):0≤t.l∧t.l<at_:=by
 unfold okT at h
 simp only [Bool.and_eq_true] at h
 have:=h.2.2.1
 rw [if_neg hk] at this
 simpa using this
theorem oQ {t:Term}{at_ deep:Int}(h:okT t at_ deep=true)(hk:¬ah t.kind<2):0≤t.r∧t.r<at_:=by
 unfold okT at h
 simp only [Bool.and_eq_true] at h
 have:=h.2.2.2
 rw [if_neg hk] at this
 simpa using this
theorem cG {l:List Term}{f at_:Nat}{deep:Int}{p:List Nat}(h:bV l (f+1) at_ deep=some p):∃t p0 q0,l[at_]? =some t∧okT t at_ deep=true∧
  (if ah t.kind<1 then some [] else bV l f t.l.toNat (deep+1))=some p0∧(if ah t.kind<2 then some [] else bV l f t.r.toNat (deep+1))=some q0∧p=at_::(p0++q0):=by
 simp only [bV] at h
 cases hx:l[at_]? with
 | none=>rw [hx] at h;cases h
 | some t=>
  rw [hx] at h
  simp only at h
  cases hok:okT t at_ deep with
  | false=>rw [hok] at h;simp at h
  | true=>
   rw [hok] at h
   simp only [Bool.true_eq_false,if_false] at h
   cases h0:(if ah t.kind<1 then some [] else bV l f t.l.toNat (deep+1)) with
   | none=>rw [h0] at h;cases h
   | some p0=>
    rw [h0] at h
    simp only at h
    cases h1:(if ah t.kind<2 then some [] else bV l f t.r.toNat (deep+1)) with
    | none=>rw [h1] at h;cases h
    | some q0=>
     rw [h1] at h
     simp only [Option.some.injEq] at h
     exact⟨t,p0,q0,rfl,hok,h0,h1,h.symm⟩
theorem mC {l:List Term}{f at_:Nat}{deep:Int}{t:Term}{p0 q0:List Nat}(hx:l[at_]? =some t)(hok:okT t at_ deep=true)
  (h0:(if ah t.kind<1 then some [] else bV l f t.l.toNat (deep+1))=some p0) (h1:(if ah t.kind<2 then some [] else bV l f t.r.toNat (deep+1))=some q0):bV l (f+1) at_ deep=some (at_::(p0++q0)):=by
 simp only [bV,hx,hok,h0,h1]
 simp
theorem py {l:List Term}:∀(f at_:Nat) (deep:Int) (p:List Nat),bV l f at_ deep=some p→∀x∈p,x≤at_:=by
 intro f
 induction f with
 | zero=>intro at_ deep p h;simp [bV] at h
 | succ f ih=>
  intro at_ deep p h
  obtain⟨t,p0,q0,hx,hok,h0,h1,rfl⟩:=cG h
  intro x hx'
  rcases List.mem_cons.1 hx' with rfl | hx'
  ·exact Nat.le_refl _
  rcases List.mem_append.1 hx' with hx' | hx'
  ·split at h0
   ·simp only [Option.some.injEq] at h0;subst h0;cases hx'
   ·rename_i hk
    have:=oR hok hk
    have:=ih _ _ _ h0 x hx'
    omega
  ·split at h1
   ·simp only [Option.some.injEq] at h1;subst h1;cases hx'
   ·rename_i hk
    have:=oQ hok hk
    have:=ih _ _ _ h1 x hx'
    omega
theorem fW {l:List Term}{f at_:Nat}{deep:Int}{p:List Nat}(h:bV l f at_ deep=some p):at_∈p:=by
 cases f with
 | zero=>simp [bV] at h
 | succ f=>obtain⟨t,p0,q0,hx,hok,h0,h1,rfl⟩:=cG h;simp
theorem ui {l:List Term}:∀(f g at_:Nat) (deep:Int),at_<f→at_<g→bV l f at_ deep=bV l g at_ deep:=by
 intro f
 induction f with
 | zero=>intro g at_ deep h;omega
 | succ f ih=>
  intro g at_ deep hf hg
  cases g with
  | zero=>omega
  | succ g=>
   simp only [bV]
   cases hx:l[at_]? with
   | none=>rfl
   | some t=>
    simp only
    cases hok:okT t at_ deep with
    | false=>simp
    | true=>
     simp only [Bool.true_eq_false,if_false]
     have e0:(if ah t.kind<1 then some [] else bV l f t.l.toNat (deep+1))=(if ah t.kind<1 then some [] else bV l g t.l.toNat (deep+1)):=by
      split
      ·rfl
      ·rename_i hk;have:=oR hok hk;exact ih g _ _ omq omq
     have e1:(if ah t.kind<2 then some [] else bV l f t.r.toNat (deep+1))=(if ah t.kind<2 then some [] else bV l g t.r.toNat (deep+1)):=by
      split
      ·rfl
      ·rename_i hk;have:=oQ hok hk;exact ih g _ _ omq omq
     rw [e0,e1]
def sd (met:List Bool)(p:List Nat):Prop:=∀x∈p,met[x]?.getD false=false
theorem ic {met:List Bool}{i y:Nat}(h:i<met.length):(met.set i true)[y]?.getD false=(met[y]?.getD false||decide (y=i)):=by
 by_cases hy:y=i
 ·subst hy;simp [h]
 ·simp [hy,List.getElem?_set,Ne.symm hy]
theorem Ed {t:Term}{at_ deep:Int}(h1:0≤ah t.kind)(h2:ce t=true)(h3:deep≤24)(h4:ah t.kind<1→t.l= -1)(h5:¬ah t.kind<1→0≤t.l∧t.l<at_)
  (h6:ah t.kind<2→t.r= -1) (h7:¬ah t.kind<2→0≤t.r∧t.r<at_):okT t at_ deep=true:=by
 unfold okT
 simp only [Bool.and_eq_true,decide_eq_true_eq]
 refine⟨⟨h1,h2⟩,h3,?_,?_⟩
 ·split
  ·rename_i h;simpa using h4 h
  ·rename_i h;simpa using h5 h
 ·split
  ·rename_i h;simpa using h6 h
  ·rename_i h;simpa using h7 h
theorem En {l : List Term} : ∀ (f : Nat) (at_ deep : Int) (met : List Bool), 0 ≤ at_ → at_ < l.length → at_.toNat < f → met.length = l.length →
  ((∃ p, bV l f at_.toNat deep = some p ∧ p.Nodup ∧ sd met p) → (cL l f at_ deep met).1 = true) ∧
  ((cL l f at_ deep met).1 = true → ∃ p, bV l f at_.toNat deep = some p ∧ p.Nodup ∧ sd met p ∧ (∀ y, (cL l f at_ deep met).2[y]?.getD false = (met[y]?.getD false || decide (y ∈ p))) ∧ (cL l f at_ deep met).2.length = l.length) := by
 intro f
 induction f with
 | zero => intro at_ deep met h0 h1 h2; omega
 | succ f ih =>
  intro at_ deep met h0 h1 hf hlen
  obtain ⟨t, hx⟩ := al h0 h1
  have hlt : at_.toNat < met.length := by omega
  have hcast : ((at_.toNat : Nat) : Int) = at_ := Int.toNat_of_nonneg h0
  by_cases hg : yO deep met at_ t
  ·obtain ⟨g1, g2, g3, g4⟩ := hg
   have hgg : yO deep met at_ t := ⟨g1, g2, g3, g4⟩
   -- one operand
   have op : ∀ (i to : Int) (m : List Bool), m.length = l.length → i < 2 → 0 ≤ i → (0 ≤ to → to < at_ → ah t.kind > i →
     ((∃ p, bV l f to.toNat (deep + 1) = some p ∧ p.Nodup ∧ sd m p) → (cL l f to (deep + 1) m).1 = true) ∧
     ((cL l f to (deep + 1) m).1 = true → ∃ p, bV l f to.toNat (deep + 1) = some p ∧ p.Nodup ∧ sd m p ∧ (∀ y, (cL l f to (deep + 1) m).2[y]?.getD false = (m[y]?.getD false || decide (y ∈ p))) ∧ (cL l f to (deep + 1) m).2.length = l.length)) :=
    fun i to m hm _ _ ht0 ht1 _ => ih to (deep + 1) m ht0 omq omq hm
   have side : ∀ (i to : Int) (m : List Bool), m.length = l.length → 0 ≤ i → i < 2 →
     (((ah t.kind < i + 1 → to = -1) ∧ (¬ ah t.kind < i + 1 → 0 ≤ to ∧ to < at_) ∧ ∃ p, (if ah t.kind < i + 1 then some [] else bV l f to.toNat (deep + 1)) = some p ∧ p.Nodup ∧ sd m p) → (opW (ah t.kind) at_ (fun to m => cL l f to (deep + 1) m) i to m).1 = true) ∧
     ((opW (ah t.kind) at_ (fun to m => cL l f to (deep + 1) m) i to m).1 = true → (ah t.kind < i + 1 → to = -1) ∧ (¬ ah t.kind < i + 1 → 0 ≤ to ∧ to < at_) ∧
      ∃ p, (if ah t.kind < i + 1 then some [] else bV l f to.toNat (deep + 1)) = some p ∧ p.Nodup ∧ sd m p ∧ (∀ y, (opW (ah t.kind) at_ (fun to m => cL l f to (deep + 1) m) i to m).2[y]?.getD false = (m[y]?.getD false || decide (y ∈ p))) ∧ (opW (ah t.kind) at_ (fun to m => cL l f to (deep + 1) m) i to m).2.length = l.length) := by
    intro i to m hm hi0 hi2
    by_cases hk : ah t.kind ≤ i
    ·rw [vm hk]
     have hk' : ah t.kind < i + 1 := by omega
     refine ⟨fun h => by simpa using h.1 hk', fun h => ⟨fun _ => by simpa using h, fun hn => absurd hk' hn, [], by rw [if_pos hk'], List.nodup_nil, by simp [sd], by simp, hm⟩⟩
    ·have hk' : ¬ ah t.kind < i + 1 := by omega
     by_cases hb : to < 0 ∨ at_ ≤ to
     ·rw [pD hk hb]
      refine ⟨fun h => ?_, fun h => by cases h⟩
      have := h.2.1 hk'
      omega
     ·rw [pC hk omq omq]
      have hh := op i to m hm hi2 hi0 omq omq omq
      refine ⟨fun h => ?_, fun h => ?_⟩
      ·obtain ⟨_, _, p, h1, h2, h3⟩ := h
       rw [if_neg hk'] at h1
       exact hh.1 ⟨p, h1, h2, h3⟩
      ·obtain ⟨p, h1, h2, h3, h4, h5⟩ := hh.2 h
       exact ⟨fun hn => absurd hn hk', fun _ => by omega, p, by rw [if_neg hk']; exact h1, h2, h3, h4, h5⟩
   have hm1 : (met.set at_.toNat true).length = l.length := by simp [hlen]
   have s0 := side 0 t.l (met.set at_.toNat true) hm1 omq omq
   generalize h00 : opW (ah t.kind) at_ (fun to m => cL l f to (deep + 1) m) 0 t.l (met.set at_.toNat true) = r0 at s0
   obtain ⟨b0, m0⟩ := r0
   simp only [Int.zero_add] at s0
   constructor
   ·rintro ⟨p, hp, hnd, hcl⟩
    obtain ⟨t', p0, q0, hx', hok, e0, e1, rfl⟩ := cG hp
    obtain rfl : t = t' := by rw [hx] at hx'; exact Option.some.inj hx'
    rw [hcast] at hok
    simp only [List.nodup_cons, List.nodup_append, List.mem_append, not_or] at hnd
    obtain ⟨⟨n1, n2⟩, n3, n4, n5⟩ := hnd
    have ok' := hok
    unfold okT at ok'
    simp only [Bool.and_eq_true, decide_eq_true_eq] at ok'
    have hb0 : b0 = true := by
     refine s0.1 ⟨fun hk => ?_, fun hk => oR hok hk, p0, e0, n3, fun x hxp => ?_⟩
     ·have := ok'.2.2.1; rw [if_pos hk] at this; simpa using this
     ·rw [ic hlt]
      have hne : x ≠ at_.toNat := fun e => n1 (e ▸ hxp)
      simp [hne, hcl x (by simp [hxp])]
    subst hb0
    obtain ⟨_, _, p0', e0', _, _, hm0, hl0⟩ := s0.2 rfl
    obtain rfl : p0 = p0' := by rw [e0] at e0'; exact Option.some.inj e0'
    have s1 := side 1 t.r m0 hl0 omq omq
    simp only [show (1 : Int) + 1 = 2 from rfl] at s1
    rw [km hx hgg h00 rfl]
    refine s1.1 ⟨fun hk => ?_, fun hk => oQ hok hk, q0, e1, n4, fun x hxq => ?_⟩
    ·have := ok'.2.2.2; rw [if_pos hk] at this; simpa using this
    ·rw [hm0, ic hlt]
     have hne : x ≠ at_.toNat := fun e => n2 (e ▸ hxq)
     have hnp : x ∉ p0 := fun hxp => n5 x hxp x hxq rfl
     simp [hne, hnp, hcl x (by simp [hxq])]
   ·intro hb
    cases b0 with
    | false => rw [rm hx hgg h00] at hb; cases hb
    | true =>
     obtain ⟨a1, a2, p0, e0, n3, c0, hm0, hl0⟩ := s0.2 rfl
     have s1 := side 1 t.r m0 hl0 omq omq
     simp only [show (1 : Int) + 1 = 2 from rfl] at s1
     rw [km hx hgg h00 rfl] at hb ⊢
     obtain ⟨a3, a4, q0, e1, n4, c1, hm2, hl2⟩ := s1.2 hb
     have hok : okT t at_.toNat deep = true := by
      rw [hcast]; exact Ed omq g4 omq a1 a2 a3 a4
     have hat0 : at_.toNat ∉ p0 := fun hh => by
      have := c0 _ hh; rw [ic hlt] at this; simp at this
     have hat1 : at_.toNat ∉ q0 := fun hh => by
      have := c1 _ hh; rw [hm0, ic hlt] at this; simp at this
     refine ⟨at_.toNat :: (p0 ++ q0), mC hx hok e0 e1, ?_, ?_, ?_, hl2⟩
     ·simp only [List.nodup_cons, List.nodup_append, List.mem_append, not_or]
      refine ⟨⟨hat0, hat1⟩, n3, n4, fun x hxp y hyq e => ?_⟩
      subst e
      have := c1 x hyq
      rw [hm0] at this
      simp [hxp] at this
     ·intro x hxp
      rcases List.mem_cons.1 hxp with rfl | hxp
      ·exact g1
      rcases List.mem_append.1 hxp with hxp | hxp
      ·have := c0 x hxp; rw [ic hlt] at this; simp at this; exact this.1
      ·have := c1 x hxp; rw [hm0, ic hlt] at this; simp at this; exact this.1.1
     ·intro y
      rw [hm2, hm0, ic hlt]
      simp only [List.mem_cons, List.mem_append, Bool.or_assoc]
      congr 1
      rw [Bool.eq_iff_iff]
      simp
  ·have hbad : met[at_.toNat]?.getD false = true ∨ 24 < deep ∨ ah t.kind < 0 ∨ ce t = false := by
    by_cases a1 : met[at_.toNat]?.getD false = true
    ·exact .inl a1
    by_cases a2 : 24 < deep
    ·exact .inr (.inl a2)
    by_cases a3 : ah t.kind < 0
    ·exact .inr (.inr (.inl a3))
    by_cases a4 : ce t = false
    ·exact .inr (.inr (.inr a4))
    exact absurd ⟨by simpa using a1, a2, a3, by simpa using a4⟩ hg
   rw [rk hx hbad]
   refine ⟨fun h => ?_, fun h => by cases h⟩
   obtain ⟨p, hp, hnd, hcl⟩ := h
   obtain ⟨t', p0, q0, hx', hok, e0, e1, rfl⟩ := cG hp
   obtain rfl : t = t' := by rw [hx] at hx'; exact Option.some.inj hx'
   unfold okT at hok
   simp only [Bool.and_eq_true, decide_eq_true_eq] at hok
   have hself := hcl at_.toNat sq
   rcases hbad with h | h | h | h
   ·rw [hself] at h; cases h
   ·omega
   ·omega
   ·rw [hok.1.2] at h; cases h
theorem AS {l:List Term}{root:Int}(hr:0≤root∧root<l.length):(cL l (root.toNat+1) root 1 (List.replicate l.length false)).1=true↔∃p,bV l (root.toNat+1) root.toNat 1=some p∧p.Nodup:=by
 have h:=En (l:=l) (root.toNat+1) root 1 (List.replicate l.length false) hr.1 hr.2 omq sq
 constructor
 ·intro hb
  obtain⟨p,h1,h2,_⟩:=h.2 hb
  exact⟨p,h1,h2⟩
 ·rintro⟨p,h1,h2⟩
  exact h.1 ⟨p,h1,h2,fun x _=>by rw [List.getElem?_replicate];split<;>rfl⟩
def cc (l:List Term)(a:Nat)(v:Int)(y:Nat):Nat:=match bV l (a+1) a v with
 | some p=>p.count y
 | none=>0
def cnt (l:List Term):Nat→List Int→Nat→Nat
 | 0,_,_=>0
 | n+1,d,y=>cnt l n d y+(if d[n]?.getD 0=0 then 0 else cc l n (d[n]?.getD 0) y)
def gd (l:List Term):Nat→List Int→Prop
 | 0,_=>True
 | n+1,d=>gd l n d∧(d[n]?.getD 0=0∨(bV l (n+1) n (d[n]?.getD 0)).isSome=true)
def uN (l:List Term)(n:Nat)(d:List Int):Prop:=gd l n d∧∀y,cnt l n d y≤1
theorem EM {l:List Term}:∀(n:Nat) (d:List Int) (y:Nat),n≤y→cnt l n d y=0
 | 0,_,_,_=>rfl
 | n+1,d,y,h=>by
  simp only [cnt,EM n d y omq,Nat.zero_add]
  split
  ·rfl
  ·unfold cc
   split
   ·rename_i p hp
    refine List.count_eq_zero.2 (fun hm=>?_)
    have:=py _ _ _ _ hp y hm
    omega
   ·rfl
theorem rO {l:List Term}{a:Nat}{v:Int}{y:Nat}:∀(n:Nat) (d:List Int),n≤a→cnt l n (d.set a v) y=cnt l n d y
 | 0,_,_=>rfl
 | n+1,d,h=>by
  simp only [cnt,rO (a:=a) (v:=v) n d omq,ju (show a≠n by omega)]
theorem uz {l:List Term}{a:Nat}{v:Int}:∀(n:Nat) (d:List Int),n≤a→(gd l n (d.set a v)↔gd l n d)
 | 0,_,_=>Iff.rfl
 | n+1,d,h=>by
  simp only [gd,uz (a:=a) (v:=v) n d omq,ju (show a≠n by omega)]
theorem uW {d:List Int}{a:Nat}{v:Int}(h:a<d.length):(d.set a v)[a]?.getD 0=v:=by simp [h]
theorem mU {l:List Term}{a:Nat}{v:Int}{y:Nat}:∀(n:Nat) (d:List Int),a<n→a<d.length→d[a]?.getD 0=0→0<v→cnt l n (d.set a v) y=cnt l n d y+cc l a v y
 | 0,_,h,_,_,_=>by omega
 | n+1,d,h,hl,h0,hv=>by
  by_cases ha:a=n
  ·subst ha
   simp only [cnt,rO a d (Nat.le_refl _),uW hl,h0,if_true]
   rw [if_neg omq]
   omega
  ·simp only [cnt,mU n d omq hl h0 hv,ju ha]
   omega
theorem vB {l:List Term}{a:Nat}{v:Int}:∀(n:Nat) (d:List Int),a<n→a<d.length→d[a]?.getD 0=0→0<v→(gd l n (d.set a v)↔gd l n d∧(bV l (a+1) a v).isSome=true)
 | 0,_,h,_,_,_=>by omega
 | n+1,d,h,hl,h0,hv=>by
  by_cases ha:a=n
  ·subst ha
   simp only [gd,uz a d (Nat.le_refl _),uW hl,h0,true_or,and_true]
   constructor
   ·rintro⟨h1,h2⟩
    refine⟨h1,h2.resolve_left omq⟩
   ·rintro⟨h1,h2⟩;exact⟨h1,.inr h2⟩
  ·simp only [gd,vB n d omq hl h0 hv,ju ha]
   constructor
   ·rintro⟨⟨h1,h2⟩,h3⟩;exact⟨⟨h1,h3⟩,h2⟩
   ·rintro⟨⟨h1,h3⟩,h2⟩;exact⟨⟨h1,h2⟩,h3⟩
theorem vF {l:List Term}{a:Nat}:∀(n:Nat) (d:List Int),a<n→¬d[a]?.getD 0=0→gd l n d→1≤cnt l n d a
 | 0,_,h,_,_=>by omega
 | n+1,d,h,h0,hg=>by
  simp only [cnt]
  by_cases ha:a=n
  ·subst ha
   rw [if_neg h0]
   have:=hg.2.resolve_left h0
   obtain⟨p,hp⟩:=Option.isSome_iff_exists.1 this
   unfold cc
   rw [hp]
   have:=List.count_pos_iff.2 (fW hp)
   simp only
   omega
  ·have:=vF n d omq h0 hg.1
   omega
theorem zG {t:Term}:jE t=true↔0≤ah t.kind∧ce t=true∧(ah t.kind<1→t.l= -1)∧(ah t.kind<2→t.r= -1):=by
 have hform:EF t=false↔0≤ah t.kind∧(ah t.kind<2→t.r= -1)∧(ah t.kind<1→t.l= -1):=by
  unfold EF
  simp only [Bool.or_eq_false_iff,Bool.and_eq_false_iff,decide_eq_false_iff_not,Bool.not_eq_false',decide_eq_true_eq]
  constructor
  ·rintro⟨h1,h2,h3⟩
   exact⟨by omega,fun h=>h2.resolve_left omq,fun h=>h3.resolve_left omq⟩
  ·rintro⟨h1,h2,h3⟩
   refine⟨by omega,?_,?_⟩
   ·by_cases h:ah t.kind<2
    ·exact .inr (h2 h)
    ·exact .inl h
   ·by_cases h:ah t.kind<1
    ·exact .inr (h3 h)
    ·exact .inl h
 have hf:(Ei t&&(numB t&&Dy t))=ce t:=by
  unfold Ei numB Dy ce
  by_cases k0:t.kind=0
  ·simp [k0]
  by_cases k1:t.kind=1
  ·simp [k1]
  by_cases k2:t.kind=2
  ·simp only [k2]
   simp
   by_cases a:t.name=[]<;>by_cases b:t.text=[]<;>by_cases c:t.n=0<;>by_cases e:t.n=1<;>simp [a,b,c,e]
  by_cases k3:t.kind=3
  ·simp only [k3]
   simp
   by_cases a:t.name=[]<;>by_cases b:t.text=[]<;>by_cases c:t.n=0<;>simp [a,b,c]
  ·simp [k0,k1,k2,k3]
 unfold jE
 rw [Bool.and_eq_true,hf,Bool.not_eq_true',hform]
 constructor
 ·rintro⟨⟨h1,h2,h3⟩,h4⟩;exact⟨h1,h4,h3,h2⟩
 ·rintro⟨h1,h2,h3,h4⟩;exact⟨⟨h1,h4,h3⟩,h2⟩
theorem pE {t:Term}{at_ deep:Int}:okT t at_ deep=true↔jE t=true∧deep≤24∧(¬ah t.kind<1→0≤t.l∧t.l<at_)∧(¬ah t.kind<2→0≤t.r∧t.r<at_):=by
 rw [zG]
 constructor
 ·intro h
  have ok':=h
  unfold okT at ok'
  simp only [Bool.and_eq_true,decide_eq_true_eq] at ok'
  refine⟨⟨ok'.1.1,ok'.1.2,fun hk=>?_,fun hk=>?_⟩,ok'.2.1,oR h,oQ h⟩
  ·have:=ok'.2.2.1;rw [if_pos hk] at this;simpa using this
  ·have:=ok'.2.2.2;rw [if_pos hk] at this;simpa using this
 ·rintro⟨⟨h1,h2,h3,h4⟩,h5,h6,h7⟩
  exact Ed h1 h2 h5 h3 h6 h4 h7
theorem vf {l:List Term}{n:Nat}{v:Int}{t:Term}(hx:l[n]? =some t)(h:¬okT t n v=true):(bV l (n+1) n v).isSome=false:=by
 cases hp:bV l (n+1) n v with
 | none=>rfl
 | some p=>
  obtain⟨t',p0,q0,hx',hok,_⟩:=cG hp
  obtain rfl:t=t':=by rw [hx] at hx';exact Option.some.inj hx'
  exact absurd hok h
theorem scan {l:List Term}:∀(n:Nat) (d:List Int),n≤l.length→d.length=l.length→Nn d→((eB l n d).isSome=true↔uN l n d):=by
 intro n
 induction n with
 | zero=>intro d _ _ _;exact⟨fun _=>⟨trivial,fun y=>by simp [cnt]⟩,fun _=>rfl⟩
 | succ n ih=>
  intro d hn hd hnn
  have hN:=hnn n
  simp only [eB]
  by_cases h0:d[n]?.getD 0=0
  ·rw [yZ (by simpa using h0)]
   simp only
   rw [ih d omq hd hnn]
   unfold uN
   simp only [gd,cnt,h0,if_true,true_or,and_true,Nat.add_zero]
  ·obtain⟨t,hx⟩:∃t,l[n]? =some t:=⟨l[n]'omq,List.getElem?_eq_getElem omq⟩
   have hpos:0<d[n]?.getD 0:=by omega
   have gdN:gd l (n+1) d→(bV l (n+1) n (d[n]?.getD 0)).isSome=true:=fun h=>h.2.resolve_left h0
   by_cases hbad:jE t=false∨24<d[n]?.getD 0
   ·rw [yY (t:=t) (by simpa using hx) (by simpa using h0) (by simpa using hbad)]
    refine⟨fun h=>(by cases h),fun h=>?_⟩
    have h1:=gdN h.1
    rw [vf hx (fun hok=>?_)] at h1
    ·cases h1
    ·rw [pE] at hok
     rcases hbad with hb | hb
     ·rw [hok.1] at hb;cases hb
     ·omega
   ·have hal:jE t=true:=by
     cases hb:jE t with
     | true=>rfl
     | false=>exact absurd (.inl hb) hbad
    have h24:¬24<d[n]?.getD 0:=fun h=>hbad (.inr h)
    rw [yX (t:=t) (by simpa using hx) (by simpa using h0) hal (by simpa using h24)]
    have hself0:cnt l n d n=0:=EM n d n (Nat.le_refl _)
    by_cases k1:ah t.kind<1
    ·rw [Bp omq]
     simp only
     rw [ih d omq hd hnn]
     have hok:okT t n (d[n]?.getD 0)=true:=pE.2 ⟨hal,by omega,fun h=>absurd k1 h,fun h=>absurd omq h⟩
     have hp:bV l (n+1) n (d[n]?.getD 0)=some (n::([]++[])):=mC hx hok (by rw [if_pos k1]) (by rw [if_pos omq])
     have hc:∀y,cnt l (n+1) d y=cnt l n d y+[n].count y:=fun y=>by
      simp only [cnt,if_neg h0];unfold cc;rw [hp];simp
     unfold uN
     constructor
     ·rintro⟨a,b⟩
      refine⟨⟨a,.inr (by rw [hp];rfl)⟩,fun y=>?_⟩
      rw [hc]
      by_cases hy:y=n
      ·subst hy;rw [hself0];simp
      ·have:[n].count y=0:=List.count_eq_zero.2 (by simpa using hy)
       have:=b y;omega
     ·rintro⟨a,b⟩
      exact⟨a.1,fun y=>by have:=b y;rw [hc] at this;omega⟩
    ·have k1':¬ah t.kind≤0:=by omega
     by_cases hb1:t.l<0∨(n:Int)≤t.l∨0<d[t.l.toNat]?.getD 0
     ·rw [Bn k1' (xu hb1)]
      refine⟨fun h=>(by cases h),fun h=>?_⟩
      have h1:=gdN h.1
      obtain⟨p,hp⟩:=Option.isSome_iff_exists.1 h1
      obtain⟨t',p0,q0,hx',hok,e0,e1,rfl⟩:=cG hp
      obtain rfl:t=t':=by rw [hx] at hx';exact Option.some.inj hx'
      have hl:=oR hok k1
      rw [if_neg k1] at e0
      have hpos':=hb1.resolve_left omq |>.resolve_left omq
      have c1:=vF (l:=l) n d (a:=t.l.toNat) omq omq h.1.1
      have c2:=h.2 t.l.toNat
      simp only [cnt,if_neg h0] at c2
      unfold cc at c2
      rw [hp] at c2
      have hm:1≤(n::(p0++q0)).count t.l.toNat:=List.count_pos_iff.2 (by simp [fW e0])
      simp only at c2
      omega
     ·have b1:¬t.l<0:=fun h=>hb1 (.inl h)
      have b2:¬(n:Int)≤t.l:=fun h=>hb1 (.inr (.inl h))
      have b3:¬0<d[t.l.toNat]?.getD 0:=fun h=>hb1 (.inr (.inr h))
      have b3':d[t.l.toNat]?.getD 0=0:=by have:=hnn t.l.toNat;omega
      have o1:=xt (d:=d) (i:=(n:Int)) b1 b2 b3
      simp only [Int.toNat_natCast] at o1
      have hln:t.l.toNat<n:=by omega
      have hl1:(d.set t.l.toNat (d[n]?.getD 0+1)).length=l.length:=by simp [hd]
      have hnn1:Nn (d.set t.l.toNat (d[n]?.getD 0+1)):=r9 hnn omq
      have cs1:∀y,cnt l n (d.set t.l.toNat (d[n]?.getD 0+1)) y=cnt l n d y+cc l t.l.toNat (d[n]?.getD 0+1) y:=fun y=>mU n d hln omq b3' omq
      have gs1:=vB (l:=l) (v:=d[n]?.getD 0+1) n d hln omq b3' omq
      have fu1:bV l n t.l.toNat (d[n]?.getD 0+1)=bV l (t.l.toNat+1) t.l.toNat (d[n]?.getD 0+1):=ui _ _ _ _ hln omq
      by_cases k2:ah t.kind<2
      ·rw [Bo k1' o1 omq]
       simp only
       rw [ih _ omq hl1 hnn1]
       have hok:okT t n (d[n]?.getD 0)=true:=pE.2 ⟨hal,by omega,fun _=>by omega,fun h=>absurd k2 h⟩
       unfold uN
       rw [gs1]
       cases hp0:bV l (t.l.toNat+1) t.l.toNat (d[n]?.getD 0+1) with
       | none=>
        refine⟨fun h=>by simp at h,fun h=>?_⟩
        have h1:=gdN h.1
        obtain⟨p,hp⟩:=Option.isSome_iff_exists.1 h1
        obtain⟨t',p0,q0,hx',_,e0,e1,rfl⟩:=cG hp
        obtain rfl:t=t':=by rw [hx] at hx';exact Option.some.inj hx'
        rw [if_neg k1,fu1,hp0] at e0
        cases e0
       | some p0=>
        have hp:bV l (n+1) n (d[n]?.getD 0)=some (n::(p0++[])):=mC hx hok (by rw [if_neg k1,fu1,hp0]) (by rw [if_pos k2])
        have hc:∀y,cnt l (n+1) d y=cnt l n d y+(n::(p0++[])).count y:=fun y=>by
         simp only [cnt,if_neg h0];unfold cc;rw [hp]
        have hc0:∀y,cc l t.l.toNat (d[n]?.getD 0+1) y=p0.count y:=fun y=>by unfold cc;rw [hp0]
        have hn0:p0.count n=0:=List.count_eq_zero.2 (fun hm=>by have:=py _ _ _ _ hp0 n hm;omega)
        constructor
        ·rintro⟨⟨a,_⟩,b⟩
         refine⟨⟨a,.inr (by rw [hp];rfl)⟩,fun y=>?_⟩
         have:=b y
         rw [cs1,hc0] at this
         rw [hc]
         by_cases hy:y=n
         ·subst hy;simp [hself0,hn0]
         ·simp only [List.append_nil,List.count_cons,beq_iff_eq,Ne.symm hy,if_false];omega
        ·rintro⟨a,b⟩
         refine⟨⟨a.1,rfl⟩,fun y=>?_⟩
         have:=b y
         rw [hc] at this
         simp only [List.append_nil,List.count_cons] at this
         rw [cs1,hc0]
         omega
      ·by_cases hb2:t.r<0∨(n:Int)≤t.r∨0<(d.set t.l.toNat (d[n]?.getD 0+1))[t.r.toNat]?.getD 0
       ·rw [tT k1' o1 omq (xu hb2)]
        refine⟨fun h=>(by cases h),fun h=>?_⟩
        have h1:=gdN h.1
        obtain⟨p,hp⟩:=Option.isSome_iff_exists.1 h1
        obtain⟨t',p0,q0,hx',hok,e0,e1,rfl⟩:=cG hp
        obtain rfl:t=t':=by rw [hx] at hx';exact Option.some.inj hx'
        have hr:=oQ hok k2
        rw [if_neg k1] at e0
        rw [if_neg k2] at e1
        have hpos':=hb2.resolve_left omq |>.resolve_left omq
        have c2:=h.2 t.r.toNat
        simp only [cnt,if_neg h0] at c2
        unfold cc at c2
        rw [hp] at c2
        simp only [List.count_cons,List.count_append] at c2
        have hm:1≤q0.count t.r.toNat:=List.count_pos_iff.2 (fW e1)
        by_cases he:t.l.toNat=t.r.toNat
        ·have hm':1≤p0.count t.r.toNat:=List.count_pos_iff.2 (he▸fW e0)
         omega
        ·rw [ju he] at hpos'
         have c1:=vF (l:=l) n d (a:=t.r.toNat) omq omq h.1.1
         omega
       ·have b4:¬t.r<0:=fun h=>hb2 (.inl h)
        have b5:¬(n:Int)≤t.r:=fun h=>hb2 (.inr (.inl h))
        have b6:¬0<(d.set t.l.toNat (d[n]?.getD 0+1))[t.r.toNat]?.getD 0:=fun h=>hb2 (.inr (.inr h))
        have b6':(d.set t.l.toNat (d[n]?.getD 0+1))[t.r.toNat]?.getD 0=0:=by have:=hnn1 t.r.toNat;omega
        have o2:=xt (d:=d.set t.l.toNat (d[n]?.getD 0+1)) (i:=(n:Int)) b4 b5 b6
        simp only [Int.toNat_natCast,ju (show t.l.toNat≠n by omega)] at o2
        have hrn:t.r.toNat<n:=by omega
        rw [tT k1' o1 omq o2]
        simp only
        rw [ih _ omq (by simp [hd]) (r9 hnn1 omq)]
        have cs2:∀y,cnt l n ((d.set t.l.toNat (d[n]?.getD 0+1)).set t.r.toNat (d[n]?.getD 0+1)) y=cnt l n d y+cc l t.l.toNat (d[n]?.getD 0+1) y+cc l t.r.toNat (d[n]?.getD 0+1) y:=fun y=>by
         rw [mU n _ hrn omq b6' omq,cs1]
        have gs2:=vB (l:=l) (v:=d[n]?.getD 0+1) n (d.set t.l.toNat (d[n]?.getD 0+1)) hrn omq b6' omq
        have fu2:bV l n t.r.toNat (d[n]?.getD 0+1)=bV l (t.r.toNat+1) t.r.toNat (d[n]?.getD 0+1):=ui _ _ _ _ hrn omq
        have hok:okT t n (d[n]?.getD 0)=true:=pE.2 ⟨hal,by omega,fun _=>by omega,fun _=>by omega⟩
        unfold uN
        rw [gs2,gs1]
        have hno:(bV l (t.l.toNat+1) t.l.toNat (d[n]?.getD 0+1)=none∨bV l (t.r.toNat+1) t.r.toNat (d[n]?.getD 0+1)=none)→¬gd l (n+1) d:=by
         intro hh hg
         obtain⟨p,hp⟩:=Option.isSome_iff_exists.1 (gdN hg)
         obtain⟨t',p0,q0,hx',_,e0,e1,rfl⟩:=cG hp
         obtain rfl:t=t':=by rw [hx] at hx';exact Option.some.inj hx'
         rw [if_neg k1,fu1] at e0
         rw [if_neg k2,fu2] at e1
         rcases hh with hh | hh
         ·rw [hh] at e0;cases e0
         ·rw [hh] at e1;cases e1
        cases hp0:bV l (t.l.toNat+1) t.l.toNat (d[n]?.getD 0+1) with
        | none=>exact⟨fun h=>by simp at h,fun h=>absurd h.1 (hno (.inl hp0))⟩
        | some p0=>
         cases hq0:bV l (t.r.toNat+1) t.r.toNat (d[n]?.getD 0+1) with
         | none=>exact⟨fun h=>by simp at h,fun h=>absurd h.1 (hno (.inr hq0))⟩
         | some q0=>
          have hp:bV l (n+1) n (d[n]?.getD 0)=some (n::(p0++q0)):=mC hx hok (by rw [if_neg k1,fu1,hp0]) (by rw [if_neg k2,fu2,hq0])
          have hc:∀y,cnt l (n+1) d y=cnt l n d y+(n::(p0++q0)).count y:=fun y=>by
           simp only [cnt,if_neg h0];unfold cc;rw [hp]
          have hc0:∀y,cc l t.l.toNat (d[n]?.getD 0+1) y=p0.count y:=fun y=>by unfold cc;rw [hp0]
          have hc1:∀y,cc l t.r.toNat (d[n]?.getD 0+1) y=q0.count y:=fun y=>by unfold cc;rw [hq0]
          have hn0:p0.count n=0:=List.count_eq_zero.2 (fun hm=>by have:=py _ _ _ _ hp0 n hm;omega)
          have hn1:q0.count n=0:=List.count_eq_zero.2 (fun hm=>by have:=py _ _ _ _ hq0 n hm;omega)
          constructor
          ·rintro⟨⟨⟨a,_⟩,_⟩,b⟩
           refine⟨⟨a,.inr (by rw [hp];rfl)⟩,fun y=>?_⟩
           have:=b y
           rw [cs2,hc0,hc1] at this
           rw [hc]
           by_cases hy:y=n
           ·subst hy;simp [hself0,hn0,hn1]
           ·simp only [List.count_cons,List.count_append,beq_iff_eq,Ne.symm hy,if_false];omega
          ·rintro⟨a,b⟩
           refine⟨⟨⟨a.1,rfl⟩,rfl⟩,fun y=>?_⟩
           have:=b y
           rw [hc] at this
           simp only [List.count_cons,List.count_append] at this
           rw [cs2,hc0,hc1]
           omega
theorem jY {l:List Term}{root:Int}:cq l root=(gw l root).isSome:=by
 by_cases h:(l.length:Int)≤160∧0≤root∧root<l.length
 ·rw [nJ h,treeS_T h,Bool.eq_iff_iff,AS h.2,qC h.2.1]
  rw [scan (root.toNat+1) _ omq sq (r7 _ _)]
  have hz:∀i:Nat,(List.replicate l.length (0:Int))[i]?.getD 0=0:=fun i=>by rw [List.getElem?_replicate];split<;>simp
  have hc0:∀(n y:Nat),cnt l n (List.replicate l.length 0) y=0:=by
   intro n y
   induction n with
   | zero=>rfl
   | succ n ih=>simp only [cnt,ih,hz,if_true]
  have hg0:∀n:Nat,gd l n (List.replicate l.length 0):=by
   intro n
   induction n with
   | zero=>trivial
   | succ n ih=>exact⟨ih,.inl (hz n)⟩
  unfold uN
  rw [vB (root.toNat+1) _ omq (by simp;omega) (hz _) omq]
  constructor
  ·rintro⟨p,h1,h2⟩
   refine⟨⟨hg0 _,by rw [h1];rfl⟩,fun y=>?_⟩
   rw [mU (root.toNat+1) _ omq (by simp;omega) (hz _) omq,hc0]
   unfold cc
   rw [h1]
   have:=List.nodup_iff_count.1 h2 y
   simp only
   omega
  ·rintro⟨⟨_,h1⟩,h2⟩
   obtain⟨p,hp⟩:=Option.isSome_iff_exists.1 h1
   refine⟨p,hp,List.nodup_iff_count.2 (fun y=>?_)⟩
   have:=h2 y
   rw [mU (root.toNat+1) _ omq (by simp;omega) (hz _) omq,hc0] at this
   unfold cc at this
   rw [hp] at this
   simp only at this
   omega
 ·have h1:(160:Int)<l.length∨root<0∨(l.length:Int)≤root:=by omega
  rw [treeS_F h1]
  rcases h1 with h | h | h
  ·rw [mN (by simpa using h)];rfl
  ·rw [mM (by simpa using h)];rfl
  ·rw [mL h];rfl
end Go.Sx
namespace Go.Sx
open Go
end Go.Sx
namespace Go.Sx
open Go
end Go.Sx
namespace Go.Sx
open Go
def I64.cells (n:Int):List Value:=[.int .i64 n]
def Str.cells (s:Str):List Value:=[gs s]
instance :Cells 1 I64.cells:=⟨fun _=>rfl,by decide,fun _=>rfl⟩
instance :Cells 1 Str.cells:=⟨fun _=>rfl,by decide,fun _=>rfl⟩
instance :Cells 6 Term.cells:=⟨fun _=>rfl,by decide,fun _=>rfl⟩
theorem bM {α:Type}{l:List α}{k:Int}{x:α}(hk:0≤k)(hx:l[k.toNat]? =some x):l.take (k+1).toNat=l.take k.toNat++[x]:=by
 rw [show(k+1).toNat=k.toNat+1 by omega,List.take_add_one,hx];rfl
theorem bA {α:Type}{l:List α}{k:Int}(h:¬k<l.length)(h2:0≤k):l.take k.toNat=l:=List.take_of_length_le omq
theorem bR {α β:Type}{f:α→β}{l:List α}{k:Int}{x:α}(hk:0≤k)(hx:l[k.toNat]? =some x):(l.take (k+1).toNat).map f=(l.take k.toNat).map f++[f x]:=by
 rw [bM hk hx];simp
end Go.Sx
namespace Go.Sx
open Go
end Go.Sx
namespace Go.Sx
open Go
end Go.Sx
namespace Go.Sx
open Go
end Go.Sx
namespace Go.Sx
open Go
theorem enc_gs (s:Str):Go.Proofs.encStr s=gs s:=rfl
theorem sy (d:List Str)(cs:List Value)(h:d.length≤cs.length):(Go.Sort.putCells Go.Proofs.encStr 0 d.toArray cs.toArray).toList=d.map gs++cs.drop d.length:=by
 apply List.ext_getElem?
 intro k
 rw [List.getElem?_append]
 by_cases hk:k<d.length
 ·simp [Go.Sort.putCells,hk,show k<cs.length by omega]
  rfl
 ·by_cases hc:k<cs.length
  ·simp [Go.Sort.putCells,hk,hc,show d.length+(k - d.length)=k by omega]
  ·simp [Go.Sort.putCells,hk,hc,show d.length+(k - d.length)=k by omega]
section
variable {P:Program}{n:Nat}{ops:Array Oper}{Q:Exit→Act→World→Prop}{E:Env}{M:List Nat}{w0:World}{H0 H:Hp}{L:ak}{C:World→Prop}{rest:List Oper}{dst:Option Nat}{op:Op}{ty:TypeId}{pos:String}{aft:Array Edge}
theorem St.row {w:World}{b:Nat}{cs:List Value}{R:ak}{d:List Str}(h:St M w0 H0 H ((b,cs)::R) w)(hd:d.length≤cs.length)(q:Nat)(os:Array Obj):
  St M w0 H0 H ((b,d.map gs++cs.drop d.length)::R) (Go.Sort.grow (Go.Sort.putRow Go.Proofs.encStr (Go.Sort.ahead w q) b 0 d.toArray) os):=by
 have h1:St M w0 H0 H ((b,d.map gs++cs.drop d.length)::R) (Go.Sort.putRow Go.Proofs.encStr (Go.Sort.ahead w q) b 0 d.toArray):=by
  refine h.set (Upd.here _) _ sq rfl rfl rfl (fun t ht=>?_) (fun k hk=>?_)
  ·have e:(Go.Sort.putCells Go.Proofs.encStr 0 d.toArray cs.toArray)=(d.map gs++cs.drop d.length).toArray:=by
    apply Array.ext'
    rw [sy d cs hd]
   simp [Go.Sort.putRow,Go.Sort.mapBlock,Array.getElem?_modify,ht,Go.Sort.onCells,e]
  ·simp [Go.Sort.putRow,Go.Sort.mapBlock,Array.getElem?_modify,Ne.symm hk]
 refine Ext.st (w:=Go.Sort.putRow Go.Proofs.encStr (Go.Sort.ahead w q) b 0 d.toArray) ⟨rfl,rfl,rfl,by simp [Go.Sort.grow],fun k hk=>?_⟩ h1
 simp only [Go.Sort.grow]
 rw [Array.getElem?_append_left hk]
theorem St.holds {w:World}{b:Nat}{cs:List Value}{R:ak}{d:List Str}(h:St M w0 H0 H ((b,cs)::R) w)(hd:cs.take d.length=d.map gs):Go.Sort.Holds Go.Proofs.encStr w b 0 d.toArray:=by
 intro j hj
 have hj':j<d.length:=by simpa using hj
 have h1:cs[j]? =some (gs d[j]):=by
  have:(cs.take d.length)[j]? =some (gs d[j]):=by rw [hd];simp [hj']
  rw [List.getElem?_take] at this
  simpa [hj'] using this
 constructor
 ·rw [Nat.zero_add,h.cell (.here _) j,h1]
  simp [hj',enc_gs]
 ·obtain⟨t,ht⟩:=h.own (b,cs) sq
  have ht':w.heap[b]? =some (.cells cs.toArray t (0,0)):=ht
  simp [World.frozen?,ht']
theorem yL {ι:Type}{f:FuncId}{args:List Value}{Φ:Value→ι→Prop}{C':ι→World→Prop}(hE:cS P E op f args)(hF:∀w,C w→Calls P f args.toArray w (fun e w'=>∃v i,e= .returned v∧Φ v i∧C' i w'))(hd:cx dst n=true)
  (h:∀v i,Φ v i→TL P n ops Q rest (cr dst v E) (C' i)):TL P n ops Q ({dst:=dst,op:=op,type:=ty,pos:=pos,after:=aft,guard:=none}::rest) E C:=by
 intro a w he hw
 refine cA rfl (fun K hK=>?_)
 unfold Oper.wp
 rw [hE n a w _ rfl he]
 refine(hF w hw).mono ?_
 rintro e w' ⟨v,i,rfl,hΦ,hC⟩
 exact hK _ _ (h v i hΦ _ _ (he.put hd) hC)
structure SortC (P:Program)(f:FuncId):Prop where
 some:∀(b off cap:Nat) (ss:List Str) (w:World),Go.Sort.Holds Go.Proofs.encStr w b off ss.toArray→b<w.heap.size→ss.length<4611686018427387904→
  Calls P f #[.slice (some ⟨b,off,none⟩) ss.length cap] w fun e w'=>e= .returned (.tuple #[])∧∃n os,w'=Go.Sort.grow (Go.Sort.putRow Go.Proofs.encStr (Go.Sort.ahead w n) b off (ss.mergeSort fun x y=>decide (x≤y)).toArray) os
 none:∀(p:Option Addr) (cap:Nat) (w:World),Calls P f #[.slice p 0 cap] w fun e w'=>e= .returned (.tuple #[])∧w'=w
def iv (l:List Str):List Str:=l.mergeSort fun x y=>decide (x≤y)
theorem iW (l:List Str):(iv l).length=l.length:=List.length_mergeSort _
theorem mT (l:List Str):l.flatMap Str.cells=l.map gs:=by
 induction l with
 | nil=>rfl
 | cons x l ih=>simp [Str.cells,ih]
theorem DJ {f:FuncId}(hS:SortC P f){v:Value}{xs:List Str}{ob:ak}{F:ak→ak}(hO:OwnSl 1 Str.cells v xs ob)(hU:Tl ob L F)(hm:xs.length<4611686018427387904){w:World}(hw:St M w0 H0 H L w):
  Calls P f #[v] w (fun e w'=>∃u ob',e= .returned u∧(u= .tuple #[]∧OwnSl 1 Str.cells v (iv xs) ob')∧St M w0 H0 H (F ob') w'):=by
 obtain⟨R,hp1,hp2⟩:=hU.perm
 rcases hO with ⟨rfl,rfl,rfl⟩ | ⟨b,cap,cs,rfl,rfl,hcl,htk,hle,hcm⟩
 ·refine(hS.none none 0 w).mono ?_
  rintro e w' ⟨rfl,rfl⟩
  exact⟨_,[],rfl,⟨rfl,by rw [show iv []=[] by unfold iv;simp];exact OwnSl.nil⟩,hw.perm (hp1.trans (hp2 []).symm)⟩
 ·have hwR:=hw.perm hp1
  have ht:cs.take xs.length=xs.map gs:=by rw [← mT,← htk,Nat.mul_one]
  have hlen:xs.length≤cs.length:=by omega
  refine(hS.some b 0 cap xs w (hwR.holds ht) (hwR.lt (p:=(b,cs)) sq) hm).mono ?_
  rintro e w' ⟨rfl,q,os,rfl⟩
  have h2:=hwR.row (d:=iv xs) (by rw [iW];exact hlen) q os
  refine⟨_,[(b,(iv xs).map gs++cs.drop (iv xs).length)],rfl,⟨rfl,.inr ⟨b,cap,_,by rw [iW],rfl,?_,?_,by rw [iW];exact hle,hcm⟩⟩,h2.perm (hp2 [(b,_)]).symm⟩
  ·simp [iW];omega
  ·rw [Nat.mul_one,mT,List.take_left' sq]
theorem TL.sort {f:FuncId}{v:Value}{xs:List Str}{ob:ak}{F:ak→ak}(hE:cS P E op f [v])(hS:SortC P f)(hO:OwnSl 1 Str.cells v xs ob)(hU:Tl ob L F)(hm:xs.length<4611686018427387904)(hd:cx dst n=true)
  (h:∀ob',OwnSl 1 Str.cells v (iv xs) ob'→TL P n ops Q rest (cr dst (.tuple #[]) E) (St M w0 H0 H (F ob'))):
  TL P n ops Q ({dst:=dst,op:=op,type:=ty,pos:=pos,after:=aft,guard:=none}::rest) E (St M w0 H0 H L):=
 yL (ι:=ak) (Φ:=fun u ob'=>u= .tuple #[]∧OwnSl 1 Str.cells v (iv xs) ob') (C':=fun ob'=>St M w0 H0 H (F ob')) hE (fun w hw=>DJ hS hO hU hm hw) hd (fun u ob' hΦ=>by obtain⟨rfl,hO'⟩:=hΦ;exact h ob' hO')
structure CompactC (P:Program)(f:FuncId):Prop where
 some:∀(b off cap:Nat) (zs:List Str) (w:World),Go.Sort.Holds Go.Proofs.encStr w b off zs.toArray→zs.length≤9223372036854775807→zs.length≤cap→
  Calls P f #[.slice (some ⟨b,off,none⟩) zs.length cap] w fun e w'=>e= .returned (.slice (some ⟨b,off,none⟩) (Lib.compact zs).length cap)∧∃q,w'=Go.Sort.putRow Go.Proofs.encStr (Go.Sort.ahead w q) b off (Lib.compact zs++List.replicate (zs.length - (Lib.compact zs).length) []).toArray
 none:∀(p:Option Addr) (cap:Nat) (w:World),Calls P f #[.slice p 0 cap] w fun e w'=>e= .returned (.slice p 0 cap)∧w'=w
theorem xG {f:FuncId}(hS:CompactC P f){v:Value}{xs:List Str}{ob:ak}{F:ak→ak}(hO:OwnSl 1 Str.cells v xs ob)(hU:Tl ob L F){w:World}(hw:St M w0 H0 H L w):
  Calls P f #[v] w (fun e w'=>∃u ob',e= .returned u∧OwnSl 1 Str.cells u (Lib.compact xs) ob'∧St M w0 H0 H (F ob') w'):=by
 obtain⟨R,hp1,hp2⟩:=hU.perm
 rcases hO with ⟨rfl,rfl,rfl⟩ | ⟨b,cap,cs,rfl,rfl,hcl,htk,hle,hcm⟩
 ·refine(hS.none none 0 w).mono ?_
  rintro e w' ⟨rfl,rfl⟩
  exact⟨_,[],rfl,OwnSl.nil,hw.perm (hp1.trans (hp2 []).symm)⟩
 ·have hwR:=hw.perm hp1
  have ht:cs.take xs.length=xs.map gs:=by rw [← mT,← htk,Nat.mul_one]
  have hlen:xs.length≤cs.length:=by omega
  have hc:=Lib.compact_length_le xs
  refine(hS.some b 0 cap xs w (hwR.holds ht) omq hle).mono ?_
  rintro e w' ⟨rfl,q,rfl⟩
  have hl2:(Lib.compact xs++List.replicate (xs.length - (Lib.compact xs).length) ([]:Str)).length=xs.length:=by simp;omega
  have h2:=hwR.row (d:=Lib.compact xs++List.replicate (xs.length - (Lib.compact xs).length) []) (by rw [hl2];exact hlen) q #[]
  have hg:∀W:World,Go.Sort.grow W #[]=W:=fun W=>by simp [Go.Sort.grow]
  rw [hg,hl2] at h2
  refine⟨_,[(b,(Lib.compact xs++List.replicate (xs.length - (Lib.compact xs).length) ([]:Str)).map gs++cs.drop xs.length)],rfl,.inr ⟨b,cap,_,rfl,rfl,?_,?_,by omega,hcm⟩,h2.perm (hp2 [(b,_)]).symm⟩
  ·rw [List.length_append,List.length_map,hl2];simp;omega
  ·rw [Nat.mul_one,mT,List.map_append,List.append_assoc,List.take_left' sq]
theorem TL.compact {f:FuncId}{v:Value}{xs:List Str}{ob:ak}{F:ak→ak}(hE:cS P E op f [v])(hS:CompactC P f)(hO:OwnSl 1 Str.cells v xs ob)(hU:Tl ob L F)(hd:cx dst n=true)
  (h:∀a c ob',OwnSl 1 Str.cells (.slice a (Lib.compact xs).length c) (Lib.compact xs) ob'→TL P n ops Q rest (cr dst (.slice a (Lib.compact xs).length c) E) (St M w0 H0 H (F ob'))):
  TL P n ops Q ({dst:=dst,op:=op,type:=ty,pos:=pos,after:=aft,guard:=none}::rest) E (St M w0 H0 H L):=
 yL (ι:=ak) (Φ:=fun u ob'=>OwnSl 1 Str.cells u (Lib.compact xs) ob') (C':=fun ob'=>St M w0 H0 H (F ob')) hE (fun w hw=>xG hS hO hU hw) hd (fun u ob' hΦ=>by obtain⟨a,c,rfl⟩:=hΦ.form;exact h a c ob' hΦ)
end
end Go.Sx
namespace Go.Sx
open Go
def dJ (l:List Term):Nat→Int→List Str
 | 0,_=>[]
 | f+1,at_=>if at_<0 then [] else match l[at_.toNat]? with
  | none=>[]
  | some t=>dJ l f t.l++(dJ l f t.r++(if t.kind=0 then [t.name] else []))
theorem eP {l:List Term}{f:Nat}{at_:Int}(h:at_<0):dJ l f at_=[]:=by
 cases f with
 | zero=>rfl
 | succ f=>unfold dJ;rw [if_pos h]
theorem gS {l:List Term}{f:Nat}{at_:Int}{t:Term}(h:¬at_<0)(hx:l[at_.toNat]? =some t):dJ l (f+1) at_=dJ l f t.l++(dJ l f t.r++(if t.kind=0 then [t.name] else [])):=by
 rw [dJ,if_neg h,hx]
theorem Cb {l:List Term}:∀(f:Nat) (at_ deep:Int) (met:List Bool),0≤at_→1≤deep→(cL l f at_ deep met).1=true→(dJ l f at_).length≤2 ^ (25 - deep.toNat):=by
 intro f
 induction f with
 | zero=>intro at_ deep met _ _ h;simp [cL] at h
 | succ f ih=>
  intro at_ deep met h0 hd h
  cases hx:l[at_.toNat]? with
  | none=>simp [cL,hx] at h
  | some t=>
   by_cases hg:met[at_.toNat]?.getD false=true∨24<deep∨ah t.kind<0∨ce t=false
   ·rw [rk hx hg] at h;cases h
   ·have hgg:yO deep met at_ t:=by
     refine⟨?_,?_,?_,?_⟩
     ·cases hb:met[at_.toNat]?.getD false with
      | false=>rfl
      | true=>exact absurd (.inl hb) hg
     ·intro h1;exact hg (.inr (.inl h1))
     ·intro h1;exact hg (.inr (.inr (.inl h1)))
     ·cases hb:ce t with
      | true=>rfl
      | false=>exact absurd (.inr (.inr (.inr hb))) hg
    generalize h00:opW (ah t.kind) at_ (fun to m=>cL l f to (deep+1) m) 0 t.l (met.set at_.toNat true)=r0
    obtain⟨b0,m0⟩:=r0
    cases b0 with
    | false=>rw [rm hx hgg h00] at h;cases h
    | true=>
     generalize h11:opW (ah t.kind) at_ (fun to m=>cL l f to (deep+1) m) 1 t.r m0=r1
     rw [km hx hgg h00 h11] at h
     have h24:=hgg.2.1
     have key:∀(i to:Int) (m m':List Bool),opW (ah t.kind) at_ (fun to m=>cL l f to (deep+1) m) i to m=(true,m')→(i<ah t.kind→(dJ l f to).length≤2 ^ (25 - (deep+1).toNat))∧(ah t.kind≤i→dJ l f to=[]):=by
      intro i to m m' he
      refine⟨fun hi=>?_,fun hi=>?_⟩
      ·by_cases hb:to<0∨at_≤to
       ·rw [pD omq hb] at he;cases he
       ·rw [pC omq omq omq] at he
        exact ih to (deep+1) m omq omq (by rw [he])
      ·rw [vm hi] at he
       have:to= -1:=by simpa using congrArg Prod.fst he
       exact eP omq
     have k0:=key 0 t.l _ _ h00
     have k1:=key 1 t.r _ r1.2 (by rw [h11];cases r1;simp at h;simp [h])
     rw [gS omq hx]
     have hp:2 ^ (25 - deep.toNat)=2 * 2 ^ (25 - (deep+1).toNat):=by
      rw [show 25 - deep.toNat=(25 - (deep+1).toNat)+1 by omega,Nat.pow_succ];omega
     have h1:0<2 ^ (25 - (deep+1).toNat):=Nat.two_pow_pos _
     simp only [List.length_append]
     by_cases hk:t.kind=0
     ·have ho:ah t.kind=0:=by rw [hk];decide
      rw [k0.2 omq,k1.2 omq,if_pos hk]
      simp;omega
     ·rw [if_neg hk]
      have a0:(dJ l f t.l).length≤2 ^ (25 - (deep+1).toNat):=by
       rcases Int.lt_or_le 0 (ah t.kind) with ho | ho
       ·exact k0.1 ho
       ·rw [k0.2 ho];simp
      have a1:(dJ l f t.r).length≤2 ^ (25 - (deep+1).toNat):=by
       rcases Int.lt_or_le 1 (ah t.kind) with ho | ho
       ·exact k1.1 ho
       ·rw [k1.2 ho];simp
      simp;omega
theorem uu {l:List Term}{root:Int}(h:cq l root=true):(dJ l (root.toNat+1) root).length≤16777216:=by
 unfold cq at h
 split at h
 ·cases h
 ·split at h
  ·cases h
  ·split at h
   ·cases h
   ·have:=Cb _ _ _ _ omq dq h
    exact this
def fH (l:List Term)(root:Int):List Str:=if cq l root then Lib.compact (iv (dJ l (root.toNat+1) root)) else []
def ci (l:List Str)(s:Str):Int:=match l with
 | []=> -1
 | x::r=>if x=s then 0 else if ci r s<0 then -1 else ci r s+1
theorem mE (l:List Str)(s:Str):ci l s= -1∨(0≤ci l s∧ci l s<l.length):=by
 induction l with
 | nil=>exact .inl rfl
 | cons x r ih=>
  unfold ci
  split
  ·right;simp only [List.length_cons,Int.natCast_add];omega
  ·split
   ·exact .inl rfl
   ·right;simp only [List.length_cons,Int.natCast_add];omega
theorem dG {l:List Str}{s:Str}{k:Int}(h0:0≤k)(hx:l[k.toNat]? =some s)(hn:∀j:Nat,j<k.toNat→l[j]? ≠some s):ci l s=k:=by
 induction l generalizing k with
 | nil=>simp at hx
 | cons x r ih=>
  unfold ci
  by_cases hk:k=0
  ·subst hk
   simp at hx
   rw [if_pos hx]
  ·have hne:¬x=s:=by
    have:=hn 0 omq
    simpa using this
   rw [if_neg hne]
   have e:=ih (k:=k - 1) omq (by
    rw [show k.toNat=(k - 1).toNat+1 by omega] at hx
    simpa using hx) (fun j hj=>by
     have:=hn (j+1) omq
     simpa using this)
   rw [e,if_neg omq];omega
theorem ul {l:List Str}{s:Str}(hn:s∉l):ci l s= -1:=by
 induction l with
 | nil=>rfl
 | cons x r ih=>
  simp only [List.mem_cons,not_or] at hn
  unfold ci
  rw [if_neg (fun e=>hn.1 e.symm),ih hn.2];rfl
theorem qZ {l:List Str}{s:Str}:0≤ci l s↔s∈l:=by
 constructor
 ·intro h
  apply Classical.byContradiction
  intro hn
  rw [ul hn] at h
  omega
 ·intro h
  induction l with
  | nil=>cases h
  | cons x r ih=>
   unfold ci
   split
   ·decide
   ·rename_i hne
    have h1:=ih (by rcases List.mem_cons.1 h with rfl | h;exact absurd rfl hne;exact h)
    rw [if_neg omq];omega
theorem lM {l:List Str}{s x:Str}{k:Int}(h0:0≤k)(h:∀j:Nat,j<k.toNat→l[j]? ≠some s)(hx:l[k.toNat]? =some x)(hne:¬x=s):∀j:Nat,j<(k+1).toNat→l[j]? ≠some s:=by
 intro j hj
 by_cases hk:j=k.toNat
 ·subst hk;rw [hx];simpa using hne
 ·exact h j omq
theorem fq {l:List Str}{s:Str}{k:Int}(h:∀j:Nat,j<k.toNat→l[j]? ≠some s)(hk:¬k<l.length):ci l s= -1:=by
 refine ul (fun hm=>?_)
 obtain⟨j,hj⟩:=List.mem_iff_getElem?.1 hm
 exact h j (by have:=(List.getElem?_eq_some_iff.1 hj).1;omega) hj
def cj (l:List Str)(s:Str):Bool:=decide (s∈l)
theorem rC (l:List Str)(s:Str):decide (0≤ci l s)=cj l s:=by
 unfold cj
 rw [Bool.eq_iff_iff];simp only [decide_eq_true_eq]
 exact qZ
end Go.Sx
namespace Go.Sx
open Go
theorem yb {zs:List Str}{x:Str}:x∈Lib.compact zs↔x∈zs:=by
 unfold Lib.compact Lib.compactUpTo
 simp only [List.mem_map,List.mem_filter,List.mem_range]
 constructor
 ·rintro⟨j,⟨hj,_⟩,rfl⟩
  have:j<zs.toArray.size:=by simpa using hj
  rw [getElem!_pos zs.toArray j this]
  simp
 ·intro hx
  obtain⟨j,hj,rfl⟩:=List.getElem_of_mem hx
  have key:∀j (hj:j<zs.length),∃i,(i<zs.length∧Lib.keeps zs.toArray i=true)∧zs.toArray[i]! =zs[j]:=by
   intro j
   induction j with
   | zero=>
    intro hj
    refine⟨0,⟨hj,by simp [Lib.keeps]⟩,?_⟩
    rw [getElem!_pos zs.toArray 0 (by simpa using hj)];simp
   | succ j ih=>
    intro hj
    by_cases hk:Lib.keeps zs.toArray (j+1)=true
    ·refine⟨j+1,⟨hj,hk⟩,?_⟩
     rw [getElem!_pos zs.toArray (j+1) (by simpa using hj)];simp
    ·obtain⟨i,hi,he⟩:=ih omq
     refine⟨i,hi,?_⟩
     rw [he]
     have:zs.toArray[j+1]! =zs.toArray[j]! :=by
      simpa [Lib.keeps] using hk
     rw [getElem!_pos zs.toArray (j+1) (by simpa using hj),getElem!_pos zs.toArray j (by simp;omega)] at this
     simpa using this.symm
  obtain⟨i,hi,he⟩:=key j hj
  exact⟨i,hi,he⟩
theorem Ca {zs:List Str}{x:Str}:x∈iv zs↔x∈zs:=by unfold iv;exact List.mem_mergeSort
theorem BZ {l:List Term}{root:Int}{x:Str}(h:cq l root=true):x∈fH l root↔x∈dJ l (root.toNat+1) root:=by
 unfold fH;rw [if_pos h,yb,Ca]
theorem yS {l:List Term}{root:Int}(h:¬cq l root=true):fH l root=[]:=by unfold fH;rw [if_neg h]
theorem yA (zs:List Str):(Lib.compact zs).length≤zs.length:=Lib.compact_length_le zs
theorem tN (l:List Term)(root:Int):(fH l root).length≤16777216:=by
 unfold fH
 split
 ·rename_i h
  have:=yA (iv (dJ l (root.toNat+1) root))
  rw [iW] at this
  have:=uu h
  omega
 ·simp
end Go.Sx
namespace Go.Sx
open Go
theorem mK {l:List Term}{root:Int}:cq l root=true↔((l.length:Int)≤160∧0≤root∧root<l.length)∧∃p,bV l (root.toNat+1) root.toNat 1=some p∧p.Nodup:=by
 by_cases h:(l.length:Int)≤160∧0≤root∧root<l.length
 ·rw [nJ h,AS h.2]
  exact⟨fun h2=>⟨h,h2⟩,fun h2=>h2.2⟩
 ·constructor
  ·intro hm
   exfalso
   unfold cq at hm
   split at hm
   ·cases hm
   ·split at hm
    ·cases hm
    ·split at hm
     ·cases hm
     ·omega
  ·intro h2;exact absurd h2.1 h
theorem vn {t:Term}{at_ deep:Int}(h:okT t at_ deep=true):0≤ah t.kind∧ce t=true∧deep≤24∧(ah t.kind<1→t.l= -1)∧(ah t.kind<2→t.r= -1):=by
 unfold okT at h
 simp only [Bool.and_eq_true,decide_eq_true_eq] at h
 refine⟨h.1.1,h.1.2,h.2.1,fun h1=>?_,fun h1=>?_⟩
 ·have:=h.2.2.1;rw [if_pos h1] at this;simpa using this
 ·have:=h.2.2.2;rw [if_pos h1] at this;simpa using this
theorem D0 {l:List Term}:∀(f at_:Nat) (deep:Int) (p:List Nat),bV l f at_ deep=some p→∀i∈p,∃g q d,bV l g i d=some q∧q.Sublist p∧deep≤d:=by
 intro f
 induction f with
 | zero=>intro at_ deep p h;simp [bV] at h
 | succ f ih=>
  intro at_ deep p h i hi
  obtain⟨t,p0,q0,hx,hok,h0,h1,rfl⟩:=cG h
  rcases List.mem_cons.1 hi with rfl | hi
  ·exact⟨f+1,_,deep,h,List.Sublist.refl _,Int.le_refl _⟩
  rcases List.mem_append.1 hi with hi | hi
  ·split at h0
   ·simp only [Option.some.injEq] at h0;subst h0;cases hi
   ·obtain⟨g,q,d,e1,e2,e3⟩:=ih _ _ _ h0 i hi
    exact⟨g,q,d,e1,e2.trans ((List.sublist_append_left _ _).trans (List.sublist_cons_self _ _)),by omega⟩
  ·split at h1
   ·simp only [Option.some.injEq] at h1;subst h1;cases hi
   ·obtain⟨g,q,d,e1,e2,e3⟩:=ih _ _ _ h1 i hi
    exact⟨g,q,d,e1,e2.trans ((List.sublist_append_right _ _).trans (List.sublist_cons_self _ _)),by omega⟩
theorem xQ {l:List Term}:∀(f at_:Nat) (deep:Int) (p:List Nat),bV l f at_ deep=some p→∀i∈p,∀t,l[i]? =some t→(1≤ah t.kind→t.l.toNat∈p)∧(2≤ah t.kind→t.r.toNat∈p):=by
 intro f at_ deep p h i hi t ht
 obtain⟨g,q,d,e1,e2,_⟩:=D0 f at_ deep p h i hi
 cases g with
 | zero=>simp [bV] at e1
 | succ g=>
  obtain⟨t',p0,q0,hx,hok,h0,h1,rfl⟩:=cG e1
  rw [ht] at hx
  obtain rfl:=Option.some.inj hx
  refine⟨fun ho=>e2.subset ?_,fun ho=>e2.subset ?_⟩
  ·rw [if_neg omq] at h0
   have:=fW h0
   simp [this]
  ·rw [if_neg omq] at h1
   have:=fW h1
   simp [this]
theorem AK {d:List Int}{j a:Nat}{x:Int}(h:0<(d.set j x)[a]?.getD 0):a=j∨0<d[a]?.getD 0:=by
 by_cases e:j=a
 ·exact .inl e.symm
 ·rw [ju e] at h;exact .inr h
theorem tU {S:Nat→Prop}{d d':List Int}{i at_:Int}(h:dR d i at_=some d')(hd:∀j,0<d[j]?.getD 0→S j)(ha:S at_.toNat):∀j,0<d'[j]?.getD 0→S j:=by
 unfold dR at h
 split at h
 ·cases h
 ·obtain rfl:=Option.some.inj h
  intro j hj
  rcases AK hj with rfl | hj
  ·exact ha
  ·exact hd j hj
theorem oJ {l:List Term}{S:Nat→Prop}(hS:∀i t,S i→l[i]? =some t→(1≤ah t.kind→S t.l.toNat)∧(2≤ah t.kind→S t.r.toNat)):
  ∀(n:Nat) (d d':List Int),eB l n d=some d'→Nn d→(∀j,0<d[j]?.getD 0→S j)→∀j,0<d'[j]?.getD 0→S j
 | 0,d,d',h,_,hd=>by obtain rfl:=Option.some.inj h;exact hd
 | n+1,d,d',h,hn,hd=>by
  simp only [eB] at h
  cases hs:dy l n d with
  | none=>rw [hs] at h;cases h
  | some d1=>
   rw [hs] at h
   simp only at h
   have key:Nn d1∧∀j,0<d1[j]?.getD 0→S j:=by
    unfold dy at hs
    split at hs
    ·obtain rfl:=Option.some.inj hs;exact⟨hn,hd⟩
    ·rename_i h0
     simp only [Int.toNat_natCast] at hs h0
     cases hx:l[n]? with
     | none=>rw [hx] at hs;cases hs
     | some t=>
      rw [hx] at hs
      simp only at hs
      split at hs
      ·cases hs
      ·have hpos:0<d[n]?.getD 0:=by have:=hn n;omega
       have hc:=hS n t (hd n hpos) hx
       unfold eQ at hs
       split at hs
       ·obtain rfl:=Option.some.inj hs;exact⟨hn,hd⟩
       ·rename_i h1
        have nset:∀{d d':List Int} {a:Int},dR d n a=some d'→Nn d→Nn d':=by
         intro d d' a e hn
         unfold dR at e
         split at e
         ·cases e
         ·obtain rfl:=Option.some.inj e
          simp only [Int.toNat_natCast]
          exact r9 hn (by have:=hn n;omega)
        cases h2:dR d n t.l with
        | none=>rw [h2] at hs;cases hs
        | some d2=>
         rw [h2] at hs
         simp only at hs
         have a1:=tU h2 hd (hc.1 omq)
         split at hs
         ·obtain rfl:=Option.some.inj hs;exact⟨nset h2 hn,a1⟩
         ·exact⟨nset hs (nset h2 hn),tU hs a1 (hc.2 omq)⟩
   exact oJ hS n d1 d' h key.1 key.2
theorem Ax {l:List Term}{root:Int}{d:List Int}{p:List Nat}(h:gw l root=some d)(hp:bV l (root.toNat+1) root.toNat 1=some p){k:Nat}(hk:0<d[k]?.getD 0):k∈p:=by
 unfold gw at h
 split at h
 ·cases h
 ·refine oJ (S:=fun i=>i∈p) (fun i t hi ht=>xQ _ _ _ _ hp i hi t ht) _ _ _ h (r7 _ _) (fun j hj=>?_) k hk
  rcases AK hj with rfl | hj
  ·exact fW hp
  ·rw [List.getElem?_replicate] at hj
   split at hj<;>simp at hj
end Go.Sx
