import Derived.Test.YtjnlogbbcceaoaaGreatRn
import Derived.WalkKit
import Derived.KernelRfl
import Derived.Deep.Quiet
import Derived.LoopN
import Derived.Laws.Append
import Derived.ArgAppend
import Derived.Laws.Cover3
import Derived.Laws.Slices
import Derived.Laws.Strings2
import Derived.Lib.AppendStr
import Derived.Laws.BytesString
import Derived.WideLaws
import Derived.Below
import Derived.Lib.SmallJoins
import Derived.Lib.ParseIntB
import Derived.Lib.LaidTab
import Derived.Laws.AppendOwn
set_option linter.all false
set_option maxRecDepth 100000
set_option maxHeartbeats 32000000
namespace Go.Sx
open Go
abbrev Env:=List (Nat×Value)
def lk:Env→Nat→Option Value
 | [],_=>none
 | (s,v)::E,t=>match Nat.beq s t with
  | true=>some v
  | false=>lk E t
structure EOk (n:Nat)(E:Env)(a:Act):Prop where
 sz:a.tmps.size=n
 df:a.defers=[]
 at_:∀t v,lk E t=some v→a.tmps[t]? =some v
def ev (E:Env):Operand→Option Value
 | .tmp t=>lk E t
 | .const v=>some v
 | .global g=>some (.pointer (some ⟨g,0,none⟩))
 | .func f=>some (.func (.func f) #[] #[])
theorem EOk.eval {n:Nat}{E:Env}{a:Act}(h:EOk n E a){x:Operand}{v:Value}(hx:ev E x=some v):a.eval x=v:=by
 cases x with
 | tmp t=>simp only [ev] at hx;simp [Act.eval,h.at_ t v hx]
 | const u=>simpa [ev,Act.eval] using hx
 | global g=>simpa [ev,Act.eval] using hx
 | func f=>simpa [ev,Act.eval] using hx
def evs (E:Env):List Operand→Option (List Value)
 | []=>some []
 | x::xs=>match ev E x with
  | some v=>match evs E xs with
   | some vs=>some (v::vs)
   | none=>none
  | none=>none
theorem EOk.evals {n:Nat}{E:Env}{a:Act}(h:EOk n E a):∀{xs:List Operand} {vs:List Value},evs E xs=some vs→xs.map a.eval=vs
 | [],vs,hx=>by simp only [evs,Option.some.injEq] at hx;simp [← hx]
 | x::xs,vs,hx=>by
  simp only [evs] at hx
  split at hx
  ·rename_i v hv
   split at hx
   ·rename_i us hus
    simp only [Option.some.injEq] at hx
    subst hx
    simp [h.eval hv,h.evals hus]
   ·cases hx
  ·cases hx
def cr (d:Option Nat)(v:Value)(E:Env):Env:=match d with
 | some d=>(d,v)::E
 | none=>E
def cu (d:Option Nat)(n:Nat):Bool:=match d with
 | some d=>Nat.blt d n
 | none=>true
theorem EOk.put {n:Nat}{E:Env}{a:Act}(h:EOk n E a){d:Option Nat}{v:Value}(hd:cu d n=true):EOk n (cr d v E) (a.put d v):=by
 cases d with
 | none=>exact h
 | some d=>
  have hd':d<n:=by simpa [cu,Nat.blt_eq] using hd
  refine⟨by simp [Act.put,h.sz],by simp [Act.put,h.df],fun t u ht=>?_⟩
  simp only [cr,lk] at ht
  by_cases hdt:d=t
  ·subst hdt
   simp only [show Nat.beq d d=true from Nat.beq_refl d,Option.some.injEq] at ht
   subst ht
   simp [Act.put,h.sz,hd']
  ·have:Nat.beq d t=false:=by
    cases hb:Nat.beq d t
    ·rfl
    ·exact absurd (Nat.eq_of_beq_eq_true hb) hdt
   simp only [this] at ht
   simp [Act.put,hdt,h.at_ t u ht]
def Sub (E' E:Env):Prop:=match E' with
 | []=>True
 | (s,v)::R=>lk E s=some v∧Sub R E
theorem Sub.lk {E:Env}:∀{E':Env},Sub E' E→∀t v,lk E' t=some v→Sx.lk E t=some v
 | [],_,_,_,h=>by simp [Sx.lk] at h
 | (s,u)::R,h,t,v,ht=>by
  simp only [Sx.lk] at ht
  split at ht
  ·rename_i hb
   have:=Nat.eq_of_beq_eq_true hb
   subst this
   simp only [Option.some.injEq] at ht
   subst ht
   exact h.1
  ·exact Sub.lk h.2 t v ht
theorem EOk.sub {n:Nat}{E E':Env}{a:Act}(h:EOk n E a)(hs:Sub E' E):EOk n E' a:=⟨h.sz,h.df,fun t v ht=>h.at_ t v (hs.lk t v ht)⟩
abbrev Hp:=Nat→Nat→Option Value
def Hp.le (H H':Hp):Prop:=∀b o v,H b o=some v→H' b o=some v
theorem Hp.le.refl (H:Hp):H.le H:=fun _ _ _ h=>h
theorem Hp.le.trans {A B C:Hp}(h:A.le B)(k:B.le C):A.le C:=fun b o v x=>k b o v (h b o v x)
def Hp.add (H:Hp)(b:Nat)(cs:List Value):Hp:=fun b' o=>if b'=b then cs[o]? else H b' o
abbrev aj:=List (Nat×List Value)
def Fresh (w:World)(H H':Hp):Prop:=H.le H'∧∀b o v,H' b o=some v→H b o=none→w.heap.size≤b
structure St (M:List Nat)(w0:World)(H0 H:Hp)(L:aj)(w:World):Prop where
 os:w.os=w0.os
 tape:w.tape=w0.tape
 output:w.output=w0.output
 size:w0.heap.size≤w.heap.size
 old:∀b,b<w0.heap.size→b∉M→w.heap[b]? =w0.heap[b]?
 hp:∀b o v,H b o=some v→w.cell? ⟨b,o,none⟩=some v
 own:∀p∈L,∃t,w.heap[p.1]? =some (.cells p.2.toArray t (0,0))
 sep:∀p∈L,∀o,H p.1 o=none
 nd:(L.map (·.1)).Nodup
 mine:∀p∈L,p.1∈M∨w0.heap.size≤p.1
 fr:Fresh w0 H0 H
theorem Fresh.trans {w w':World}{A B D:Hp}(h:Fresh w A B)(k:Fresh w' B D)(hs:w.heap.size≤w'.heap.size):Fresh w A D:=
 ⟨h.1.trans k.1,fun b o v hd ha=>by
  cases hb:B b o with
  | none=>have:=k.2 b o v hd hb;omega
  | some u=>exact h.2 b o u hb ha⟩
theorem Fresh.refl (w:World)(H:Hp):Fresh w H H:=⟨Hp.le.refl H,fun b o v h h'=>by rw [h] at h';cases h'⟩
theorem cO {w:World}{b:Nat}{o:Obj}(h:w.heap[b]? =some o):b<w.heap.size:=by
 rcases Nat.lt_or_ge b w.heap.size with hb | hb
 ·exact hb
 ·rw [Array.getElem?_eq_none hb] at h;cases h
theorem jJ {w:World}{b o:Nat}{v:Value}(h:w.cell? ⟨b,o,none⟩=some v):b<w.heap.size:=World.block_lt_of_cell? (a:=⟨b,o,none⟩) _ h
theorem fQ {w w':World}{b o:Nat}(h:w'.heap[b]? =w.heap[b]?):w'.cell? ⟨b,o,none⟩=w.cell? ⟨b,o,none⟩:=World.cell?_of_block (w:=w) h
theorem St.start {w0:World}{H:Hp}(h:∀b o v,H b o=some v→w0.cell? ⟨b,o,none⟩=some v):St [] w0 H H [] w0:=
 ⟨rfl,rfl,rfl,Nat.le_refl _,fun _ _ _=>rfl,h,by simp,by simp,by simp,by simp,Fresh.refl _ _⟩
section
variable {M:List Nat}{w0 w w':World}{H0 H H':Hp}{L:aj}
theorem St.drew (h:St M w0 H0 H L w):St M w0 H0 H L {w with drawn:=w.drawn+1}:=
 ⟨h.os,h.tape,h.output,h.size,h.old,h.hp,h.own,h.sep,h.nd,h.mine,h.fr⟩
theorem St.lt (h:St M w0 H0 H L w){p:Nat×List Value}(hp:p∈L):p.1<w.heap.size:=by
 obtain⟨t,ht⟩:=h.own p hp
 exact cO ht
theorem St.alloc (h:St M w0 H0 H L w)(cs:List Value)(t:TypeId):St M w0 H0 H ((w.heap.size,cs)::L) (w.alloc (.cells cs.toArray t (0,0))):=by
 have hh:∀b,b<w.heap.size→(w.alloc (.cells cs.toArray t (0,0))).heap[b]? =w.heap[b]? :=fun b hb=>RowKit.Below.heap_alloc w _ b hb
 refine⟨h.os,h.tape,h.output,by have:=h.size;simp;omega,fun b hb hM=>(hh b (by have:=h.size;omega)).trans (h.old b hb hM),fun b o v hv=>?_,?_,?_,?_,?_,h.fr⟩
 ·have hv':=h.hp b o v hv
  rw [fQ (hh b (jJ hv'))];exact hv'
 ·intro p hp
  rcases List.mem_cons.1 hp with rfl | hp
  ·exact⟨t,heap_alloc_new w _⟩
  ·obtain⟨u,hu⟩:=h.own p hp
   exact⟨u,(hh _ (cO hu)).trans hu⟩
 ·intro p hp o
  rcases List.mem_cons.1 hp with rfl | hp
  ·cases ho:H w.heap.size o with
   | none=>rfl
   | some v=>exact absurd (jJ (h.hp _ _ _ ho)) (Nat.lt_irrefl _)
  ·exact h.sep p hp o
 ·simp only [List.map_cons,List.nodup_cons]
  refine⟨fun hm=>?_,h.nd⟩
  obtain⟨p,hp,he⟩:=List.mem_map.1 hm
  have:=h.lt hp
  omega
 ·intro p hp
  rcases List.mem_cons.1 hp with rfl | hp
  ·exact .inr h.size
  ·exact h.mine p hp
inductive InL (b:Nat)(cs:List Value):aj→Prop
 | here (L:aj):InL b cs ((b,cs)::L)
 | there {L:aj} (x:Nat×List Value) (h:InL b cs L):InL b cs (x::L)
theorem InL.mem {b:Nat}{cs:List Value}{L:aj}(h:InL b cs L):(b,cs)∈L:=by
 induction h with
 | here L=>simp
 | there x _ ih=>exact List.mem_cons_of_mem _ ih
inductive Upd (b:Nat)(cs cs':List Value):aj→aj→Prop
 | here (L:aj):Upd b cs cs' ((b,cs)::L) ((b,cs')::L)
 | there {L L':aj} (x:Nat×List Value) (h:Upd b cs cs' L L'):Upd b cs cs' (x::L) (x::L')
theorem Upd.keys {b:Nat}{cs cs':List Value}{L L':aj}(h:Upd b cs cs' L L'):L'.map (·.1)=L.map (·.1):=by
 induction h with
 | here L=>rfl
 | there x _ ih=>simp [ih]
theorem Upd.inl {b:Nat}{cs cs':List Value}{L L':aj}(h:Upd b cs cs' L L'):InL b cs L:=by
 induction h with
 | here L=>exact .here _
 | there x _ ih=>exact .there _ ih
theorem Upd.mem {b:Nat}{cs cs':List Value}{L L':aj}(h:Upd b cs cs' L L')(hn:(L.map (·.1)).Nodup):∀p∈L',p=(b,cs')∨(p∈L∧p.1≠b):=by
 induction h with
 | here L=>
  intro p hp
  rcases List.mem_cons.1 hp with rfl | hp
  ·exact .inl rfl
  ·refine .inr ⟨List.mem_cons_of_mem _ hp,fun e=>?_⟩
   simp only [List.map_cons,List.nodup_cons] at hn
   exact hn.1 (List.mem_map.2 ⟨p,hp,e⟩)
 | there x h ih=>
  intro p hp
  simp only [List.map_cons,List.nodup_cons] at hn
  rcases List.mem_cons.1 hp with rfl | hp
  ·refine .inr ⟨by simp,fun e=>?_⟩
   exact hn.1 (List.mem_map.2 ⟨(b,cs),h.inl.mem,e.symm⟩)
  ·rcases ih hn.2 p hp with h1 | h1
   ·exact .inl h1
   ·exact .inr ⟨List.mem_cons_of_mem _ h1.1,h1.2⟩
theorem St.cell (h:St M w0 H0 H L w){b:Nat}{cs:List Value}(hb:InL b cs L)(o:Nat):w.cell? ⟨b,o,none⟩=cs[o]? :=by
 obtain⟨t,ht⟩:=h.own _ hb.mem
 simp [World.cell?,ht]
theorem St.set (h:St M w0 H0 H L w){b:Nat}{cs cs':List Value}{L':aj}(hu:Upd b cs cs' L L')(w1:World)(hsz:w1.heap.size=w.heap.size)
  (h1:w1.os=w.os) (h2:w1.tape=w.tape) (h3:w1.output=w.output)
  (hb:∀t,w.heap[b]? =some (.cells cs.toArray t (0,0))→w1.heap[b]? =some (.cells cs'.toArray t (0,0))) (ho:∀k,k≠b→w1.heap[k]? =w.heap[k]?):St M w0 H0 H L' w1:=by
 have hin:=hu.inl.mem
 refine⟨h1.trans h.os,h2.trans h.tape,h3.trans h.output,by rw [hsz];exact h.size,fun k hk hM=>?_,fun k o v hv=>?_,?_,?_,?_,?_,h.fr⟩
 ·have hkb:k≠b:=by
   rintro rfl
   rcases h.mine _ hin with hm | hm
   ·exact hM hm
   ·simp at hm;omega
  exact(ho k hkb).trans (h.old k hk hM)
 ·have hkb:k≠b:=by
   rintro rfl
   rw [h.sep _ hin o] at hv
   cases hv
  rw [fQ (ho k hkb)]
  exact h.hp k o v hv
 ·intro p hp
  rcases hu.mem h.nd p hp with rfl | ⟨hp,hne⟩
  ·obtain⟨t,ht⟩:=h.own _ hin
   exact⟨t,hb t ht⟩
  ·obtain⟨t,ht⟩:=h.own p hp
   exact⟨t,(ho _ hne).trans ht⟩
 ·intro p hp o
  rcases hu.mem h.nd p hp with rfl | ⟨hp,hne⟩
  ·exact h.sep _ hin o
  ·exact h.sep p hp o
 ·rw [hu.keys];exact h.nd
 ·intro p hp
  rcases hu.mem h.nd p hp with rfl | ⟨hp,hne⟩
  ·exact h.mine (b,cs) hin
  ·exact h.mine p hp
theorem St.past (h:St M w0 H0 H L w)(h':St [] w H H' [] w'):St M w0 H0 H' L w':=by
 refine⟨h'.os.trans h.os,h'.tape.trans h.tape,h'.output.trans h.output,Nat.le_trans h.size h'.size,fun b hb hM=>?_,h'.hp,fun p hp=>?_,fun p hp o=>?_,h.nd,h.mine,h.fr.trans h'.fr h.size⟩
 ·exact(h'.old b (by have:=h.size;omega) sq).trans (h.old b hb hM)
 ·obtain⟨t,ht⟩:=h.own p hp
  exact⟨t,(h'.old _ (cO ht) sq).trans ht⟩
 ·cases ho:H' p.1 o with
  | none=>rfl
  | some v=>
   have:=h'.fr.2 _ _ _ ho (h.sep p hp o)
   have:=h.lt hp
   omega
theorem St.le_add {b:Nat}{cs:List Value}(h:St M w0 H0 H ((b,cs)::L) w):H.le (H.add b cs):=fun k o v hv=>by
 by_cases hk:k=b
 ·subst hk
  have:=h.sep (k,cs) sq o
  simp only at this
  rw [this] at hv;cases hv
 ·simp only [Hp.add,hk,if_false];exact hv
theorem St.publish {b:Nat}{cs:List Value}(h:St M w0 H0 H ((b,cs)::L) w)(hbM:b∉M):St M w0 H0 (H.add b cs) L w:=by
 have hnd:=h.nd
 simp only [List.map_cons,List.nodup_cons] at hnd
 refine⟨h.os,h.tape,h.output,h.size,h.old,fun k o v hv=>?_,fun p hp=>h.own p (List.mem_cons_of_mem _ hp),fun p hp o=>?_,hnd.2,fun p hp=>h.mine p (List.mem_cons_of_mem _ hp),h.fr.1.trans h.le_add,fun k o v hv hn=>?_⟩
 ·by_cases hk:k=b
  ·subst hk
   simp only [Hp.add,if_true] at hv
   rw [h.cell (.here L) o];exact hv
  ·simp only [Hp.add,hk,if_false] at hv
   exact h.hp k o v hv
 ·have hne:p.1≠b:=fun e=>hnd.1 (List.mem_map.2 ⟨p,hp,e⟩)
  simp only [Hp.add,hne,if_false]
  exact h.sep p (List.mem_cons_of_mem _ hp) o
 ·by_cases hk:k=b
  ·subst hk
   rcases h.mine (k,cs) sq with hm | hm
   ·exact absurd hm hbM
   ·exact hm
  ·simp only [Hp.add,hk,if_false] at hv
   exact h.fr.2 k o v hv hn
theorem St.drop {x:Nat×List Value}(h:St M w0 H0 H (x::L) w):St M w0 H0 H L w:=by
 have hnd:=h.nd
 simp only [List.map_cons,List.nodup_cons] at hnd
 exact⟨h.os,h.tape,h.output,h.size,h.old,h.hp,fun p hp=>h.own p (List.mem_cons_of_mem _ hp),fun p hp o=>h.sep p (List.mem_cons_of_mem _ hp) o,hnd.2,fun p hp=>h.mine p (List.mem_cons_of_mem _ hp),h.fr⟩
theorem St.perm {L':aj}(h:St M w0 H0 H L w)(hp:L.Perm L'):St M w0 H0 H L' w:=
 ⟨h.os,h.tape,h.output,h.size,h.old,h.hp,fun p hm=>h.own p (hp.mem_iff.2 hm),fun p hm o=>h.sep p (hp.mem_iff.2 hm) o,(hp.map _).nodup_iff.1 h.nd,fun p hm=>h.mine p (hp.mem_iff.2 hm),h.fr⟩
end
end Go.Sx
namespace Go.Sx
open Go
def tyB (P:Program)(t:TypeId):Option (Bool×Nat):=match P.underlying t,P.info? t with
 | some d,some i=>some ((match d with | .struct _ | .array _ _=>true | _=>false),i.size)
 | _,_=>none
class Ty (P:Program) (t:TypeId) (agg:outParam Bool) (n:outParam Nat):Prop where
 out:tyB P t=some (agg,n)
def fldB (P:Program)(s f:Nat):Option Nat:=match P.underlying s with
 | some (.struct fs)=>match fs[f]? with
  | some fd=>match P.info? fd.type with
   | some i=>if i.size=0 then none else some fd.offset
   | none=>none
  | none=>none
 | _=>none
class Fld (P:Program) (s f:Nat) (off:outParam Nat):Prop where
 out:fldB P s f=some off
def elB (P:Program)(t:TypeId):Option (Nat×Nat):=match P.underlying t with
 | some (.slice e)=>match P.info? e with
  | some i=>some (e,i.size)
  | none=>none
 | _=>none
class El (P:Program) (t:TypeId) (e n:outParam Nat):Prop where
 out:elB P t=some (e,n)
class Und (P:Program) (t:TypeId) (d:outParam TypeDesc):Prop where
 out:P.underlying t=some d
def DA (P:Program)(t:TypeId):Option (List Value):=match P.info? t with
 | some i=>match i.zero with
  | some v=>some v.cells.toList
  | none=>none
 | none=>none
class Zero (P:Program) (t:TypeId) (cs:outParam (List Value)):Prop where
 out:DA P t=some cs
def bodyB (P:Program)(f:FuncId):Bool:=match P.funcs[f]? with
 | some fn=>fn.body.isSome&& !(fn.name== "runtime.NumGoroutine")
 | none=>false
class Body (P:Program) (f:FuncId):Prop where
 out:bodyB P f=true
theorem Ty.und {P:Program}{t:TypeId}{agg:Bool}{n:Nat}(h:Ty P t agg n):∃d i,P.underlying t=some d∧P.info? t=some i∧i.size=n∧(match d with | .struct _ | .array _ _=>true | _=>false)=agg:=by
 have:=h.out
 unfold tyB at this
 split at this
 ·rename_i d i hd hi
  simp only [Option.some.injEq,Prod.mk.injEq] at this
  exact⟨d,i,hd,hi,this.2,this.1⟩
 ·cases this
theorem El.und {P:Program}{t e n:Nat}(h:El P t e n):P.underlying t=some (.slice e)∧∃i,P.info? e=some i∧i.size=n:=by
 have:=h.out
 unfold elB at this
 split at this
 ·rename_i e' hd
  split at this
  ·rename_i i hi
   simp only [Option.some.injEq,Prod.mk.injEq] at this
   obtain⟨rfl,rfl⟩:=this
   exact⟨hd,i,hi,rfl⟩
  ·cases this
 ·cases this
def PR (P:Program)(E:Env)(C:World→Prop)(op:Op)(v:Value):Prop:=
 ∀(n:Nat) (a:Act) (w:World) (o:Oper),o.op=op→EOk n E a→C w→(execOp a.eval o).run P w= .ok (.value v) w
def vF (op:BinOp)(k:IntKind)(a b:Int):Option Value:=match op with
 | .add=>some (.int k (k.wrap (a+b)))
 | .sub=>some (.int k (k.wrap (a - b)))
 | .mul=>some (.int k (k.wrap (a * b)))
 | .eql=>some (.bool (decide (a=b)))
 | .neq=>some (.bool (!decide (a=b)))
 | .lss=>some (.bool (decide (a<b)))
 | .leq=>some (.bool (decide (a≤b)))
 | .gtr=>some (.bool (decide (b<a)))
 | .geq=>some (.bool (decide (b≤a)))
 | _=>none
theorem CG {P:Program}{w:World}{op:BinOp}{t:TypeId}{k:IntKind}{a b:Int}{v:Value}(h:vF op k a b=some v):(binOp op t (.int k a) (.int k b)).run P w= .ok v w:=by
 cases op<;>simp only [vF,Option.some.injEq,reduceCtorEq] at h<;>subst h<;>simp [binOp,Op.intArith,Op.intCmp,Sem.run]<;>rfl
def jW {α:Type}:List α→Nat→Option α
 | [],_=>none
 | x::_,0=>some x
 | _::l,i+1=>jW l i
theorem qb {α:Type}:∀(l:List α) (i:Nat),jW l i=l[i]?
 | [],_=>by simp [jW]
 | x::l,0=>by simp [jW]
 | x::l,i+1=>by simp [jW,qb l i]
def gC (E:Env)(op:Op):Option Value:=match op with
 | .move x=>ev E x
 | .assign x=>ev E x
 | .extract x i=>match ev E x with
  | some (.tuple vs)=>jW vs.toList i
  | _=>none
 | .pick c a b=>match ev E c with
  | some (.bool true)=>ev E a
  | some (.bool false)=>ev E b
  | _=>none
 | .unOp .not _ x=>match ev E x with
  | some (.bool b)=>some (.bool (!b))
  | _=>none
 | .unOp .neg _ x=>match ev E x with
  | some (.int k a)=>some (.int k (k.wrap (0 - a)))
  | _=>none
 | .binOp op _ x y _=>match ev E x with
  | some (.int k a)=>match ev E y with
   | some (.int k' b)=>if k=k' then vF op k a b else none
   | _=>none
  | _=>none
 | .makeFunc fn fst cap=>match evs E fst.toList with
  | some fs=>match evs E cap.toList with
   | some cs=>some (.func fn fs.toArray cs.toArray)
   | none=>none
  | none=>none
 | _=>none
theorem wK {n:Nat}{E:Env}{a:Act}(h:EOk n E a){xs:Array Operand}{vs:List Value}(hx:evs E xs.toList=some vs):xs.map a.eval=vs.toArray:=by
 apply Array.ext'
 simpa using h.evals hx
theorem aJ {P:Program}{E:Env}{C:World→Prop}{op:Op}{v:Value}(h:gC E op=some v):PR P E C op v:=by
 intro n a w o ho he hw
 unfold execOp
 rw [ho]
 cases op with
 | move x=>simp only [gC] at h;simp [he.eval h]
 | assign x=>simp only [gC] at h;simp [he.eval h]
 | extract x i=>
  simp only [gC] at h
  split at h
  ·rename_i vs hx
   rw [qb] at h
   have h':vs[i]? =some v:=by simpa using h
   simp [he.eval hx,Instr.extract,h']
  ·cases h
 | pick c x y=>
  simp only [gC] at h
  split at h
  ·rename_i hc;simp [he.eval hc,he.eval h,asBool]
  ·rename_i hc;simp [he.eval hc,he.eval h,asBool]
  ·cases h
 | unOp u t x=>
  cases u with
  | not=>
   simp only [gC] at h
   split at h
   ·rename_i b hx;simp only [Option.some.injEq] at h;subst h;simp [he.eval hx,Op.unary]
   ·cases h
  | neg=>
   simp only [gC] at h
   split at h
   ·rename_i k b hx;simp only [Option.some.injEq] at h;subst h;simp [he.eval hx,Op.unary,Op.intArith]
   ·cases h
  | _=>simp [gC] at h
 | binOp u t x y t'=>
  simp only [gC] at h
  split at h
  ·rename_i k b hx
   split at h
   ·rename_i k' c hy
    split at h
    ·rename_i hk
     subst hk
     simp [he.eval hx,he.eval hy,eqGuard_at_int,CG h]
    ·cases h
   ·cases h
  ·cases h
 | makeFunc fn fst cap=>
  simp only [gC] at h
  split at h
  ·rename_i fs hf
   split at h
   ·rename_i cs hc
    simp only [Option.some.injEq] at h;subst h
    simp [wK he hf,wK he hc,Instr.makeFunc]
   ·cases h
  ·cases h
 | _=>simp [gC] at h
theorem nW {P:Program}{t:TypeId}{agg:Bool}{n:Nat}(h:Ty P t agg n)(w:World):(isAgg t).run P w= .ok agg w:=by
 obtain⟨d,i,hd,hi,hn,ha⟩:=h.und
 unfold isAgg
 rw [Sem.run_bind,run_underlying hd w]
 cases d<;>simp_all
theorem rL {P:Program}{t:TypeId}{agg:Bool}{n:Nat}(h:Ty P t agg n)(w:World):(sizeOf t).run P w= .ok n w:=by
 obtain⟨d,i,hd,hi,hn,ha⟩:=h.und
 simp [sizeOf,typeInfo,hi,hn]
theorem fR (b o n:Nat):Addr.add ⟨b,o,none⟩ n=⟨b,o+n,none⟩:=Addr.add_lit b o n
theorem gz {P:Program}{t n:Nat}(h:Ty P t false n){w:World}{b o:Nat}{v:Value}(hv:w.cell? ⟨b,o,none⟩=some v):(loadVar t ⟨b,o,none⟩).run P w= .ok v w:=by
 simp [loadVar,nW h w,run_load,hv]
theorem el {P:Program}{t:Nat}{cs:List Value}(h:Ty P t true cs.length){w:World}{b o:Nat}(hv:∀j v,cs[j]? =some v→w.cell? ⟨b,o+j,none⟩=some v):
  (loadVar t ⟨b,o,none⟩).run P w= .ok (.agg cs.toArray) w:=by
 have:=run_loadCells_list (P:=P) w ⟨b,o,none⟩ cs (fun j v hj=>by rw [fR];exact hv j v hj)
 simp [loadVar,nW h w,rL h w,this]
section
variable {P:Program}{E:Env}{M:List Nat}{w0:World}{H0 H:Hp}{L:aj}{C:World→Prop}
theorem jE {t:TypeId}{x:Operand}{b o:Nat}{v:Value}(hx:ev E x=some (.pointer (some ⟨b,o,none⟩)))(h:∀w,C w→(loadVar t ⟨b,o,none⟩).run P w= .ok v w):PR P E C (.load t x) v:=by
 intro n a w o' ho he hw
 unfold execOp
 rw [ho]
 simp [he.eval hx,Instr.loadAt,Instr.sureAddr,h w hw]
theorem aB {t k:TypeId}{x:Operand}{b o:Nat}{cs:List Value}{v:Value}(hx:ev E x=some (.pointer (some ⟨b,o,none⟩)))[ht:Ty P t false k](hL:InL b cs L)(hv:cs[o]? =some v):
  PR P E (St M w0 H0 H L) (.load t x) v:=
 jE hx fun w hw=>gz ht (by rw [hw.cell hL o];exact hv)
theorem a7 {t:TypeId}{x:Operand}{b:Nat}{cs:List Value}(hx:ev E x=some (.pointer (some ⟨b,0,none⟩)))(hL:InL b cs L){k:Nat}[ht:Ty P t true k](hk:cs.length=k):
  PR P E (St M w0 H0 H L) (.load t x) (.agg cs.toArray):=
 jE hx fun w hw=>el (hk▸ht) (fun j v hj=>by rw [Nat.zero_add,hw.cell hL j];exact hj)
theorem pr_ownP {t k:TypeId}{x:Operand}{b o:Nat}{cs ds:List Value}(hx:ev E x=some (.pointer (some ⟨b,o,none⟩)))(hL:InL b cs L)[ht:Ty P t true k](hk:k=ds.length)(hd:(cs.drop o).take k=ds):
  PR P E (St M w0 H0 H L) (.load t x) (.agg ds.toArray):=by
 subst hk
 exact jE hx fun w hw=>el ht (fun j v hj=>by
  rw [hw.cell hL (o+j)]
  rw [← hd,List.getElem?_take] at hj
  split at hj
  ·rwa [List.getElem?_drop] at hj
  ·cases hj)
theorem bI {t k:TypeId}{x:Operand}{b o:Nat}{v:Value}(hx:ev E x=some (.pointer (some ⟨b,o,none⟩)))[ht:Ty P t false k](hv:H b o=some v):
  PR P E (St M w0 H0 H L) (.load t x) v:=
 jE hx fun w hw=>gz ht (hw.hp _ _ _ hv)
theorem kn {t:TypeId}{x:Operand}{b o:Nat}{cs:List Value}(hx:ev E x=some (.pointer (some ⟨b,o,none⟩))){k:Nat}[ht:Ty P t true k](hk:cs.length=k)(hv:∀j v,cs[j]? =some v→H b (o+j)=some v):
  PR P E (St M w0 H0 H L) (.load t x) (.agg cs.toArray):=
 jE hx fun w hw=>el (hk▸ht) (fun j v hj=>hw.hp _ _ _ (hv j v hj))
theorem dB {s f off:Nat}{x:Operand}{b o:Nat}(hx:ev E x=some (.pointer (some ⟨b,o,none⟩)))[hf:Fld P s f off]:PR P E C (.fieldAddr s x f) (.pointer (some ⟨b,o+off,none⟩)):=by
 intro n a w o' ho he hw
 unfold execOp
 rw [ho]
 have hf:=hf.out
 unfold fldB at hf
 split at hf
 ·rename_i fs hs
  split at hf
  ·rename_i fd hfd
   split at hf
   ·rename_i i hi
    split at hf
    ·cases hf
    ·rename_i hz
     simp only [Option.some.injEq] at hf
     subst hf
     simp [he.eval hx,Instr.fieldAt,run_underlying hs,hfd,Instr.sureAddr,fieldPlace,sizeOf,typeInfo,hi,hz,fR]
   ·cases hf
  ·cases hf
 ·cases hf
theorem ie {t e k:Nat}{x y:Operand}{b o len cap:Nat}{kd:IntKind}{i:Int}(hx:ev E x=some (.slice (some ⟨b,o,none⟩) len cap))(hy:ev E y=some (.int kd i))[hel:El P t e k](h0:0≤i)(h1:i<len):
  PR P E C (.indexAddr t x y) (.pointer (some ⟨b,o+i.toNat * k,none⟩)):=by
 intro n a w o' ho he hw
 unfold execOp
 rw [ho]
 obtain⟨hu,inf,hi,hs⟩:=hel.und
 simp [he.eval hx,he.eval hy,Instr.indexAt,asIntOf,run_underlying hu,h0,h1,sizeOf,typeInfo,hi,hs,fR]
theorem ec {c:Call}{t e k:Nat}{x:Operand}{base:Option Addr}{len cap:Nat}(hc:c={callee:=.builtin .len,args:= #[x],argTypes:= #[t]})(hx:ev E x=some (.slice base len cap))[hel:El P t e k]:
  PR P E C (.call c) (.int .i64 len):=by
 intro n a w o' ho he hw
 unfold execOp
 rw [ho]
 obtain⟨hu,inf,hi,hs⟩:=hel.und
 subst hc
 simp [resolve,invoke,builtin,Builtin.len_,he.eval hx,run_underlying hu,goInt]
theorem eq {c:Call}{t:Nat}{x:Operand}{l:List UInt8}(hc:c={callee:=.builtin .len,args:= #[x],argTypes:= #[t]})(hx:ev E x=some (.string ⟨l.toArray⟩))[hu:Und P t .string]:
  PR P E C (.call c) (.int .i64 l.length):=by
 intro n a w o' ho he hw
 unfold execOp
 rw [ho]
 subst hc
 have hsz:(ByteArray.mk l.toArray).size=l.length:=by simp [ByteArray.size]
 simp [resolve,invoke,builtin,Builtin.len_,he.eval hx,run_underlying hu.out,goInt,hsz]
theorem nG {a:Int}(h1: -9223372036854775808≤a)(h2:a≤9223372036854775807):IntKind.i64.wrap a=a:=by
 rw [IntKind.wrap_i64];omega
theorem fz {t t':TypeId}{x y:Operand}{a b:Int}(hx:ev E x=some (.int .i64 a))(hy:ev E y=some (.int .i64 b))(h1: -9223372036854775808≤a+b)(h2:a+b≤9223372036854775807):PR P E C (.binOp .add t x y t') (.int .i64 (a+b)):=
 aJ (by simp only [gC,hx,hy,vF,if_true,nG h1 h2])
theorem fw {t t':TypeId}{x y:Operand}{a b:Int}(hx:ev E x=some (.int .i64 a))(hy:ev E y=some (.int .i64 b))(h1: -9223372036854775808≤a - b)(h2:a - b≤9223372036854775807):PR P E C (.binOp .sub t x y t') (.int .i64 (a - b)):=
 aJ (by simp only [gC,hx,hy,vF,if_true,nG h1 h2])
theorem Ab {t t':TypeId}{x y:Operand}{a b:Int}(hx:ev E x=some (.int .i64 a))(hy:ev E y=some (.int .i64 b))(h1: -9223372036854775808≤a * b)(h2:a * b≤9223372036854775807):PR P E C (.binOp .mul t x y t') (.int .i64 (a * b)):=
 aJ (by simp only [gC,hx,hy,vF,if_true,nG h1 h2])
def blk:Value→Nat
 | .slice (some a) _ _=>a.block
 | _=>0
def off:Value→Nat
 | .slice (some a) _ _=>a.off
 | _=>0
structure RdSl {α:Type}(H:Hp)(k:Nat)(enc:α→List Value)(v:Value)(l:List α):Prop where
 len:∃a cap,v= .slice a l.length cap
 max:l.length≤9223372036854775807
 addr:l≠[]→∃cap,v= .slice (some ⟨blk v,off v,none⟩) l.length cap
 get:∀i x,l[i]? =some x→∀j u,(enc x)[j]? =some u→H (blk v) (off v+i * k+j)=some u
 room:∀a n c,v= .slice a n c→l.length≤c
theorem RdSl.le {α:Type}{H H':Hp}{k:Nat}{enc:α→List Value}{v:Value}{l:List α}(h:RdSl H k enc v l)(hl:H.le H'):RdSl H' k enc v l:=
 ⟨h.len,h.max,h.addr,fun i x hx j u hu=>hl _ _ _ (h.get i x hx j u hu),h.room⟩
theorem ah {α:Type}{c:Call}{t e k k':Nat}{enc:α→List Value}{x:Operand}{v:Value}{l:List α}(hc:c={callee:=.builtin .len,args:= #[x],argTypes:= #[t]})(hx:ev E x=some v)(h:RdSl H k' enc v l)[hel:El P t e k]:
  PR P E C (.call c) (.int .i64 l.length):=by
 obtain⟨a,cap,rfl⟩:=h.len
 exact ec hc hx
theorem ae {α:Type}{t e k:Nat}{enc:α→List Value}{x y:Operand}{v:Value}{l:List α}{kd:IntKind}{i:Int}(hx:ev E x=some v)(h:RdSl H k enc v l)(hy:ev E y=some (.int kd i))[hel:El P t e k](h0:0≤i)(h1:i<l.length):
  PR P E C (.indexAddr t x y) (.pointer (some ⟨blk v,off v+i.toNat * k,none⟩)):=by
 obtain⟨cap,hv⟩:=h.addr (by intro e;subst e;simp at h1;omega)
 rw [hv] at hx
 have:=ie (P:=P) (C:=C) (t:=t) (e:=e) (k:=k) hx hy h0 h1
 exact this
theorem bg {α:Type}{t k:Nat}{enc:α→List Value}{x:Operand}{v:Value}{l:List α}{i:Nat}{a:α}(h:RdSl H k enc v l)(ha:l[i]? =some a)(hx:ev E x=some (.pointer (some ⟨blk v,off v+i * k,none⟩)))[ht:Ty P t true k](hk:(enc a).length=k):
  PR P E (St M w0 H0 H L) (.load t x) (.agg (enc a).toArray):=
 kn hx hk (fun j u hu=>h.get i a ha j u hu)
theorem br {α:Type}{t k k' j:Nat}{enc:α→List Value}{x:Operand}{v u:Value}{l:List α}{i:Nat}{a:α}(h:RdSl H k enc v l)(ha:l[i]? =some a)(hx:ev E x=some (.pointer (some ⟨blk v,off v+i * k+j,none⟩)))[ht:Ty P t false k'](hu:(enc a)[j]? =some u):
  PR P E (St M w0 H0 H L) (.load t x) u:=
 bI hx (h.get i a ha j u hu)
theorem aQ {α:Type}{t k k':Nat}{enc:α→List Value}{x:Operand}{v u:Value}{l:List α}{i:Nat}{a:α}(h:RdSl H k enc v l)(ha:l[i]? =some a)(hx:ev E x=some (.pointer (some ⟨blk v,off v+i * k,none⟩)))[ht:Ty P t false k'](hu:(enc a)[0]? =some u):
  PR P E (St M w0 H0 H L) (.load t x) u:=
 bI hx (h.get i a ha 0 u hu)
theorem pr_el2 {α:Type}{t k k' j j2:Nat}{enc:α→List Value}{x:Operand}{v u:Value}{l:List α}{i:Nat}{a:α}(h:RdSl H k enc v l)(ha:l[i]? =some a)(hx:ev E x=some (.pointer (some ⟨blk v,off v+i * k+j+j2,none⟩)))[ht:Ty P t false k'](hu:(enc a)[j+j2]? =some u):
  PR P E (St M w0 H0 H L) (.load t x) u:=
 bI hx (by rw [Nat.add_assoc];exact h.get i a ha (j+j2) u hu)
theorem pr_elP {α:Type}{t k k' j:Nat}{enc:α→List Value}{x:Operand}{v:Value}{l:List α}{i:Nat}{a:α}{ds:List Value}(h:RdSl H k enc v l)(ha:l[i]? =some a)(hx:ev E x=some (.pointer (some ⟨blk v,off v+i * k+j,none⟩)))[ht:Ty P t true k'](hk:ds.length=k')(hd:((enc a).drop j).take k'=ds):
  PR P E (St M w0 H0 H L) (.load t x) (.agg ds.toArray):=
 kn hx hk (fun q u hu=>by
  rw [Nat.add_assoc]
  refine h.get i a ha (j+q) u ?_
  rw [← hd,List.getElem?_take] at hu
  split at hu
  ·rwa [List.getElem?_drop] at hu
  ·cases hu)
theorem ao {α:Type}{l:List α}{i:Int}(h0:0≤i)(h1:i<l.length):∃x,l[i.toNat]? =some x:=⟨l[i.toNat]'om,List.getElem?_eq_getElem om⟩
def gs (l:List UInt8):Value:=.string ⟨l.toArray⟩
theorem oA (l:List UInt8):(ByteArray.mk l.toArray).toList=l:=by simp [ByteArray.toList_eq]
def strOp (op:BinOp)(a b:List UInt8):Option Value:=match op with
 | .eql=>some (.bool (decide (a=b)))
 | .neq=>some (.bool (!decide (a=b)))
 | .lss=>some (.bool (Op.bytesLess a b))
 | .leq=>some (.bool (Op.bytesLess a b||decide (a=b)))
 | .gtr=>some (.bool (!(Op.bytesLess a b||decide (a=b))))
 | .geq=>some (.bool (!Op.bytesLess a b))
 | _=>none
theorem bW {op:BinOp}{t t':TypeId}{x y:Operand}{a b:List UInt8}{v:Value}(hx:ev E x=some (gs a))(hy:ev E y=some (gs b))(h:strOp op a b=some v):PR P E C (.binOp op t x y t') v:=by
 intro n ac w o ho he hw
 unfold execOp
 rw [ho]
 have hbeq:(a==b)=decide (a=b):=by rw [Bool.eq_iff_iff];simp
 cases op<;>simp only [strOp,Option.some.injEq,reduceCtorEq] at h<;>subst h<;>
  simp [he.eval hx,he.eval hy,gs,eqGuard_at_string,eqGuard,binOp,Op.stringOp,oA,hbeq]
end
end Go.Sx
namespace Go.Sx
open Go
def wpW (P:Program)(ops:Array Oper)(Q:Exit→Act→World→Prop):List Oper→Act→World→Prop
 | [],a,w=>Q .normal a w
 | o::rest,a,w=>if Region.wanted o (yielded ops a.tmps) then o.wp P a w (wpW P ops Q rest) Q else wpW P ops Q rest (a.put o.dst undef) w
theorem fg {P:Program}{ops:Array Oper}{Q:Exit→Act→World→Prop}:∀{l:List Oper} {a:Act} {w:World},wpW P ops Q l a w→wpList P ops Q l a w
 | [],a,w,h=>h
 | o::rest,a,w,h=>by
  refine wpList_step fun K hK=>?_
  simp only [wpW] at h
  split
  ·rename_i hw
   rw [if_pos hw] at h
   unfold Oper.wp at *
   generalize (execOp a.eval o).run P w=r at *
   cases r with
   | ok n w'=>
    cases n<;>simp only [Oper.upon] at h ⊢<;>first
     | exact hK _ _ (fg h)
     | exact Calls.mono h (fun e w'' he=>by cases e<;>first | exact hK _ _ (fg he) | exact he)
     | exact Rows.mono h (fun _ _ he=>hK _ _ (fg he))
   | halt x w'=>cases x<;>simp only [Oper.upon] at h ⊢<;>exact h
  ·rename_i hw
   rw [if_neg hw] at h
   exact hK _ _ (fg h)
theorem j6 {P:Program}{ops:Array Oper}{Q:Exit→Act→World→Prop}{o:Oper}{rest:List Oper}{a:Act}{w:World}(h:∀K:Act→World→Prop,(∀a w,wpW P ops Q rest a w→K a w)→if Region.wanted o (yielded ops a.tmps) then o.wp P a w K Q else K (a.put o.dst undef) w):wpW P ops Q (o::rest) a w:=
 h _ (fun _ _ h=>h)
theorem cE {P:Program}{ops:Array Oper}{Q:Exit→Act→World→Prop}{o:Oper}{rest:List Oper}{a:Act}{w:World}(hg:o.guard=none)
  (h:∀K:Act→World→Prop,(∀a w,wpW P ops Q rest a w→K a w)→o.wp P a w K Q):wpW P ops Q (o::rest) a w:=
 j6 fun K hK=>by simp only [Region.wanted,hg,if_true];exact h K hK
def TX (n:Nat)(q:Act→World→Prop)(E:Env)(C:World→Prop):Prop:=∀a w,EOk n E a→C w→q a w
def TC (P:Program)(n:Nat)(c:Code)(Q:Exit→Act→World→Prop)(E:Env)(C:World→Prop):Prop:=∀a w,EOk n E a→C w→c.wp P Q a w
def TL (P:Program)(n:Nat)(ops:Array Oper)(Q:Exit→Act→World→Prop)(l:List Oper)(E:Env)(C:World→Prop):Prop:=∀a w,EOk n E a→C w→wpW P ops Q l a w
def TQ (P:Program)(n:Nat)(ops:Array Oper)(C:World→Prop)(Q:Act→Prop)(l:List Oper)(E:Env):Prop:=∀a,EOk n E a→wpQuiet P ops C Q l a
section
variable {P:Program}{n:Nat}{ops:Array Oper}{Q:Exit→Act→World→Prop}{E E':Env}{C C':World→Prop}{rest:List Oper}{dst:Option Nat}{op:Op}{ty:TypeId}{pos:String}{aft:Array Edge}
theorem TL.cls {l:List Oper}(hc:∀w,C w→C' w)(h:TL P n ops Q l E C'):TL P n ops Q l E C:=fun a w he hw=>h a w he (hc w hw)
theorem TC.seq {x y:Code}(h:TC P n x (Exit.then (y.wp P Q) Q) E C):TC P n (.seq x y) Q E C:=fun a w he hw=>wp_seq (h a w he hw)
theorem TC.skip (h:TX n (Q .normal) E C):TC P n .skip Q E C:=fun a w he hw=>wp_skip (h a w he hw)
theorem TC.ret (h:TX n (Q .ret) E C):TC P n .ret Q E C:=fun a w he hw=>wp_ret (h a w he hw)
theorem TC.exit {id:Nat}(h:TX n (Q (.exit id)) E C):TC P n (.exit id) Q E C:=fun a w he hw=>wp_exit (h a w he hw)
theorem TC.block {id:Nat}{c:Code}(h:TC P n c (Exit.inBlock id Q) E C):TC P n (.block id c) Q E C:=fun a w he hw=>wp_block (h a w he hw)
theorem TC.region {id:Nat}{l:List Oper}(h:TL P n l.toArray Q l E C):TC P n (.region id l.toArray false) Q E C:=fun a w he hw=>wp_region_lit (fg (h a w he hw))
theorem TC.cond {c:Operand}{x y:Code}{b:Bool}(hc:ev E c=some (.bool b))(ht:b=true→TC P n x Q E C)(hf:b=false→TC P n y Q E C):TC P n (.cond c x y) Q E C:=
 fun a w he hw=>wp_cond_split (he.eval hc) (fun h=>ht h a w he hw) (fun h=>hf h a w he hw)
theorem ag {c:Operand}{x y:Code}{p:Prop}[Decidable p](hc:ev E c=some (.bool (decide p)))(ht:p→TC P n x Q E C)(hf:¬p→TC P n y Q E C):TC P n (.cond c x y) Q E C:=
 TC.cond hc (fun h=>ht (of_decide_eq_true h)) (fun h=>hf (of_decide_eq_false h))
theorem aX {c:Operand}{x y:Code}{p:Prop}[Decidable p](hc:ev E c=some (.bool (!decide p)))(ht:¬p→TC P n x Q E C)(hf:p→TC P n y Q E C):TC P n (.cond c x y) Q E C:=
 TC.cond hc (fun h=>ht (by simpa using h)) (fun h=>hf (by simpa using h))
theorem dt {c:Operand}{x y:Code}(hc:ev E c=some (.bool true))(ht:TC P n x Q E C):TC P n (.cond c x y) Q E C:=
 fun a w he hw=>wp_cond_true (he.eval hc) (ht a w he hw)
theorem fU {c:Operand}{x y:Code}(hc:ev E c=some (.bool false))(hf:TC P n y Q E C):TC P n (.cond c x y) Q E C:=
 fun a w he hw=>wp_cond_false (he.eval hc) (hf a w he hw)
theorem aU {p:Prop}[Decidable p](h:(!decide p)=true):¬p:=by simpa using h
theorem aP {p:Prop}[Decidable p](h:(!decide p)=false):p:=by simpa using h
theorem af {y:Code}{Q:Exit→Act→World→Prop}(h:TC P n y Q E C):TX n (Exit.then (y.wp P Q) Q .normal) E C:=h
theorem aI {K:Act→World→Prop}(h:TX n (Q .ret) E C):TX n (Exit.then K Q .ret) E C:=h
theorem bM {K:Act→World→Prop}{id:Nat}(h:TX n (Q (.exit id)) E C):TX n (Exit.then K Q (.exit id)) E C:=h
theorem bu {id:Nat}(h:TX n (Q .normal) E C):TX n (Exit.inBlock id Q .normal) E C:=h
theorem bv {id:Nat}(h:TX n (Q .ret) E C):TX n (Exit.inBlock id Q .ret) E C:=h
theorem cG {id:Nat}(h:TX n (Q .normal) E C):TX n (Exit.inBlock id Q (.exit id)) E C:=fun a w he hw=>by
 have:=h a w he hw
 simpa [Exit.inBlock] using this
theorem TC.loop {ι:Type}{c:Code}(V:ι→Env)(K:Env)(L:ι→World→Prop)(I:ι→Prop)(μ:ι→Nat)(i:ι)(h0:Sub (V i++K) E)(hi:I i)(hC:∀w,C w→L i w)
  (round:∀i,I i→TC P n c (Exit.then (fun a w=>∃j,I j∧EOk n (V j++K) a∧L j w∧μ j<μ i) Q) (V i++K) (L i)):TC P n (.loop c) Q E C:=by
 intro a w he hw
 let J:Act→World→ι→Prop:=fun a w i=>I i∧EOk n (V i++K) a∧L i w
 have hJ:J a w i:=⟨hi,he.sub h0,hC w hw⟩
 intro b k cs
 have key:∀m i a w,μ i=m→J a w i→
   ∃e a' w',Q e a' w'∧Arrives P (lone (b.at a (.code c::.inLoop c::k)) cs w) b k cs e a' w':=by
  intro m
  induction m using Nat.strongRecOn with
  | _ m ih=>
   intro i a w hm hJ
   obtain⟨e,a₁,w₁,hq,harr⟩:=round i hJ.1 a w hJ.2.1 hJ.2.2 b (.inLoop c::k) cs
   cases e with
   | normal=>
    obtain⟨j,h1,h2,h3,h4⟩:=hq
    obtain⟨e₂,a₂,w₂,hq₂,harr₂⟩:=ih (μ j) (hm▸h4) j a₁ w₁ rfl ⟨h1,h2,h3⟩
    exact⟨e₂,a₂,w₂,hq₂,.of_steps (Steps.trans harr (.one step_inLoop)) harr₂⟩
   | exit id=>exact⟨_,a₁,w₁,hq,.pass (x:=.inLoop c) rfl (fun _ _=>.inl sq) harr⟩
   | goto l=>exact⟨_,a₁,w₁,hq,.pass (x:=.inLoop c) rfl (fun _ _=>.inl sq) harr⟩
   | ret=>exact⟨_,a₁,w₁,hq,.pass (x:=.inLoop c) rfl (fun _ _=>.inl sq) harr⟩
   | panic ch=>exact⟨_,a₁,w₁,hq,.pass (x:=.inLoop c) rfl (fun _ _=>.inl sq) harr⟩
   | outgrown=>exact⟨_,a₁,w₁,hq,.pass (x:=.inLoop c) rfl (fun _ _=>.inl sq) harr⟩
 obtain⟨e,a',w',hq,harr⟩:=key _ i a w rfl hJ
 exact⟨e,a',w',hq,.of_steps (.one step_loop) harr⟩
theorem aS {ι:Type}{V:ι→Env}{L:ι→World→Prop}{I:ι→Prop}{μ:ι→Nat}{i:ι}{E0:Env}(j:ι)(hI:I j)(hs:Sub (V j++E0) E)(hC:∀w,C w→L j w)(hm:μ j<μ i):
  TX n (Exit.then (fun a w=>∃j,I j∧EOk n (V j++E0) a∧L j w∧μ j<μ i) Q .normal) E C:=fun a w he hw=>⟨j,hI,he.sub hs,hC w hw,hm⟩
theorem tf {ι:Type}{x y:Code}(V:ι→Env)(K:Env)(hK:Sub K E)(L:ι→World→Prop)(I:ι→Prop)
  (hx:TC P n x (Exit.then (fun a w=>∃j,I j∧EOk n (V j++K) a∧L j w) Q) E C)
  (hy:∀i,I i→TC P n y Q (V i++K) (L i)):TC P n (.seq x y) Q E C:=by
 intro a w he hw
 refine wp_seq (Code.wp_mono ?_ (hx a w he hw))
 intro e a' w' hq
 cases e with
 | normal=>obtain⟨j,h1,h2,h3⟩:=hq;exact hy j h1 a' w' h2 h3
 | exit id=>exact hq
 | goto l=>exact hq
 | ret=>exact hq
 | panic ch=>exact hq
 | outgrown=>exact hq
theorem jP {ι:Type}{V:ι→Env}{L:ι→World→Prop}{I:ι→Prop}{E0:Env}(j:ι)(hI:I j)(hs:Sub (V j++E0) E)(hC:∀w,C w→L j w):
  TX n (Exit.then (fun a w=>∃j,I j∧EOk n (V j++E0) a∧L j w) Q .normal) E C:=fun a w he hw=>⟨j,hI,he.sub hs,hC w hw⟩
theorem TL.nil (h:TX n (Q .normal) E C):TL P n ops Q [] E C:=fun a w he hw=>h a w he hw
theorem TL.run {v:Value}(hr:PR P E C op v)(hd:cu dst n=true)(h:TL P n ops Q rest (cr dst v E) C):TL P n ops Q ({dst:=dst,op:=op,type:=ty,pos:=pos,after:=aft,guard:=none}::rest) E C:=by
 intro a w he hw
 refine cE rfl (fun K hK=>?_)
 unfold Oper.wp
 rw [hr n a w _ rfl he hw]
 exact hK _ _ (h _ w (he.put hd) hw)
theorem TQ.nil {Cq:World→Prop}(h:TX n (Q .normal) E Cq):TQ P n ops Cq (fun a'=>∀w',Cq w'→Q .normal a' w') [] E:=fun a he=>wpQuiet_nil (fun w' hw'=>h a w' he hw')
theorem TQ.run {v:Value}{Q:Act→Prop}(hr:PR P E C op v)(hd:cu dst n=true)(h:TQ P n ops C Q rest (cr dst v E)):TQ P n ops C Q ({dst:=dst,op:=op,type:=ty,pos:=pos,after:=aft,guard:=none}::rest) E:=by
 intro a he
 refine wpQuiet_step (fun K hK=>?_)
 simp only [Region.wanted,if_true]
 refine⟨v,fun w hw=>?_,hK _ (h _ (he.put hd))⟩
 unfold Oper.quietAt
 rw [hr n a w _ rfl he hw]
 exact⟨rfl,rfl⟩
def gr (ops:Array Oper)(j:Nat):Option Nat:=match ops[j]? with
 | some o=>o.dst
 | none=>none
theorem d6 {a:Act}{j s:Nat}{b:Bool}(he:EOk n E a)(hj:gr ops j=some s)(hb:lk E s=some (.bool b)):yielded ops a.tmps j=some b:=by
 unfold yielded
 unfold gr at hj
 cases ho:ops[j]? with
 | none=>rw [ho] at hj;cases hj
 | some o=>
  rw [ho] at hj
  simp only at hj
  simp [hj,he.at_ s _ hb]
theorem aC {v:Value}{j s:Nat}{b:Bool}(hj:gr ops j=some s)(hb:lk E s=some (.bool b))(hr:PR P E C op v)(hd:cu dst n=true)(h:TL P n ops Q rest (cr dst v E) C):
  TL P n ops Q ({dst:=dst,op:=op,type:=ty,pos:=pos,after:=aft,guard:=some (j,b)}::rest) E C:=by
 intro a w he hw
 refine j6 (fun K hK=>?_)
 have hy:=d6 he hj hb
 simp only [Region.wanted,hy,BEq.rfl,if_true]
 unfold Oper.wp
 rw [hr n a w _ rfl he hw]
 exact hK _ _ (h _ w (he.put hd) hw)
theorem TL.gdN {j s:Nat}{b b':Bool}(hj:gr ops j=some s)(hb:lk E s=some (.bool b))(hne:(b==b')=false)(hd:cu dst n=true)(h:TL P n ops Q rest (cr dst undef E) C):
  TL P n ops Q ({dst:=dst,op:=op,type:=ty,pos:=pos,after:=aft,guard:=some (j,b')}::rest) E C:=by
 intro a w he hw
 refine j6 (fun K hK=>?_)
 have hy:=d6 he hj hb
 have hw':(some b==some b')=false:=by simpa using hne
 simp only [Region.wanted,hy,hw',if_false,Bool.false_eq_true]
 exact hK _ _ (h _ w (he.put hd) hw)
theorem eC {j s:Nat}{b':Bool}(hj:gr ops j=some s)(hb:lk E s=some undef)(hd:cu dst n=true)(h:TL P n ops Q rest (cr dst undef E) C):
  TL P n ops Q ({dst:=dst,op:=op,type:=ty,pos:=pos,after:=aft,guard:=some (j,b')}::rest) E C:=by
 intro a w he hw
 refine j6 (fun K hK=>?_)
 have hy:yielded ops a.tmps j=none:=by
  unfold yielded;unfold gr at hj
  cases ho:ops[j]? with
  | none=>rw [ho] at hj;cases hj
  | some o=>rw [ho] at hj;simp only at hj;simp [hj,he.at_ s _ hb,undef]
 simp only [Region.wanted,hy]
 exact hK _ _ (h _ w (he.put hd) hw)
theorem bA {Q:Act→Prop}{v:Value}{j s:Nat}{b:Bool}(hj:gr ops j=some s)(hb:lk E s=some (.bool b))(hr:PR P E C op v)(hd:cu dst n=true)(h:TQ P n ops C Q rest (cr dst v E)):
  TQ P n ops C Q ({dst:=dst,op:=op,type:=ty,pos:=pos,after:=aft,guard:=some (j,b)}::rest) E:=by
 intro a he
 refine wpQuiet_step (fun K hK=>?_)
 have hy:=d6 he hj hb
 simp only [Region.wanted,hy,BEq.rfl,if_true]
 refine⟨v,fun w hw=>?_,hK _ (h _ (he.put hd))⟩
 unfold Oper.quietAt
 rw [hr n a w _ rfl he hw]
 exact⟨rfl,rfl⟩
theorem jQ {Q:Act→Prop}{j s:Nat}{b b':Bool}(hj:gr ops j=some s)(hb:lk E s=some (.bool b))(hne:(b==b')=false)(hd:cu dst n=true)(h:TQ P n ops C Q rest (cr dst undef E)):
  TQ P n ops C Q ({dst:=dst,op:=op,type:=ty,pos:=pos,after:=aft,guard:=some (j,b')}::rest) E:=by
 intro a he
 refine wpQuiet_step (fun K hK=>?_)
 have hy:=d6 he hj hb
 have hw':(some b==some b')=false:=by simpa using hne
 simp only [Region.wanted,hy,hw',if_false,Bool.false_eq_true]
 exact hK _ (h _ (he.put hd))
theorem ai {l:List Oper}{s:Nat}{b:Bool}(hb:lk E s=some (.bool b))(ht:b=true→TL P n ops Q l ((s,.bool true)::E) C)(hf:b=false→TL P n ops Q l ((s,.bool false)::E) C):TL P n ops Q l E C:=by
 intro a w he hw
 have key:∀b',b=b'→EOk n ((s,.bool b')::E) a:=by
  rintro b' rfl
  refine⟨he.sz,he.df,fun t v h=>?_⟩
  simp only [lk] at h
  split at h
  ·rename_i hq
   have:=Nat.eq_of_beq_eq_true hq
   subst this
   simp only [Option.some.injEq] at h
   subst h
   exact he.at_ _ _ hb
  ·exact he.at_ _ _ h
 cases b
 ·exact hf rfl a w (key _ rfl) hw
 ·exact ht rfl a w (key _ rfl) hw
theorem fT {Q:Act→Prop}{l:List Oper}{s:Nat}{b:Bool}(hb:lk E s=some (.bool b))(ht:b=true→TQ P n ops C Q l ((s,.bool true)::E))(hf:b=false→TQ P n ops C Q l ((s,.bool false)::E)):TQ P n ops C Q l E:=by
 intro a he
 have key:∀b',b=b'→EOk n ((s,.bool b')::E) a:=by
  rintro b' rfl
  refine⟨he.sz,he.df,fun t v h=>?_⟩
  simp only [lk] at h
  split at h
  ·rename_i hq
   have:=Nat.eq_of_beq_eq_true hq
   subst this
   simp only [Option.some.injEq] at h
   subst h
   exact he.at_ _ _ hb
  ·exact he.at_ _ _ h
 cases b
 ·exact hf rfl a (key _ rfl)
 ·exact ht rfl a (key _ rfl)
end
section
variable {P:Program}{n:Nat}{ops:Array Oper}{Q:Exit→Act→World→Prop}{E E':Env}{M:List Nat}{w0:World}{H0 H:Hp}{L:aj}{rest:List Oper}{dst:Option Nat}{op:Op}{ty:TypeId}{pos:String}{aft:Array Edge}
theorem zF {id:Nat}{l:List Oper}(hm:P.follows .mixedOrders=true)(hB:Region.lexB .any l.toArray=true)(h:TQ P n l.toArray (St M w0 H0 H L) (fun a'=>∀w',St M w0 H0 H L w'→Q .normal a' w') l E):
  TC P n (.region id l.toArray true) Q E (St M w0 H0 H L):=
 fun a w he hw=>wp_region_quiet hm hB hw.drew (by simpa using h a he)
theorem TL.alloc {t:TypeId}{cs:List Value}[hz:Zero P t cs](hd:cu dst n=true)(h:∀b,TL P n ops Q rest (cr dst (.pointer (some ⟨b,0,none⟩)) E) (St M w0 H0 H ((b,cs)::L))):
  TL P n ops Q ({dst:=dst,op:=.alloc t,type:=ty,pos:=pos,after:=aft,guard:=none}::rest) E (St M w0 H0 H L):=by
 intro a w he hw
 refine cE rfl (fun K hK=>?_)
 have hi:∃i z,P.info? t=some i∧i.zero=some z∧z.cells.toList=cs:=by
  have:=hz.out
  unfold DA at this
  split at this
  ·rename_i i hi
   split at this
   ·rename_i z hz'
    simp only [Option.some.injEq] at this
    exact⟨i,z,hi,hz',this⟩
   ·cases this
  ·cases this
 obtain⟨i,z,hi,hzz,hcs⟩:=hi
 have hrun:(execOp a.eval {dst:=dst,op:=.alloc t,type:=ty,pos:=pos,after:=aft,guard:=none}).run P w= .ok (.value (.pointer (some ⟨w.heap.size,0,none⟩))) (w.alloc (.cells z.cells t)):=by
  simp [execOp,Instr.alloc,zeroValue,typeInfo,hi,hzz,newVar,newRow]
 unfold Oper.wp
 rw [hrun]
 refine hK _ _ (h _ _ _ (he.put hd) ?_)
 have:=hw.alloc z.cells.toList t
 rw [hcs] at this
 rw [← hcs] at this ⊢
 simpa using this
class One (v:Value):Prop where
 cells:v.cells.toList=[v]
 one:v.oneCell'=true
instance {k:IntKind}{a:Int}:One (.int k a):=⟨rfl,rfl⟩
instance {b:Bool}:One (.bool b):=⟨rfl,rfl⟩
instance {s:ByteArray}:One (.string s):=⟨rfl,rfl⟩
instance {l:List UInt8}:One (gs l):=⟨rfl,rfl⟩
instance {a:Option Addr}{l c:Nat}:One (.slice a l c):=⟨rfl,rfl⟩
instance {f:Fn}{a c:Array Value}:One (.func f a c):=⟨rfl,rfl⟩
theorem RdSl.isOne {α:Type}{H:Hp}{k:Nat}{enc:α→List Value}{v:Value}{l:List α}(h:RdSl H k enc v l):One v:=by
 obtain⟨a,cap,rfl⟩:=h.len
 infer_instance
theorem TL.box {t:TypeId}{x:Operand}{v:Value}(hx:ev E x=some v)(hd:cu dst n=true)(h:∀b,TL P n ops Q rest (cr dst (.pointer (some ⟨b,0,none⟩)) E) (St M w0 H0 H ((b,v.cells.toList)::L))):
  TL P n ops Q ({dst:=dst,op:=.box t x,type:=ty,pos:=pos,after:=aft,guard:=none}::rest) E (St M w0 H0 H L):=by
 intro a w he hw
 refine cE rfl (fun K hK=>?_)
 have hrun:(execOp a.eval {dst:=dst,op:=.box t x,type:=ty,pos:=pos,after:=aft,guard:=none}).run P w= .ok (.value (.pointer (some ⟨w.heap.size,0,none⟩))) (w.alloc (.cells v.cells t)):=by
  simp [execOp,Instr.box,he.eval hx,newVar,newRow]
 unfold Oper.wp
 rw [hrun]
 exact hK _ _ (h _ _ _ (he.put hd) (by simpa using hw.alloc v.cells.toList t))
theorem qg {t:TypeId}{x:Operand}{v:Value}(hx:ev E x=some v)[h1:One v](hd:cu dst n=true)(h:∀b,TL P n ops Q rest (cr dst (.pointer (some ⟨b,0,none⟩)) E) (St M w0 H0 H ((b,[v])::L))):
  TL P n ops Q ({dst:=dst,op:=.box t x,type:=ty,pos:=pos,after:=aft,guard:=none}::rest) E (St M w0 H0 H L):=
 TL.box hx hd fun b=>by rw [h1.cells];exact h b
def bY:List Value→Nat→List Value→List Value
 | cs,_,[]=>cs
 | cs,o,v::vs=>bY (cs.set o v) (o+1) vs
theorem ib {b:Nat}:∀(vs:List Value) (cs:List Value) (o i:Nat) (L L':aj) (w:World),St M w0 H0 H L w→Upd b cs (bY cs (o+i) vs) L L'→(∀v∈vs,v.oneCell'=true)→o+i+vs.length≤cs.length→
  ∃w',(storeCells ⟨b,o,none⟩ vs i).run P w= .ok () w'∧St M w0 H0 H L' w'
 | [],cs,o,i,L,L',w,hw,hu,_,_=>by
  refine⟨w,by simp [storeCells],?_⟩
  simp only [bY] at hu
  have:L'=L:=by
   clear hw
   induction hu with
   | here=>rfl
   | there x _ ih=>rw [ih]
  rw [this];exact hw
 | v::vs,cs,o,i,L,L',w,hw,hu,hv,hlen=>by
  simp only [List.length_cons] at hlen
  have hin:=hu.inl
  have hc:w.cell? ⟨b,o+i,none⟩=some (cs[o+i]'om):=by rw [hw.cell hin];exact List.getElem?_eq_getElem om
  obtain⟨t,ht⟩:=hw.own _ hin.mem
  have hfz:w.frozen? ⟨b,o+i,none⟩=false:=by simp [World.frozen?,ht]
  have hmid:∃L1,Upd b cs (cs.set (o+i) v) L L1∧Upd b (cs.set (o+i) v) (bY cs (o+i) (v::vs)) L1 L':=by
   clear hw hin hc ht
   generalize hf:bY cs (o+i) (v::vs)=fs at hu
   clear hf
   induction hu with
   | here L=>exact⟨_,.here _,.here _⟩
   | there x _ ih=>obtain⟨L1,h1,h2⟩:=ih;exact⟨_,.there x h1,.there x h2⟩
  obtain⟨L1,h1,h2⟩:=hmid
  have hst:St M w0 H0 H L1 (w.setCell ⟨b,o+i,none⟩ v):=by
   refine hw.set h1 _ sq rfl rfl rfl (fun t ht=>?_) (fun k hk=>RowKit.Below.heap_setCell w _ v k hk)
   have hlt:=cO ht
   simp only [World.setCell,Array.getElem?_modify,if_pos rfl]
   simp [ht]
  obtain⟨w',hr,hw'⟩:=ib vs (cs.set (o+i) v) o (i+1) L1 L' _ hst (by simpa [bY,Nat.add_assoc] using h2) (fun u hu=>hv u (List.mem_cons_of_mem _ hu)) (by simp;omega)
  refine⟨w',?_,hw'⟩
  have hs:=run_store P w ⟨b,o+i,none⟩ v .plain (hv v sq)
  simp only [storeCells,Sem.run_bind,fR,hs,stored,hc,hfz]
  simpa using hr
theorem mC:∀(vs pre cs:List Value),cs.length=vs.length→bY (pre++cs) pre.length vs=pre++vs
 | [],pre,cs,h=>by
  have:cs=[]:=List.length_eq_zero_iff.1 (by simpa using h)
  subst this;simp [bY]
 | v::vs,pre,c::cs,h=>by
  simp only [bY]
  have h1:(pre++c::cs).set pre.length v=(pre++[v])++cs:=by simp
  rw [h1]
  have:=mC vs (pre++[v]) cs (by simpa using h)
  simpa using this
 | v::vs,pre,[],h=>by simp at h
theorem rI {vs cs:List Value}(h:cs.length=vs.length):bY cs 0 vs=vs:=by
 simpa using mC vs [] cs h
theorem jl {t:TypeId}{agg:Bool}{k:Nat}{x y:Operand}{b o:Nat}{v:Value}{vs cs:List Value}{L':aj}(hx:ev E x=some (.pointer (some ⟨b,o,none⟩)))(hy:ev E y=some v)[ht:Ty P t agg k](hvs:v.cells.toList=vs)
  (hk:vs.length=k) (h1:vs.all (·.oneCell')=true) (hu:Upd b cs (bY cs o vs) L L') (hl:o+k≤cs.length) (hd:cu dst n=true)
  (h:TL P n ops Q rest (cr dst undef E) (St M w0 H0 H L')):
  TL P n ops Q ({dst:=dst,op:=.store t x y,type:=ty,pos:=pos,after:=aft,guard:=none}::rest) E (St M w0 H0 H L):=by
 intro a w he hw
 refine cE rfl (fun K hK=>?_)
 obtain⟨w',hr,hw'⟩:=ib (P:=P) vs cs o 0 L L' w hw (by simpa using hu) (fun u hu=>List.all_eq_true.1 h1 u hu) (by simpa [hk] using hl)
 have hsz:v.cells.size=k:=by rw [← hk,← hvs];simp
 have hrun:(execOp a.eval {dst:=dst,op:=.store t x y,type:=ty,pos:=pos,after:=aft,guard:=none}).run P w= .ok .skip w':=by
  simp only [execOp,he.eval hx,he.eval hy,Instr.storeAt,Instr.sureAddr,storeVar]
  simp [rL ht,hsz,hvs,hr]
 unfold Oper.wp
 rw [hrun]
 exact hK _ _ (h _ _ (he.put hd) hw')
theorem bB {t:TypeId}{k:Nat}{x y:Operand}{b o:Nat}{v:Value}{cs:List Value}{L':aj}(hx:ev E x=some (.pointer (some ⟨b,o,none⟩)))(hy:ev E y=some v)[ht:Ty P t false k][h1:One v]
  (hk:k=1) (hu:Upd b cs (cs.set o v) L L') (hl:Nat.blt o cs.length=true) (hd:cu dst n=true)
  (h:TL P n ops Q rest (cr dst undef E) (St M w0 H0 H L')):
  TL P n ops Q ({dst:=dst,op:=.store t x y,type:=ty,pos:=pos,after:=aft,guard:=none}::rest) E (St M w0 H0 H L):=
 jl (vs:=[v]) hx hy h1.cells (by simp [hk]) (by simp [h1.one]) hu (by rw [Nat.blt_eq] at hl;omega) hd h
theorem kY {t:TypeId}{k:Nat}{x y:Operand}{b:Nat}{v u:Value}{L':aj}(hx:ev E x=some (.pointer (some ⟨b,0,none⟩)))(hy:ev E y=some v)[ht:Ty P t false k][h1:One v]
  (hk:k=1) (hu:Upd b [u] [v] L L') (hd:cu dst n=true)
  (h:TL P n ops Q rest (cr dst undef E) (St M w0 H0 H L')):
  TL P n ops Q ({dst:=dst,op:=.store t x y,type:=ty,pos:=pos,after:=aft,guard:=none}::rest) E (St M w0 H0 H L):=
 bB hx hy hk hu (by rfl) hd h
theorem cH {t:TypeId}{agg:Bool}{k:Nat}{x y:Operand}{b:Nat}{v:Value}{vs cs:List Value}{L':aj}(hx:ev E x=some (.pointer (some ⟨b,0,none⟩)))(hy:ev E y=some v)[ht:Ty P t agg k](hvs:v.cells.toList=vs)
  (hk:vs.length=k) (h1:vs.all (·.oneCell')=true) (hu:Upd b cs vs L L') (hl:cs.length=k) (hd:cu dst n=true)
  (h:TL P n ops Q rest (cr dst undef E) (St M w0 H0 H L')):
  TL P n ops Q ({dst:=dst,op:=.store t x y,type:=ty,pos:=pos,after:=aft,guard:=none}::rest) E (St M w0 H0 H L):=
 jl hx hy hvs hk h1 (by rw [rI (hl.trans hk.symm)];exact hu) om hd h
end
end Go.Sx
namespace Go.Sx
open Go
def keys (L:aj):List Nat:=L.map (·.1)
def wZ (K:List Nat)(w0:World)(H0:Hp)(Φ:Value→Hp→aj→Prop):Ending→World→Prop:=
 fun e w'=>∃v H' L',e= .returned v∧St K w0 H0 H' L' w'∧keys L'=K∧Φ v H' L'
def FnM (P:Program)(f:FuncId)(args:List Value)(H:Hp)(L1:aj)(Φ:Value→Hp→aj→Prop):Prop:=
 ∀w,St (keys L1) w H H L1 w→Calls P f args.toArray w (wZ (keys L1) w H Φ)
def Fn (P:Program)(f:FuncId)(args:List Value)(H:Hp)(Φ:Value→Hp→Prop):Prop:=FnM P f args H [] (fun v H' _=>Φ v H')
def FnS (P:Program)(f:FuncId)(args:List Value)(H:Hp)(v:Value):Prop:=Fn P f args H (fun v' H'=>v'=v∧H'=H)
def jU:Nat→List Value→Env
 | _,[]=>[]
 | k,v::vs=>(k,v)::jU (k+1) vs
theorem kx:∀(vs:List Value) (k t:Nat) (v:Value),lk (jU k vs) t=some v→k≤t∧vs[t - k]? =some v
 | [],k,t,v,h=>by simp [jU,lk] at h
 | u::vs,k,t,v,h=>by
  simp only [jU,lk] at h
  split at h
  ·rename_i hb
   have:=Nat.eq_of_beq_eq_true hb
   subst this
   simpa using h
  ·have:=kx vs (k+1) t v h
   refine⟨by omega,?_⟩
   have hs:t - k=(t - (k+1))+1:=by omega
   rw [hs]
   simpa using this.2
theorem FnM.enter {P:Program}{f:FuncId}{args:List Value}{H:Hp}{L1:aj}{Φ:Value→Hp→aj→Prop}{fn:Func}{c:Code}{n:Nat}
  (hf:P.funcs[f]? =some fn) (hn:fn.ntmps=n) (hb:fn.body=some c) (hl:Nat.ble args.length n=true)
  (h:∀w0,TC P n c (bodyPost P fn (wZ (keys L1) w0 H Φ)) (jU 0 args) (St (keys L1) w0 H H L1)):FnM P f args H L1 Φ:=by
 intro w hw
 refine calls_of_wp hf hb (h w _ w ⟨?_,rfl,fun t v ht=>?_⟩ hw)
 ·have:=Nat.le_of_ble_eq_true hl
  simp [hn]
  omega
 ·have h1:=(kx args 0 t v ht).2
  simp only [Nat.sub_zero] at h1
  have h2:t<args.length:=(List.getElem?_eq_some_iff.1 h1).1
  rw [Array.getElem?_append_left (by simpa using h2)]
  simpa using h1
theorem Fn.enter {P:Program}{f:FuncId}{args:List Value}{H:Hp}{Φ:Value→Hp→Prop}{fn:Func}{c:Code}{n:Nat}
  (hf:P.funcs[f]? =some fn) (hn:fn.ntmps=n) (hb:fn.body=some c) (hl:Nat.ble args.length n=true)
  (h:∀w0,TC P n c (bodyPost P fn (wZ [] w0 H (fun v H' _=>Φ v H'))) (jU 0 args) (St [] w0 H H [])):Fn P f args H Φ:=FnM.enter hf hn hb hl h
theorem FnS.enter {P:Program}{f:FuncId}{args:List Value}{H:Hp}{v:Value}{fn:Func}{c:Code}{n:Nat}
  (hf:P.funcs[f]? =some fn) (hn:fn.ntmps=n) (hb:fn.body=some c) (hl:Nat.ble args.length n=true)
  (h:∀w0,TC P n c (bodyPost P fn (wZ [] w0 H (fun v' H' _=>v'=v∧H'=H))) (jU 0 args) (St [] w0 H H [])):FnS P f args H v:=FnM.enter hf hn hb hl h
inductive Tail (L1:aj):aj→Prop
 | here:Tail L1 L1
 | there {L:aj} (x:Nat×List Value) (h:Tail L1 L):Tail L1 (x::L)
theorem Tail.nil:∀L:aj,Tail [] L
 | []=>.here
 | x::L=>.there x (Tail.nil L)
theorem Tail.st {M:List Nat}{w0 w:World}{H0 H:Hp}{L1 L:aj}(h:Tail L1 L)(hw:St M w0 H0 H L w):St M w0 H0 H L1 w:=by
 induction h with
 | here=>exact hw
 | there x _ ih=>exact ih hw.drop
section
variable {P:Program}{n:Nat}{ops:Array Oper}{Q:Exit→Act→World→Prop}{E E':Env}{M:List Nat}{w0:World}{H0 H:Hp}{L:aj}{rest:List Oper}{dst:Option Nat}{op:Op}{ty:TypeId}{pos:String}{aft:Array Edge}
def RVal (P:Program)(E:Env)(C:World→Prop)(r:ResultVar)(v:Value):Prop:=match r with
 | .tmp t=>lk E t=some v
 | .cell a ty=>∃b,lk E a=some (.pointer (some ⟨b,0,none⟩))∧∀w,C w→(loadVar ty ⟨b,0,none⟩).run P w= .ok v w
theorem RVal.tmp {C:World→Prop}{t:Nat}{v:Value}(h:lk E t=some v):RVal P E C (.tmp t) v:=h
theorem RVal.cellA {a t b:Nat}{cs:List Value}(h:lk E a=some (.pointer (some ⟨b,0,none⟩)))(hL:InL b cs L){k:Nat}[ht:Ty P t true k](hk:cs.length=k):RVal P E (St M w0 H0 H L) (.cell a t) (.agg cs.toArray):=
 ⟨b,h,fun w hw=>el (hk▸ht) (fun j v hj=>by rw [Nat.zero_add,hw.cell hL j];exact hj)⟩
def RVal.Is (P:Program)(a:Act)(w:World)(r:ResultVar)(v:Value):Prop:=match r with
 | .tmp t=>a.tmps[t]?.getD undef=v
 | .cell p t=>∃b,(asAddr (a.tmps[p]?.getD undef)).run P w= .ok ⟨b,0,none⟩ w∧(loadVar t ⟨b,0,none⟩).run P w= .ok v w
theorem RVal.run {C:World→Prop}{r:ResultVar}{v:Value}(h:RVal P E C r v){a:Act}{w:World}(he:EOk n E a)(hw:C w):RVal.Is P a w r v:=by
 cases r with
 | tmp t=>simp [RVal.Is,he.at_ t v h]
 | cell p t=>
  obtain⟨b,h1,h2⟩:=h
  exact⟨b,by simp [he.at_ p _ h1,asAddr],h2 w hw⟩
theorem TX.end_ {fn:Func}{R:Ending→World→Prop}{C:World→Prop}{v:Value}(e:Exit)(he:e= .normal∨e= .ret)(hr:∀a w,EOk n E a→C w→(results fn a.tmps).run P w= .ok v w)(h:∀w,C w→R (.returned v) w):
  TX n (bodyPost P fn R e) E C:=by
 intro a w ha hw
 rcases he with rfl | rfl
 ·exact⟨ha.df,v,hr a w ha hw,h w hw⟩
 ·exact⟨ha.df,v,hr a w ha hw,h w hw⟩
theorem ad {fn:Func}{C:World→Prop}{r:ResultVar}{v:Value}(hr:fn.results= #[r])(hv:RVal P E C r v):∀a w,EOk n E a→C w→(results fn a.tmps).run P w= .ok v w:=by
 intro a w he hw
 have h1:=hv.run he hw
 cases r with
 | tmp t=>simp only [RVal.Is] at h1;simp [results,hr,h1]
 | cell p t=>obtain⟨b,h1,h1'⟩:=h1;simp [results,hr,h1,h1']
theorem cq {fn:Func}{C:World→Prop}{r s:ResultVar}{u v:Value}(hr:fn.results= #[r,s])(hu:RVal P E C r u)(hv:RVal P E C s v):∀a w,EOk n E a→C w→(results fn a.tmps).run P w= .ok (.tuple #[u,v]) w:=by
 intro a w he hw
 have h1:=hu.run he hw
 have h2:=hv.run he hw
 cases r with
 | tmp t=>cases s with
  | tmp t'=>simp only [RVal.Is] at h1 h2;simp [results,hr,h1,h2]
  | cell p t'=>obtain⟨b,h2,h2'⟩:=h2;simp only [RVal.Is] at h1;simp [results,hr,h1,h2,h2']
 | cell p t=>obtain⟨b,h1,h1'⟩:=h1;cases s with
  | tmp t'=>simp only [RVal.Is] at h2;simp [results,hr,h1,h1',h2]
  | cell p t'=>obtain⟨b,h2,h2'⟩:=h2;simp [results,hr,h1,h1',h2,h2']
theorem fi {fn:Func}{C:World→Prop}{r s t:ResultVar}{u v x:Value}(hr:fn.results= #[r,s,t])(hu:RVal P E C r u)(hv:RVal P E C s v)(hx:RVal P E C t x):∀a w,EOk n E a→C w→(results fn a.tmps).run P w= .ok (.tuple #[u,v,x]) w:=by
 intro a w he hw
 have h1:=hu.run he hw
 have h2:=hv.run he hw
 have h3:=hx.run he hw
 cases r with
 | tmp t1=>cases s with
  | tmp t2=>cases t with
   | tmp t3=>simp only [RVal.Is] at h1 h2 h3;simp [results,hr,h1,h2,h3]
   | cell p t3=>obtain⟨b,h3,h3'⟩:=h3;simp only [RVal.Is] at h1 h2;simp [results,hr,h1,h2,h3,h3']
  | cell p t2=>obtain⟨b,h2,h2'⟩:=h2;cases t with
   | tmp t3=>simp only [RVal.Is] at h1 h3;simp [results,hr,h1,h2,h2',h3]
   | cell p t3=>obtain⟨b,h3,h3'⟩:=h3;simp only [RVal.Is] at h1;simp [results,hr,h1,h2,h2',h3,h3']
 | cell p t1=>obtain⟨b,h1,h1'⟩:=h1;cases s with
  | tmp t2=>cases t with
   | tmp t3=>simp only [RVal.Is] at h2 h3;simp [results,hr,h1,h1',h2,h3]
   | cell p t3=>obtain⟨b,h3,h3'⟩:=h3;simp only [RVal.Is] at h2;simp [results,hr,h1,h1',h2,h3,h3']
  | cell p t2=>obtain⟨b,h2,h2'⟩:=h2;cases t with
   | tmp t3=>simp only [RVal.Is] at h3;simp [results,hr,h1,h1',h2,h2',h3]
   | cell p t3=>obtain⟨b,h3,h3'⟩:=h3;simp [results,hr,h1,h1',h2,h2',h3,h3']
theorem ce {fn:Func}{C:World→Prop}(hr:fn.results= #[]):∀a w,EOk n E a→C w→(results fn a.tmps).run P w= .ok (.tuple #[]) w:=fun a w _ _=>results_none hr _ _ _
theorem TX.fin {fn:Func}{K:List Nat}{Φ:Value→Hp→aj→Prop}{v:Value}{L1:aj}{e:Exit}(he:e= .normal∨e= .ret)(hr:∀a w,EOk n E a→St K w0 H0 H L w→(results fn a.tmps).run P w= .ok v w)
  (hT:Tail L1 L) (hk:keys L1=K) (h:Φ v H L1):TX n (bodyPost P fn (wZ K w0 H0 Φ) e) E (St K w0 H0 H L):=
 TX.end_ e he hr fun w hw=>⟨v,H,L1,rfl,hT.st hw,hk,h⟩
theorem aR {fn:Func}{Φ:Value→Hp→Prop}{v:Value}{e:Exit}(he:e= .normal∨e= .ret)(hr:∀a w,EOk n E a→St [] w0 H0 H L w→(results fn a.tmps).run P w= .ok v w)(h:Φ v H):
  TX n (bodyPost P fn (wZ [] w0 H0 (fun v H' _=>Φ v H')) e) E (St [] w0 H0 H L):=
 TX.fin he hr (Tail.nil L) rfl h
theorem St.pass1 {L1 L2:aj}{w:World}(h:St M w0 H0 H (L1++L2) w):St (keys L1) w H H L1 w:=by
 have hnd:=h.nd
 rw [List.map_append,List.nodup_append] at hnd
 exact⟨rfl,rfl,rfl,Nat.le_refl _,fun _ _ _=>rfl,h.hp,fun p hp=>h.own p (List.mem_append_left _ hp),fun p hp o=>h.sep p (List.mem_append_left _ hp) o,hnd.1,
  fun p hp=>.inl (List.mem_map.2 ⟨p,hp,rfl⟩),Fresh.refl _ _⟩
theorem St.pastM {L1 L1' L2:aj}{w w':World}{H':Hp}(h:St M w0 H0 H (L1++L2) w)(h':St (keys L1) w H H' L1' w')(hk:keys L1'=keys L1):St M w0 H0 H' (L1'++L2) w':=by
 have hnd:=h.nd
 rw [List.map_append,List.nodup_append] at hnd
 have hk':L1'.map (·.1)=L1.map (·.1):=hk
 refine⟨h'.os.trans h.os,h'.tape.trans h.tape,h'.output.trans h.output,Nat.le_trans h.size h'.size,fun b hb hM=>?_,h'.hp,fun p hp=>?_,fun p hp o=>?_,?_,fun p hp=>?_,h.fr.trans h'.fr h.size⟩
 ·have hnk:b∉keys L1:=by
   intro hm
   obtain⟨p,hp,rfl⟩:=List.mem_map.1 hm
   rcases h.mine p (List.mem_append_left _ hp) with hx | hx
   ·exact hM hx
   ·omega
  exact(h'.old b (by have:=h.size;omega) hnk).trans (h.old b hb hM)
 ·rcases List.mem_append.1 hp with hp | hp
  ·exact h'.own p hp
  ·obtain⟨t,ht⟩:=h.own p (List.mem_append_right _ hp)
   refine⟨t,(h'.old _ (cO ht) ?_).trans ht⟩
   intro hm
   exact hnd.2.2 _ hm _ (List.mem_map.2 ⟨p,hp,rfl⟩) rfl
 ·rcases List.mem_append.1 hp with hp | hp
  ·exact h'.sep p hp o
  ·cases ho:H' p.1 o with
   | none=>rfl
   | some v=>
    have h1:=h'.fr.2 _ _ _ ho (h.sep p (List.mem_append_right _ hp) o)
    have h2:=h.lt (List.mem_append_right _ hp)
    omega
 ·rw [List.map_append,hk',← List.map_append];exact h.nd
 ·rcases List.mem_append.1 hp with hp | hp
  ·have:p.1∈L1.map (·.1):=by rw [← hk'];exact List.mem_map.2 ⟨p,hp,rfl⟩
   obtain⟨q,hq,he⟩:=List.mem_map.1 this
   have:=h.mine q (List.mem_append_left _ hq)
   rwa [he] at this
  ·exact h.mine p (List.mem_append_right _ hp)
theorem Fg {f:FuncId}[hb:Body P f](args:Array Value)(w:World):(callFunc f args).run P w= .ok (.enter f args) w:=by
 have:=hb.out
 unfold bodyB at this
 cases hf:P.funcs[f]? with
 | none=>rw [hf] at this;cases this
 | some fn=>
  rw [hf] at this
  simp only [Bool.and_eq_true,Bool.not_eq_true',beq_eq_false_iff_ne,ne_eq] at this
  obtain⟨h1,h2⟩:=this
  cases hbd:fn.body with
  | none=>rw [hbd] at h1;cases h1
  | some c=>simp [callFunc,hf,h2,hbd]
def cA (P:Program)(E:Env)(op:Op)(f:FuncId)(args:List Value):Prop:=
 ∀(n:Nat) (a:Act) (w:World) (o:Oper),o.op=op→EOk n E a→(execOp a.eval o).run P w= .ok (.enter f args.toArray) w
theorem ab {c:Call}{x:Operand}{f:FuncId}{fst cap:Array Value}{vs args:List Value}(hc:c.callee= .value x)(hx:ev E x=some (.func (.func f) fst cap))(hvs:evs E c.args.toList=some vs)
  (hargs:fst.toList++(vs++cap.toList)=args) [Body P f]:cA P E (.call c) f args:=by
 intro n a w o ho he
 unfold execOp
 rw [ho]
 have h1:(fst++vs.toArray)++cap=args.toArray:=by
  apply Array.ext'
  simp [← hargs]
 simp [resolve,hc,he.eval hx,wK he hvs,Deferred.ofValue,invoke,h1,Fg]
theorem zC {f:FuncId}{args:List Value}{L1 L2:aj}{Φ:Value→Hp→aj→Prop}(hE:cA P E op f args)(hF:FnM P f args H L1 Φ)(hd:cu dst n=true)
  (h:∀v H' L1',H.le H'→keys L1'=keys L1→Φ v H' L1'→TL P n ops Q rest (cr dst v E) (St M w0 H0 H' (L1'++L2))):
  TL P n ops Q ({dst:=dst,op:=op,type:=ty,pos:=pos,after:=aft,guard:=none}::rest) E (St M w0 H0 H (L1++L2)):=by
 intro a w he hw
 refine cE rfl (fun K hK=>?_)
 unfold Oper.wp
 rw [hE n a w _ rfl he]
 refine(hF w hw.pass1).mono ?_
 rintro e w' ⟨v,H',L1',rfl,hst,hk,hΦ⟩
 exact hK _ _ (h v H' L1' hst.fr.1 hk hΦ _ _ (he.put hd) (hw.pastM hst hk))
theorem TL.call {f:FuncId}{args:List Value}{Φ:Value→Hp→Prop}(hE:cA P E op f args)(hF:Fn P f args H Φ)(hd:cu dst n=true)
  (h:∀v H',H.le H'→Φ v H'→TL P n ops Q rest (cr dst v E) (St M w0 H0 H' L)):
  TL P n ops Q ({dst:=dst,op:=op,type:=ty,pos:=pos,after:=aft,guard:=none}::rest) E (St M w0 H0 H L):=
 zC (L1:=[]) (L2:=L) hE hF hd fun v H' L1' hle hk hΦ=>by
  have:L1'=[]:=by cases L1' with | nil=>rfl | cons x l=>cases hk
  subst this
  exact h v H' hle hΦ
theorem ay {f:FuncId}{args:List Value}{v:Value}(hE:cA P E op f args)(hF:FnS P f args H v)(hd:cu dst n=true)
  (h:TL P n ops Q rest (cr dst v E) (St M w0 H0 H L)):
  TL P n ops Q ({dst:=dst,op:=op,type:=ty,pos:=pos,after:=aft,guard:=none}::rest) E (St M w0 H0 H L):=
 TL.call hE hF hd fun v' H' _ hΦ=>by obtain⟨rfl,rfl⟩:=hΦ;exact h
theorem ip {Q:Act→Prop}{f:FuncId}{args:List Value}{v:Value}(hE:cA P E op f args)(hF:FnS P f args H v)(hd:cu dst n=true)
  (h:TQ P n ops (St M w0 H0 H L) Q rest (cr dst v E)):
  TQ P n ops (St M w0 H0 H L) Q ({dst:=dst,op:=op,type:=ty,pos:=pos,after:=aft,guard:=none}::rest) E:=by
 intro a he
 refine wpQuiet_step (fun K hK=>?_)
 simp only [Region.wanted,if_true]
 refine⟨v,fun w hw=>?_,hK _ (h _ (he.put hd))⟩
 unfold Oper.quietAt
 rw [hE n a w _ rfl he]
 refine⟨rfl,(hF w (St.pass1 (L1:=[]) (L2:=L) hw)).mono ?_⟩
 rintro e w' ⟨v',H',L1',rfl,hst,hk,rfl,rfl⟩
 have:L1'=[]:=by cases L1' with | nil=>rfl | cons x l=>cases hk
 subst this
 exact⟨rfl,hw.past hst⟩
theorem kX {Q:Act→Prop}{f:FuncId}{args:List Value}{v:Value}{j s:Nat}{b:Bool}(hj:gr ops j=some s)(hb:lk E s=some (.bool b))(hE:cA P E op f args)(hF:FnS P f args H v)(hd:cu dst n=true)
  (h:TQ P n ops (St M w0 H0 H L) Q rest (cr dst v E)):
  TQ P n ops (St M w0 H0 H L) Q ({dst:=dst,op:=op,type:=ty,pos:=pos,after:=aft,guard:=some (j,b)}::rest) E:=by
 intro a he
 refine wpQuiet_step (fun K hK=>?_)
 have hy:=d6 he hj hb
 simp only [Region.wanted,hy,BEq.rfl,if_true]
 refine⟨v,fun w hw=>?_,hK _ (h _ (he.put hd))⟩
 unfold Oper.quietAt
 rw [hE n a w _ rfl he]
 refine⟨rfl,(hF w (St.pass1 (L1:=[]) (L2:=L) hw)).mono ?_⟩
 rintro e w' ⟨v',H',L1',rfl,hst,hk,rfl,rfl⟩
 have:L1'=[]:=by cases L1' with | nil=>rfl | cons x l=>cases hk
 subst this
 exact⟨rfl,hw.past hst⟩
theorem vW {f:FuncId}{args:List Value}{L1 L2:aj}{Φ:Value→Hp→aj→Prop}{j s:Nat}{b:Bool}(hj:gr ops j=some s)(hb:lk E s=some (.bool b))(hE:cA P E op f args)(hF:FnM P f args H L1 Φ)(hd:cu dst n=true)
  (h:∀v H' L1',H.le H'→keys L1'=keys L1→Φ v H' L1'→TL P n ops Q rest (cr dst v E) (St M w0 H0 H' (L1'++L2))):
  TL P n ops Q ({dst:=dst,op:=op,type:=ty,pos:=pos,after:=aft,guard:=some (j,b)}::rest) E (St M w0 H0 H (L1++L2)):=by
 intro a w he hw
 refine j6 (fun K hK=>?_)
 have hy:=d6 he hj hb
 simp only [Region.wanted,hy,BEq.rfl,if_true]
 unfold Oper.wp
 rw [hE n a w _ rfl he]
 refine(hF w hw.pass1).mono ?_
 rintro e w' ⟨v,H',L1',rfl,hst,hk,hΦ⟩
 exact hK _ _ (h v H' L1' hst.fr.1 hk hΦ _ _ (he.put hd) (hw.pastM hst hk))
theorem dF {f:FuncId}{args:List Value}{Φ:Value→Hp→Prop}{j s:Nat}{b:Bool}(hj:gr ops j=some s)(hb:lk E s=some (.bool b))(hE:cA P E op f args)(hF:Fn P f args H Φ)(hd:cu dst n=true)
  (h:∀v H',H.le H'→Φ v H'→TL P n ops Q rest (cr dst v E) (St M w0 H0 H' L)):
  TL P n ops Q ({dst:=dst,op:=op,type:=ty,pos:=pos,after:=aft,guard:=some (j,b)}::rest) E (St M w0 H0 H L):=
 vW (L1:=[]) (L2:=L) hj hb hE hF hd fun v H' L1' hle hk hΦ=>by
  have:L1'=[]:=by cases L1' with | nil=>rfl | cons x l=>cases hk
  subst this
  exact h v H' hle hΦ
theorem aO {f:FuncId}{args:List Value}{v:Value}{j s:Nat}{b:Bool}(hj:gr ops j=some s)(hb:lk E s=some (.bool b))(hE:cA P E op f args)(hF:FnS P f args H v)(hd:cu dst n=true)
  (h:TL P n ops Q rest (cr dst v E) (St M w0 H0 H L)):
  TL P n ops Q ({dst:=dst,op:=op,type:=ty,pos:=pos,after:=aft,guard:=some (j,b)}::rest) E (St M w0 H0 H L):=
 dF hj hb hE hF hd fun v' H' _ hΦ=>by obtain⟨rfl,rfl⟩:=hΦ;exact h
end
end Go.Sx
namespace Go.Sx
open Go
def th (n:Nat)(s:Nat)(b:Bool)(K:Env)(C:World→Prop):Act→World→Prop:=fun a w=>EOk n ((s,.bool b)::K) a∧C w
section
variable {P:Program}{n:Nat}{Q:Exit→Act→World→Prop}{E K:Env}{C:World→Prop}{s s1 id:Nat}{x:Operand}{t t' ty ty':TypeId}{pos pos':String}{aft aft':Array Edge}{k:IntKind}{rest:Code}{b:Bool}
theorem bO {x y:Code}(b:Bool)(s:Nat)(K:Env)(hK:Sub K E)(hx:TC P n x (Exit.then (th n s b K C) Q) E C)(hy:TC P n y Q ((s,.bool b)::K) C):TC P n (.seq x y) Q E C:=by
 intro a w he hw
 refine wp_seq (Code.wp_mono ?_ (hx a w he hw))
 intro e a' w' hq
 cases e with
 | normal=>exact hy a' w' hq.1 hq.2
 | exit id=>exact hq
 | goto l=>exact hq
 | ret=>exact hq
 | panic ch=>exact hq
 | outgrown=>exact hq
theorem aV {b':Bool}(hs:lk E s=some (.bool b'))(hb:b'=b)(hK:Sub K E):TX n (Exit.then (th n s b K C) Q .normal) E C:=by
 subst hb
 intro a w he hw
 exact⟨he.sub (E':=(s,.bool b')::K) ⟨hs,hK⟩,hw⟩
theorem cw {op:Op}{bc:Bool}(hr:PR P E C op (.bool bc))(h1:cu (some s1) n=true)(h2:cu (some s) n=true)
  (hK:Sub K ((s,.bool bc)::(s1,.bool bc)::E)) (h:TC P n rest (Exit.then (th n s b K C) Q) ((s,.bool bc)::(s1,.bool bc)::E) C):
  TC P n (.seq (.region id [{dst:=some s1,op:=op,type:=ty,pos:=pos,after:=aft,guard:=none},{dst:=some s,op:=.assign (.tmp s1),type:=ty',pos:=pos',after:=aft',guard:=none}].toArray false) (.cond (.tmp s) .skip rest))
   (Exit.then (th n s (bc||b) K C) Q) E C:=by
 refine TC.seq (TC.region (TL.run hr h1 (TL.run (v:=.bool bc) (aJ (by simp [gC,ev,cr,lk])) h2 (TL.nil (af ?_)))))
 refine TC.cond (b:=bc) (by simp [ev,cr,lk]) ?_ ?_<;>intro hc
 ·subst hc
  exact TC.skip (aV (b':=true) (by simp [cr,lk]) sq hK)
 ·subst hc
  simp only [Bool.false_or]
  exact h
theorem eR {op:Op}{bc:Bool}(hr:PR P E C op (.bool bc))(h1:cu (some s1) n=true)(h2:cu (some s) n=true)
  (hK:Sub K ((s,.bool bc)::(s1,.bool bc)::E)):
  TC P n (.region id [{dst:=some s1,op:=op,type:=ty,pos:=pos,after:=aft,guard:=none},{dst:=some s,op:=.assign (.tmp s1),type:=ty',pos:=pos',after:=aft',guard:=none}].toArray false)
   (Exit.then (th n s bc K C) Q) E C:=
 TC.region (TL.run hr h1 (TL.run (v:=.bool bc) (aJ (by simp [gC,ev,cr,lk])) h2 (TL.nil (aV (b':=bc) (by simp [cr,lk]) rfl hK))))
end
section
variable {P:Program}{E:Env}{M:List Nat}{w0:World}{H0 H:Hp}{L:aj}{C:World→Prop}
theorem gn {t:TypeId}{x y:Operand}{l:List UInt8}{kd:IntKind}{i:Int}{c:UInt8}(hx:ev E x=some (gs l))(hy:ev E y=some (.int kd i))[hu:Und P t .string](h0:0≤i)(hc:l[i.toNat]? =some c):
  PR P E C (.index t x y) (.int .u8 c.toNat):=by
 intro n a w o' ho he hw
 unfold execOp
 rw [ho]
 have hlt:=(List.getElem?_eq_some_iff.1 hc)
 have hsz:i.toNat<l.toArray.size:=by simpa using hlt.1
 have hget:(ByteArray.mk l.toArray)[i.toNat]? =some c:=by
  obtain⟨h1,h2⟩:=hlt
  have hb:i.toNat<(ByteArray.mk l.toArray).size:=by simpa [ByteArray.size] using h1
  rw [getElem?_pos (ByteArray.mk l.toArray) i.toNat hb,← h2]
  show some (l.toArray[i.toNat]'(by simpa using h1))=_
  simp
 simp [he.eval hx,he.eval hy,gs,Instr.index,asIntOf,run_underlying hu.out,h0,hget]
end
end Go.Sx
namespace Go.Sx
open Go
theorem C0 {P:Program}{n:Nat}{c:Code}{Q:Exit→Act→World→Prop}{E:Env}{C:World→Prop}(m:Nat)(h:∀a w,EOk n E a→C w→Code.rounds P c Q m a w):TC P n (.loop c) Q E C:=
 fun a w he hw=>wp_loop_rounds m (h a w he hw)
def TR (P:Program)(n:Nat)(c:Code)(Q:Exit→Act→World→Prop)(m:Nat)(E:Env)(C:World→Prop):Prop:=∀a w,EOk n E a→C w→Code.rounds P c Q m a w
theorem TC.rounds {P:Program}{n:Nat}{c:Code}{Q:Exit→Act→World→Prop}{E:Env}{C:World→Prop}(m:Nat)(h:TR P n c Q m E C):TC P n (.loop c) Q E C:=C0 m h
theorem fS {P:Program}{n:Nat}{c:Code}{Q:Exit→Act→World→Prop}{E:Env}{C:World→Prop}{m:Nat}(h:TC P n c (Exit.then (Code.rounds P c Q m) Q) E C):TR P n c Q (m+1) E C:=fun a w he hw=>by
 rw [rounds_succ];exact h a w he hw
theorem oE {P:Program}{n:Nat}{c:Code}{Q:Exit→Act→World→Prop}{E:Env}{C:World→Prop}{m:Nat}(h:TR P n c Q m E C):TX n (Exit.then (Code.rounds P c Q m) Q .normal) E C:=h
def pI (pl:Nat→Option (Nat×Nat)):List Value→List (Nat×Value)→Option (List Value)
 | cs,[]=>some cs
 | cs,(i,v)::r=>match pl i with
  | some (off,size)=>match Nat.beq v.cells.toList.length size&&Nat.ble (off+size) cs.length with
   | true=>pI pl (bY cs off v.cells.toList) r
   | false=>none
  | none=>none
theorem kB (off:Nat):∀(vs:List Value) (j:Nat) (cs:Array Value),
  ((vs.zipIdx j).foldl (fun cs (x:Value×Nat)=>cs.setIfInBounds (off+x.2) x.1) cs).toList=bY cs.toList (off+j) vs
 | [],_,_=>rfl
 | v::vs,j,cs=>by
  simp only [List.zipIdx_cons,List.foldl_cons,bY]
  rw [kB off vs (j+1)]
  simp [Nat.add_assoc]
theorem qe (pl:Nat→Option (Nat×Nat)):∀(ps:List (Nat×Value)) (cs:Array Value) (ds:List Value),pI pl cs.toList ps=some ds→Instr.fill pl cs ps=some ds.toArray
 | [],cs,ds,h=>by
  simp only [pI,Option.some.injEq] at h
  subst h
  simp [Instr.fill]
 | (i,v)::r,cs,ds,h=>by
  simp only [pI] at h
  split at h
  ·rename_i off size hp
   split at h
   ·rename_i hb
    simp only [Bool.and_eq_true] at hb
    have h1:=Nat.eq_of_beq_eq_true hb.1
    have h2:=Nat.le_of_ble_eq_true hb.2
    simp only [Array.length_toList] at h1 h2
    have hne:¬(v.cells.size≠size∨off+v.cells.size>cs.size):=by omega
    have hf:(v.cells.zipIdx.foldl (fun cs x=>cs.setIfInBounds (off+x.2) x.1) cs).toList=bY cs.toList off v.cells.toList:=by
     have:=kB off v.cells.toList 0 cs
     rw [Nat.add_zero] at this
     rw [← this,← Array.foldl_toList]
     simp
    rw [← hf] at h
    have ih:=qe pl r _ _ h
    simp only [Instr.fill,hp]
    simp only [show(decide (v.cells.size≠size)||decide (off+v.cells.size>cs.size))=false from by simp;omega]
    exact ih
   ·cases h
  ·cases h
def iK (E:Env):List (Nat×Operand)→Option (List (Nat×Value))
 | []=>some []
 | (i,x)::r=>match ev E x with
  | some v=>match iK E r with
   | some vs=>some ((i,v)::vs)
   | none=>none
  | none=>none
theorem EOk.parts {n:Nat}{E:Env}{a:Act}(h:EOk n E a):∀{ps:List (Nat×Operand)} {vs:List (Nat×Value)},iK E ps=some vs→ps.map (fun p=>(p.1,a.eval p.2))=vs
 | [],vs,hx=>by simp only [iK,Option.some.injEq] at hx;simp [← hx]
 | (i,x)::xs,vs,hx=>by
  simp only [iK] at hx
  split at hx
  ·rename_i v hv
   split at hx
   ·rename_i us hus
    simp only [Option.some.injEq] at hx
    subst hx
    simp [h.eval hv,h.parts hus]
   ·cases hx
  ·cases hx
def plcB (P:Program)(t:TypeId):Option (List (Nat×Nat)):=match P.underlying t with
 | some (.struct fs)=>fs.toList.mapM fun f=>(P.info? f.type).map fun i=>(f.offset,i.size)
 | _=>none
class Plc (P:Program) (t:TypeId) (pl:outParam (List (Nat×Nat))):Prop where
 out:plcB P t=some pl
theorem uF {P:Program}{t:TypeId}{cs:List Value}(h:Zero P t cs):∃i z,P.info? t=some i∧i.zero=some z∧z.cells.toList=cs:=by
 have:=h.out
 unfold DA at this
 split at this
 ·rename_i i hi
  split at this
  ·rename_i z hz
   simp only [Option.some.injEq] at this
   exact⟨i,z,hi,hz,this⟩
  ·cases this
 ·cases this
def elzB (P:Program)(t:TypeId):Option (Nat×Nat×Nat×List Value):=match P.underlying t with
 | some (.slice e)=>match P.info? e with
  | some i=>match i.zero with
   | some z=>some (e,i.size,i.bytes,z.cells.toList)
   | none=>none
  | none=>none
 | _=>none
class Elz (P:Program) (t:TypeId) (e k b:outParam Nat) (z:outParam (List Value)):Prop where
 out:elzB P t=some (e,k,b,z)
 len:z.length=k
theorem Elz.und {P:Program}{t e k b:Nat}{z:List Value}(h:Elz P t e k b z):P.underlying t=some (.slice e)∧∃i v,P.info? e=some i∧i.size=k∧i.bytes=b∧i.zero=some v∧v.cells.toList=z:=by
 have:=h.out
 unfold elzB at this
 split at this
 ·rename_i e' hu
  split at this
  ·rename_i i hi
   split at this
   ·rename_i v hv
    simp only [Option.some.injEq,Prod.mk.injEq] at this
    obtain⟨rfl,rfl,rfl,rfl⟩:=this
    exact⟨hu,i,v,hi,rfl,rfl,hv,rfl⟩
   ·cases this
  ·cases this
 ·cases this
section
variable {P:Program}{n:Nat}{ops:Array Oper}{Q:Exit→Act→World→Prop}{E:Env}{M:List Nat}{w0:World}{H0 H:Hp}{L:aj}{C:World→Prop}{rest:List Oper}{dst:Option Nat}{ty:TypeId}{pos:String}{aft:Array Edge}
theorem mO {t:TypeId}{parts:Array (Nat×Operand)}{pl:List (Nat×Nat)}{cs ds:List Value}{vs:List (Nat×Value)}(hv:iK E parts.toList=some vs)[hz:Zero P t cs][hp:Plc P t pl]
  (hf:pI (fun i=>pl[i]?) cs vs=some ds):PR P E C (.build t parts) (.agg ds.toArray):=by
 intro n a w o ho he hw
 unfold execOp
 rw [ho]
 obtain⟨i,z,hi,hz1,hz2⟩:=uF hz
 have hparts:(parts.map fun(x:Nat×Operand)=>(x.1,a.eval x.2)).toList=vs:=by
  rw [Array.toList_map];exact he.parts hv
 have hfill:Instr.fill (fun i=>pl[i]?) z.cells vs=some ds.toArray:=qe _ vs z.cells ds (by rw [hz2];exact hf)
 have hpo:=hp.out
 unfold plcB at hpo
 split at hpo
 ·rename_i fs hu
  have hb:P.built t (parts.map fun(x:Nat×Operand)=>(x.1,a.eval x.2)).toList=some ds.toArray:=by
   unfold Program.built
   simp only [hi,hu,hz1,hpo,hparts]
   simpa using hfill
  simp [run_build w t _ _ hb]
 ·cases hpo
def ic (n:Nat)(z:List Value):List Value:=match n with
 | 0=>[]
 | n+1=>z++ic n z
theorem pC (z:List Value):∀n,(ic n z).length=n * z.length
 | 0=>by simp [ic]
 | n+1=>by simp [ic,pC z n,Nat.succ_mul,Nat.add_comm]
theorem yQ (z:List Value):∀(n i:Nat),i<n * z.length→(ic n z)[i]? =z[i % z.length]?
 | 0,i,h=>by simp at h
 | n+1,i,h=>by
  simp only [ic]
  by_cases hi:i<z.length
  ·rw [List.getElem?_append_left hi,Nat.mod_eq_of_lt hi]
  ·rw [List.getElem?_append_right om,yQ z n (i - z.length) (by rw [Nat.succ_mul] at h;omega)]
   congr 1
   rw [← Nat.mod_eq_sub_mod om]
theorem ik (z:Array Value)(n:Nat):(madeCells z (n * z.size)).toList=ic n z.toList:=by
 apply List.ext_getElem?
 intro i
 by_cases hi:i<n * z.size
 ·rw [yQ _ _ _ (by simpa using hi)]
  have hz:0<z.size:=by
   rcases Nat.eq_zero_or_pos z.size with h | h
   ·rw [h] at hi;simp at hi
   ·exact h
  have hm:i % z.size<z.size:=Nat.mod_lt _ hz
  simp [madeCells,hi,hm]
 ·rw [List.getElem?_eq_none (by simp [madeCells];omega),List.getElem?_eq_none (by rw [pC];simpa using hi)]
theorem gQ {t e k bs:Nat}{z:List Value}{x y:Operand}{kl kc:IntKind}{m c:Nat}(hx:ev E x=some (.int kl (m:Int)))(hy:ev E y=some (.int kc (c:Int)))[he:Elz P t e k bs z](hmc:m≤c)(hb:bs * c≤281474976710656)(hc:c≤9223372036854775807)(hd:cu dst n=true)
  (h:∀b,TL P n ops Q rest (cr dst (.slice (some ⟨b,0,none⟩) m c) E) (St M w0 H0 H ((b,ic c z)::L))):
  TL P n ops Q ({dst:=dst,op:=.makeSlice t x y,type:=ty,pos:=pos,after:=aft,guard:=none}::rest) E (St M w0 H0 H L):=by
 intro a w hE hw
 refine cE rfl (fun K hK=>?_)
 obtain⟨hu,i,v,hi,h1,h2,h3,h4⟩:=he.und
 have hk:=he.len
 have hbytes:(i.bytes:Int) * (c:Int)≤281474976710656:=by
  rw [h2]
  have h:((bs * c:Nat):Int)≤281474976710656:=by omega
  rwa [Int.natCast_mul] at h
 have hr:=run_make (P:=P) w t e i v hu hi h3 kl kc (m:Int) (c:Int) om om hbytes om
 have hkz:v.cells.size=k:=by rw [← hk,← h4];simp
 have hrun:(execOp a.eval {dst:=dst,op:=.makeSlice t x y,type:=ty,pos:=pos,after:=aft,guard:=none}).run P w= .ok (.value (.slice (some ⟨w.heap.size,0,none⟩) m c)) (w.alloc (.cells (ic c z).toArray e)):=by
  simp only [Int.toNat_natCast] at hr
  have hm:madeCells v.cells (c * i.size)=(ic c z).toArray:=by
   apply Array.ext'
   rw [h1,← hkz,ik,h4]
  rw [hm] at hr
  simp [execOp,hE.eval hx,hE.eval hy,hr]
 unfold Oper.wp
 rw [hrun]
 exact hK _ _ (h _ _ _ (hE.put hd) (hw.alloc _ _))
theorem aD {t e k bs:Nat}{z ds:List Value}{len:Nat}{parts:Array (Nat×Operand)}{vs:List (Nat×Value)}(hv:iK E parts.toList=some vs)[he:Elz P t e k bs z](hlen:Nat.ble (len * k) 16777216=true)
  (hf:pI (fun i=>some (i * k,k)) (ic len z) vs=some ds) (hd:cu dst n=true)
  (h:∀b,TL P n ops Q rest (cr dst (.slice (some ⟨b,0,none⟩) len len) E) (St M w0 H0 H ((b,ds)::L))):
  TL P n ops Q ({dst:=dst,op:=.buildSlice t len parts,type:=ty,pos:=pos,after:=aft,guard:=none}::rest) E (St M w0 H0 H L):=by
 intro a w hE hw
 refine cE rfl (fun K hK=>?_)
 obtain⟨hu,i,v,hi,h1,h2,h3,h4⟩:=he.und
 have hk:=he.len
 have hl:=Nat.le_of_ble_eq_true hlen
 have hparts:(parts.map fun(x:Nat×Operand)=>(x.1,a.eval x.2)).toList=vs:=by
  rw [Array.toList_map];exact hE.parts hv
 have hkz:v.cells.size=k:=by rw [← hk,← h4];simp
 have hm:madeCells v.cells (len * k)=(ic len z).toArray:=by
  apply Array.ext'
  rw [← hkz,ik,h4]
 have hfill:Instr.fill (fun i=>some (i * k,k)) (madeCells v.cells (len * k)) vs=some ds.toArray:=qe _ vs _ ds (by rw [hm];exact hf)
 have hrun:(execOp a.eval {dst:=dst,op:=.buildSlice t len parts,type:=ty,pos:=pos,after:=aft,guard:=none}).run P w= .ok (.value (.slice (some ⟨w.heap.size,0,none⟩) len len)) (w.alloc (.cells ds.toArray e)):=by
  have hsz:(sizeOf e).run P w= .ok k w:=by simp [sizeOf,typeInfo,hi,h1]
  have hz0:(zeroValue e).run P w= .ok v w:=by simp [zeroValue,typeInfo,hi,h3]
  have hn:¬len * k>2 ^ 24:=by omega
  have hfill0:=hfill
  unfold madeCells at hfill
  by_cases h0:len * k=0
  ·have hfill':Instr.fill (fun i=>some (i * k,k)) #[] vs=some ds.toArray:=by
    rw [h0,Array.range_zero'] at hfill
    simpa using hfill
   have h0':len=0∨k=0:=Nat.mul_eq_zero.1 h0
   simp [execOp,Instr.buildSlice,run_underlying hu,hsz,h0,h0',hE.parts hv,hfill',newRow,Array.range_zero']
  ·simp [execOp,Instr.buildSlice,run_underlying hu,hsz,h0,hz0,hn,hE.parts hv,hfill,newRow]
 unfold Oper.wp
 rw [hrun]
 exact hK _ _ (h _ _ _ (hE.put hd) (hw.alloc _ _))
inductive Mv (x:Nat×List Value):aj→aj→Prop
 | here (L:aj):Mv x (x::L) L
 | there {L R:aj} (y:Nat×List Value) (h:Mv x L R):Mv x (y::L) (y::R)
theorem Mv.perm {x:Nat×List Value}{L R:aj}(h:Mv x L R):L.Perm (x::R):=by
 induction h with
 | here L=>exact List.Perm.refl _
 | there y _ ih=>exact(ih.cons y).trans (List.Perm.swap _ _ _)
theorem eQ {l:List Oper}{x:Nat×List Value}{R:aj}(h:Mv x L R)(k:TL P n ops Q l E (St M w0 H0 H (x::R))):TL P n ops Q l E (St M w0 H0 H L):=
 TL.cls (fun w hw=>hw.perm h.perm) k
theorem TX.cls {q:Act→World→Prop}{C C':World→Prop}(hc:∀w,C w→C' w)(h:TX n q E C'):TX n q E C:=fun a w he hw=>h a w he (hc w hw)
theorem gt {q:Act→World→Prop}{x:Nat×List Value}{R:aj}(h:Mv x L R)(k:TX n q E (St M w0 H0 H (x::R))):TX n q E (St M w0 H0 H L):=
 TX.cls (fun w hw=>hw.perm h.perm) k
def FnM1 (P:Program)(f:FuncId)(args:List Value)(H:Hp)(b:Nat)(cs:List Value)(Φ:Value→Hp→List Value→Prop):Prop:=
 FnM P f args H [(b,cs)] (fun v H' L'=>∃cs',L'=[(b,cs')]∧Φ v H' cs')
theorem CY {f:FuncId}{args:List Value}{b:Nat}{cs:List Value}{L2:aj}{op:Op}{Φ:Value→Hp→List Value→Prop}(hE:cA P E op f args)(hF:FnM1 P f args H b cs Φ)(hd:cu dst n=true)
  (h:∀v H' cs',H.le H'→Φ v H' cs'→TL P n ops Q rest (cr dst v E) (St M w0 H0 H' ((b,cs')::L2))):
  TL P n ops Q ({dst:=dst,op:=op,type:=ty,pos:=pos,after:=aft,guard:=none}::rest) E (St M w0 H0 H ((b,cs)::L2)):=
 zC (L1:=[(b,cs)]) (L2:=L2) hE hF hd fun v H' L1' hle hk hΦ=>by
  obtain⟨cs',rfl,h1⟩:=hΦ
  exact h v H' cs' hle h1
theorem lV {f:FuncId}{args:List Value}{b:Nat}{cs:List Value}{L2:aj}{op:Op}{Φ:Value→Hp→List Value→Prop}{j s:Nat}{bb:Bool}(hj:gr ops j=some s)(hb:lk E s=some (.bool bb))(hE:cA P E op f args)(hF:FnM1 P f args H b cs Φ)(hd:cu dst n=true)
  (h:∀v H' cs',H.le H'→Φ v H' cs'→TL P n ops Q rest (cr dst v E) (St M w0 H0 H' ((b,cs')::L2))):
  TL P n ops Q ({dst:=dst,op:=op,type:=ty,pos:=pos,after:=aft,guard:=some (j,bb)}::rest) E (St M w0 H0 H ((b,cs)::L2)):=
 vW (L1:=[(b,cs)]) (L2:=L2) hj hb hE hF hd fun v H' L1' hle hk hΦ=>by
  obtain⟨cs',rfl,h1⟩:=hΦ
  exact h v H' cs' hle h1
theorem FnM1.enter {f:FuncId}{args:List Value}{b:Nat}{cs:List Value}{Φ:Value→Hp→List Value→Prop}{fn:Func}{c:Code}
  (hf:P.funcs[f]? =some fn) (hn:fn.ntmps=n) (hb:fn.body=some c) (hl:Nat.ble args.length n=true)
  (h:∀w0,TC P n c (bodyPost P fn (wZ [b] w0 H (fun v H' L'=>∃cs',L'=[(b,cs')]∧Φ v H' cs'))) (jU 0 args) (St [b] w0 H H [(b,cs)])):FnM1 P f args H b cs Φ:=FnM.enter (L1:=[(b,cs)]) hf hn hb hl h
theorem St.only {M:List Nat}{w0 w:World}{H0 H:Hp}{L L1:aj}(h:St M w0 H0 H L w)(hm:∀p∈L1,p∈L)(hn:(L1.map (·.1)).Nodup):St M w0 H0 H L1 w:=
 ⟨h.os,h.tape,h.output,h.size,h.old,h.hp,fun p hp=>h.own p (hm p hp),fun p hp o=>h.sep p (hm p hp) o,hn,fun p hp=>h.mine p (hm p hp),h.fr⟩
theorem wX {fn:Func}{Φ:Value→Hp→List Value→Prop}{v:Value}{b:Nat}{cs:List Value}{e:Exit}(he:e= .normal∨e= .ret)(hr:∀a w,EOk n E a→St [b] w0 H0 H L w→(results fn a.tmps).run P w= .ok v w)
  (hT:InL b cs L) (h:Φ v H cs):TX n (bodyPost P fn (wZ [b] w0 H0 (fun v H' L'=>∃cs',L'=[(b,cs')]∧Φ v H' cs')) e) E (St [b] w0 H0 H L):=
 TX.end_ e he hr fun w hw=>⟨v,H,[(b,cs)],rfl,hw.only (by intro p hp;rw [List.mem_singleton.1 hp];exact hT.mem) sq,rfl,cs,rfl,h⟩
theorem St.weak {M:List Nat}{w0 w:World}{H0 H H1:Hp}{L:aj}(h:St M w0 H0 H L w)(hl:H1.le H)(hf:Fresh w0 H0 H1):St M w0 H0 H1 L w:=by
 refine⟨h.os,h.tape,h.output,h.size,h.old,fun b o v hv=>h.hp b o v (hl b o v hv),h.own,fun p hp o=>?_,h.nd,h.mine,hf⟩
 cases ho:H1 p.1 o with
 | none=>rfl
 | some v=>
  have h1:=hl _ _ _ ho
  rw [h.sep p hp o] at h1
  cases h1
theorem ax {fn:Func}{v u:Value}{e:Exit}(he:e= .normal∨e= .ret)(hr:∀a w,EOk n E a→St [] w0 H0 H L w→(results fn a.tmps).run P w= .ok v w)(h:v=u):
  TX n (bodyPost P fn (wZ [] w0 H0 (fun v' H' _=>v'=u∧H'=H0)) e) E (St [] w0 H0 H L):=
 TX.end_ e he hr fun w hw=>⟨v,H0,[],rfl,((Tail.nil L).st hw).weak hw.fr.1 (Fresh.refl _ _),rfl,h,rfl⟩
theorem TL.pub {l:List Oper}{b:Nat}{cs:List Value}{R:aj}(hb:b∉M)(k:∀H',H.le H'→(∀o v,cs[o]? =some v→H' b o=some v)→TL P n ops Q l E (St M w0 H0 H' R)):TL P n ops Q l E (St M w0 H0 H ((b,cs)::R)):=by
 intro a w he hw
 exact k _ hw.le_add (fun o v hv=>by simp [Hp.add,hv]) a w he (hw.publish hb)
theorem TX.pub {q:Act→World→Prop}{b:Nat}{cs:List Value}{R:aj}(hb:b∉M)(k:∀H',H.le H'→(∀o v,cs[o]? =some v→H' b o=some v)→TX n q E (St M w0 H0 H' R)):TX n q E (St M w0 H0 H ((b,cs)::R)):=by
 intro a w he hw
 exact k _ hw.le_add (fun o v hv=>by simp [Hp.add,hv]) a w he (hw.publish hb)
end
end Go.Sx
namespace Go.Sx
open Go
section
variable {P:Program}{n:Nat}{ops:Array Oper}{Q:Exit→Act→World→Prop}{E:Env}{M:List Nat}{w0:World}{H0 H:Hp}{L:aj}{C:World→Prop}{rest:List Oper}{dst:Option Nat}{ty:TypeId}{pos:String}{aft:Array Edge}
theorem PR.to {op:Op}{v u:Value}(h:PR P E C op v)(e:v=u):PR P E C op u:=e▸h
theorem fk {s t:TypeId}{x:Operand}{k0 k:IntKind}{a:Int}{d:TypeDesc}(hx:ev E x=some (.int k0 a))[hs:Und P s d][ht:Und P t (.int k)]:PR P E C (.convert s t x) (.int k (k.wrap a)):=by
 intro n ac w o ho he hw
 unfold execOp
 rw [ho]
 simp [he.eval hx,convert,run_underlying hs.out,run_underlying ht.out,Conv.intToInt]
theorem pr_quo {k:IntKind}{t t':TypeId}{x y:Operand}{a b:Int}(hx:ev E x=some (.int k a))(hy:ev E y=some (.int k b))(hb:b≠0):PR P E C (.binOp .quo t x y t') (.int k (k.wrap (a.tdiv b))):=by
 intro n ac w o ho he hw
 unfold execOp
 rw [ho]
 simp [he.eval hx,he.eval hy,eqGuard_at_int,eqGuard,binOp,Op.intDiv,hb]
theorem km {k:IntKind}{t t':TypeId}{x y:Operand}{a b:Int}(hx:ev E x=some (.int k a))(hy:ev E y=some (.int k b))(hb:b≠0):PR P E C (.binOp .rem t x y t') (.int k (a.tmod b)):=by
 intro n ac w o ho he hw
 unfold execOp
 rw [ho]
 simp [he.eval hx,he.eval hy,eqGuard_at_int,eqGuard,binOp,Op.intDiv,hb]
theorem eu {t t':TypeId}{x y:Operand}{a b:List UInt8}(hx:ev E x=some (gs a))(hy:ev E y=some (gs b))(hr:a.length+b.length≤9223372036854775807):PR P E C (.binOp .add t x y t') (gs (a++b)):=by
 intro n ac w o ho he hw
 unfold execOp
 rw [ho]
 have h1:ByteArray.mk a.toArray++ByteArray.mk b.toArray=ByteArray.mk (a++b).toArray:=by
  apply ByteArray.ext
  simp
 simp [he.eval hx,he.eval hy,gs,eqGuard_at_string,eqGuard,binOp,Op.stringOp,h1]
 have h2:(ByteArray.mk a.toArray).size=a.length:=by simp [ByteArray.size]
 have h3:(ByteArray.mk b.toArray).size=b.length:=by simp [ByteArray.size]
 rw [h2,h3];omega
end
end Go.Sx
namespace Go.Sx
open Go
def Bef (x y:Nat):List Nat→Prop
 | []=>False
 | z::l=>(z=x∧y∈l)∨Bef x y l
theorem Bef.mem {x y:Nat}:∀{l:List Nat},Bef x y l→x∈l∧y∈l
 | [],h=>h.elim
 | z::l,h=>by
  rcases h with ⟨rfl,h⟩ | h
  ·exact⟨by simp,List.mem_cons_of_mem _ h⟩
  ·exact⟨List.mem_cons_of_mem _ h.mem.1,List.mem_cons_of_mem _ h.mem.2⟩
theorem Bef.trans {x y z:Nat}:∀{l:List Nat},l.Nodup→Bef x y l→Bef y z l→Bef x z l
 | [],_,h,_=>h.elim
 | u::l,hn,h,k=>by
  rw [List.nodup_cons] at hn
  rcases h with ⟨rfl,h⟩ | h
  ·rcases k with ⟨rfl,k⟩ | k
   ·exact absurd h hn.1
   ·exact .inl ⟨rfl,k.mem.2⟩
  ·rcases k with ⟨rfl,k⟩ | k
   ·exact absurd h.mem.2 hn.1
   ·exact .inr (h.trans hn.2 k)
theorem Bef.total {x y:Nat}(hne:x≠y):∀{l:List Nat},x∈l→y∈l→Bef x y l∨Bef y x l
 | [],h,_=>by simp at h
 | u::l,hx,hy=>by
  rcases List.mem_cons.1 hx with rfl | hx
  ·rcases List.mem_cons.1 hy with rfl | hy
   ·exact absurd rfl hne
   ·exact .inl (.inl ⟨rfl,hy⟩)
  ·rcases List.mem_cons.1 hy with rfl | hy
   ·exact .inr (.inl ⟨rfl,by assumption⟩)
   ·exact(Bef.total hne hx hy).imp .inr .inr
theorem Bef.append_left {x y:Nat}{l:List Nat}(h:Bef x y l)(k:List Nat):Bef x y (l++k):=by
 induction l with
 | nil=>exact h.elim
 | cons z l ih=>
  rcases h with ⟨rfl,h⟩ | h
  ·exact .inl ⟨rfl,by simp [h]⟩
  ·exact .inr (ih h)
theorem Bef.snoc {x y:Nat}:∀{l:List Nat},x∈l→Bef x y (l++[y])
 | [],h=>by simp at h
 | z::l,h=>by
  rcases List.mem_cons.1 h with rfl | h
  ·exact .inl ⟨rfl,by simp⟩
  ·exact .inr (Bef.snoc h)
theorem wI {x i:Nat}{l:List Nat}(hn:(i::l).Nodup)(hx:x≠i):¬Bef x i (i::l):=by
 rw [List.nodup_cons] at hn
 rintro(⟨rfl,h⟩ | h)
 ·exact hn.1 h
 ·exact hn.1 h.mem.2
structure Lin (ops:Array Oper)(X:List (Nat×Nat))(s:List Nat):Prop where
 nd:s.Nodup
 mem:∀i,i∈s↔i<ops.size
 edge:∀i o,ops[i]? =some o→∀e∈o.after,Region.binds .any e=true→Bef e.on i s
 ext:∀p∈X,Bef p.2 p.1 s
def lexV (ops:List Oper):Bool:=(ops.zipIdx).all fun p=>p.1.after.toList.all fun e=>!Region.binds .any e||Nat.blt e.on p.2
def nX (ops:List Oper)(X:List (Nat×Nat))(p:Nat):Nat→Nat→Bool
 | 0,_=>false
 | f+1,i=>(match jW ops i with
   | some o=>o.after.toList.any fun e=>Region.binds .any e&&(Nat.beq e.on p||nX ops X p f e.on)
   | none=>false)||X.any fun x=>Nat.beq x.1 i&&(Nat.beq x.2 p||nX ops X p f x.2)
theorem lN {ops:List Oper}{X:List (Nat×Nat)}{p:Nat}{s:List Nat}(hl:Lin ops.toArray X s):∀f i,nX ops X p f i=true→Bef p i s
 | 0,_,h=>by simp [nX] at h
 | f+1,i,h=>by
  simp only [nX,Bool.or_eq_true] at h
  rcases h with h | h
  ·split at h
   ·rename_i o ho
    rw [qb] at ho
    obtain⟨e,he,hb⟩:=List.any_eq_true.1 h
    simp only [Bool.and_eq_true,Bool.or_eq_true] at hb
    have h1:=hl.edge i o (by simpa using ho) e (by simpa using he) hb.1
    rcases hb.2 with hb | hb
    ·rw [← Nat.eq_of_beq_eq_true hb];exact h1
    ·exact(lN hl f _ hb).trans hl.nd h1
   ·cases h
  ·obtain⟨x,hx,hb⟩:=List.any_eq_true.1 h
   simp only [Bool.and_eq_true,Bool.or_eq_true] at hb
   have h1:=hl.ext x hx
   rw [Nat.eq_of_beq_eq_true hb.1] at h1
   rcases hb.2 with hb | hb
   ·rw [← Nat.eq_of_beq_eq_true hb];exact h1
   ·exact(lN hl f _ hb).trans hl.nd h1
theorem BH {α:Type}{p q:α→Bool}(hpq:∀x,q x=true→p x=true):∀{l:List α} {i:α},i∈l→p i=true→q i=false→(l.filter q).length<(l.filter p).length
 | [],_,h,_,_=>by simp at h
 | x::l,i,h,h1,h2=>by
  have hle:(l.filter q).length≤(l.filter p).length:=by
   clear h h1 h2
   induction l with
   | nil=>simp
   | cons y l ih=>
    cases hq:q y
    ·cases hp:p y<;>simp [List.filter_cons,hq,hp]<;>omega
    ·have:=hpq y hq
     simp [List.filter_cons,hq,this];exact ih
  rcases List.mem_cons.1 h with rfl | h
  ·simp [List.filter_cons,h1,h2];omega
  ·have:=BH hpq h h1 h2
   cases hq:q x
   ·cases hp:p x<;>simp [List.filter_cons,hq,hp]<;>omega
   ·have:=hpq x hq
    simp [List.filter_cons,hq,this];omega
theorem CB {l:List Oper}(h:lexV l=true):∀(i:Nat) (o:Oper),l.toArray[i]? =some o→∀e∈o.after,Region.binds .any e=true→e.on<i:=by
 intro i o ho e he hb
 have h1:=List.all_eq_true.1 h (o,i) (by
  rw [List.mem_zipIdx_iff_getElem?]
  simpa using ho)
 have h2:=List.all_eq_true.1 h1 e (by simpa using he)
 simpa [Nat.blt_eq,hb] using h2
theorem lin_go {ops : Array Oper} (hv : ∀ (i : Nat) (o : Oper), ops[i]? = some o → ∀ e ∈ o.after, Region.binds .any e = true → e.on < i) : ∀ (fuel t : Nat) (listed : Array Bool) (acc : List Nat),
  listed.size = ops.size → acc.Nodup → (∀ i, i ∈ acc ↔ listed.getD i false = true) → (∀ i ∈ acc, i < ops.size) →
  (∀ i ∈ acc, ∀ o, ops[i]? = some o → ∀ e ∈ o.after, Region.binds .any e = true → Bef e.on i acc.reverse) →
  ((List.range ops.size).filter (fun i => !listed.getD i true)).length ≤ fuel → Lin ops [] (Region.linearise.go .any ops fuel t listed acc) := by
 intro fuel
 have fin : ∀ (listed : Array Bool) (acc : List Nat), listed.size = ops.size → acc.Nodup → (∀ i, i ∈ acc ↔ listed.getD i false = true) → (∀ i ∈ acc, i < ops.size) →
   (∀ i ∈ acc, ∀ o, ops[i]? = some o → ∀ e ∈ o.after, Region.binds .any e = true → Bef e.on i acc.reverse) → (∀ i, i < ops.size → listed.getD i true = true) → Lin ops [] acc.reverse := by
  intro listed acc hs hn hm hl he hall
  refine ⟨(List.reverse_perm acc).nodup_iff.2 hn, fun i => ?_, fun i o ho e hee hb => ?_, by simp⟩
  ·rw [List.mem_reverse]
   refine ⟨hl i, fun hi => (hm i).2 ?_⟩
   have := hall i hi
   have hi' : i < listed.size := by omega
   simp [hi'] at this ⊢; exact this
  ·have hi : i < ops.size := (Array.getElem?_eq_some_iff.1 ho).1
   refine he i ((hm i).2 ?_) o ho e hee hb
   have := hall i hi
   have hi' : i < listed.size := by omega
   simp [hi'] at this ⊢; exact this
 induction fuel with
 | zero =>
  intro t listed acc hs hn hm hl he hf
  simp only [Region.linearise.go]
  refine fin listed acc hs hn hm hl he (fun i hi => ?_)
  cases hg : listed.getD i true with
  | true => rfl
  | false =>
   have : i ∈ (List.range ops.size).filter (fun i => !listed.getD i true) := List.mem_filter.2 ⟨List.mem_range.2 hi, by rw [hg]; rfl⟩
   have := List.length_pos_of_mem this
   omega
 | succ fuel ih =>
  intro t listed acc hs hn hm hl he hf
  simp only [Region.linearise.go]
  change Lin ops [] (match (Region.ready .any ops listed)[t % (Region.ready .any ops listed).length]? with
   | some i => Region.linearise.go .any ops fuel (t / (Region.ready .any ops listed).length) (listed.setIfInBounds i true) (i :: acc)
   | none => acc.reverse)
  cases hi : (Region.ready .any ops listed)[t % (Region.ready .any ops listed).length]? with
  | none =>
   have hnil : Region.ready .any ops listed = [] := by
    cases hr : Region.ready .any ops listed with
    | nil => rfl
    | cons x xs =>
     rw [hr] at hi
     have hlt : t % (x :: xs).length < (x :: xs).length := Nat.mod_lt _ sq
     rw [List.getElem?_eq_none_iff] at hi
     omega
   refine fin listed acc hs hn hm hl he ?_
   -- the least that is not listed would be ready
   have key : ∀ m i, i < m → i < ops.size → listed.getD i true = true := by
    intro m
    induction m with
    | zero => intro i h; omega
    | succ m ihm =>
     intro i him hi
     cases hg : listed.getD i true with
     | true => rfl
     | false =>
      exfalso
      have hr : i ∈ Region.ready .any ops listed := by
       refine mem_ready.2 ⟨hg, ops[i], by simp [hi], fun e hee hb => ?_⟩
       have hlt := hv i ops[i] (by simp [hi]) e hee hb
       have := ihm e.on om om
       have hi' : e.on < listed.size := by omega
       simp [hi'] at this ⊢; exact this
      rw [hnil] at hr; cases hr
   exact fun i hi => key (i + 1) i om hi
  | some i =>
   have hmem := List.mem_of_getElem? hi
   obtain ⟨hg, o, ho, hed⟩ := mem_ready.1 hmem
   have hi' : i < ops.size := (Array.getElem?_eq_some_iff.1 ho).1
   have his : i < listed.size := by omega
   have hni : i ∉ acc := by
    intro h
    have := (hm i).1 h
    simp [his] at this hg
    rw [this] at hg; cases hg
   refine ih _ _ _ (by simp [hs]) (List.nodup_cons.2 ⟨hni, hn⟩) (fun j => ?_) (fun j hj => ?_) (fun j hj oj hoj e hee hb => ?_) ?_
   ·rw [List.mem_cons]
    by_cases hij : i = j
    ·subst hij; simp [his]
    ·rw [getD_set_ne false hij]
     constructor
     ·rintro (rfl | h)
      ·exact absurd rfl hij
      ·exact (hm j).1 h
     ·intro h; exact .inr ((hm j).2 h)
   ·rcases List.mem_cons.1 hj with rfl | hj
    ·exact hi'
    ·exact hl j hj
   ·rw [List.reverse_cons]
    rcases List.mem_cons.1 hj with rfl | hj
    ·rw [ho] at hoj
     obtain rfl := Option.some.inj hoj
     exact Bef.snoc (by rw [List.mem_reverse]; exact (hm _).2 (hed e hee hb))
    ·exact (he j hj oj hoj e hee hb).append_left _
   ·have : ((List.range ops.size).filter (fun k => !(listed.setIfInBounds i true).getD k true)).length < ((List.range ops.size).filter (fun k => !listed.getD k true)).length := by
     refine BH (i := i) (fun k hk => ?_) (List.mem_range.2 hi') (by rw [hg]; rfl) (by simp [his])
     by_cases hik : i = k
     ·subst hik; simp [his] at hk
     ·rwa [getD_set_ne true hik] at hk
    omega
theorem tG {l:List Oper}(hv:lexV l=true)(t:Nat):Lin l.toArray [] (Region.linearise .any l.toArray t):=by
 unfold Region.linearise
 refine lin_go (CB hv) _ _ _ _ sq sq (fun i=>?_) sq sq ?_
 ·rcases Nat.lt_or_ge i l.toArray.size with h | h
  ·simp at h;simp [h]
  ·simp at h;simp [Array.getElem?_eq_none,h]
 ·exact Nat.le_trans (List.length_filter_le _ _) sq
end Go.Sx
namespace Go.Sx
open Go
def NP (Q:Exit→Act→World→Prop):Exit→Act→World→Prop
 | .panic _,_,_=>False
 | e,a,w=>Q e a w
theorem NP.imp {Q:Exit→Act→World→Prop}:∀(e:Exit) (a:Act) (w:World),NP Q e a w→Q e a w:=fun e a w h=>by
 cases e<;>first | exact h | exact(h:False).elim
structure Ext (w w':World):Prop where
 os:w'.os=w.os
 tape:w'.tape=w.tape
 output:w'.output=w.output
 size:w.heap.size≤w'.heap.size
 same:∀b,b<w.heap.size→w'.heap[b]? =w.heap[b]?
theorem Ext.refl (w:World):Ext w w:=⟨rfl,rfl,rfl,Nat.le_refl _,fun _ _=>rfl⟩
theorem Ext.trans {a b c:World}(h:Ext a b)(k:Ext b c):Ext a c:=
 ⟨k.os.trans h.os,k.tape.trans h.tape,k.output.trans h.output,Nat.le_trans h.size k.size,fun i hi=>(k.same i (by have:=h.size;omega)).trans (h.same i hi)⟩
theorem Ext.st {M:List Nat}{w0 w w':World}{H0 H:Hp}{L:aj}(h:Ext w w')(hw:St M w0 H0 H L w):St M w0 H0 H L w':=by
 refine⟨h.os.trans hw.os,h.tape.trans hw.tape,h.output.trans hw.output,Nat.le_trans hw.size h.size,fun b hb hM=>(h.same b (by have:=hw.size;omega)).trans (hw.old b hb hM),fun b o v hv=>?_,fun p hp=>?_,hw.sep,hw.nd,hw.mine,hw.fr⟩
 ·have h1:=hw.hp b o v hv
  rw [fQ (h.same b (jJ h1))];exact h1
 ·obtain⟨t,ht⟩:=hw.own p hp
  exact⟨t,(h.same _ (cO ht)).trans ht⟩
theorem Ext.of {w w':World}{H H':Hp}{L:aj}(h:St [] w H H' L w'):Ext w w':=⟨h.os,h.tape,h.output,h.size,fun b hb=>h.old b hb sq⟩
theorem Ext.alloc (w:World)(o:Obj):Ext w (w.alloc o):=⟨rfl,rfl,rfl,by simp,fun b hb=>RowKit.Below.heap_alloc w _ b hb⟩
def w1 (P:Program)(ops:Array Oper)(Ri:World→Prop)(Q:Exit→Act→World→Prop)(f:Nat)(o:Oper)(K:Act→World→Prop)(a:Act)(w:World):Prop:=
 if Region.wanted o (yielded ops a.tmps) then(match f with
  | 1=>∃v,(∀w',(execOp a.eval o).run P w'= .ok (.value v) w')∧K (a.put o.dst v) w
  | 2=>∃v,(∀w',Ext w w'→(execOp a.eval o).run P w'= .ok (.value v) w')∧K (a.put o.dst v) w
  | 4=>Ri w∧(∀w w',Ri w→Ext w w'→Ri w')∧∃v,(∀w',Ri w'→(execOp a.eval o).run P w'= .ok (.value v) w')∧K (a.put o.dst v) w
  | _=>o.wp P a w (fun a' w'=>((f=3→Ext w w')∧(f=5→Ri w'))∧K a' w') Q) else K (a.put o.dst undef) w
def wpF (P:Program)(ops:Array Oper)(Ri:World→Prop)(Q:Exit→Act→World→Prop):List (Nat×Oper)→Act→World→Prop
 | [],a,w=>Q .normal a w
 | x::r,a,w=>w1 P ops Ri Q x.1 x.2 (wpF P ops Ri Q r) a w
section
variable {P:Program}{ops:Array Oper}{Ri:World→Prop}{Q:Exit→Act→World→Prop}
theorem Bg {f:Nat}{o:Oper}{K K':Act→World→Prop}(h:∀a w,K a w→K' a w){a:Act}{w:World}(hh:w1 P ops Ri Q f o K a w):w1 P ops Ri Q f o K' a w:=by
 unfold w1 at *
 split
 ·rename_i hw
  rw [if_pos hw] at hh
  split at hh
  ·obtain⟨v,h1,h2⟩:=hh;exact⟨v,h1,h _ _ h2⟩
  ·obtain⟨v,h1,h2⟩:=hh;exact⟨v,h1,h _ _ h2⟩
  ·obtain⟨h0,hx,v,h1,h2⟩:=hh;exact⟨h0,hx,v,h1,h _ _ h2⟩
  ·exact Oper.wp_mono (fun a w hq=>⟨hq.1,h a w hq.2⟩) hh
 ·rename_i hw
  rw [if_neg hw] at hh
  exact h _ _ hh
theorem zL {f i:Nat}{o:Oper}{K:Act→World→Prop}(hi:ops[i]? =some o){a:Act}{w:World}(hh:w1 P ops Ri Q f o K a w):wpOp P ops Q i K a w:=by
 unfold w1 at hh
 unfold wpOp
 rw [hi]
 simp only []
 split at hh
 ·rename_i hw
  rw [if_pos hw]
  left
  split at hh
  ·obtain⟨v,h1,h2⟩:=hh;unfold Oper.wp;rw [h1 w];exact h2
  ·obtain⟨v,h1,h2⟩:=hh;unfold Oper.wp;rw [h1 w (Ext.refl w)];exact h2
  ·obtain⟨h0,hx,v,h1,h2⟩:=hh;unfold Oper.wp;rw [h1 w h0];exact h2
  ·exact Oper.wp_mono (fun a w hq=>hq.2) hh
 ·rename_i hw
  rw [if_neg hw];exact hh
def qc (o:Oper):Bool:=match o.op with
 | .select _ _=>false
 | _=>true
theorem EG {o:Oper}(h:qc o=true):∀cs b,o.op≠ .select cs b:=by
 intro cs b e
 unfold qc at h
 rw [e] at h;cases h
def cmB (ops:Array Oper)(fx:Nat)(x:Oper)(fy:Nat)(y:Oper):Bool:=
 x.apart ops y&&(qc x&&(qc y&&(Nat.beq fx 1||(Nat.beq fx 2&&(Nat.beq fy 1||(Nat.beq fy 2||(Nat.beq fy 3||Nat.beq fy 4)))||Nat.beq fx 4&&(Nat.beq fy 1||(Nat.beq fy 2||(Nat.beq fy 3||(Nat.beq fy 4||Nat.beq fy 5))))))))
theorem w1_swap {fx fy : Nat} {x y : Oper} (h : cmB ops fx x fy y = true) {K : Act → World → Prop} {a : Act} {w : World}
  (hh : w1 P ops Ri (NP Q) fx x (w1 P ops Ri (NP Q) fy y K) a w) : w1 P ops Ri (NP Q) fy y (w1 P ops Ri (NP Q) fx x K) a w := by
 simp only [cmB, Bool.and_eq_true, Bool.or_eq_true] at h
 obtain ⟨hap, hsx, hsy, hf⟩ := h
 have hsx := EG hsx
 have hsy := EG hsy
 obtain ⟨h1, h2, h3⟩ := Oper.apart_spec hap
 have ex : ∀ (a : Act) (u : Value), execOp (a.put y.dst u).eval x = execOp a.eval x := fun a u => execOp_put x hsx a y.dst u h3
 have wx : ∀ (a : Act) (u : Value), Region.wanted x (yielded ops (a.put y.dst u).tmps) = Region.wanted x (yielded ops a.tmps) := fun a u => wanted_put x a y.dst u h3
 have ey : ∀ (a : Act) (u : Value), execOp (a.put x.dst u).eval y = execOp a.eval y := fun a u => execOp_put y hsy a x.dst u h1
 have wy : ∀ (a : Act) (u : Value), Region.wanted y (yielded ops (a.put x.dst u).tmps) = Region.wanted y (yielded ops a.tmps) := fun a u => wanted_put y a x.dst u h1
 have cm : ∀ (a : Act) (u v : Value), (a.put x.dst v).put y.dst u = (a.put y.dst u).put x.dst v := fun a u v => Act.put_comm a v u h2
 -- x's part: its value, and what follows
 by_cases hwx : Region.wanted x (yielded ops a.tmps) = true
 case neg =>
  -- x is passed over
  have hh' : w1 P ops Ri (NP Q) fy y K (a.put x.dst undef) w := by unfold w1 at hh; rw [if_neg hwx] at hh; unfold w1; exact hh
  have key : ∀ (a' : Act) (u : Value), Region.wanted x (yielded ops a'.tmps) ≠ true → ∀ w', K ((a'.put x.dst undef).put y.dst u) w' → w1 P ops Ri (NP Q) fx x K (a'.put y.dst u) w' := by
   intro a' u hn w' hk
   unfold w1
   rw [wx, if_neg hn, ← cm]; exact hk
  unfold w1 at hh' ⊢
  rw [wy] at hh'
  by_cases hwy : Region.wanted y (yielded ops a.tmps) = true
  case neg => rw [if_neg hwy] at hh' ⊢; exact key a undef hwx w hh'
  case pos =>
   rw [if_pos hwy] at hh' ⊢
   split
   ·obtain ⟨u, hu, hk⟩ := hh'; exact ⟨u, fun w' => by rw [← ey a undef]; exact hu w', key a u hwx w hk⟩
   ·obtain ⟨u, hu, hk⟩ := hh'; exact ⟨u, fun w' hx => by rw [← ey a undef]; exact hu w' hx, key a u hwx w hk⟩
   ·obtain ⟨h0, hx0, u, hu, hk⟩ := hh'; exact ⟨h0, hx0, u, fun w' hx => by rw [← ey a undef]; exact hu w' hx, key a u hwx w hk⟩
   ·rename_i hf1 hf2 hf4
    have hh' : y.wp P (a.put x.dst undef) w (fun a' w' => ((fy = 3 → Ext w w') ∧ (fy = 5 → Ri w')) ∧ K a' w') (NP Q) := by
     split at hh'
     ·exact absurd rfl hf1
     ·exact absurd rfl hf2
     ·exact absurd rfl hf4
     ·exact hh'
    unfold Oper.wp at hh' ⊢
    rw [ey] at hh'
    generalize (execOp a.eval y).run P w = r at *
    cases r with
    | ok n w' =>
     cases n <;> simp only [Oper.upon] at hh' ⊢
     case value u => exact ⟨hh'.1, key a u hwx _ hh'.2⟩
     case skip => exact ⟨hh'.1, key a undef hwx _ hh'.2⟩
     case defer d =>
      have := key { a with defers := d :: a.defers } undef hwx w'
      refine ⟨hh'.1, this ?_⟩
      rw [← Act.put_defers]; exact hh'.2
     case enter f args =>
      refine Calls.mono hh' fun e w'' he => ?_
      cases e with
      | returned u => exact ⟨he.1, key a u hwx _ he.2⟩
      | panicked c => exact he.elim
      | outgrown => exact he
     case row row args => exact Rows.mono hh' fun u w'' he => ⟨he.1, key a u hwx _ he.2⟩
    | halt x w' =>
     cases x <;> simp only [Oper.upon] at hh' ⊢
     case panic u => exact hh'.elim
 case pos =>
 rcases hf with hf | ⟨hf, hg⟩ | ⟨hf, hg⟩
 ·-- x is pure
  obtain rfl := Nat.eq_of_beq_eq_true hf
  obtain ⟨v, hv, hh'⟩ : ∃ v, (∀ w', (execOp a.eval x).run P w' = .ok (.value v) w') ∧ w1 P ops Ri (NP Q) fy y K (a.put x.dst v) w := by
   unfold w1 at hh; rw [if_pos hwx] at hh
   obtain ⟨v, hv, hk⟩ := hh
   exact ⟨v, hv, by unfold w1; exact hk⟩
  have key : ∀ (a' : Act) (u : Value), execOp a'.eval x = execOp a.eval x → Region.wanted x (yielded ops a'.tmps) = true → ∀ w', K ((a'.put x.dst v).put y.dst u) w' → w1 P ops Ri (NP Q) 1 x K (a'.put y.dst u) w' := by
   intro a' u he hn w' hk
   unfold w1
   rw [wx, if_pos hn]
   exact ⟨v, fun w2 => by rw [ex, he]; exact hv w2, by rw [← cm]; exact hk⟩
  unfold w1 at hh'
  rw [wy] at hh'
  show w1 P ops Ri (NP Q) fy y _ a w
  unfold w1
  by_cases hwy : Region.wanted y (yielded ops a.tmps) = true
  case neg => rw [if_neg hwy] at hh' ⊢; exact key a undef rfl hwx w hh'
  case pos =>
   rw [if_pos hwy] at hh' ⊢
   split
   ·obtain ⟨u, hu, hk⟩ := hh'; exact ⟨u, fun w' => by rw [← ey a v]; exact hu w', key a u rfl hwx w hk⟩
   ·obtain ⟨u, hu, hk⟩ := hh'; exact ⟨u, fun w' hx => by rw [← ey a v]; exact hu w' hx, key a u rfl hwx w hk⟩
   ·obtain ⟨h0, hx0, u, hu, hk⟩ := hh'; exact ⟨h0, hx0, u, fun w' hx => by rw [← ey a v]; exact hu w' hx, key a u rfl hwx w hk⟩
   ·rename_i hf1 hf2 hf4
    have hh' : y.wp P (a.put x.dst v) w (fun a' w' => ((fy = 3 → Ext w w') ∧ (fy = 5 → Ri w')) ∧ K a' w') (NP Q) := by
     split at hh'
     ·exact absurd rfl hf1
     ·exact absurd rfl hf2
     ·exact absurd rfl hf4
     ·exact hh'
    unfold Oper.wp at hh' ⊢
    rw [ey] at hh'
    generalize (execOp a.eval y).run P w = r at *
    cases r with
    | ok n w' =>
     cases n <;> simp only [Oper.upon] at hh' ⊢
     case value u => exact ⟨hh'.1, key a u rfl hwx _ hh'.2⟩
     case skip => exact ⟨hh'.1, key a undef rfl hwx _ hh'.2⟩
     case defer d =>
      have := key { a with defers := d :: a.defers } undef rfl hwx w'
      refine ⟨hh'.1, this ?_⟩
      rw [← Act.put_defers]; exact hh'.2
     case enter f args =>
      refine Calls.mono hh' fun e w'' he => ?_
      cases e with
      | returned u => exact ⟨he.1, key a u rfl hwx _ he.2⟩
      | panicked c => exact he.elim
      | outgrown => exact he
     case row row args => exact Rows.mono hh' fun u w'' he => ⟨he.1, key a u rfl hwx _ he.2⟩
    | halt x w' =>
     cases x <;> simp only [Oper.upon] at hh' ⊢
     case panic u => exact hh'.elim
 ·-- x reads, y only lays blocks
  obtain rfl := Nat.eq_of_beq_eq_true hf
  obtain ⟨v, hv, hh'⟩ : ∃ v, (∀ w', Ext w w' → (execOp a.eval x).run P w' = .ok (.value v) w') ∧ w1 P ops Ri (NP Q) fy y K (a.put x.dst v) w := by
   unfold w1 at hh; rw [if_pos hwx] at hh
   obtain ⟨v, hv, hk⟩ := hh
   exact ⟨v, hv, by unfold w1; exact hk⟩
  have key : ∀ (a' : Act) (u : Value) (w' : World), execOp a'.eval x = execOp a.eval x → Region.wanted x (yielded ops a'.tmps) = true → Ext w w' → K ((a'.put x.dst v).put y.dst u) w' → w1 P ops Ri (NP Q) 2 x K (a'.put y.dst u) w' := by
   intro a' u w' he hn hx hk
   unfold w1
   rw [wx, if_pos hn]
   exact ⟨v, fun w2 hx2 => by rw [ex, he]; exact hv w2 (hx.trans hx2), by rw [← cm]; exact hk⟩
  unfold w1 at hh'
  rw [wy] at hh'
  show w1 P ops Ri (NP Q) fy y _ a w
  unfold w1
  by_cases hwy : Region.wanted y (yielded ops a.tmps) = true
  case neg => rw [if_neg hwy] at hh' ⊢; exact key a undef w rfl hwx (Ext.refl w) hh'
  case pos =>
   rw [if_pos hwy] at hh' ⊢
   rcases hg with hg | hg | hg | hg <;> obtain rfl := Nat.eq_of_beq_eq_true hg
   ·obtain ⟨u, hu, hk⟩ := hh'; exact ⟨u, fun w' => by rw [← ey a v]; exact hu w', key a u w rfl hwx (Ext.refl w) hk⟩
   ·obtain ⟨u, hu, hk⟩ := hh'; exact ⟨u, fun w' hx => by rw [← ey a v]; exact hu w' hx, key a u w rfl hwx (Ext.refl w) hk⟩
   rotate_left
   ·obtain ⟨h0, hx0, u, hu, hk⟩ := hh'; exact ⟨h0, hx0, u, fun w' hx => by rw [← ey a v]; exact hu w' hx, key a u w rfl hwx (Ext.refl w) hk⟩
   ·have hh' : y.wp P (a.put x.dst v) w (fun a' w' => ((3 = 3 → Ext w w') ∧ (3 = 5 → Ri w')) ∧ K a' w') (NP Q) := hh'
    show y.wp P a w (fun a' w' => ((3 = 3 → Ext w w') ∧ (3 = 5 → Ri w')) ∧ w1 P ops Ri (NP Q) 2 x K a' w') (NP Q)
    unfold Oper.wp at hh' ⊢
    rw [ey] at hh'
    generalize (execOp a.eval y).run P w = r at *
    cases r with
    | ok n w' =>
     cases n <;> simp only [Oper.upon] at hh' ⊢
     case value u => exact ⟨hh'.1, key a u _ rfl hwx (hh'.1.1 trivial) hh'.2⟩
     case skip => exact ⟨hh'.1, key a undef _ rfl hwx (hh'.1.1 trivial) hh'.2⟩
     case defer d =>
      have := key { a with defers := d :: a.defers } undef w' rfl hwx (hh'.1.1 trivial)
      refine ⟨hh'.1, this ?_⟩
      rw [← Act.put_defers]; exact hh'.2
     case enter f args =>
      refine Calls.mono hh' fun e w'' he => ?_
      cases e with
      | returned u => exact ⟨he.1, key a u _ rfl hwx (he.1.1 trivial) he.2⟩
      | panicked c => exact he.elim
      | outgrown => exact he
     case row row args => exact Rows.mono hh' fun u w'' he => ⟨he.1, key a u _ rfl hwx (he.1.1 trivial) he.2⟩
    | halt x w' =>
     cases x <;> simp only [Oper.upon] at hh' ⊢
     case panic u => exact hh'.elim
 ·-- x reads what R tells, y leaves R alone
  obtain rfl := Nat.eq_of_beq_eq_true hf
  obtain ⟨hR, hRx, v, hv, hh'⟩ : Ri w ∧ (∀ w w', Ri w → Ext w w' → Ri w') ∧ ∃ v, (∀ w', Ri w' → (execOp a.eval x).run P w' = .ok (.value v) w') ∧ w1 P ops Ri (NP Q) fy y K (a.put x.dst v) w := by
   unfold w1 at hh; rw [if_pos hwx] at hh
   obtain ⟨h0, hx0, v, hv, hk⟩ := hh
   exact ⟨h0, hx0, v, hv, by unfold w1; exact hk⟩
  have key : ∀ (a' : Act) (u : Value) (w' : World), execOp a'.eval x = execOp a.eval x → Region.wanted x (yielded ops a'.tmps) = true → Ri w' → K ((a'.put x.dst v).put y.dst u) w' → w1 P ops Ri (NP Q) 4 x K (a'.put y.dst u) w' := by
   intro a' u w' he hn hx hk
   unfold w1
   rw [wx, if_pos hn]
   exact ⟨hx, hRx, v, fun w2 hx2 => by rw [ex, he]; exact hv w2 hx2, by rw [← cm]; exact hk⟩
  unfold w1 at hh'
  rw [wy] at hh'
  show w1 P ops Ri (NP Q) fy y _ a w
  unfold w1
  by_cases hwy : Region.wanted y (yielded ops a.tmps) = true
  case neg => rw [if_neg hwy] at hh' ⊢; exact key a undef w rfl hwx hR hh'
  case pos =>
   rw [if_pos hwy] at hh' ⊢
   have main : (fy = 3 ∨ fy = 5) → y.wp P (a.put x.dst v) w (fun a' w' => ((fy = 3 → Ext w w') ∧ (fy = 5 → Ri w')) ∧ K a' w') (NP Q) → y.wp P a w (fun a' w' => ((fy = 3 → Ext w w') ∧ (fy = 5 → Ri w')) ∧ w1 P ops Ri (NP Q) 4 x K a' w') (NP Q) := by
    intro h35 hh'
    have up : ∀ w', ((fy = 3 → Ext w w') ∧ (fy = 5 → Ri w')) → Ri w' := fun w' h => h35.elim (fun e => hRx w w' hR (h.1 e)) (fun e => h.2 e)
    unfold Oper.wp at hh' ⊢
    rw [ey] at hh'
    generalize (execOp a.eval y).run P w = r at *
    cases r with
    | ok n w' =>
     cases n <;> simp only [Oper.upon] at hh' ⊢
     case value u => exact ⟨hh'.1, key a u _ rfl hwx (up _ hh'.1) hh'.2⟩
     case skip => exact ⟨hh'.1, key a undef _ rfl hwx (up _ hh'.1) hh'.2⟩
     case defer d =>
      have := key { a with defers := d :: a.defers } undef w' rfl hwx (up _ hh'.1)
      refine ⟨hh'.1, this ?_⟩
      rw [← Act.put_defers]; exact hh'.2
     case enter f args =>
      refine Calls.mono hh' fun e w'' he => ?_
      cases e with
      | returned u => exact ⟨he.1, key a u _ rfl hwx (up _ he.1) he.2⟩
      | panicked c => exact he.elim
      | outgrown => exact he
     case row row args => exact Rows.mono hh' fun u w'' he => ⟨he.1, key a u _ rfl hwx (up _ he.1) he.2⟩
    | halt x w' =>
     cases x <;> simp only [Oper.upon] at hh' ⊢
     case panic u => exact hh'.elim
   rcases hg with hg | hg | hg | hg | hg <;> obtain rfl := Nat.eq_of_beq_eq_true hg
   ·obtain ⟨u, hu, hk⟩ := hh'; exact ⟨u, fun w' => by rw [← ey a v]; exact hu w', key a u w rfl hwx hR hk⟩
   ·obtain ⟨u, hu, hk⟩ := hh'; exact ⟨u, fun w' hx => by rw [← ey a v]; exact hu w' hx, key a u w rfl hwx hR hk⟩
   ·exact main (.inl rfl) hh'
   ·obtain ⟨h0, hx0, u, hu, hk⟩ := hh'; exact ⟨h0, hx0, u, fun w' hx => by rw [← ey a v]; exact hu w' hx, key a u w rfl hwx hR hk⟩
   ·exact main (.inr rfl) hh'
def ly (l:List Oper):List (Nat×Nat)→List (Nat×Oper)
 | []=>[]
 | x::r=>match jW l x.1 with
  | some o=>(x.2,o)::ly l r
  | none=>ly l r
def pairB (l:List Oper)(X:List (Nat×Nat))(x y:Nat×Nat):Bool:=
 nX l X x.1 l.length y.1||(match jW l x.1,jW l y.1 with
  | some ox,some oy=>cmB l.toArray x.2 ox y.2 oy
  | _,_=>false)
def wE (l:List Oper)(X:List (Nat×Nat)):List (Nat×Nat)→Bool
 | []=>true
 | x::r=>r.all (fun y=>pairB l X x y)&&wE l X r
def ordB (l:List Oper)(X:List (Nat×Nat))(ord:List (Nat×Nat)):Bool:=
 wE l X ord&&(Nat.beq ord.length l.length&&((List.range l.length).all fun i=>ord.any fun x=>Nat.beq x.1 i))
inductive PairsOk (l:List Oper)(s:List Nat):List (Nat×Nat)→Prop
 | nil:PairsOk l s []
 | cons {x:Nat×Nat} {r:List (Nat×Nat)} (h:∀y∈r,Bef x.1 y.1 s∨∃ox oy,jW l x.1=some ox∧jW l y.1=some oy∧cmB l.toArray x.2 ox y.2 oy=true) (k:PairsOk l s r):PairsOk l s (x::r)
theorem PairsOk.of {l:List Oper}{X:List (Nat×Nat)}{s:List Nat}(hl:Lin l.toArray X s):∀{ord:List (Nat×Nat)},wE l X ord=true→PairsOk l s ord
 | [],_=>.nil
 | x::r,h=>by
  simp only [wE,Bool.and_eq_true] at h
  refine .cons (fun y hy=>?_) (PairsOk.of hl h.2)
  have:=List.all_eq_true.1 h.1 y hy
  simp only [pairB,Bool.or_eq_true] at this
  rcases this with h1 | h1
  ·exact .inl (lN hl _ _ h1)
  ·split at h1
   ·rename_i ox oy hx hy;exact .inr ⟨ox,oy,hx,hy,h1⟩
   ·cases h1
theorem uK {l:List Oper}{x:Nat×Nat}{ox:Oper}(hx:jW l x.1=some ox){post:List (Nat×Nat)}:∀{pre:List (Nat×Nat)},
  (∀y∈pre,∃oy,jW l y.1=some oy∧cmB l.toArray y.2 oy x.2 ox=true)→∀a w,
  wpF P l.toArray Ri (NP Q) (ly l (pre++x::post)) a w→wpF P l.toArray Ri (NP Q) ((x.2,ox)::ly l (pre++post)) a w
 | [],_,a,w,h=>by simpa [ly,hx] using h
 | y::pre,hc,a,w,h=>by
  obtain⟨oy,hy,hcm⟩:=hc y sq
  have ih:=uK (post:=post) hx (pre:=pre) (fun z hz=>hc z (List.mem_cons_of_mem _ hz))
  simp only [List.cons_append,ly,hy] at h ⊢
  have h2:=Bg (ih) h
  exact w1_swap hcm h2
theorem PairsOk.drop {l:List Oper}{i:Nat}{s:List Nat}:∀{pre post:List (Nat×Nat)} {x:Nat×Nat},PairsOk l (i::s) (pre++x::post)→x.1=i→(i::s).Nodup→(∀y∈pre++post,y.1≠i)→PairsOk l s (pre++post)
 | [],post,x,h,hx,hn,hne=>by
  cases h with
  | cons h k=>
   have key:∀{r:List (Nat×Nat)},PairsOk l (i::s) r→(∀y∈r,y.1≠i)→PairsOk l s r:=by
    intro r hr hnr
    induction hr with
    | nil=>exact .nil
    | cons h k ih=>
     refine .cons (fun y hy=>?_) (ih (fun y hy=>hnr y (List.mem_cons_of_mem _ hy)))
     rcases h y hy with (⟨e,_⟩ | h1) | h1
     ·exact absurd e.symm (hnr _ sq)
     ·exact .inl h1
     ·exact .inr h1
   exact key k (by simpa using hne)
 | z::pre,post,x,h,hx,hn,hne=>by
  cases h with
  | cons h k=>
   refine .cons (fun y hy=>?_) (PairsOk.drop k hx hn (fun y hy=>hne y (List.mem_cons_of_mem _ hy)))
   have hy':y∈pre++x::post:=by
    rcases List.mem_append.1 hy with h | h
    ·exact List.mem_append_left _ h
    ·exact List.mem_append_right _ (List.mem_cons_of_mem _ h)
   rcases h y hy' with (⟨e,_⟩ | h1) | h1
   ·exact absurd e.symm (hne _ sq)
   ·exact .inl h1
   ·exact .inr h1
theorem ju {l:List Oper}:∀(s:List Nat) (ord:List (Nat×Nat)),s.Nodup→(ord.map (·.1)).Nodup→(∀i,i∈s↔i∈ord.map (·.1))→(∀i∈s,i<l.length)→PairsOk l s ord→∀a w,
  wpF P l.toArray Ri (NP Q) (ly l ord) a w→wpOps P l.toArray (NP Q) s a w
 | [],ord,_,_,hm,_,_,a,w,h=>by
  have:ord=[]:=by
   cases ord with
   | nil=>rfl
   | cons x r=>have:=(hm x.1).2 sq;simp at this
  subst this
  simpa [ly,wpF,wpOps] using h
 | i::s,ord,hn,ho,hm,hlt,hp,a,w,h=>by
  obtain⟨x,hx,hxi⟩:=List.mem_map.1 ((hm i).1 sq)
  obtain⟨pre,post,rfl⟩:=List.append_of_mem hx
  have hil:i<l.length:=hlt i sq
  have hox:jW l x.1=some l[i]:=by rw [qb,hxi];simp [hil]
  have hn':=List.nodup_cons.1 hn
  have hpre:∀y∈pre,∃oy,jW l y.1=some oy∧cmB l.toArray y.2 oy x.2 l[i]=true:=by
   intro y hy
   have key:∀{pre:List (Nat×Nat)},PairsOk l (i::s) (pre++x::post)→y∈pre→Bef y.1 x.1 (i::s)∨∃oy ox,jW l y.1=some oy∧jW l x.1=some ox∧cmB l.toArray y.2 oy x.2 ox=true:=by
    intro pre hp hy
    induction pre with
    | nil=>cases hy
    | cons z pre ih=>
     cases hp with
     | cons h k=>
      rcases List.mem_cons.1 hy with rfl | hy
      ·exact h x sq
      ·exact ih k hy
   have hyi:y.1≠i:=by
    intro e
    simp only [List.map_append,List.map_cons] at ho
    have:=(List.nodup_append.1 ho).2.2 y.1 (List.mem_map.2 ⟨y,hy,rfl⟩) x.1 sq
    exact this (e.trans hxi.symm)
   rcases key hp hy with hb | ⟨oy,ox,h1,h2,h3⟩
   ·rw [hxi] at hb
    exact absurd hb (wI hn hyi)
   ·rw [hox] at h2
    obtain rfl:=Option.some.inj h2
    exact⟨oy,h1,h3⟩
  have h2:=uK hox hpre a w h
  have hne:∀y∈pre++post,y.1≠i:=by
   intro y hy e
   have hperm:(pre++x::post).Perm (x::(pre++post)):=List.perm_middle
   have:=(hperm.map (·.1)).nodup_iff.1 ho
   rw [List.map_cons,List.nodup_cons] at this
   exact this.1 (List.mem_map.2 ⟨y,hy,by rw [hxi];exact e⟩)
  have hperm:(pre++x::post).Perm (x::(pre++post)):=List.perm_middle
  have ho2:=(hperm.map (·.1)).nodup_iff.1 ho
  rw [List.map_cons,List.nodup_cons] at ho2
  rw [wpOps_cons]
  have hget:l.toArray[i]? =some l[i]:=by simp [hil]
  refine zL hget (Bg (fun a' w' hh=>?_) h2)
  refine ju s (pre++post) hn'.2 ho2.2 (fun j=>?_) (fun j hj=>hlt j (List.mem_cons_of_mem _ hj)) (hp.drop hxi hn hne) a' w' hh
  constructor
  ·intro hj
   have:=(hm j).1 (List.mem_cons_of_mem _ hj)
   have:=(hperm.map (·.1)).mem_iff.1 this
   rcases List.mem_cons.1 this with e | h
   ·exact absurd (show i∈s by have e':j=i:=e.trans hxi;rw [← e'];exact hj) hn'.1
   ·exact h
  ·intro hj
   have:=(hm j).2 ((hperm.map (·.1)).mem_iff.2 (List.mem_cons_of_mem _ hj))
   rcases List.mem_cons.1 this with e | h
   ·obtain⟨y,hy,hyj⟩:=List.mem_map.1 hj
    exact absurd (by rw [hyj,e]) (hne y hy)
   ·exact h
def si:List Nat→Bool
 | []=>true
 | x::l=>l.all (fun y=>!Nat.beq x y)&&si l
theorem kp:∀{l:List Nat},si l=true→l.Nodup
 | [],_=>by simp
 | x::l,h=>by
  simp only [si,Bool.and_eq_true] at h
  refine List.nodup_cons.2 ⟨fun hx=>?_,kp h.2⟩
  have:=List.all_eq_true.1 h.1 x hx
  simp [Nat.beq_refl] at this
theorem Ad:∀{n:Nat} {l:List Nat},l.Nodup→l.length=n→(∀i,i<n→i∈l)→∀i∈l,i<n
 | 0,l,_,hl,_,i,hi=>by
  have:=List.length_pos_of_mem hi
  omega
 | n+1,l,hn,hl,hall,i,hi=>by
  obtain⟨a,b,rfl⟩:=List.append_of_mem (hall n om)
  have hperm:(a++n::b).Perm (n::(a++b)):=List.perm_middle
  have hn2:=hperm.nodup_iff.1 hn
  rw [List.nodup_cons] at hn2
  rcases List.mem_cons.1 (hperm.mem_iff.1 hi) with rfl | hi'
  ·omega
  ·have:=Ad (n:=n) hn2.2 (by have:=hperm.length_eq;simp at this hl;simp;omega) (fun j hj=>by
    rcases List.mem_cons.1 (hperm.mem_iff.1 (hall j om)) with rfl | h
    ·omega
    ·exact h) i hi'
   omega
theorem w1_pure {o:Oper}{K:Act→World→Prop}{a:Act}{w:World}(hw:Region.wanted o (yielded ops a.tmps)=true){v:Value}(h1:∀w',(execOp a.eval o).run P w'= .ok (.value v) w')(h2:K (a.put o.dst v) w):w1 P ops Ri Q 1 o K a w:=by
 unfold w1;rw [if_pos hw];exact⟨v,h1,h2⟩
theorem yq {o:Oper}{K:Act→World→Prop}{a:Act}{w:World}(hw:Region.wanted o (yielded ops a.tmps)=true){v:Value}(h1:∀w',Ext w w'→(execOp a.eval o).run P w'= .ok (.value v) w')(h2:K (a.put o.dst v) w):w1 P ops Ri Q 2 o K a w:=by
 unfold w1;rw [if_pos hw];exact⟨v,h1,h2⟩
def TD (P:Program)(n:Nat)(l:List Oper)(Q:Exit→Act→World→Prop)(X:List (Nat×Nat))(E:Env)(C:World→Prop):Prop:=
 ∀s,Lin l.toArray X s→∀a w,EOk n E a→C w→wpOps P l.toArray (NP Q) s a w
def TF (P:Program)(n:Nat)(ops:Array Oper)(Ri:World→Prop)(Q:Exit→Act→World→Prop)(l:List (Nat×Oper))(E:Env)(C:World→Prop):Prop:=
 ∀a w,EOk n E a→C w→wpF P ops Ri (NP Q) l a w
theorem TD.leaf {n:Nat}{l:List Oper}{X:List (Nat×Nat)}{E:Env}{C:World→Prop}(ord:List (Nat×Nat))(hc:ordB l X ord=true)(hn:si (ord.map (·.1))=true)(h:TF P n l.toArray (fun _=>True) Q (ly l ord) E C):TD P n l Q X E C:=by
 intro s hs a w he hw
 simp only [ordB,Bool.and_eq_true] at hc
 obtain⟨h1,h2,h3⟩:=hc
 have hnd:=kp hn
 have hall:∀i,i<l.length→i∈ord.map (·.1):=by
  intro i hi
  have:=List.all_eq_true.1 h3 i (List.mem_range.2 hi)
  obtain⟨x,hx,hb⟩:=List.any_eq_true.1 this
  exact List.mem_map.2 ⟨x,hx,Nat.eq_of_beq_eq_true hb⟩
 have hlen:(ord.map (·.1)).length=l.length:=by rw [List.length_map];exact Nat.eq_of_beq_eq_true h2
 refine ju s ord hs.nd hnd (fun i=>?_) (fun i hi=>by simpa using(hs.mem i).1 hi) (PairsOk.of hs h1) a w (h a w he hw)
 rw [hs.mem i]
 constructor
 ·intro hi;exact hall i (by simpa using hi)
 ·intro hi
  have:=Ad hnd hlen hall i hi
  simpa using this
theorem TD.part {n:Nat}{l:List Oper}{X:List (Nat×Nat)}{E:Env}{C:World→Prop}(x y:Nat)(hne:Nat.beq x y=false)(hx:Nat.blt x l.length=true)(hy:Nat.blt y l.length=true)
  (h1:TD P n l Q ((y,x)::X) E C) (h2:TD P n l Q ((x,y)::X) E C):TD P n l Q X E C:=by
 intro s hs a w he hw
 have hxy:x≠y:=fun e=>by rw [e,Nat.beq_refl] at hne;cases hne
 have hx':x<l.length:=by simpa [Nat.blt_eq] using hx
 have hy':y<l.length:=by simpa [Nat.blt_eq] using hy
 rcases Bef.total hxy ((hs.mem x).2 (by simpa using hx')) ((hs.mem y).2 (by simpa using hy')) with hb | hb
 ·exact h1 s ⟨hs.nd,hs.mem,hs.edge,fun p hp=>(List.mem_cons.1 hp).elim (fun e=>e▸hb) (hs.ext p)⟩ a w he hw
 ·exact h2 s ⟨hs.nd,hs.mem,hs.edge,fun p hp=>(List.mem_cons.1 hp).elim (fun e=>e▸hb) (hs.ext p)⟩ a w he hw
end
section
variable {P:Program}{n:Nat}{ops:Array Oper}{Ri:World→Prop}{Q:Exit→Act→World→Prop}{E E':Env}{C C':World→Prop}{rest:List (Nat×Oper)}{dst:Option Nat}{op:Op}{ty:TypeId}{pos:String}{aft:Array Edge}{M:List Nat}{w0:World}{H0 H:Hp}{L:aj}{g:Option (Nat×Bool)}
theorem TC.drawn {id:Nat}{l:List Oper}(hm:P.follows .mixedOrders=true)(hv:lexV l=true)(h:TD P n l Q [] E (St M w0 H0 H L)):TC P n (.region id l.toArray true) Q E (St M w0 H0 H L):=by
 intro a w he hw
 refine Code.wp_mono NP.imp (wp_region_draw fun t=>?_)
 simp only [Region.schedule,hm,Bool.true_or,if_true]
 exact h _ (tG hv t) _ _ he hw.drew
theorem TF.nil (h:TX n (Q .normal) E C):TF P n ops Ri Q [] E C:=fun a w he hw=>h a w he hw
theorem aq {v:Value}(hr:PR P E (fun _=>True) op v)(hd:cu dst n=true)(h:TF P n ops Ri Q rest (cr dst v E) C):TF P n ops Ri Q ((1,{dst:=dst,op:=op,type:=ty,pos:=pos,after:=aft,guard:=none})::rest) E C:=by
 intro a w he hw
 exact w1_pure (by simp [Region.wanted]) (fun w'=>hr n a w' _ rfl he trivial) (h _ w (he.put hd) hw)
theorem aK {v:Value}(hr:PR P E (St M w0 H0 H L) op v)(hd:cu dst n=true)(h:TF P n ops Ri Q rest (cr dst v E) (St M w0 H0 H L)):TF P n ops Ri Q ((2,{dst:=dst,op:=op,type:=ty,pos:=pos,after:=aft,guard:=none})::rest) E (St M w0 H0 H L):=by
 intro a w he hw
 exact yq (by simp [Region.wanted]) (fun w' hx=>hr n a w' _ rfl he (hx.st hw)) (h _ w (he.put hd) hw)
theorem fK {v:Value}{j s:Nat}{b:Bool}(hj:gr ops j=some s)(hb:lk E s=some (.bool b))(hr:PR P E (St M w0 H0 H L) op v)(hd:cu dst n=true)(h:TF P n ops Ri Q rest (cr dst v E) (St M w0 H0 H L)):TF P n ops Ri Q ((2,{dst:=dst,op:=op,type:=ty,pos:=pos,after:=aft,guard:=some (j,b)})::rest) E (St M w0 H0 H L):=by
 intro a w he hw
 exact yq (by simp [Region.wanted,d6 he hj hb]) (fun w' hx=>hr n a w' _ rfl he (hx.st hw)) (h _ w (he.put hd) hw)
theorem nu {l:List (Nat×Oper)}{s:Nat}{b:Bool}(hb:lk E s=some (.bool b))(ht:b=true→TF P n ops Ri Q l ((s,.bool true)::E) C)(hf:b=false→TF P n ops Ri Q l ((s,.bool false)::E) C):TF P n ops Ri Q l E C:=by
 intro a w he hw
 have key:∀b',b=b'→EOk n ((s,.bool b')::E) a:=by
  rintro b' rfl
  refine⟨he.sz,he.df,fun t v h=>?_⟩
  simp only [lk] at h
  split at h
  ·rename_i hq
   have:=Nat.eq_of_beq_eq_true hq
   subst this
   simp only [Option.some.injEq] at h
   subst h
   exact he.at_ _ _ hb
  ·exact he.at_ _ _ h
 cases b
 ·exact hf rfl a w (key _ rfl) hw
 ·exact ht rfl a w (key _ rfl) hw
def Fw (P:Program)(ops:Array Oper)(Ri:World→Prop)(Q:Exit→Act→World→Prop)(rest:List (Nat×Oper)):Exit→Act→World→Prop
 | .normal,a,w=>wpF P ops Ri (NP Q) rest a w
 | _,_,_=>False
theorem bf {o:Oper}(h:TL P n ops (Fw P ops Ri Q rest) [o] E C):TF P n ops Ri Q ((0,o)::rest) E C:=by
 intro a w he hw
 have h1:=h a w he hw
 show w1 P ops Ri (NP Q) 0 o (wpF P ops Ri (NP Q) rest) a w
 have h2:w1 P ops Ri (Fw P ops Ri Q rest) 0 o (fun a w=>wpF P ops Ri (NP Q) rest a w) a w:=by
  unfold w1
  simp only [wpW] at h1
  by_cases hw':Region.wanted o (yielded ops a.tmps)=true
  ·rw [if_pos hw'] at h1 ⊢
   exact Oper.wp_mono (fun a w hq=>⟨⟨fun e=>absurd e dq,fun e=>absurd e dq⟩,hq⟩) h1
  ·rw [if_neg hw'] at h1 ⊢
   exact h1
 unfold w1 at h2 ⊢
 split
 ·rename_i hw'
  rw [if_pos hw'] at h2
  unfold Oper.wp at h2 ⊢
  generalize (execOp a.eval o).run P w=r at *
  cases r with
  | ok nx w'=>
   cases nx<;>simp only [Oper.upon] at h2 ⊢<;>try exact h2
   case enter f args=>
    refine Calls.mono h2 fun e w'' he=>?_
    cases e with
    | returned u=>exact he
    | panicked c=>exact he.elim
    | outgrown=>obtain⟨_,_,he⟩:=he;exact he.elim
  | halt x w'=>cases x<;>simp only [Oper.upon] at h2 ⊢<;>exact h2
 ·rename_i hw'
  rw [if_neg hw'] at h2;exact h2
theorem bj (h:TF P n ops Ri Q rest E C):TL P n ops (Fw P ops Ri Q rest) [] E C:=fun a w he hw=>h a w he hw
def AF (P:Program)(ops:Array Oper)(Ri:World→Prop)(Q:Exit→Act→World→Prop)(rest:List (Nat×Oper)):Exit→Act→World→Prop
 | .normal,a,w=>Ri w∧wpF P ops Ri (NP Q) rest a w
 | _,_,_=>False
theorem aw {o:Oper}(hg:o.guard=none)(h:TL P n ops (AF P ops Ri Q rest) [o] E C):TF P n ops Ri Q ((5,o)::rest) E C:=by
 intro a w he hw
 have h1:=h a w he hw
 show w1 P ops Ri (NP Q) 5 o (wpF P ops Ri (NP Q) rest) a w
 have hwt:Region.wanted o (yielded ops a.tmps)=true:=by simp [Region.wanted,hg]
 have h2:o.wp P a w (fun a w=>Ri w∧wpF P ops Ri (NP Q) rest a w) (AF P ops Ri Q rest):=by
  simp only [wpW] at h1
  rw [if_pos hwt] at h1
  exact h1
 unfold w1
 rw [if_pos hwt]
 show o.wp P a w (fun a' w'=>((5=3→Ext w w')∧(5=5→Ri w'))∧wpF P ops Ri (NP Q) rest a' w') (NP Q)
 unfold Oper.wp at h2 ⊢
 generalize (execOp a.eval o).run P w=r at *
 have mk:∀{A:Prop} {w':World},Ri w'∧A→((5=3→Ext w w')∧(True→Ri w'))∧A:=fun h=>⟨⟨fun e=>absurd e dq,fun _=>h.1⟩,h.2⟩
 cases r with
 | ok nx w'=>
  cases nx<;>simp only [Oper.upon] at h2 ⊢
  case value u=>exact mk h2
  case skip=>exact mk h2
  case defer d=>exact mk h2
  case enter f args=>
   refine Calls.mono h2 fun e w'' he=>?_
   cases e with
   | returned u=>exact mk he
   | panicked c=>exact he.elim
   | outgrown=>obtain⟨_,_,he⟩:=he;exact he.elim
  case row row args=>exact Rows.mono h2 fun u w'' he=>mk he
 | halt x w'=>cases x<;>simp only [Oper.upon] at h2 ⊢<;>exact h2
def RX (X:aj)(Hs:Hp)(w:World):Prop:=(∀p∈X,∃t,w.heap[p.1]? =some (.cells p.2.toArray t (0,0)))∧∀b o v,Hs b o=some v→w.cell? ⟨b,o,none⟩=some v
theorem RX.ext {X:aj}{Hs:Hp}{w w':World}(h:RX X Hs w)(hx:Ext w w'):RX X Hs w':=⟨fun p hp=>by
  obtain⟨t,ht⟩:=h.1 p hp
  exact⟨t,(hx.same _ (cO ht)).trans ht⟩,fun b o v hv=>by
  have h1:=h.2 b o v hv
  rw [fQ (hx.same b (jJ h1))];exact h1⟩
theorem RX.of {X:aj}{Hs:Hp}{w:World}(hX:∀p∈X,p∈L)(hH:Hs.le H)(hw:St M w0 H0 H L w):RX X Hs w:=⟨fun p hp=>hw.own p (hX p hp),fun b o v hv=>hw.hp b o v (hH b o v hv)⟩
theorem RX.st {X:aj}{Hs:Hp}{w w':World}(hX:X.Sublist L)(hH:Hs.le H)(hw:St M w0 H0 H L w)(h:RX X Hs w'):St (X.map (·.1)) w' Hs Hs X w':=
 ⟨rfl,rfl,rfl,Nat.le_refl _,fun _ _ _=>rfl,h.2,h.1,(fun p hp o=>by
  have h1:=hw.sep p (hX.subset hp) o
  cases e:Hs p.1 o with
  | none=>rfl
  | some v=>rw [hH _ _ _ e] at h1;cases h1),(hX.map _).nodup hw.nd,fun p hp=>Or.inl (List.mem_map.2 ⟨p,hp,rfl⟩),Fresh.refl _ _⟩
theorem aN {X:aj}{Hs:Hp}{v:Value}(hX:X.Sublist L)(hH:Hs.le H)(hr:∀u K,PR P E (St K u Hs Hs X) op v)(hd:cu dst n=true)(h:TF P n ops (RX X Hs) Q rest (cr dst v E) (St M w0 H0 H L)):
  TF P n ops (RX X Hs) Q ((4,{dst:=dst,op:=op,type:=ty,pos:=pos,after:=aft,guard:=none})::rest) E (St M w0 H0 H L):=by
 intro a w he hw
 show w1 P ops (RX X Hs) (NP Q) 4 _ _ a w
 unfold w1
 rw [if_pos (by simp [Region.wanted])]
 exact⟨RX.of (fun p hp=>hX.subset hp) hH hw,fun _ _ h1 h2=>h1.ext h2,v,fun w' hx=>hr w' _ n a w' _ rfl he (hx.st hX hH hw),h _ w (he.put hd) hw⟩
theorem az {X:aj}{Hs:Hp}(hX:X.Sublist L)(hH:Hs.le H)(h:TF P n ops (RX X Hs) Q rest E (St M w0 H0 H L)):TL P n ops (AF P ops (RX X Hs) Q rest) [] E (St M w0 H0 H L):=
 fun a w he hw=>⟨RX.of (fun p hp=>hX.subset hp) hH hw,h a w he hw⟩
theorem S1 {α:Type}{a:α}{l m:List α}(h:l.Sublist m):(a::l).Sublist (a::m):=h.cons_cons a
theorem S0 {α:Type}{a:α}{l m:List α}(h:l.Sublist m):l.Sublist (a::m):=h.cons a
theorem SN {α:Type}{l:List α}:([]:List α).Sublist l:=List.nil_sublist l
def sel:List Bool→aj→aj
 | true::m,x::L=>x::sel m L
 | false::m,_::L=>sel m L
 | _,_=>[]
theorem aT {l:List Oper}{E:Env}{Z:List (Nat×Nat)}(m:List Bool)(ord:List (Nat×Nat))(hc:ordB l Z ord=true)(hn:si (ord.map (·.1))=true)(h:TF P n l.toArray (RX (sel m L) H) Q (ly l ord) E (St M w0 H0 H L)):TD P n l Q Z E (St M w0 H0 H L):=by
 intro s hs a w he hw
 simp only [ordB,Bool.and_eq_true] at hc
 obtain⟨h1,h2,h3⟩:=hc
 have hnd:=kp hn
 have hall:∀i,i<l.length→i∈ord.map (·.1):=by
  intro i hi
  have:=List.all_eq_true.1 h3 i (List.mem_range.2 hi)
  obtain⟨x,hx,hb⟩:=List.any_eq_true.1 this
  exact List.mem_map.2 ⟨x,hx,Nat.eq_of_beq_eq_true hb⟩
 have hlen:(ord.map (·.1)).length=l.length:=by rw [List.length_map];exact Nat.eq_of_beq_eq_true h2
 refine ju s ord hs.nd hnd (fun i=>?_) (fun i hi=>by simpa using(hs.mem i).1 hi) (PairsOk.of hs h1) a w (h a w he hw)
 rw [hs.mem i]
 constructor
 ·intro hi;exact hall i (by simpa using hi)
 ·intro hi
  have:=Ad hnd hlen hall i hi
  simpa using this
theorem TF.pub {l:List (Nat×Oper)}{b:Nat}{cs:List Value}{R:aj}(hb:b∉M)(k:∀H',H.le H'→(∀o v,cs[o]? =some v→H' b o=some v)→TF P n ops Ri Q l E (St M w0 H0 H' R)):TF P n ops Ri Q l E (St M w0 H0 H ((b,cs)::R)):=by
 intro a w he hw
 exact k _ hw.le_add (fun o v hv=>by simp [Hp.add,hv]) a w he (hw.publish hb)
theorem w1_ext {o:Oper}{K:Act→World→Prop}{a:Act}{w:World}(h:Region.wanted o (yielded ops a.tmps)=true→o.wp P a w (fun a' w'=>Ext w w'∧K a' w') Q)(hn:Region.wanted o (yielded ops a.tmps)=false→K (a.put o.dst undef) w):w1 P ops Ri Q 3 o K a w:=by
 unfold w1
 split
 ·rename_i hw;exact Oper.wp_mono (fun a' w' hq=>⟨⟨fun _=>hq.1,fun e=>absurd e dq⟩,hq.2⟩) (h hw)
 ·rename_i hw;exact hn (by simpa using hw)
theorem TF.gd {f j s:Nat}{b:Bool}(hj:gr ops j=some s)(hb:lk E s=some (.bool b))(h:TF P n ops Ri Q ((f,{dst:=dst,op:=op,type:=ty,pos:=pos,after:=aft,guard:=none})::rest) E C):
  TF P n ops Ri Q ((f,{dst:=dst,op:=op,type:=ty,pos:=pos,after:=aft,guard:=some (j,b)})::rest) E C:=by
 intro a w he hw
 have h1:=h a w he hw
 have hy:=d6 he hj hb
 simp only [wpF,w1] at h1 ⊢
 simp only [Region.wanted,hy,BEq.rfl,if_true] at h1 ⊢
 exact h1
theorem TF.ext {o:Oper}(hg:o.guard=none)(h:∀a w,EOk n E a→C w→o.wp P a w (fun a' w'=>Ext w w'∧wpF P ops Ri (NP Q) rest a' w') (NP Q)):TF P n ops Ri Q ((3,o)::rest) E C:=by
 intro a w he hw
 exact w1_ext (fun _=>h a w he hw) (fun h=>by simp [Region.wanted,hg] at h)
theorem TF.call {f:FuncId}{args:List Value}{Φ:Value→Hp→Prop}(hE:cA P E op f args)(hF:Fn P f args H Φ)(hd:cu dst n=true)
  (h:∀v H',H.le H'→Φ v H'→TF P n ops Ri Q rest (cr dst v E) (St M w0 H0 H' L)):
  TF P n ops Ri Q ((3,{dst:=dst,op:=op,type:=ty,pos:=pos,after:=aft,guard:=none})::rest) E (St M w0 H0 H L):=by
 refine TF.ext rfl fun a w he hw=>?_
 unfold Oper.wp
 rw [hE n a w _ rfl he]
 refine(hF w (St.pass1 (L1:=[]) (L2:=L) hw)).mono ?_
 rintro e w' ⟨v,H',L1',rfl,hst,hk,hΦ⟩
 have:L1'=[]:=by cases L1' with | nil=>rfl | cons x l=>cases hk
 subst this
 exact⟨Ext.of hst,h v H' hst.fr.1 hΦ _ _ (he.put hd) (hw.past hst)⟩
theorem zE {f:FuncId}{args:List Value}{v:Value}(hE:cA P E op f args)(hF:FnS P f args H v)(hd:cu dst n=true)
  (h:TF P n ops Ri Q rest (cr dst v E) (St M w0 H0 H L)):
  TF P n ops Ri Q ((3,{dst:=dst,op:=op,type:=ty,pos:=pos,after:=aft,guard:=none})::rest) E (St M w0 H0 H L):=
 TF.call hE hF hd fun v' H' _ hΦ=>by obtain⟨rfl,rfl⟩:=hΦ;exact h
theorem CZ {f j s:Nat}{b:Bool}{args:List Value}{v:Value}(hj:gr ops j=some s)(hb:lk E s=some (.bool b))(hE:cA P E op f args)(hF:FnS P f args H v)(hd:cu dst n=true)
  (h:TF P n ops Ri Q rest (cr dst v E) (St M w0 H0 H L)):
  TF P n ops Ri Q ((3,{dst:=dst,op:=op,type:=ty,pos:=pos,after:=aft,guard:=some (j,b)})::rest) E (St M w0 H0 H L):=TF.gd hj hb (zE hE hF hd h)
theorem TF.alloc {t:TypeId}{cs:List Value}[hz:Zero P t cs](hd:cu dst n=true)(h:∀b,TF P n ops Ri Q rest (cr dst (.pointer (some ⟨b,0,none⟩)) E) (St M w0 H0 H ((b,cs)::L))):
  TF P n ops Ri Q ((3,{dst:=dst,op:=.alloc t,type:=ty,pos:=pos,after:=aft,guard:=none})::rest) E (St M w0 H0 H L):=by
 refine TF.ext rfl fun a w he hw=>?_
 obtain⟨i,z,hi,hzz,hcs⟩:=uF hz
 have hrun:(execOp a.eval {dst:=dst,op:=.alloc t,type:=ty,pos:=pos,after:=aft,guard:=none}).run P w= .ok (.value (.pointer (some ⟨w.heap.size,0,none⟩))) (w.alloc (.cells z.cells t)):=by
  simp [execOp,Instr.alloc,zeroValue,typeInfo,hi,hzz,newVar,newRow]
 unfold Oper.wp
 rw [hrun]
 refine⟨Ext.alloc _ _,h _ _ _ (he.put hd) ?_⟩
 have:=hw.alloc z.cells.toList t
 rw [hcs] at this
 rw [← hcs] at this ⊢
 simpa using this
end
end Go.Sx
