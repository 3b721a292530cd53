import Derived.Test.YtjnlogbbcceaoaaGreatR4
import Derived.Test.YtjnlogbbcceaoaaGreatProg
import Derived.Test.YtjnlogbbcceaoaaGreatRows
import Derived.Shelf.Small.Bits
import Derived.Shelf.Strconv.Itoa0
import Derived.Shelf.Strings.Search1
import Derived.Shelf.Strings.Search2
import Derived.Shelf.Strings.Cut
import Derived.Shelf.LaysM
import Derived.Shelf.Strings.Shaped
import Derived.Shelf.Sort.Plain
import Derived.Shelf.Slices.CompactS
import Derived.Shelf.Slices.Cells
import Derived.Shelf.Slices.In.SortNone
set_option linter.all false
set_option maxRecDepth 100000
set_option maxHeartbeats 32000000
namespace Go.Sx
open Go
def MapAt (b:Nat)(ks:List (List UInt8))(w:World):Prop:=∃es ck,w.heap[b]? =some (.map es ck)∧es.toList.map (fun e=>(e.key,e.val))=ks.map (fun k=>(gs k,Value.bool true))
def StM (M:List Nat)(w0:World)(H0 H:Hp)(L:aj)(b:Nat)(ks:List (List UInt8))(w:World):Prop:=St M w0 H0 H L w∧MapAt b ks w∧w0.heap.size≤b
theorem CS (s k:List UInt8):(ByteArray.mk s.toArray==ByteArray.mk k.toArray)=decide (s=k):=by
 show(s.toArray==k.toArray)=_
 by_cases h:s=k
 ·subst h;simp
 ·rw [decide_eq_false h];simpa using h
theorem pH (s:List UInt8):∀(l:List MapEntry) (ks:List (List UInt8)) (i:Nat),l.map (fun e=>(e.key,e.val))=ks.map (fun k=>(gs k,Value.bool true))→
  (s∉ks∧Instr.findNow .string (gs s) l i=some none)∨(s∈ks∧∃j,Instr.findNow .string (gs s) l i=some (some (j,.bool true))):=by
 intro l
 induction l with
 | nil=>intro ks i h;cases ks with
  | nil=>exact .inl ⟨by simp,rfl⟩
  | cons k ks=>cases h
 | cons e l ih=>
  intro ks i h
  cases ks with
  | nil=>cases h
  | cons k ks=>
   simp only [List.map_cons,List.cons.injEq,Prod.mk.injEq] at h
   obtain⟨⟨h1,h2⟩,h3⟩:=h
   have hs:Instr.sameNow .string (gs s) e.key=some (decide (s=k)):=by rw [h1];simp only [gs,Instr.sameNow,CS]
   by_cases hk:s=k
   ·right
    refine⟨by simp [hk],i,?_⟩
    unfold Instr.findNow
    rw [hs,decide_eq_true hk,h2]
   ·have hn:Instr.findNow .string (gs s) (e::l) i=Instr.findNow .string (gs s) l (i+1):=by
     rw [Instr.findNow,hs,decide_eq_false hk]
    rcases ih ks (i+1) h3 with ⟨a,c⟩ | ⟨a,j,c⟩
    ·exact .inl ⟨by simp [hk,a],hn.trans c⟩
    ·exact .inr ⟨by simp [a],j,hn.trans c⟩
section
variable {P:Program}{n:Nat}{ops:Array Oper}{Q:Exit→Act→World→Prop}{E E':Env}{M:List Nat}{w0:World}{H0 H:Hp}{L:aj}{rest:List Oper}{dst:Option Nat}{op:Op}{ty:TypeId}{pos:String}{aft:Array Edge}{b:Nat}{ks:List (List UInt8)}
def EQ (P:Program)(t:TypeId):Bool:=match P.underlying t with
 | some (.map k e)=>(match P.underlying k with
  | some .string=>true
  | _=>false)&&(match P.info? e with
  | some i=>(match i.zero with
   | some (.bool false)=>true
   | _=>false)
  | none=>false)
 | _=>false
class MapTB (P:Program) (t:TypeId):Prop where
 outB:EQ P t=true
theorem MapTB.out {t:TypeId}(h:MapTB P t):∃k e,P.underlying t=some (.map k e)∧P.underlying k=some .string∧∀w,(zeroValue e).run P w= .ok (.bool false) w:=by
 have h:=h.outB
 unfold EQ at h
 split at h
 ·rename_i k e ht
  simp only [Bool.and_eq_true] at h
  obtain⟨h1,h2⟩:=h
  split at h1
  ·rename_i hk
   refine⟨k,e,ht,hk,fun w=>?_⟩
   split at h2
   ·rename_i i hi
    split at h2
    ·rename_i hz
     simp [zeroValue,typeInfo,hi,hz]
    ·cases h2
   ·cases h2
  ·cases h1
 ·cases h
theorem MapAt.kept {w w':World}(h:MapAt b ks w)(hk:∀i,i<w.heap.size→i=b→w'.heap[i]? =w.heap[i]?):MapAt b ks w':=by
 obtain⟨es,ck,h1,h2⟩:=h
 exact⟨es,ck,(hk b (cO h1) rfl).trans h1,h2⟩
theorem nj {e:Bool}{m k:Nat}{s:List UInt8}{w:World}(hk:P.underlying k=some .string):(Instr.checkKey e (m+1) k (gs s)).run P w= .ok () w:=by
 simp [Instr.checkKey,run_underlying hk,gs]
theorem StM.notin {w:World}(h:StM M w0 H0 H L b ks w):b∉keys L:=fun hm=>by
 obtain⟨p,hp,rfl⟩:=List.mem_map.1 hm
 obtain⟨t,ht⟩:=h.1.own p hp
 obtain⟨es,ck,h1,_⟩:=h.2.1
 rw [ht] at h1;cases h1
theorem StM.over {w1 w:World}{L':aj}{H':Hp}(h:StM M w0 H0 H L b ks w1)(hw:St (keys L) w1 H H' L' w):StM M w0 H0 H' L' b ks w:=by
 refine⟨?_,h.2.1.kept (fun i hi e=>hw.old i hi (by subst e;exact h.notin)),h.2.2⟩
 have:=St.pastX (L1:=L) (L1':=L') (L2:=[]) (by simpa using h.1) hw
 simpa using this
theorem StM.drop {x:Nat×List Value}{w:World}(h:StM M w0 H0 H (x::L) b ks w):StM M w0 H0 H L b ks w:=⟨h.1.drop,h.2⟩
theorem C1 {c:Code}(h:∀w1,StM M w0 H0 H L b ks w1→TC P n c Q E (St (keys L) w1 H H L)):TC P n c Q E (StM M w0 H0 H L b ks):=fun a w he hw=>h w hw a w he (St.pass1 (L1:=L) (L2:=[]) (by simpa using hw.1))
theorem vV {q:Act→World→Prop}{w1:World}{L':aj}{H':Hp}(hm:StM M w0 H0 H L b ks w1)(h:TX n q E (St M w0 H0 H' L')):TX n q E (St (keys L) w1 H H' L'):=fun a w he hw=>h a w he (hm.over hw).1
theorem Ci {t:TypeId}[hT:MapTB P t]{x y:Operand}{s:List UInt8}{w1:World}{L':aj}{H':Hp}(hm:StM M w0 H0 H L b ks w1)(hx:ev E x=some (.map (some b)))(hy:ev E y=some (gs s)):PR P E (St (keys L) w1 H H' L') (.lookup t x y false) (.bool (decide (s∈ks))):=by
 intro n a w o ho he hw
 obtain⟨es,ck,h1,h2⟩:=(hm.over hw).2.1
 obtain⟨k,e,ht,hk,hz⟩:=hT.out
 have hck:∀b,(Instr.checkKey b 10000 k (gs s)).run P w= .ok () w:=fun b=>nj (m:=9999) hk
 unfold execOp
 rw [ho]
 rcases pH s es.toList ks 0 h2 with ⟨hn,hf⟩ | ⟨hn,j,hf⟩
 ·rw [decide_eq_false hn]
  simp [he.eval hx,he.eval hy,Instr.lookup,run_underlying ht,MapKept.run_getObj_map h1,hck,Instr.findKey,run_underlying hk,hf,hz,Result.andThen]
 ·rw [decide_eq_true hn]
  simp [he.eval hx,he.eval hy,Instr.lookup,run_underlying ht,MapKept.run_getObj_map h1,hck,Instr.findKey,run_underlying hk,hf,hz,Result.andThen]
theorem StM.put {w:World}{es:Array MapEntry}{ck:Nat}{s:List UInt8}(hw:StM M w0 H0 H L b ks w)(h1:w.heap[b]? =some (.map es ck))(h2:es.toList.map (fun e=>(e.key,e.val))=ks.map (fun k=>(gs k,Value.bool true))):
  StM M w0 H0 H L b (ks++[s]) {w with heap:=w.heap.setIfInBounds b (.map (es.push {key:=gs s,val:=.bool true,born:=ck}) (ck+1))}:=by
 have hlt:=cO h1
 have hoth:∀i,i≠b→(w.heap.setIfInBounds b (.map (es.push {key:=gs s,val:=.bool true,born:=ck}) (ck+1)))[i]? =w.heap[i]? :=fun i hi=>by
  rw [Array.getElem?_setIfInBounds,if_neg (fun e=>hi e.symm)]
 have hcell:∀o,w.cell? ⟨b,o,none⟩=none:=fun o=>by simp [World.cell?,h1]
 have h:=hw.1
 refine⟨⟨h.os,h.tape,h.output,by simpa using h.size,fun i hi hM=>?_,fun c o v hv=>?_,fun p hp=>?_,h.sep,h.nd,h.mine,h.fr⟩,⟨es.push {key:=gs s,val:=.bool true,born:=ck},ck+1,?_,?_⟩,hw.2.2⟩
 ·rw [← h.old i hi hM];exact hoth i (by have:=hw.2.2;omega)
 ·have hc:=h.hp c o v hv
  have hne:c≠b:=fun e=>by subst e;rw [hcell] at hc;cases hc
  rw [fQ (hoth c hne)];exact hc
 ·obtain⟨t,ht⟩:=h.own p hp
  have hne:p.1≠b:=fun e=>by rw [e,h1] at ht;cases ht
  exact⟨t,(hoth _ hne).trans ht⟩
 ·show(w.heap.setIfInBounds b _)[b]? =_
  rw [Array.getElem?_setIfInBounds,if_pos rfl,if_pos hlt]
 ·simp [h2]
theorem CX {t:TypeId}[hT:MapTB P t]{x y z:Operand}{s:List UInt8}(hx:ev E x=some (.map (some b)))(hy:ev E y=some (gs s))(hz:ev E z=some (.bool true))(hs:s∉ks)(hd:cu dst n=true){w1:World}{L':aj}{H':Hp}(hm:StM M w0 H0 H L b ks w1)
  (h:TL P n ops Q rest (cr dst undef E) (StM M w0 H0 H' L' b (ks++[s]))):
  TL P n ops Q ({dst:=dst,op:=.mapUpdate t x y z,type:=ty,pos:=pos,after:=aft,guard:=none}::rest) E (St (keys L) w1 H H' L'):=by
 intro a w he hw0
 have hw:=hm.over hw0
 refine cE rfl (fun K hK=>?_)
 obtain⟨es,ck,h1,h2⟩:=hw.2.1
 obtain⟨k,e,ht,hk,hzv⟩:=hT.out
 have hck:∀b,(Instr.checkKey b 10000 k (gs s)).run P w= .ok () w:=fun b=>nj (m:=9999) hk
 rcases pH s es.toList ks 0 h2 with ⟨hn,hf⟩ | ⟨hn,j,hf⟩
 ·have hrun:(execOp a.eval {dst:=dst,op:=.mapUpdate t x y z,type:=ty,pos:=pos,after:=aft,guard:=none}).run P w= .ok .skip {w with heap:=w.heap.setIfInBounds b (.map (es.push {key:=gs s,val:=.bool true,born:=ck}) (ck+1))}:=by
   simp [execOp,he.eval hx,he.eval hy,he.eval hz,Instr.mapUpdate,run_underlying ht,MapKept.run_getObj_map h1,hck,Instr.findKey,run_underlying hk,hf,MapKept.run_setObj_map _ h1,Result.andThen]
  unfold Oper.wp
  rw [hrun]
  exact hK _ _ (h _ _ (he.put hd) (hw.put h1 h2))
 ·exact absurd hn hs
theorem AE {t:TypeId}[hT:MapTB P t](hd:cu dst n=true)(h:∀b w1,StM M w0 H0 H L b [] w1→TL P n ops Q rest (cr dst (.map (some b)) E) (St (keys L) w1 H H L)):
  TL P n ops Q ({dst:=dst,op:=.makeMap t none,type:=ty,pos:=pos,after:=aft,guard:=none}::rest) E (St M w0 H0 H L):=by
 intro a w he hw
 refine cE rfl (fun K hK=>?_)
 have hrun:(execOp a.eval {dst:=dst,op:=.makeMap t none,type:=ty,pos:=pos,after:=aft,guard:=none}).run P w= .ok (.value (.map (some w.heap.size))) (w.alloc (.map #[] 0)):=by
  simp [execOp,Instr.makeMap,newObj,Result.andThen];rfl
 unfold Oper.wp
 rw [hrun]
 have hm:StM M w0 H0 H L w.heap.size [] (w.alloc (.map #[] 0)):=⟨(Ext.alloc w _).st hw,⟨#[],0,heap_alloc_new w _,rfl⟩,hw.size⟩
 exact hK _ _ (h _ _ hm _ _ (he.put hd) (St.pass1 (L1:=L) (L2:=[]) (by simpa using hm.1)))
end
end Go.Sx
namespace Go.Sx
open Go
def cat:List aj→aj
 | []=>[]
 | [a]=>a
 | a::b::r=>a++cat (b::r)
theorem sT:∀l:List aj,cat l=l.flatten
 | []=>rfl
 | [a]=>by simp [cat]
 | a::b::r=>by rw [cat,sT (b::r)];rfl
theorem ED {α:Type}(ps:List α):(List.range ps.length).filterMap (fun i=>ps[i]?)=ps:=by
 induction ps with
 | nil=>rfl
 | cons p ps ih=>
  rw [List.length_cons,List.range_succ_eq_map,List.filterMap_cons]
  simp only [List.getElem?_cons_zero,List.filterMap_map]
  congr 1
theorem em (ps:List aj)(js:List Nat)(h:js.isPerm (List.range ps.length)=true):(cat ps).Perm (cat (js.filterMap fun i=>ps[i]?)):=by
 rw [sT,sT]
 have h1:(js.filterMap fun i=>ps[i]?).Perm ps:=by
  have:=(List.isPerm_iff.1 h).filterMap (fun i=>ps[i]?)
  rwa [ED] at this
 exact h1.symm.flatten
theorem rZ (X:aj){A B C:aj}:(X++((A++B)++C)).Perm (X++(A++(B++C))):=by rw [List.append_assoc]
theorem Ae (X:aj){A B D C:aj}:(X++((A++(B++D))++C)).Perm (X++(A++(B++(D++C)))):=by rw [List.append_assoc,List.append_assoc]
theorem fE (X:aj){A:aj}:(X++(A++[])).Perm (X++A):=by rw [List.append_nil]
theorem Cm (X:aj){A B:aj}:(X++(A++(B++[]))).Perm (X++(A++B)):=by rw [List.append_nil]
theorem fF {x y:Nat×List Value}{A B C:aj}:(x::y::((A++B)++C)).Perm (x::y::(A++(B++C))):=by rw [List.append_assoc]
section
variable {P:Program}{n:Nat}{ops:Array Oper}{Ri:World→Prop}{Q:Exit→Act→World→Prop}{E:Env}{M:List Nat}{w0:World}{H0 H:Hp}{L:aj}{C:World→Prop}{rest:List Oper}{dst:Option Nat}{op:Op}{ty:TypeId}{pos:String}{aft:Array Edge}
theorem aM {L':aj}{l:List Oper}(hp:L.Perm L')(h:TL P n ops Q l E (St M w0 H0 H L')):TL P n ops Q l E (St M w0 H0 H L):=fun a w he hw=>h a w he (hw.perm hp)
theorem dE {L':aj}{q:Act→World→Prop}(hp:L.Perm L')(h:TX n q E (St M w0 H0 H L')):TX n q E (St M w0 H0 H L):=fun a w he hw=>h a w he (hw.perm hp)
theorem sZ {L':aj}{c:Code}(hp:L.Perm L')(h:TC P n c Q E (St M w0 H0 H L')):TC P n c Q E (St M w0 H0 H L):=fun a w he hw=>h a w he (hw.perm hp)
theorem Fr {L':aj}{l:List (Nat×Oper)}(hp:L.Perm L')(h:TF P n ops Ri Q l E (St M w0 H0 H L')):TF P n ops Ri Q l E (St M w0 H0 H L):=fun a w he hw=>h a w he (hw.perm hp)
theorem u9 {α:Type}{k j:Nat}{enc:α→List Value}{u:Value}{a':α}(hk:∀x,(enc x).length=k)(hj:j<k):∀(xs:List α) (i:Nat) (a:α),xs[i]? =some a→enc a'=(enc a).set j u→(xs.flatMap enc).set (i * k+j) u=(xs.set i a').flatMap enc
 | [],_,_,h,_=>by simp at h
 | y::xs,0,a,h,he=>by
  simp only [List.getElem?_cons_zero,Option.some.injEq] at h
  subst h
  simp only [List.flatMap_cons,List.set_cons_zero,Nat.zero_mul,Nat.zero_add]
  rw [List.set_append_left _ _ (by rw [hk];exact hj),he]
 | y::xs,i+1,a,h,he=>by
  simp only [List.flatMap_cons,List.set_cons_succ]
  rw [List.set_append_right _ _ (by rw [hk,Nat.succ_mul];omega),hk,show(i+1) * k+j - k=i * k+j by rw [Nat.succ_mul];omega]
  rw [u9 hk hj xs i a (by simpa using h) he]
theorem OwnSl.put {α:Type}{k j i:Nat}{enc:α→List Value}[hc:Cells k enc]{b cap:Nat}{cs:List Value}{u:Value}{xs:List α}{a a':α}(hcl:cs.length=cap * k)(htk:cs.take (xs.length * k)=xs.flatMap enc)(hle:xs.length≤cap)(hcm:cap≤9223372036854775807)
  (hi:xs[i]? =some a) (he:enc a'=(enc a).set j u) (hj:j<k):OwnSl k enc (.slice (some ⟨b,0,none⟩) xs.length cap) (xs.set i a') [(b,cs.set (i * k+j) u)]:=by
 refine .inr ⟨b,cap,cs.set (i * k+j) u,by rw [List.length_set],rfl,by rw [List.length_set];exact hcl,?_,by rw [List.length_set];exact hle,hcm⟩
 rw [List.length_set,List.take_set,htk]
 exact u9 hc.len hj xs i a hi he
theorem bX {α:Type}{t k k1 j i:Nat}{enc:α→List Value}[hc:Cells k enc]{x y:Operand}{v u:Value}{xs:List α}{ob:aj}{F:aj→aj}{a a':α}(hx:ev E x=some (.pointer (some ⟨ogb ob,i * k+j,none⟩)))(hy:ev E y=some u)
  (hO:OwnSl k enc v xs ob) (hU:Tl ob L F) (hi:xs[i]? =some a) (he:enc a'=(enc a).set j u) (hj:Nat.blt j k=true) [ht:Ty P t false k1] [h1:One u] (hk:k1=1) (hd:cu dst n=true)
  (h:∀ob',ogb ob'=ogb ob→OwnSl k enc v (xs.set i a') ob'→TL P n ops Q rest (cr dst undef E) (St M w0 H0 H (F ob'))):
  TL P n ops Q ({dst:=dst,op:=.store t x y,type:=ty,pos:=pos,after:=aft,guard:=none}::rest) E (St M w0 H0 H L):=by
 obtain⟨R,hp,hF⟩:=hU.perm
 rcases hO with ⟨rfl,rfl,rfl⟩ | ⟨b,cap,cs,rfl,rfl,hcl,htk,hle,hcm⟩
 ·simp at hi
 ·have hjk:j<k:=by rwa [Nat.blt_eq] at hj
  have hil:i<xs.length:=(List.getElem?_eq_some_iff.1 hi).1
  have hlt:i * k+j<cs.length:=by
   rw [hcl]
   have:(i+1) * k≤cap * k:=Nat.mul_le_mul_right k om
   rw [Nat.succ_mul] at this;omega
  refine aM hp (bB (b:=b) (o:=i * k+j) hx hy hk (.here _) (by rw [Nat.blt_eq];exact hlt) hd ?_)
  exact aM (hF [(b,cs.set (i * k+j) u)]).symm (h [(b,cs.set (i * k+j) u)] rfl (OwnSl.put hcl htk hle hcm hi he hjk))
theorem FnX.enterM {f:FuncId}{args:List Value}{L1:aj}{Φ:Value→Hp→aj→Prop}{fn:Func}{c:Code}
  (hf:P.funcs[f]? =some fn) (hn:fn.ntmps=n) (hb:fn.body=some c) (hl:Nat.ble args.length n=true)
  (h:∀w0 M,(∀b∈M,b<w0.heap.size)→TC P n c (bodyPost P fn (vX M w0 H Φ)) (jU 0 args) (St M w0 H H L1)):FnX P f args H L1 Φ:=by
 intro w hw
 refine calls_of_wp hf hb (h w (keys L1) (fun b hm=>?_) _ w ⟨?_,rfl,fun t v ht=>?_⟩ hw)
 ·obtain⟨p,hp,rfl⟩:=List.mem_map.1 hm
  exact hw.lt hp
 ·have:=Nat.le_of_ble_eq_true hl
  simp [hn]
  omega
 ·have h1:=(kx args 0 t v ht).2
  simp only [Nat.sub_zero] at h1
  have h2:t<args.length:=(List.getElem?_eq_some_iff.1 h1).1
  rw [Array.getElem?_append_left (by simpa using h2)]
  simpa using h1
theorem kZ {f:FuncId}{args:List Value}{Φ:Value→Hp→aj→Prop}(hE:cA P E op f args)(hF:FnO P f args H Φ)(hd:cu dst n=true)
  (h:∀v H' ob,(∀p∈ob,w0.heap.size≤p.1)→H.le H'→Φ v H' ob→TL P n ops Q rest (cr dst v E) (St M w0 H0 H' (L++ob))):
  TL P n ops Q ({dst:=dst,op:=op,type:=ty,pos:=pos,after:=aft,guard:=none}::rest) E (St M w0 H0 H L):=by
 intro a w he hw
 refine cE rfl (fun K hK=>?_)
 unfold Oper.wp
 rw [hE n a w _ rfl he]
 refine(hF w (St.pass1 (L1:=[]) (L2:=L) hw)).mono ?_
 rintro e w' ⟨v,H',ob,rfl,hst,hΦ⟩
 exact hK _ _ (h v H' ob (fun p hp=>Nat.le_trans hw.size ((hst.mine p hp).resolve_left sq)) hst.fr.1 hΦ _ _ (he.put hd) (hw.pastO hst))
def fl1B (P:Program)(s f:Nat):Option Nat:=match P.underlying s with
 | some (.struct fs)=>match fs[f]? with
  | some fd=>match tyB P fd.type with
   | some (false,_)=>some fd.offset
   | _=>none
  | none=>none
 | _=>none
theorem n7 {s f off:Nat}{x:Operand}{cs:List Value}{v:Value}(hx:ev E x=some (.agg cs.toArray))(hf:fl1B P s f=some off)(hv:cs[off]? =some v):PR P E C (.field s x f) v:=by
 intro n a w o' ho he hw
 unfold execOp
 rw [ho]
 unfold fl1B at hf
 split at hf
 ·rename_i fs hs
  split at hf
  ·rename_i fd hfd
   split at hf
   ·rename_i k hk
    simp only [Option.some.injEq] at hf
    subst hf
    have hA:=nW (P:=P) (t:=fd.type) (agg:=false) (n:=k) ⟨hk⟩ w
    simp [he.eval hx,Instr.field,run_underlying hs,hfd,asAgg,part,hA,hv]
   ·cases hf
  ·cases hf
 ·cases hf
end
end Go.Sx
namespace Go.Sx
open Go
def kA (P:Program)(xs:List Value)(f:Field):List Value:=(xs.drop f.offset).take (P.cellsOf f.type)
def jj (P:Program):Nat→TypeId→List Value→List Value→Option Bool
 | 0,_,_,_=>none
 | d+1,t,xs,ys=>
  match P.underlying t with
  | some .bool=>match xs,ys with
   | [.bool a],[.bool b]=>some (a==b)
   | _,_=>none
  | some (.int _)=>match xs,ys with
   | [.int k a],[.int k' b]=>if k=k' then some (a==b) else none
   | _,_=>none
  | some .string=>match xs,ys with
   | [.string a],[.string b]=>some (a.toList==b.toList)
   | _,_=>none
  | some (.struct fs)=>if P.stoodInHeld t=true then none else
   fs.toList.foldr (fun f acc=>match acc,(if f.name= "_" then none else jj P d f.type (kA P xs f) (kA P ys f)) with
    | some r,some b=>some (b&&r)
    | _,_=>none) (some true)
  | _=>none
def ofC (P:Program)(t:TypeId)(xs:List Value):Value:=match P.underlying t with
 | some (.struct _)=>.agg xs.toArray
 | _=>xs.headD .nilFunc
theorem EE {xs:List Value}{o n:Nat}{v:Value}(h:(xs.drop o).take n=[v]):xs[o]? =some v:=by
 have h1:((xs.drop o).take n)[0]? =some v:=by rw [h];rfl
 rw [List.getElem?_take] at h1
 split at h1
 ·rwa [List.getElem?_drop,Nat.add_zero] at h1
 ·cases h1
def Be:TypeDesc→Bool | .struct _ | .array _ _=>true | _=>false
theorem wz {P:Program}{e:TypeId}{kd:TypeDesc}{xs:List Value}{o:Nat}{v:Value}(w:World)(hu:P.underlying e=some kd)(hk:Be kd=false)(h:xs[o]? =some v):(part e xs.toArray o).run P w= .ok v w:=by
 have hA:(isAgg e).run P w= .ok false w:=by
  unfold isAgg
  rw [Sem.run_bind,run_underlying hu w]
  cases kd<;>simp_all [Be]
 simp [part,hA,h]
theorem ww {P:Program}{e:TypeId}{fs:Array Field}{xs:List Value}{o:Nat}(w:World)(hu:P.underlying e=some (.struct fs)):(part e xs.toArray o).run P w= .ok (.agg ((xs.drop o).take (P.cellsOf e)).toArray) w:=by
 obtain⟨i,hi⟩:=info_of_underlying hu
 have hA:(isAgg e).run P w= .ok true w:=by
  unfold isAgg
  rw [Sem.run_bind,run_underlying hu w]
  simp
 have hS:(sizeOf e).run P w= .ok (P.cellsOf e) w:=by simp [sizeOf,typeInfo,hi,Program.cellsOf]
 have hE:xs.toArray.extract o (o+P.cellsOf e)=((xs.drop o).take (P.cellsOf e)).toArray:=by
  apply Array.ext'
  rw [Array.toList_extract]
  simp [List.extract_eq_take_drop]
 simp only [part,Sem.run_bind,hA,Result.andThen_ok,if_true,hS,Sem.run_pure,hE]
theorem zT {P:Program}{e:TypeId}{d:Nat}{xs ys:List Value}{f:Field}{b:Bool}(w:World)(h:jj P d f.type (kA P xs f) (kA P ys f)=some b):
  (part f.type xs.toArray f.offset).run P w= .ok (ofC P f.type (kA P xs f)) w∧(part f.type ys.toArray f.offset).run P w= .ok (ofC P f.type (kA P ys f)) w:=by
 cases d with
 | zero=>simp [jj] at h
 | succ d=>
  unfold jj at h
  have one:∀{zs:List Value} {kd:TypeDesc} {v:Value},P.underlying f.type=some kd→Be kd=false→kA P zs f=[v]→(part f.type zs.toArray f.offset).run P w= .ok (ofC P f.type (kA P zs f)) w:=by
   intro zs kd v hu hk hz
   rw [wz w hu hk (EE hz)]
   unfold ofC
   rw [hu,hz]
   cases kd<;>simp_all [Be]
  split at h
  ·rename_i hu
   split at h
   ·rename_i a b' h1 h2
    exact⟨one hu rfl h1,one hu rfl h2⟩
   ·cases h
  ·rename_i hu
   split at h
   ·rename_i a b' h1 h2
    exact⟨one hu rfl h1,one hu rfl h2⟩
   ·cases h
  ·rename_i hu
   split at h
   ·rename_i a b' h1 h2
    exact⟨one hu rfl h1,one hu rfl h2⟩
   ·cases h
  ·rename_i fs hu
   refine⟨?_,?_⟩<;>
   ·rw [ww w hu];unfold ofC;rw [hu];rfl
  ·cases h
theorem Bo {P:Program}:∀(d dd:Nat),d≤dd→∀(t:TypeId) (xs ys:List Value) (r:Bool) (w:World),jj P d t xs ys=some r→(Op.equalIn dd t (ofC P t xs) (ofC P t ys)).run P w= .ok r w
 | 0,_,_,_,_,_,_,_,h=>by simp [jj] at h
 | d+1,0,hd,_,_,_,_,_,_=>by omega
 | d+1,dd+1,hd,t,xs,ys,r,w,h=>by
  unfold jj at h
  unfold ofC
  split at h
  ·rename_i hu
   rw [hu]
   split at h
   ·cases h;exact run_equalIn_bool w dd t _ _ hu
   ·cases h
  ·rename_i hu
   rw [hu]
   split at h
   ·split at h
    ·rename_i hk
     subst hk
     cases h;exact run_equalIn_int w dd t _ _ _ _ hu
    ·cases h
   ·cases h
  ·rename_i hu
   rw [hu]
   split at h
   ·cases h;exact run_equalIn_string w dd t _ _ hu
   ·cases h
  ·rename_i fs hu
   rw [hu]
   split at h
   ·cases h
   ·rename_i hs
    have hfs:P.fieldsOf t=fs:=by simp [Program.fieldsOf,hu]
    show(Op.equalIn (dd+1) t (.agg xs.toArray) (.agg ys.toArray)).run P w=_
    rw [run_equalIn_struct w dd t xs.toArray ys.toArray (by rw [hfs];exact hu) (by simpa using hs),hfs]
    clear hu hfs
    generalize fs.toList=l at h
    induction l generalizing r with
    | nil=>simp only [List.foldr_nil,Option.some.injEq] at h;subst h;simp [Op.eqFields]
    | cons f l ih=>
     rw [List.foldr_cons] at h
     split at h
     ·rename_i r' b' hr hb
      split at hb
      ·cases hb
      ·rename_i hn
       simp only [Option.some.injEq] at h
       subst h
       obtain⟨p1,p2⟩:=zT (e:=t) w hb
       have p3:=Bo d dd om f.type _ _ _ w hb
       simp only [Op.eqFields,hn,ne_eq,not_false_eq_true,if_true,Sem.run_bind,p1,p2,p3,Result.andThen_ok]
       cases b'
       ·simp
       ·simpa using ih _ hr
     ·cases h
  ·cases h
section
variable {P:Program}{E:Env}{C:World→Prop}
theorem Bn {P:Program}{t:TypeId}{xs ys:List Value}{r:Bool}{d:Nat}(w:World)(hd:d≤10000)(hs:∃fs,P.underlying t=some (.struct fs))(h:jj P d t xs ys=some r):(Op.equal t (.agg xs.toArray) (.agg ys.toArray)).run P w= .ok r w:=by
 obtain⟨fs,hu⟩:=hs
 have:=Bo d 10000 hd t xs ys r w h
 unfold ofC at this
 rw [hu] at this
 exact this
def BC (P:Program)(t:TypeId):Bool:=match P.underlying t with | some (.struct _)=>true | _=>false
theorem Ez {t t':TypeId}{x y:Operand}{xs ys:List Value}{r:Bool}(hx:ev E x=some (.agg xs.toArray))(hy:ev E y=some (.agg ys.toArray))(hs:BC P t=true)(hg:P.eqGuardType P.depth t=false)(h:jj P 4 t xs ys=some r):PR P E C (.binOp .eql t x y t') (.bool r):=by
 intro n ac w o ho he hw
 unfold execOp
 rw [ho]
 have hs':∃fs,P.underlying t=some (.struct fs):=by
  unfold BC at hs;split at hs
  ·exact⟨_,by assumption⟩
  ·cases hs
 have h1:=Bn w dq hs' h
 have hgd:(eqGuard .eql t x y (.agg xs.toArray) (.agg ys.toArray)).run P w= .ok () w:=by simp [eqGuard,hg]
 simp only [he.eval hx,he.eval hy,Sem.run_bind,hgd,Result.andThen_ok,binOp,h1,Sem.run_pure]
theorem rS {t t':TypeId}{x y:Operand}{xs ys:List Value}{r:Bool}(hx:ev E x=some (.agg xs.toArray))(hy:ev E y=some (.agg ys.toArray))(hs:BC P t=true)(hg:P.eqGuardType P.depth t=false)(h:jj P 4 t xs ys=some r):PR P E C (.binOp .neq t x y t') (.bool (!r)):=by
 intro n ac w o ho he hw
 unfold execOp
 rw [ho]
 have hs':∃fs,P.underlying t=some (.struct fs):=by
  unfold BC at hs;split at hs
  ·exact⟨_,by assumption⟩
  ·cases hs
 have h1:=Bn w dq hs' h
 have hgd:(eqGuard .neq t x y (.agg xs.toArray) (.agg ys.toArray)).run P w= .ok () w:=by simp [eqGuard,hg]
 simp only [he.eval hx,he.eval hy,Sem.run_bind,hgd,Result.andThen_ok,binOp,h1,Sem.run_pure]
end
end Go.Sx
namespace Go.Sx
open Go Go.Proofs
instance :El Tryz.prog 22 3 1:=kz
instance :El Tryz.prog 24 80 3:=kz
instance :El Tryz.prog 25 84 2:=kz
instance :El Tryz.prog 26 53 4:=kz
instance :El Tryz.prog 43 42 3:=kz
instance :El Tryz.prog 46 45 6:=kz
instance :El Tryz.prog 47 72 3:=kz
instance :El Tryz.prog 48 66 3:=kz
instance :El Tryz.prog 51 50 10:=kz
instance :El Tryz.prog 60 61 1:=kz
instance :El Tryz.prog 61 9 1:=kz
instance :El Tryz.prog 78 98 3:=kz
instance :El Tryz.prog 82 101 3:=kz
instance :El Tryz.prog 87 89 1:=kz
instance :El Tryz.prog 92 88 1:=kz
instance :El Tryz.prog 96 175 4:=kz
instance :El Tryz.prog 133 4 1:=kz
instance :El Tryz.prog 162 22 1:=kz
instance :El Tryz.prog 225 5 1:=kz
instance :Plc Tryz.prog 28 [(0,1),(1,1),(2,1)]:=kz
instance :Plc Tryz.prog 35 [(0,1),(1,1),(2,1)]:=kz
instance :Plc Tryz.prog 40 [(0,1),(1,1)]:=kz
instance :Plc Tryz.prog 42 [(0,1),(1,2)]:=kz
instance :Plc Tryz.prog 45 [(0,1),(1,1),(2,1),(3,1),(4,1),(5,1)]:=kz
instance :Plc Tryz.prog 50 [(0,1),(1,1),(2,1),(3,1),(4,1),(5,1),(6,1),(7,1),(8,1),(9,1)]:=kz
instance :Plc Tryz.prog 53 [(0,1),(1,1),(2,1),(3,1)]:=kz
instance :Plc Tryz.prog 66 [(0,1),(1,1),(2,1)]:=kz
instance :Plc Tryz.prog 72 [(0,1),(1,1),(2,1)]:=kz
instance :Plc Tryz.prog 80 [(0,1),(1,1),(2,1)]:=kz
instance :Plc Tryz.prog 84 [(0,1),(1,1)]:=kz
instance :Plc Tryz.prog 98 [(0,1),(1,1),(2,1)]:=kz
instance :Plc Tryz.prog 101 [(0,1),(1,1),(2,1)]:=kz
instance :Plc Tryz.prog 115 [(0,1),(1,1)]:=kz
instance :Plc Tryz.prog 124 [(0,1),(1,1),(2,4),(6,1),(7,1),(8,1),(9,1),(10,1)]:=kz
instance :Plc Tryz.prog 164 [(0,3),(3,1),(4,1)]:=kz
instance :Plc Tryz.prog 175 [(0,1),(1,2),(3,1)]:=kz
instance :Elz Tryz.prog 22 3 1 8 [Value.int IntKind.i64 0]:=⟨by kernel_rfl,rfl⟩
instance :Elz Tryz.prog 24 80 3 64 [gs [],Value.slice none 0 0,Value.slice none 0 0]:=⟨by kernel_rfl,rfl⟩
instance :Elz Tryz.prog 25 84 2 40 [gs [],Value.slice none 0 0]:=⟨by kernel_rfl,rfl⟩
instance :Elz Tryz.prog 26 53 4 88 [gs [],Value.slice none 0 0,Value.slice none 0 0,Value.slice none 0 0]:=⟨by kernel_rfl,rfl⟩
instance :Elz Tryz.prog 43 42 3 40 [gs [],Value.int IntKind.i64 0,gs []]:=⟨by kernel_rfl,rfl⟩
instance :Elz Tryz.prog 46 45 6 64 [Value.int IntKind.i64 0,gs [],Value.int IntKind.i64 0,gs [],Value.int IntKind.i64 0,Value.int IntKind.i64 0]:=⟨by kernel_rfl,rfl⟩
instance :Elz Tryz.prog 47 72 3 56 [gs [],gs [],Value.slice none 0 0]:=⟨by kernel_rfl,rfl⟩
instance :Elz Tryz.prog 48 66 3 40 [gs [],gs [],Value.int IntKind.i64 0]:=⟨by kernel_rfl,rfl⟩
instance :Elz Tryz.prog 51 50 10 160 [Value.int IntKind.i64 0,gs [],gs [],gs [],gs [],Value.int IntKind.i64 0,Value.slice none 0 0,Value.slice none 0 0,Value.slice none 0 0,Value.int IntKind.i64 0]:=⟨by kernel_rfl,rfl⟩
instance :Elz Tryz.prog 60 61 1 24 [Value.slice none 0 0]:=⟨by kernel_rfl,rfl⟩
instance :Elz Tryz.prog 61 9 1 16 [gs []]:=⟨by kernel_rfl,rfl⟩
instance :Elz Tryz.prog 78 98 3 56 [gs [],gs [],Value.slice none 0 0]:=⟨by kernel_rfl,rfl⟩
instance :Elz Tryz.prog 82 101 3 48 [Value.int IntKind.i64 0,gs [],Value.slice none 0 0]:=⟨by kernel_rfl,rfl⟩
instance :Elz Tryz.prog 87 89 1 8 [Value.nilFunc]:=⟨by kernel_rfl,rfl⟩
instance :Elz Tryz.prog 92 88 1 8 [Value.nilFunc]:=⟨by kernel_rfl,rfl⟩
instance :Elz Tryz.prog 96 175 4 48 [gs [],Value.int IntKind.i64 0,gs [],Value.int IntKind.i64 0]:=⟨by kernel_rfl,rfl⟩
instance :Elz Tryz.prog 133 4 1 1 [Value.bool false]:=⟨by kernel_rfl,rfl⟩
instance :Elz Tryz.prog 162 22 1 24 [Value.slice none 0 0]:=⟨by kernel_rfl,rfl⟩
instance :Elz Tryz.prog 225 5 1 1 [Value.int IntKind.u8 0]:=⟨by kernel_rfl,rfl⟩
instance :Ty Tryz.prog 2 false 1:=kz
instance :Ty Tryz.prog 3 false 1:=kz
instance :Ty Tryz.prog 4 false 1:=kz
instance :Ty Tryz.prog 9 false 1:=kz
instance :Ty Tryz.prog 22 false 1:=kz
instance :Ty Tryz.prog 24 false 1:=kz
instance :Ty Tryz.prog 25 false 1:=kz
instance :Ty Tryz.prog 26 false 1:=kz
instance :Ty Tryz.prog 28 true 3:=kz
instance :Ty Tryz.prog 33 false 1:=kz
instance :Ty Tryz.prog 35 true 3:=kz
instance :Ty Tryz.prog 40 true 2:=kz
instance :Ty Tryz.prog 42 true 3:=kz
instance :Ty Tryz.prog 43 false 1:=kz
instance :Ty Tryz.prog 45 true 6:=kz
instance :Ty Tryz.prog 46 false 1:=kz
instance :Ty Tryz.prog 47 false 1:=kz
instance :Ty Tryz.prog 48 false 1:=kz
instance :Ty Tryz.prog 50 true 10:=kz
instance :Ty Tryz.prog 51 false 1:=kz
instance :Ty Tryz.prog 53 true 4:=kz
instance :Ty Tryz.prog 61 false 1:=kz
instance :Ty Tryz.prog 66 true 3:=kz
instance :Ty Tryz.prog 72 true 3:=kz
instance :Ty Tryz.prog 73 false 1:=kz
instance :Ty Tryz.prog 78 false 1:=kz
instance :Ty Tryz.prog 80 true 3:=kz
instance :Ty Tryz.prog 82 false 1:=kz
instance :Ty Tryz.prog 84 true 2:=kz
instance :Ty Tryz.prog 87 false 1:=kz
instance :Ty Tryz.prog 88 false 1:=kz
instance :Ty Tryz.prog 89 false 1:=kz
instance :Ty Tryz.prog 96 false 1:=kz
instance :Ty Tryz.prog 98 true 3:=kz
instance :Ty Tryz.prog 101 true 3:=kz
instance :Ty Tryz.prog 110 false 1:=kz
instance :Ty Tryz.prog 117 false 1:=kz
instance :Ty Tryz.prog 133 false 1:=kz
instance :Ty Tryz.prog 156 false 1:=kz
instance :Ty Tryz.prog 162 false 1:=kz
instance :Ty Tryz.prog 175 true 4:=kz
instance :Zero Tryz.prog 22 [Value.slice none 0 0]:=kz
instance :Zero Tryz.prog 28 [Value.slice none 0 0,Value.slice none 0 0,Value.slice none 0 0]:=kz
instance :Zero Tryz.prog 35 [Value.int IntKind.i64 0,Value.int IntKind.i64 0,Value.int IntKind.i64 0]:=kz
instance :Zero Tryz.prog 40 [Value.int IntKind.i64 0,gs []]:=kz
instance :Zero Tryz.prog 42 [gs [],Value.int IntKind.i64 0,gs []]:=kz
instance :Zero Tryz.prog 45 [Value.int IntKind.i64 0,gs [],Value.int IntKind.i64 0,gs [],Value.int IntKind.i64 0,Value.int IntKind.i64 0]:=kz
instance :Zero Tryz.prog 50 [Value.int IntKind.i64 0,gs [],gs [],gs [],gs [],Value.int IntKind.i64 0,Value.slice none 0 0,Value.slice none 0 0,Value.slice none 0 0,Value.int IntKind.i64 0]:=kz
instance :Zero Tryz.prog 53 [gs [],Value.slice none 0 0,Value.slice none 0 0,Value.slice none 0 0]:=kz
instance :Zero Tryz.prog 61 [Value.slice none 0 0]:=kz
instance :Zero Tryz.prog 66 [gs [],gs [],Value.int IntKind.i64 0]:=kz
instance :Zero Tryz.prog 72 [gs [],gs [],Value.slice none 0 0]:=kz
instance :Zero Tryz.prog 80 [gs [],Value.slice none 0 0,Value.slice none 0 0]:=kz
instance :Zero Tryz.prog 84 [gs [],Value.slice none 0 0]:=kz
instance :Zero Tryz.prog 98 [gs [],gs [],Value.slice none 0 0]:=kz
instance :Zero Tryz.prog 101 [Value.int IntKind.i64 0,gs [],Value.slice none 0 0]:=kz
instance :Zero Tryz.prog 110 [Value.nilFunc]:=kz
instance :Zero Tryz.prog 115 [Value.slice none 0 0,Value.int IntKind.i64 0]:=kz
instance :Zero Tryz.prog 117 [Value.nilFunc]:=kz
instance :Zero Tryz.prog 124 [Value.pointer none,Value.slice none 0 0,gs [],Value.slice none 0 0,Value.slice none 0 0,Value.slice none 0 0,gs [],Value.slice none 0 0,Value.int IntKind.i64 0,Value.int IntKind.i64 0,Value.int IntKind.i64 0]:=kz
instance :Zero Tryz.prog 133 [Value.slice none 0 0]:=kz
instance :Zero Tryz.prog 156 [Value.nilFunc]:=kz
instance :Zero Tryz.prog 164 [gs [],Value.slice none 0 0,Value.slice none 0 0,gs [],Value.slice none 0 0]:=kz
instance :Zero Tryz.prog 175 [gs [],Value.int IntKind.i64 0,gs [],Value.int IntKind.i64 0]:=kz
instance :Fld Tryz.prog 28 0 0:=kz
instance :Fld Tryz.prog 28 1 1:=kz
instance :Fld Tryz.prog 28 2 2:=kz
instance :Fld Tryz.prog 35 0 0:=kz
instance :Fld Tryz.prog 40 0 0:=kz
instance :Fld Tryz.prog 40 1 1:=kz
instance :Fld Tryz.prog 42 0 0:=kz
instance :Fld Tryz.prog 42 1 1:=kz
instance :Fld Tryz.prog 45 0 0:=kz
instance :Fld Tryz.prog 45 1 1:=kz
instance :Fld Tryz.prog 45 2 2:=kz
instance :Fld Tryz.prog 45 3 3:=kz
instance :Fld Tryz.prog 45 4 4:=kz
instance :Fld Tryz.prog 45 5 5:=kz
instance :Fld Tryz.prog 50 0 0:=kz
instance :Fld Tryz.prog 50 1 1:=kz
instance :Fld Tryz.prog 50 2 2:=kz
instance :Fld Tryz.prog 50 3 3:=kz
instance :Fld Tryz.prog 50 4 4:=kz
instance :Fld Tryz.prog 50 5 5:=kz
instance :Fld Tryz.prog 50 6 6:=kz
instance :Fld Tryz.prog 50 7 7:=kz
instance :Fld Tryz.prog 50 8 8:=kz
instance :Fld Tryz.prog 50 9 9:=kz
instance :Fld Tryz.prog 53 0 0:=kz
instance :Fld Tryz.prog 53 1 1:=kz
instance :Fld Tryz.prog 53 2 2:=kz
instance :Fld Tryz.prog 53 3 3:=kz
instance :Fld Tryz.prog 66 0 0:=kz
instance :Fld Tryz.prog 66 1 1:=kz
instance :Fld Tryz.prog 66 2 2:=kz
instance :Fld Tryz.prog 72 0 0:=kz
instance :Fld Tryz.prog 72 1 1:=kz
instance :Fld Tryz.prog 72 2 2:=kz
instance :Fld Tryz.prog 80 0 0:=kz
instance :Fld Tryz.prog 80 1 1:=kz
instance :Fld Tryz.prog 80 2 2:=kz
instance :Fld Tryz.prog 84 0 0:=kz
instance :Fld Tryz.prog 84 1 1:=kz
instance :Fld Tryz.prog 98 0 0:=kz
instance :Fld Tryz.prog 98 1 1:=kz
instance :Fld Tryz.prog 98 2 2:=kz
instance :Fld Tryz.prog 101 0 0:=kz
instance :Fld Tryz.prog 101 1 1:=kz
instance :Fld Tryz.prog 101 2 2:=kz
instance :Fld Tryz.prog 115 0 0:=kz
instance :Fld Tryz.prog 115 1 1:=kz
instance :Fld Tryz.prog 124 0 0:=kz
instance :Fld Tryz.prog 124 1 1:=kz
instance :Fld Tryz.prog 124 2 2:=kz
instance :Fld Tryz.prog 124 3 6:=kz
instance :Fld Tryz.prog 124 4 7:=kz
instance :Fld Tryz.prog 124 5 8:=kz
instance :Fld Tryz.prog 124 6 9:=kz
instance :Fld Tryz.prog 124 7 10:=kz
instance :Fld Tryz.prog 164 0 0:=kz
instance :Fld Tryz.prog 164 1 3:=kz
instance :Fld Tryz.prog 164 2 4:=kz
instance :Fld Tryz.prog 175 0 0:=kz
instance :Fld Tryz.prog 175 1 1:=kz
instance :Fld Tryz.prog 175 2 3:=kz
instance :MapTB Tryz.prog 212:=kz
instance :Und Tryz.prog 2 (TypeDesc.int IntKind.i64):=kz
instance :Und Tryz.prog 3 (TypeDesc.int IntKind.i64):=kz
instance :Und Tryz.prog 5 (TypeDesc.int IntKind.u8):=kz
instance :Und Tryz.prog 9 TypeDesc.string:=kz
instance :Und Tryz.prog 30 (TypeDesc.int IntKind.u64):=kz
instance :Und Tryz.prog 197 (TypeDesc.int IntKind.u64):=kz
instance :Body Tryz.prog 9:=kz
instance :Body Tryz.prog 11:=kz
instance :Body Tryz.prog 13:=kz
instance :Body Tryz.prog 14:=kz
instance :Body Tryz.prog 15:=kz
instance :Body Tryz.prog 16:=kz
instance :Body Tryz.prog 21:=kz
instance :Body Tryz.prog 23:=kz
instance :Body Tryz.prog 24:=kz
instance :Body Tryz.prog 25:=kz
instance :Body Tryz.prog 26:=kz
instance :Body Tryz.prog 27:=kz
instance :Body Tryz.prog 28:=kz
instance :Body Tryz.prog 29:=kz
instance :Body Tryz.prog 30:=kz
instance :Body Tryz.prog 31:=kz
instance :Body Tryz.prog 32:=kz
instance :Body Tryz.prog 34:=kz
instance :Body Tryz.prog 35:=kz
instance :Body Tryz.prog 36:=kz
instance :Body Tryz.prog 37:=kz
instance :Body Tryz.prog 38:=kz
instance :Body Tryz.prog 39:=kz
instance :Body Tryz.prog 40:=kz
instance :Body Tryz.prog 41:=kz
instance :Body Tryz.prog 42:=kz
instance :Body Tryz.prog 43:=kz
instance :Body Tryz.prog 44:=kz
instance :Body Tryz.prog 45:=kz
instance :Body Tryz.prog 46:=kz
instance :Body Tryz.prog 47:=kz
instance :Body Tryz.prog 49:=kz
instance :Body Tryz.prog 51:=kz
instance :Body Tryz.prog 58:=kz
instance :Body Tryz.prog 59:=kz
instance :Body Tryz.prog 60:=kz
instance :Body Tryz.prog 61:=kz
instance :Body Tryz.prog 62:=kz
instance :Body Tryz.prog 63:=kz
instance :Body Tryz.prog 64:=kz
instance :Body Tryz.prog 65:=kz
instance :Body Tryz.prog 66:=kz
instance :Body Tryz.prog 67:=kz
instance :Body Tryz.prog 68:=kz
instance :Body Tryz.prog 69:=kz
instance :Body Tryz.prog 70:=kz
instance :Body Tryz.prog 71:=kz
instance :Body Tryz.prog 72:=kz
instance :Body Tryz.prog 73:=kz
instance :Body Tryz.prog 74:=kz
instance :Body Tryz.prog 75:=kz
instance :Body Tryz.prog 77:=kz
instance :Body Tryz.prog 78:=kz
instance :Body Tryz.prog 79:=kz
instance :Body Tryz.prog 80:=kz
instance :Body Tryz.prog 81:=kz
instance :Body Tryz.prog 82:=kz
instance :Body Tryz.prog 83:=kz
instance :Body Tryz.prog 84:=kz
instance :Body Tryz.prog 85:=kz
instance :Body Tryz.prog 86:=kz
instance :Body Tryz.prog 87:=kz
instance :Body Tryz.prog 88:=kz
instance :Body Tryz.prog 89:=kz
instance :Body Tryz.prog 90:=kz
instance :Body Tryz.prog 91:=kz
instance :Body Tryz.prog 92:=kz
instance :Body Tryz.prog 93:=kz
instance :Body Tryz.prog 94:=kz
instance :Body Tryz.prog 95:=kz
instance :Body Tryz.prog 96:=kz
instance :Body Tryz.prog 97:=kz
instance :Body Tryz.prog 98:=kz
instance :Body Tryz.prog 99:=kz
instance :Body Tryz.prog 100:=kz
instance :Body Tryz.prog 101:=kz
instance :Body Tryz.prog 117:=kz
instance :Body Tryz.prog 118:=kz
instance :Body Tryz.prog 119:=kz
instance :Body Tryz.prog 120:=kz
instance :Body Tryz.prog 123:=kz
instance :Body Tryz.prog 124:=kz
instance :Body Tryz.prog 125:=kz
instance :Body Tryz.prog 126:=kz
instance :Body Tryz.prog 127:=kz
instance :Body Tryz.prog 128:=kz
instance :Body Tryz.prog 129:=kz
instance :Body Tryz.prog 130:=kz
instance :Body Tryz.prog 131:=kz
instance :Body Tryz.prog 132:=kz
instance :Body Tryz.prog 133:=kz
instance :Body Tryz.prog 134:=kz
instance :Body Tryz.prog 135:=kz
instance :Body Tryz.prog 136:=kz
instance :Body Tryz.prog 137:=kz
instance :Body Tryz.prog 138:=kz
instance :Body Tryz.prog 139:=kz
instance :Body Tryz.prog 140:=kz
instance :Body Tryz.prog 141:=kz
instance :Body Tryz.prog 142:=kz
instance :Body Tryz.prog 143:=kz
instance :Body Tryz.prog 144:=kz
instance :Body Tryz.prog 145:=kz
instance :Body Tryz.prog 146:=kz
instance :Body Tryz.prog 147:=kz
instance :Body Tryz.prog 148:=kz
instance :Body Tryz.prog 153:=kz
instance :Body Tryz.prog 168:=kz
instance :Body Tryz.prog 169:=kz
instance :Body Tryz.prog 170:=kz
instance :Body Tryz.prog 171:=kz
instance :Body Tryz.prog 172:=kz
instance :Body Tryz.prog 173:=kz
instance :Body Tryz.prog 174:=kz
instance :Body Tryz.prog 175:=kz
instance :Body Tryz.prog 176:=kz
instance :Body Tryz.prog 177:=kz
instance :Body Tryz.prog 178:=kz
instance :Body Tryz.prog 179:=kz
instance :Body Tryz.prog 180:=kz
instance :Body Tryz.prog 181:=kz
instance :Body Tryz.prog 182:=kz
instance :Body Tryz.prog 183:=kz
instance :Body Tryz.prog 185:=kz
instance :Body Tryz.prog 192:=kz
instance :Body Tryz.prog 193:=kz
instance :Body Tryz.prog 194:=kz
instance :Body Tryz.prog 195:=kz
instance :Body Tryz.prog 196:=kz
end Go.Sx
namespace Go.Sx
open Go Go.Proofs Go.Proofs.YtjnlogbbcceaoaaGreat
section
variable {P:Program}
def OpensB (P:Program)(t:TypeId){α:Type}(en:α→List Value)(ok:Hp→α→Prop):Prop:=
 ∀(HH:Type) (enc:TypeId×Value→HH) (W:World) (fuel:Nat) (cs:List Value) (x:DataW HH×List MemPlace),DataW.trod enc P W 0 (fun _=>true) true fuel t cs=some x→Rows.uptoBulk x.1≤1048576→∃a:α,cs=en a∧ok (Aq W) a
theorem Fi {HH:Type}(d:DataW HH):1≤Rows.uptoBulk d:=by
 cases d with
 | lit l=>cases l<;>simp [Rows.uptoBulk]
 | nil=>simp [Rows.uptoBulk]
 | ptr d=>simp [Rows.uptoBulk]
 | slice elems spare=>simp [Rows.uptoBulk]
 | agg parts=>simp [Rows.uptoBulk]
 | iface t d=>simp [Rows.uptoBulk]
 | map entries=>simp [Rows.uptoBulk]
 | held h=>simp [Rows.uptoBulk]
theorem oC {HH:Type}{d:DataW HH}:∀{l:List (DataW HH)},d∈l→Rows.uptoBulk d≤Rows.uptoBulkAll l
 | x::r,h=>by
  simp only [Rows.uptoBulkAll]
  rcases List.mem_cons.1 h with e | e
  ·subst e;omega
  ·have:=oC e;omega
theorem zx {HH:Type}:∀{l:List (DataW HH)},l.length≤Rows.uptoBulkAll l
 | []=>by simp [Rows.uptoBulkAll]
 | x::r=>by
  simp only [Rows.uptoBulkAll,List.length_cons]
  have:=Fi x;have:=zx (l:=r);omega
theorem BM {HH:Type}{l:List (DataW HH)}{d:DataW HH}{i:Nat}(hk:Rows.uptoSmall HH l=true)(hi:l[i]? =some d):Rows.uptoBulk d≤1048576:=by
 have h1:Rows.uptoBulkAll l≤1048576:=of_decide_eq_true hk
 have h2:=oC (List.mem_of_getElem? hi)
 omega
theorem vw {t:TypeId}{α:Type}{en:α→List Value}{ok:Hp→α→Prop}(h:Fu P t en ok):OpensB P t en ok:=fun HH enc W fuel cs x hx _=>h HH enc W fuel cs x hx
theorem mS {t e:TypeId}{k:Nat}{α:Type}{en:α→List Value}{ok:Hp→α→Prop}(ht:P.underlying t=some (.slice e))(hk:P.cellsOf e=k)(hpos:0<k)(he:OpensB P e en ok):
  OpensB P t (fun v:Sp×List α=>[.slice v.1.1 v.2.length v.1.2]) (fun H v=>RdSl H k en (.slice v.1.1 v.2.length v.1.2) v.2∧v.2.length≤1048576∧∀x∈v.2,ok H x):=by
 subst hk
 intro HH enc W fuel cs x h hbk
 rcases Go.Deep.open_slice ht h with ⟨rfl,_⟩ | ⟨a,len,cap,m,n,D,Pl,rfl,_,hl,hm,hmm,hxe,hx⟩
 ·exact⟨((none,0),[]),rfl,RdSl.nil,Nat.zero_le _,by simp⟩
 ·have hlm:m=cap:=by simpa using hmm
  subst hlm
  have hd:x.1= .slice ((List.range len).map D) ((List.range (m - len)).map fun j=>D (len+j)):=by rw [hxe]
  rw [hd] at hbk
  simp only [Rows.uptoBulk] at hbk
  have hlen1:len≤1048576:=by
   have:=zx (l:=(List.range len).map D)
   simp at this
   omega
  have hel:∀i,i<len→∃z:α,∃cs',W.cells? 0 (a.add (i * P.cellsOf e)) (P.cellsOf e)=some cs'∧cs'=en z∧ok (Aq W) z:=fun i hi=>by
   obtain⟨cs',h1,h2⟩:=hx i om
   have hbi:Rows.uptoBulk (D i)≤1048576:=by
    have:=oC (d:=D i) (l:=(List.range len).map D) (List.mem_map.2 ⟨i,List.mem_range.2 hi,rfl⟩)
    omega
   obtain⟨z,h3,h4⟩:=he HH enc W n cs' _ h2 hbi
   exact⟨z,cs',h1,h3,h4⟩
  have hch:=pJ hel
  obtain⟨l,hlen,hget⟩:=hch
  have hspot:l≠[]→a.spot=none:=fun hne=>by
   cases l with
   | nil=>exact absurd rfl hne
   | cons z l=>
    obtain⟨cs',h1,h2,_⟩:=hget 0 z rfl
    obtain⟨_,h3,h4⟩:=World.cells?_some h1
    have h5:=h4 0 om
    have h6:cs'[0]? =some (cs'[0]'om):=List.getElem?_eq_getElem om
    rw [h6] at h5
    have:=B6 h5
    simpa [Addr.add] using this
  refine⟨((some a,m),l),(by simp only;rw [hlen]),⟨⟨_,_,rfl⟩,(by show l.length≤_;unfold maxLen at hm;omega),fun hne=>⟨m,?_⟩,fun i z hz j u hu=>?_,fun a' n' c' e=>by injection e with _ _ e;have e2:m=c':=e;show l.length≤c';omega⟩,by dsimp only;omega,fun z hz=>?_⟩
  ·have:=hspot hne
   obtain⟨b,o,sp⟩:=a
   simp only at this
   subst this
   simp [blk,off,hlen]
  ·obtain⟨cs',h1,rfl,_⟩:=hget i z hz
   obtain⟨_,h3,h4⟩:=World.cells?_some h1
   have hj:j<P.cellsOf e:=by rw [← h3];exact(List.getElem?_eq_some_iff.1 hu).1
   have h5:=h4 j hj
   have hsp:=hspot (fun e=>by rw [e] at hz;simp at hz)
   obtain⟨b,o,sp⟩:=a
   simp only at hsp
   subst hsp
   rw [fR,fR] at h5
   simp only [Aq,blk,off]
   exact h5.trans hu
  ·obtain⟨i,hi⟩:=List.mem_iff_getElem?.1 hz
   obtain⟨cs',_,_,h4⟩:=hget i z hi
   exact h4
theorem OpensB.one {HH:Type}{enc:TypeId×Value→HH}{t:TypeId}{α:Type}{en:α→List Value}{ok:Hp→α→Prop}{W:World}{v:Value}{d:DataW HH}{p:List MemPlace}(h:OpensB P t en ok)(hT:DataW.Trod enc P W 0 (fun _=>true) true t v d p)(hb:Rows.uptoBulk d≤1048576):
  ∃a:α,v.cells.toList=en a∧ok (Aq W) a:=by
 obtain⟨fuel,hf⟩:=hT
 exact h HH enc W fuel _ _ hf hb
end
end Go.Sx
namespace Go.Sx
open Go Go.Proofs
theorem kt {H:Hp}(c:UInt8):
  FnS Tryz.prog 136 [.int .u8 (c.toNat:Int)] H (.bool (fm c)):=by
 refine FnS.enter Tryz.func136 Tryz.ntmps136 rfl rfl (fun w0=>?_)
 refine k4 ?_;refine gw ?_
 refine ai (s:=5) rfl ?_ ?_<;>intro g5
 ·
  have q5:=of_decide_eq_true g5
  refine yj ?_
  exact aR (.inr rfl) (ad rfl (RVal.tmp rfl)) ⟨congrArg Value.bool (by simp [fm,g5]),rfl⟩
 have q5:=of_decide_eq_false g5
 refine jm ?_;refine fq ?_
 exact aR (.inr rfl) (ad rfl (RVal.tmp rfl)) ⟨congrArg Value.bool (by simp [fm,g5]),rfl⟩
theorem Al {H:Hp}(c:UInt8):
  FnS Tryz.prog 138 [.int .u8 (c.toNat:Int)] H (.bool (iT c)):=by
 refine FnS.enter Tryz.func138 Tryz.ntmps138 rfl rfl (fun w0=>?_)
 refine k4 ?_;refine gw ?_
 refine ai (s:=5) rfl ?_ ?_<;>intro g5
 ·
  have q5:=of_decide_eq_true g5
  refine yj ?_
  exact aR (.inr rfl) (ad rfl (RVal.tmp rfl)) ⟨congrArg Value.bool (by simp [iT,g5]),rfl⟩
 have q5:=of_decide_eq_false g5
 refine jm ?_;refine fq ?_
 exact aR (.inr rfl) (ad rfl (RVal.tmp rfl)) ⟨congrArg Value.bool (by simp [iT,g5]),rfl⟩
theorem mX {H:Hp}(s:Str):
  FnS Tryz.prog 137 [gs s] H (.bool (dT s)):=by
 refine FnS.enter Tryz.func137 Tryz.ntmps137 rfl rfl (fun w0=>?_)
 refine jt ?_
 refine bO (kw1 s) 4 [(2,_),(3,_)] ⟨rfl,rfl,trivial⟩ ?_ ?_
 ·
  refine Bc ?_;refine AI ?_
  exact eR (bW rfl rfl rfl) rfl rfl ⟨rfl,rfl,trivial⟩
 refine TC.cond rfl ?_ ?_<;>intro c4
 ·
  refine nE ?_
  exact aR (.inr rfl) (ad rfl (RVal.tmp rfl)) ⟨congrArg Value.bool (by simp_all [dT]),rfl⟩
 refine bO (kw2 s) 18 [(2,_),(3,_)] ⟨rfl,rfl,trivial⟩ ?_ ?_
 ·
  refine Bc ?_;refine AI ?_
  exact eR (bW rfl rfl rfl) rfl rfl ⟨rfl,rfl,trivial⟩
 refine TC.cond rfl ?_ ?_<;>intro c18
 ·
  refine nE ?_
  exact aR (.inr rfl) (ad rfl (RVal.tmp rfl)) ⟨congrArg Value.bool (by simp_all [dT]),rfl⟩
 refine bO (kw3 s) 32 [(2,_)] ⟨rfl,trivial⟩ ?_ ?_
 ·
  refine Dz ?_;refine Dd ?_
  exact eR (bW rfl rfl rfl) rfl rfl ⟨rfl,trivial⟩
 refine TC.cond rfl ?_ ?_<;>intro c32
 ·
  refine nE ?_
  exact aR (.inr rfl) (ad rfl (RVal.tmp rfl)) ⟨congrArg Value.bool (by simp_all [dT]),rfl⟩
 refine uD ?_
 exact aR (.inr rfl) (ad rfl (RVal.tmp rfl)) ⟨congrArg Value.bool (by simp_all [dT]),rfl⟩
theorem EM {H:Hp}(s:Str)(hmax:s.length≤9223372036854775807):
  FnS Tryz.prog 79 [gs s] H (.bool (au s)):=by
 refine FnS.enter Tryz.func79 Tryz.ntmps79 rfl rfl (fun w0=>?_)
 refine oM ?_;refine TL.run (eq rfl rfl) rfl (zm3 ?_)
 refine ai (s:=7) rfl ?_ ?_<;>intro g7
 · exact zq42
 have q7:=of_decide_eq_false g7
 refine cK ?_;refine aC rfl rfl (eq rfl rfl) rfl (db ?_)
 refine ai (s:=12) rfl ?_ ?_<;>intro g12
 ·
  have q12:=of_decide_eq_true g12
  exact zq44
 have q12:=of_decide_eq_false g12
 refine cK ?_
 have hlen:(0:Int)<s.length:=by have:=of_decide_eq_false g7;omega
 obtain⟨c0,hc0⟩:=ao (l:=s) (i:=0) om hlen
 refine aC rfl rfl (gn rfl rfl om hc0) rfl (aO rfl rfl (ab rfl rfl rfl rfl) (kt c0) rfl (db ?_))
 refine ai (s:=18) rfl ?_ ?_<;>intro g18
 · exact zq50
 refine cK ?_;refine aO rfl rfl (ab rfl rfl rfl rfl) (mX s) rfl (zm1 ?_)
 refine TC.cond rfl ?_ ?_<;>intro c21
 · exact zq56
 have hn:=oq g7 g12 hc0 g18 c21
 exact zq0
theorem py {H:Hp}(c:UInt8):
  FnS Tryz.prog 99 [.int .u8 (c.toNat:Int)] H (.bool (fm c)):=by
 refine FnS.enter Tryz.func99 Tryz.ntmps99 rfl rfl (fun w0=>?_)
 refine k4 ?_;refine gw ?_
 refine ai (s:=5) rfl ?_ ?_<;>intro g5
 ·
  have q5:=of_decide_eq_true g5
  refine yj ?_
  exact aR (.inr rfl) (ad rfl (RVal.tmp rfl)) ⟨congrArg Value.bool (by simp [fm,g5]),rfl⟩
 have q5:=of_decide_eq_false g5
 refine jm ?_;refine fq ?_
 exact aR (.inr rfl) (ad rfl (RVal.tmp rfl)) ⟨congrArg Value.bool (by simp [fm,g5]),rfl⟩
theorem z1 {H:Hp}(c:UInt8):
  FnS Tryz.prog 101 [.int .u8 (c.toNat:Int)] H (.bool (iT c)):=by
 refine FnS.enter Tryz.func101 Tryz.ntmps101 rfl rfl (fun w0=>?_)
 refine k4 ?_;refine gw ?_
 refine ai (s:=5) rfl ?_ ?_<;>intro g5
 ·
  have q5:=of_decide_eq_true g5
  refine yj ?_
  exact aR (.inr rfl) (ad rfl (RVal.tmp rfl)) ⟨congrArg Value.bool (by simp [iT,g5]),rfl⟩
 have q5:=of_decide_eq_false g5
 refine jm ?_;refine fq ?_
 exact aR (.inr rfl) (ad rfl (RVal.tmp rfl)) ⟨congrArg Value.bool (by simp [iT,g5]),rfl⟩
theorem wB {H:Hp}(s:Str):
  FnS Tryz.prog 100 [gs s] H (.bool (dT s)):=by
 refine FnS.enter Tryz.func100 Tryz.ntmps100 rfl rfl (fun w0=>?_)
 refine jt ?_
 refine bO (rkw1 s) 4 [(2,_),(3,_)] ⟨rfl,rfl,trivial⟩ ?_ ?_
 ·
  refine Bc ?_;refine Bc ?_
  exact cw (bW rfl rfl rfl) rfl rfl ⟨rfl,rfl,trivial⟩ (cw (bW rfl rfl rfl) rfl rfl ⟨rfl,rfl,trivial⟩ (cw (bW rfl rfl rfl) rfl rfl ⟨rfl,rfl,trivial⟩ (eR (bW rfl rfl rfl) rfl rfl ⟨rfl,rfl,trivial⟩)))
 refine TC.cond rfl ?_ ?_<;>intro c4
 ·
  refine nE ?_
  exact aR (.inr rfl) (ad rfl (RVal.tmp rfl)) ⟨congrArg Value.bool (by simp_all [← zX]),rfl⟩
 refine bO (rkw2 s) 25 [(2,_)] ⟨rfl,trivial⟩ ?_ ?_
 · refine Dz ?_;refine Dz ?_;exact cw (bW rfl rfl rfl) rfl rfl ⟨rfl,trivial⟩ (cw (bW rfl rfl rfl) rfl rfl ⟨rfl,trivial⟩ (eR (bW rfl rfl rfl) rfl rfl ⟨rfl,trivial⟩))
 refine TC.cond rfl ?_ ?_<;>intro c25
 ·
  refine nE ?_
  exact aR (.inr rfl) (ad rfl (RVal.tmp rfl)) ⟨congrArg Value.bool (by simp_all [← zX]),rfl⟩
 refine uD ?_
 exact aR (.inr rfl) (ad rfl (RVal.tmp rfl)) ⟨congrArg Value.bool (by simp_all [← zX]),rfl⟩
end Go.Sx
namespace Go.Proofs
open Go.Shelf
def Tryz.lays145_ren:Go.Shelf.Ren:=⟨fun | 145=>196 | 220=>200 | 219=>201 | 217=>202 | 225=>203 | 224=>204 | 267=>205 | 266=>206 | 314=>207 | n=>n,fun | 9=>9 | 4=>4 | 59=>226 | 3=>3 | 5=>5 | 46=>30 | 146=>233 | 51=>195 | n=>n,fun | 1=>0 | n=>n⟩
theorem Tryz.lays145:Go.Proofs.Lays.n145 Tryz.prog Tryz.lays145_ren:={
 mixed:=by kernel_rfl
 f145:=Tryz.func196.trans (congrArg some (by kernel_rfl))
 f217:=Tryz.func202.trans (congrArg some (by kernel_rfl))
 f219:=Tryz.func201.trans (congrArg some (by kernel_rfl))
 f220:=Tryz.func200.trans (congrArg some (by kernel_rfl))
 f224:=Tryz.func204.trans (congrArg some (by kernel_rfl))
 f225:=Tryz.func203.trans (congrArg some (by kernel_rfl))
 f266:=Tryz.func206.trans (congrArg some (by kernel_rfl))
 f267:=Tryz.func205.trans (congrArg some (by kernel_rfl))
 f314:=Tryz.func207.trans (congrArg some (by kernel_rfl))
 t3:=Tryz.underlying3
 a3:=Tryz.isAgg3
 z3:=Tryz.sizeOf3
 v3:=Tryz.zeroValue3
 t4:=Tryz.underlying4
 a4:=Tryz.isAgg4
 z4:=Tryz.sizeOf4
 v4:=Tryz.zeroValue4
 t5:=Tryz.underlying5
 a5:=Tryz.isAgg5
 z5:=Tryz.sizeOf5
 v5:=Tryz.zeroValue5
 t9:=Tryz.underlying9
 a9:=Tryz.isAgg9
 z9:=Tryz.sizeOf9
 v9:=Tryz.zeroValue9
 t46:=Tryz.underlying30
 a46:=Tryz.isAgg30
 z46:=Tryz.sizeOf30
 v46:=Tryz.zeroValue30
 t51:=Tryz.underlying195
 a51:=Tryz.isAgg195
 z51:=Tryz.sizeOf195
 v51:=Tryz.zeroValue195
 t59:=Tryz.underlying226
 a59:=Tryz.isAgg226
 z59:=Tryz.sizeOf226
 v59:=Tryz.zeroValue226
 t146:=Tryz.underlying233
 a146:=Tryz.isAgg233
 z146:=Tryz.sizeOf233
 v146:=Tryz.zeroValue233
 g1:=by kernel_rfl}
open Go.RowKit Go.Lib in
theorem Tryz.strings_Cut (s sep:ByteArray)(m:Int)(w:World)(hs:s.size<4294967281)(hm:w.cell? ⟨0,0,none⟩=some (.int .i64 m)):
  Calls Tryz.prog 196 #[.string s,.string sep] w fun e w'=>e= .returned (.tuple #[.string ⟨(Lib.cut s.data.toList sep.data.toList).1.toArray⟩,.string ⟨(Lib.cut s.data.toList sep.data.toList).2.1.toArray⟩,.bool (Lib.cut s.data.toList sep.data.toList).2.2])∧∃n,w'=w.drewN n:=Any.strings_Cut Tryz.lays145 s sep m w hs hm
def Tryz.lays190_ren:Go.Shelf.Ren:=⟨fun | 190=>61 | 125=>122 | 258=>121 | 128=>166 | 129=>167 | 302=>157 | 303=>158 | 304=>159 | 305=>160 | 306=>161 | 307=>162 | 308=>163 | 309=>164 | 310=>165 | 333=>186 | 329=>187 | 330=>188 | 334=>189 | 335=>190 | 336=>191 | 344=>199 | n=>n,fun | 31=>61 | 9=>9 | 3=>3 | 46=>30 | 0=>0 | 51=>195 | 53=>197 | 4=>4 | 183=>187 | 182=>186 | 131=>192 | 5=>5 | 218=>215 | 222=>219 | 228=>228 | 229=>229 | n=>n,fun | n=>n⟩
theorem Tryz.lays190:Go.Proofs.Lays.n190 Tryz.prog Tryz.lays190_ren:={
 mixed:=by kernel_rfl
 f125:=Tryz.func122.trans (congrArg some (by kernel_rfl))
 f128:=Tryz.func166.trans (congrArg some (by kernel_rfl))
 f129:=Tryz.func167.trans (congrArg some (by kernel_rfl))
 f190:=Tryz.func61.trans (congrArg some (by kernel_rfl))
 f258:=Tryz.func121.trans (congrArg some (by kernel_rfl))
 f302:=Tryz.func157.trans (congrArg some (by kernel_rfl))
 f303:=Tryz.func158.trans (congrArg some (by kernel_rfl))
 f304:=Tryz.func159.trans (congrArg some (by kernel_rfl))
 f305:=Tryz.func160.trans (congrArg some (by kernel_rfl))
 f306:=Tryz.func161.trans (congrArg some (by kernel_rfl))
 f307:=Tryz.func162.trans (congrArg some (by kernel_rfl))
 f308:=Tryz.func163.trans (congrArg some (by kernel_rfl))
 f309:=Tryz.func164.trans (congrArg some (by kernel_rfl))
 f310:=Tryz.func165.trans (congrArg some (by kernel_rfl))
 f329:=Tryz.func187.trans (congrArg some (by kernel_rfl))
 f330:=Tryz.func188.trans (congrArg some (by kernel_rfl))
 f333:=Tryz.func186.trans (congrArg some (by kernel_rfl))
 f334:=Tryz.func189.trans (congrArg some (by kernel_rfl))
 f335:=Tryz.func190.trans (congrArg some (by kernel_rfl))
 f336:=Tryz.func191.trans (congrArg some (by kernel_rfl))
 f344:=Tryz.func199.trans (congrArg some (by kernel_rfl))
 t0:=Tryz.underlying0
 a0:=Tryz.isAgg0
 z0:=Tryz.sizeOf0
 v0:=Tryz.zeroValue0
 t3:=Tryz.underlying3
 a3:=Tryz.isAgg3
 z3:=Tryz.sizeOf3
 v3:=Tryz.zeroValue3
 t4:=Tryz.underlying4
 a4:=Tryz.isAgg4
 z4:=Tryz.sizeOf4
 v4:=Tryz.zeroValue4
 t5:=Tryz.underlying5
 a5:=Tryz.isAgg5
 z5:=Tryz.sizeOf5
 v5:=Tryz.zeroValue5
 t9:=Tryz.underlying9
 a9:=Tryz.isAgg9
 z9:=Tryz.sizeOf9
 v9:=Tryz.zeroValue9
 t31:=Tryz.underlying61
 a31:=Tryz.isAgg61
 z31:=Tryz.sizeOf61
 v31:=Tryz.zeroValue61
 t46:=Tryz.underlying30
 a46:=Tryz.isAgg30
 z46:=Tryz.sizeOf30
 v46:=Tryz.zeroValue30
 t51:=Tryz.underlying195
 a51:=Tryz.isAgg195
 z51:=Tryz.sizeOf195
 v51:=Tryz.zeroValue195
 t53:=Tryz.underlying197
 a53:=Tryz.isAgg197
 z53:=Tryz.sizeOf197
 v53:=Tryz.zeroValue197
 t131:=Tryz.underlying192
 a131:=Tryz.isAgg192
 z131:=Tryz.sizeOf192
 v131:=Tryz.zeroValue192
 t182:=Tryz.underlying186
 a182:=Tryz.isAgg186
 z182:=Tryz.sizeOf186
 v182:=Tryz.zeroValue186
 t183:=Tryz.underlying187
 a183:=Tryz.isAgg187
 z183:=Tryz.sizeOf187
 v183:=Tryz.zeroValue187
 t218:=Tryz.underlying215
 a218:=Tryz.isAgg215
 z218:=Tryz.sizeOf215
 v218:=Tryz.zeroValue215
 t222:=Tryz.underlying219
 a222:=Tryz.isAgg219
 z222:=Tryz.sizeOf219
 v222:=Tryz.zeroValue219
 t228:=Tryz.underlying228
 a228:=Tryz.isAgg228
 z228:=Tryz.sizeOf228
 v228:=Tryz.zeroValue228
 t229:=Tryz.underlying229
 a229:=Tryz.isAgg229
 z229:=Tryz.sizeOf229
 v229:=Tryz.zeroValue229}
open Go.Sort Go.RowKit in
theorem Tryz.slices_Sort_string (blk off cap:Nat)(ss:List (List UInt8))(w:World)(hH:Holds encStr w blk off ss.toArray)(hblk:blk<w.heap.size)(hsz:ss.length<4611686018427387904):
  Calls Tryz.prog 61 #[.slice (some ⟨blk,off,none⟩) ss.length cap] w fun e w'=>
   e= .returned (.tuple #[])∧∃n os,w'=grow (putRow encStr (Sort.ahead w n) blk off (ss.mergeSort fun x y=>decide (x≤y)).toArray) os:=Any.slices_Sort_string Tryz.lays190 blk off cap ss w hH hblk hsz
def Tryz.lays194_ren:Go.Shelf.Ren:=⟨fun | 194=>62 | n=>n,fun | 31=>61 | 9=>9 | 3=>3 | 4=>4 | 0=>0 | n=>n,fun | n=>n⟩
theorem Tryz.lays194:Go.Proofs.Lays.n194 Tryz.prog Tryz.lays194_ren:={
 mixed:=by kernel_rfl
 f194:=Tryz.func62.trans (congrArg some (by kernel_rfl))
 t0:=Tryz.underlying0
 a0:=Tryz.isAgg0
 z0:=Tryz.sizeOf0
 v0:=Tryz.zeroValue0
 t3:=Tryz.underlying3
 a3:=Tryz.isAgg3
 z3:=Tryz.sizeOf3
 v3:=Tryz.zeroValue3
 t4:=Tryz.underlying4
 a4:=Tryz.isAgg4
 z4:=Tryz.sizeOf4
 v4:=Tryz.zeroValue4
 t9:=Tryz.underlying9
 a9:=Tryz.isAgg9
 z9:=Tryz.sizeOf9
 v9:=Tryz.zeroValue9
 t31:=Tryz.underlying61
 a31:=Tryz.isAgg61
 z31:=Tryz.sizeOf61
 v31:=Tryz.zeroValue61}
open Go.RowKit Go.Lib Go.Sort in
theorem Tryz.slices_Compact_string (blk off cap:Nat)(zs:List (List UInt8))(w:World)(hH:Holds encStr w blk off zs.toArray)(hsz:zs.length≤9223372036854775807)(hcap:zs.length≤cap):
  Calls Tryz.prog 62 #[.slice (some ⟨blk,off,none⟩) zs.length cap] w fun e w'=>e= .returned (.slice (some ⟨blk,off,none⟩) (Lib.compact zs).length cap)∧∃q,w'=putRow encStr (Sort.ahead w q) blk off (Lib.compact zs++List.replicate (zs.length - (Lib.compact zs).length) []).toArray:=Any.slices_Compact_string Tryz.lays194 blk off cap zs w hH hsz hcap
open Go.RowKit Go.Lib Go.Sort in
theorem Tryz.slices_Compact_string_empty (a:Option Addr)(cap:Nat)(w:World):
  Calls Tryz.prog 62 #[.slice a 0 cap] w fun e w'=>e= .returned (.slice a 0 cap)∧w'=w:=Any.slices_Compact_string_empty Tryz.lays194 a cap w
open Go.RowKit Go.Sort in
theorem Tryz.slices_Sort_string_none (p:Option Addr)(cap:Nat)(w:World):
  Calls Tryz.prog 61 #[.slice p 0 cap] w fun e w'=>e= .returned (.tuple #[])∧w'=w:=Any.slices_Sort_string_none Tryz.lays190 p cap w
end Go.Proofs
namespace Go.Sx
open Go Go.Proofs
theorem sort_ok:SortC Tryz.prog 61:=⟨fun b off cap ss w h1 h2 h3=>Tryz.slices_Sort_string b off cap ss w h1 h2 h3,fun p cap w=>Tryz.slices_Sort_string_none p cap w⟩
theorem AB:CompactC Tryz.prog 62:=⟨fun b off cap zs w h1 h2 h3=>Tryz.slices_Compact_string b off cap zs w h1 h2 h3,fun p cap w=>Tryz.slices_Compact_string_empty p cap w⟩
def MaxG (H:Hp):Prop:=∃m,H 0 0=some (.int .i64 m)
theorem MaxG.le {H H1:Hp}(h:MaxG H)(hl:H.le H1):MaxG H1:=by
 obtain⟨m,hm⟩:=h
 exact⟨m,hl _ _ _ hm⟩
theorem cut_ok {H:Hp}(s:Str)(hs:s.length≤4294960000)(hM:MaxG H):FnS Tryz.prog 196 [gs s,gs [46]] H (.tuple #[gs (lR s).1,gs (lR s).2.1,.bool (lR s).2.2]):=by
 refine FnS.ext (fun w hw=>?_)
 obtain⟨m,hm⟩:=hM
 refine(Tryz.strings_Cut ⟨s.toArray⟩ ⟨[46].toArray⟩ m w (by simp [ByteArray.size];omega) (hw.hp _ _ _ hm)).mono ?_
 rintro e w1 ⟨rfl,n,rfl⟩
 exact⟨rfl,⟨rfl,rfl,rfl,Nat.le_refl _,fun _ _=>rfl⟩⟩
end Go.Sx
