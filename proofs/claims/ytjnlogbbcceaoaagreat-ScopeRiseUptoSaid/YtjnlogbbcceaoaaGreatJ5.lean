import Derived.Test.YtjnlogbbcceaoaaGreatJ4
import Derived.Test.YtjnlogbbcceaoaaGreatProg
import Derived.Test.YtjnlogbbcceaoaaGreatRows
set_option linter.all false
set_option maxRecDepth 100000
set_option maxHeartbeats 32000000
namespace Go.Sx
open Go
def MapAt (b:Nat)(ks:List (List UInt8))(w:World):Prop:=∃es ck,w.heap[b]? =some (.map es ck)∧es.toList.map (fun e=>(e.key,e.val))=ks.map (fun k=>(gs k,Value.bool true))
def StM (M:List Nat)(w0:World)(H0 H:Hp)(L:ak)(b:Nat)(ks:List (List UInt8))(w:World):Prop:=St M w0 H0 H L w∧MapAt b ks w∧w0.heap.size≤b
theorem CA (s k:List UInt8):(ByteArray.mk s.toArray==ByteArray.mk k.toArray)=decide (s=k):=by
 show(s.toArray==k.toArray)=_
 by_cases h:s=k
 ·subst h;simp
 ·rw [decide_eq_false h];simpa using h
theorem oW (s:List UInt8):∀(l:List MapEntry) (ks:List (List UInt8)) (i:Nat),l.map (fun e=>(e.key,e.val))=ks.map (fun k=>(gs k,Value.bool true))→
  (s∉ks∧Instr.findNow .string (gs s) l i=some none)∨(s∈ks∧∃j,Instr.findNow .string (gs s) l i=some (some (j,.bool true))):=by
 intro l
 induction l with
 | nil=>intro ks i h;cases ks with
  | nil=>exact .inl ⟨by simp,rfl⟩
  | cons k ks=>cases h
 | cons e l ih=>
  intro ks i h
  cases ks with
  | nil=>cases h
  | cons k ks=>
   simp only [List.map_cons,List.cons.injEq,Prod.mk.injEq] at h
   obtain⟨⟨h1,h2⟩,h3⟩:=h
   have hs:Instr.sameNow .string (gs s) e.key=some (decide (s=k)):=by rw [h1];simp only [gs,Instr.sameNow,CA]
   by_cases hk:s=k
   ·right
    refine⟨by simp [hk],i,?_⟩
    unfold Instr.findNow
    rw [hs,decide_eq_true hk,h2]
   ·have hn:Instr.findNow .string (gs s) (e::l) i=Instr.findNow .string (gs s) l (i+1):=by
     rw [Instr.findNow,hs,decide_eq_false hk]
    rcases ih ks (i+1) h3 with ⟨a,c⟩ | ⟨a,j,c⟩
    ·exact .inl ⟨by simp [hk,a],hn.trans c⟩
    ·exact .inr ⟨by simp [a],j,hn.trans c⟩
section
variable {P:Program}{n:Nat}{ops:Array Oper}{Q:Exit→Act→World→Prop}{E E':Env}{M:List Nat}{w0:World}{H0 H:Hp}{L:ak}{rest:List Oper}{dst:Option Nat}{op:Op}{ty:TypeId}{pos:String}{aft:Array Edge}{b:Nat}{ks:List (List UInt8)}
def Eq (P:Program)(t:TypeId):Bool:=match P.underlying t with
 | some (.map k e)=>(match P.underlying k with
  | some .string=>true
  | _=>false)&&(match P.info? e with
  | some i=>(match i.zero with
   | some (.bool false)=>true
   | _=>false)
  | none=>false)
 | _=>false
class MapTB (P:Program) (t:TypeId):Prop where
 outB:Eq P t=true
theorem MapTB.out {t:TypeId}(h:MapTB P t):∃k e,P.underlying t=some (.map k e)∧P.underlying k=some .string∧∀w,(zeroValue e).run P w= .ok (.bool false) w:=by
 have h:=h.outB
 unfold Eq at h
 split at h
 ·rename_i k e ht
  simp only [Bool.and_eq_true] at h
  obtain⟨h1,h2⟩:=h
  split at h1
  ·rename_i hk
   refine⟨k,e,ht,hk,fun w=>?_⟩
   split at h2
   ·rename_i i hi
    split at h2
    ·rename_i hz
     simp [zeroValue,typeInfo,hi,hz]
    ·cases h2
   ·cases h2
  ·cases h1
 ·cases h
theorem MapAt.kept {w w':World}(h:MapAt b ks w)(hk:∀i,i<w.heap.size→i=b→w'.heap[i]? =w.heap[i]?):MapAt b ks w':=by
 obtain⟨es,ck,h1,h2⟩:=h
 exact⟨es,ck,(hk b (cK h1) rfl).trans h1,h2⟩
theorem mV {e:Bool}{m k:Nat}{s:List UInt8}{w:World}(hk:P.underlying k=some .string):(Instr.checkKey e (m+1) k (gs s)).run P w= .ok () w:=by
 simp [Instr.checkKey,run_underlying hk,gs]
theorem StM.notin {w:World}(h:StM M w0 H0 H L b ks w):b∉keys L:=fun hm=>by
 obtain⟨p,hp,rfl⟩:=List.mem_map.1 hm
 obtain⟨t,ht⟩:=h.1.own p hp
 obtain⟨es,ck,h1,_⟩:=h.2.1
 rw [ht] at h1;cases h1
theorem StM.over {w1 w:World}{L':ak}{H':Hp}(h:StM M w0 H0 H L b ks w1)(hw:St (keys L) w1 H H' L' w):StM M w0 H0 H' L' b ks w:=by
 refine⟨?_,h.2.1.kept (fun i hi e=>hw.old i hi (by subst e;exact h.notin)),h.2.2⟩
 have:=St.pastX (L1:=L) (L1':=L') (L2:=[]) (by simpa using h.1) hw
 simpa using this
theorem StM.drop {x:Nat×List Value}{w:World}(h:StM M w0 H0 H (x::L) b ks w):StM M w0 H0 H L b ks w:=⟨h.1.drop,h.2⟩
theorem CI {c:Code}(h:∀w1,StM M w0 H0 H L b ks w1→TC P n c Q E (St (keys L) w1 H H L)):TC P n c Q E (StM M w0 H0 H L b ks):=fun a w he hw=>h w hw a w he (St.pass1 (L1:=L) (L2:=[]) (by simpa using hw.1))
theorem uK {q:Act→World→Prop}{w1:World}{L':ak}{H':Hp}(hm:StM M w0 H0 H L b ks w1)(h:TX n q E (St M w0 H0 H' L')):TX n q E (St (keys L) w1 H H' L'):=fun a w he hw=>h a w he (hm.over hw).1
theorem BL {t:TypeId}[hT:MapTB P t]{x y:Operand}{s:List UInt8}{w1:World}{L':ak}{H':Hp}(hm:StM M w0 H0 H L b ks w1)(hx:ev E x=some (.map (some b)))(hy:ev E y=some (gs s)):PR P E (St (keys L) w1 H H' L') (.lookup t x y false) (.bool (decide (s∈ks))):=by
 intro n a w o ho he hw
 obtain⟨es,ck,h1,h2⟩:=(hm.over hw).2.1
 obtain⟨k,e,ht,hk,hz⟩:=hT.out
 have hck:∀b,(Instr.checkKey b 10000 k (gs s)).run P w= .ok () w:=fun b=>mV (m:=9999) hk
 unfold execOp
 rw [ho]
 rcases oW s es.toList ks 0 h2 with ⟨hn,hf⟩ | ⟨hn,j,hf⟩
 ·rw [decide_eq_false hn]
  simp [he.eval hx,he.eval hy,Instr.lookup,run_underlying ht,MapKept.run_getObj_map h1,hck,Instr.findKey,run_underlying hk,hf,hz,Result.andThen]
 ·rw [decide_eq_true hn]
  simp [he.eval hx,he.eval hy,Instr.lookup,run_underlying ht,MapKept.run_getObj_map h1,hck,Instr.findKey,run_underlying hk,hf,hz,Result.andThen]
theorem StM.put {w:World}{es:Array MapEntry}{ck:Nat}{s:List UInt8}(hw:StM M w0 H0 H L b ks w)(h1:w.heap[b]? =some (.map es ck))(h2:es.toList.map (fun e=>(e.key,e.val))=ks.map (fun k=>(gs k,Value.bool true))):
  StM M w0 H0 H L b (ks++[s]) {w with heap:=w.heap.setIfInBounds b (.map (es.push {key:=gs s,val:=.bool true,born:=ck}) (ck+1))}:=by
 have hlt:=cK h1
 have hoth:∀i,i≠b→(w.heap.setIfInBounds b (.map (es.push {key:=gs s,val:=.bool true,born:=ck}) (ck+1)))[i]? =w.heap[i]? :=fun i hi=>by
  rw [Array.getElem?_setIfInBounds,if_neg (fun e=>hi e.symm)]
 have hcell:∀o,w.cell? ⟨b,o,none⟩=none:=fun o=>by simp [World.cell?,h1]
 have h:=hw.1
 refine⟨⟨h.os,h.tape,h.output,by simpa using h.size,fun i hi hM=>?_,fun c o v hv=>?_,fun p hp=>?_,h.sep,h.nd,h.mine,h.fr⟩,⟨es.push {key:=gs s,val:=.bool true,born:=ck},ck+1,?_,?_⟩,hw.2.2⟩
 ·rw [← h.old i hi hM];exact hoth i (by have:=hw.2.2;omega)
 ·have hc:=h.hp c o v hv
  have hne:c≠b:=fun e=>by subst e;rw [hcell] at hc;cases hc
  rw [fM (hoth c hne)];exact hc
 ·obtain⟨t,ht⟩:=h.own p hp
  have hne:p.1≠b:=fun e=>by rw [e,h1] at ht;cases ht
  exact⟨t,(hoth _ hne).trans ht⟩
 ·show(w.heap.setIfInBounds b _)[b]? =_
  rw [Array.getElem?_setIfInBounds,if_pos rfl,if_pos hlt]
 ·simp [h2]
theorem CF {t:TypeId}[hT:MapTB P t]{x y z:Operand}{s:List UInt8}(hx:ev E x=some (.map (some b)))(hy:ev E y=some (gs s))(hz:ev E z=some (.bool true))(hs:s∉ks)(hd:cx dst n=true){w1:World}{L':ak}{H':Hp}(hm:StM M w0 H0 H L b ks w1)
  (h:TL P n ops Q rest (cr dst undef E) (StM M w0 H0 H' L' b (ks++[s]))):
  TL P n ops Q ({dst:=dst,op:=.mapUpdate t x y z,type:=ty,pos:=pos,after:=aft,guard:=none}::rest) E (St (keys L) w1 H H' L'):=by
 intro a w he hw0
 have hw:=hm.over hw0
 refine cA rfl (fun K hK=>?_)
 obtain⟨es,ck,h1,h2⟩:=hw.2.1
 obtain⟨k,e,ht,hk,hzv⟩:=hT.out
 have hck:∀b,(Instr.checkKey b 10000 k (gs s)).run P w= .ok () w:=fun b=>mV (m:=9999) hk
 rcases oW s es.toList ks 0 h2 with ⟨hn,hf⟩ | ⟨hn,j,hf⟩
 ·have hrun:(execOp a.eval {dst:=dst,op:=.mapUpdate t x y z,type:=ty,pos:=pos,after:=aft,guard:=none}).run P w= .ok .skip {w with heap:=w.heap.setIfInBounds b (.map (es.push {key:=gs s,val:=.bool true,born:=ck}) (ck+1))}:=by
   simp [execOp,he.eval hx,he.eval hy,he.eval hz,Instr.mapUpdate,run_underlying ht,MapKept.run_getObj_map h1,hck,Instr.findKey,run_underlying hk,hf,MapKept.run_setObj_map _ h1,Result.andThen]
  unfold Oper.wp
  rw [hrun]
  exact hK _ _ (h _ _ (he.put hd) (hw.put h1 h2))
 ·exact absurd hn hs
theorem zH {t:TypeId}[hT:MapTB P t](hd:cx dst n=true)(h:∀b w1,StM M w0 H0 H L b [] w1→TL P n ops Q rest (cr dst (.map (some b)) E) (St (keys L) w1 H H L)):
  TL P n ops Q ({dst:=dst,op:=.makeMap t none,type:=ty,pos:=pos,after:=aft,guard:=none}::rest) E (St M w0 H0 H L):=by
 intro a w he hw
 refine cA rfl (fun K hK=>?_)
 have hrun:(execOp a.eval {dst:=dst,op:=.makeMap t none,type:=ty,pos:=pos,after:=aft,guard:=none}).run P w= .ok (.value (.map (some w.heap.size))) (w.alloc (.map #[] 0)):=by
  simp [execOp,Instr.makeMap,newObj,Result.andThen];rfl
 unfold Oper.wp
 rw [hrun]
 have hm:StM M w0 H0 H L w.heap.size [] (w.alloc (.map #[] 0)):=⟨(Ext.alloc w _).st hw,⟨#[],0,heap_alloc_new w _,rfl⟩,hw.size⟩
 exact hK _ _ (h _ _ hm _ _ (he.put hd) (St.pass1 (L1:=L) (L2:=[]) (by simpa using hm.1)))
end
end Go.Sx
namespace Go.Sx
open Go
def cat:List ak→ak
 | []=>[]
 | [a]=>a
 | a::b::r=>a++cat (b::r)
theorem rP:∀l:List ak,cat l=l.flatten
 | []=>rfl
 | [a]=>by simp [cat]
 | a::b::r=>by rw [cat,rP (b::r)];rfl
theorem Ea {α:Type}(ps:List α):(List.range ps.length).filterMap (fun i=>ps[i]?)=ps:=by
 induction ps with
 | nil=>rfl
 | cons p ps ih=>
  rw [List.length_cons,List.range_succ_eq_map,List.filterMap_cons]
  simp only [List.getElem?_cons_zero,List.filterMap_map]
  congr 1
theorem ei (ps:List ak)(js:List Nat)(h:js.isPerm (List.range ps.length)=true):(cat ps).Perm (cat (js.filterMap fun i=>ps[i]?)):=by
 rw [rP,rP]
 have h1:(js.filterMap fun i=>ps[i]?).Perm ps:=by
  have:=(List.isPerm_iff.1 h).filterMap (fun i=>ps[i]?)
  rwa [Ea] at this
 exact h1.symm.flatten
theorem jy (X:ak){A B C:ak}:(X++((A++B)++C)).Perm (X++(A++(B++C))):=by rw [List.append_assoc]
theorem zf (X:ak){A B D C:ak}:(X++((A++(B++D))++C)).Perm (X++(A++(B++(D++C)))):=by rw [List.append_assoc,List.append_assoc]
theorem i2 (X:ak){A:ak}:(X++(A++[])).Perm (X++A):=by rw [List.append_nil]
theorem BP (X:ak){A B:ak}:(X++(A++(B++[]))).Perm (X++(A++B)):=by rw [List.append_nil]
theorem fu {x y:Nat×List Value}{A B C:ak}:(x::y::((A++B)++C)).Perm (x::y::(A++(B++C))):=by rw [List.append_assoc]
section
variable {P:Program}{n:Nat}{ops:Array Oper}{Ri:World→Prop}{Q:Exit→Act→World→Prop}{E:Env}{M:List Nat}{w0:World}{H0 H:Hp}{L:ak}{C:World→Prop}{rest:List Oper}{dst:Option Nat}{op:Op}{ty:TypeId}{pos:String}{aft:Array Edge}
theorem aV {L':ak}{l:List Oper}(hp:L.Perm L')(h:TL P n ops Q l E (St M w0 H0 H L')):TL P n ops Q l E (St M w0 H0 H L):=fun a w he hw=>h a w he (hw.perm hp)
theorem rU {L':ak}{q:Act→World→Prop}(hp:L.Perm L')(h:TX n q E (St M w0 H0 H L')):TX n q E (St M w0 H0 H L):=fun a w he hw=>h a w he (hw.perm hp)
theorem rY {L':ak}{c:Code}(hp:L.Perm L')(h:TC P n c Q E (St M w0 H0 H L')):TC P n c Q E (St M w0 H0 H L):=fun a w he hw=>h a w he (hw.perm hp)
theorem t6 {α:Type}{k j:Nat}{enc:α→List Value}{u:Value}{a':α}(hk:∀x,(enc x).length=k)(hj:j<k):∀(xs:List α) (i:Nat) (a:α),xs[i]? =some a→enc a'=(enc a).set j u→(xs.flatMap enc).set (i * k+j) u=(xs.set i a').flatMap enc
 | [],_,_,h,_=>by simp at h
 | y::xs,0,a,h,he=>by
  simp only [List.getElem?_cons_zero,Option.some.injEq] at h
  subst h
  simp only [List.flatMap_cons,List.set_cons_zero,Nat.zero_mul,Nat.zero_add]
  rw [List.set_append_left _ _ (by rw [hk];exact hj),he]
 | y::xs,i+1,a,h,he=>by
  simp only [List.flatMap_cons,List.set_cons_succ]
  rw [List.set_append_right _ _ (by rw [hk,Nat.succ_mul];omega),hk,show(i+1) * k+j - k=i * k+j by rw [Nat.succ_mul];omega]
  rw [t6 hk hj xs i a (by simpa using h) he]
theorem OwnSl.put {α:Type}{k j i:Nat}{enc:α→List Value}[hc:Cells k enc]{b cap:Nat}{cs:List Value}{u:Value}{xs:List α}{a a':α}(hcl:cs.length=cap * k)(htk:cs.take (xs.length * k)=xs.flatMap enc)(hle:xs.length≤cap)(hcm:cap≤9223372036854775807)
  (hi:xs[i]? =some a) (he:enc a'=(enc a).set j u) (hj:j<k):OwnSl k enc (.slice (some ⟨b,0,none⟩) xs.length cap) (xs.set i a') [(b,cs.set (i * k+j) u)]:=by
 refine .inr ⟨b,cap,cs.set (i * k+j) u,by rw [List.length_set],rfl,by rw [List.length_set];exact hcl,?_,by rw [List.length_set];exact hle,hcm⟩
 rw [List.length_set,List.take_set,htk]
 exact t6 hc.len hj xs i a hi he
theorem f5 {α:Type}{t k k1 j i:Nat}{enc:α→List Value}[hc:Cells k enc]{x y:Operand}{v u:Value}{xs:List α}{ob:ak}{F:ak→ak}{a a':α}(hx:ev E x=some (.pointer (some ⟨ogb ob,i * k+j,none⟩)))(hy:ev E y=some u)
  (hO:OwnSl k enc v xs ob) (hU:Tl ob L F) (hi:xs[i]? =some a) (he:enc a'=(enc a).set j u) (hj:Nat.blt j k=true) [ht:Ty P t false k1] [h1:One u] (hk:k1=1) (hd:cx dst n=true)
  (h:∀ob',ogb ob'=ogb ob→OwnSl k enc v (xs.set i a') ob'→TL P n ops Q rest (cr dst undef E) (St M w0 H0 H (F ob'))):
  TL P n ops Q ({dst:=dst,op:=.store t x y,type:=ty,pos:=pos,after:=aft,guard:=none}::rest) E (St M w0 H0 H L):=by
 obtain⟨R,hp,hF⟩:=hU.perm
 rcases hO with ⟨rfl,rfl,rfl⟩ | ⟨b,cap,cs,rfl,rfl,hcl,htk,hle,hcm⟩
 ·simp at hi
 ·have hjk:j<k:=by rwa [Nat.blt_eq] at hj
  have hil:i<xs.length:=(List.getElem?_eq_some_iff.1 hi).1
  have hlt:i * k+j<cs.length:=by
   rw [hcl]
   have:(i+1) * k≤cap * k:=Nat.mul_le_mul_right k omq
   rw [Nat.succ_mul] at this;omega
  refine aV hp (aX (b:=b) (o:=i * k+j) hx hy hk (.here _) (by rw [Nat.blt_eq];exact hlt) hd ?_)
  exact aV (hF [(b,cs.set (i * k+j) u)]).symm (h [(b,cs.set (i * k+j) u)] rfl (OwnSl.put hcl htk hle hcm hi he hjk))
theorem FnX.enterM {f:FuncId}{args:List Value}{L1:ak}{Φ:Value→Hp→ak→Prop}{fn:Func}{c:Code}
  (hf:P.funcs[f]? =some fn) (hn:fn.ntmps=n) (hb:fn.body=some c) (hl:Nat.ble args.length n=true)
  (h:∀w0 M,(∀b∈M,b<w0.heap.size)→TC P n c (bodyPost P fn (uM M w0 H Φ)) (jM 0 args) (St M w0 H H L1)):FnX P f args H L1 Φ:=by
 intro w hw
 refine calls_of_wp hf hb (h w (keys L1) (fun b hm=>?_) _ w ⟨?_,rfl,fun t v ht=>?_⟩ hw)
 ·obtain⟨p,hp,rfl⟩:=List.mem_map.1 hm
  exact hw.lt hp
 ·have:=Nat.le_of_ble_eq_true hl
  simp [hn]
  omega
 ·have h1:=(kp args 0 t v ht).2
  simp only [Nat.sub_zero] at h1
  have h2:t<args.length:=(List.getElem?_eq_some_iff.1 h1).1
  rw [Array.getElem?_append_left (by simpa using h2)]
  simpa using h1
theorem kR {f:FuncId}{args:List Value}{Φ:Value→Hp→ak→Prop}(hE:cS P E op f args)(hF:FnO P f args H Φ)(hd:cx dst n=true)
  (h:∀v H' ob,(∀p∈ob,w0.heap.size≤p.1)→H.le H'→Φ v H' ob→TL P n ops Q rest (cr dst v E) (St M w0 H0 H' (L++ob))):
  TL P n ops Q ({dst:=dst,op:=op,type:=ty,pos:=pos,after:=aft,guard:=none}::rest) E (St M w0 H0 H L):=by
 intro a w he hw
 refine cA rfl (fun K hK=>?_)
 unfold Oper.wp
 rw [hE n a w _ rfl he]
 refine(hF w (St.pass1 (L1:=[]) (L2:=L) hw)).mono ?_
 rintro e w' ⟨v,H',ob,rfl,hst,hΦ⟩
 exact hK _ _ (h v H' ob (fun p hp=>Nat.le_trans hw.size ((hst.mine p hp).resolve_left sq)) hst.fr.1 hΦ _ _ (he.put hd) (hw.pastO hst))
def fl1B (P:Program)(s f:Nat):Option Nat:=match P.underlying s with
 | some (.struct fs)=>match fs[f]? with
  | some fd=>match tyB P fd.type with
   | some (false,_)=>some fd.offset
   | _=>none
  | none=>none
 | _=>none
theorem nz {s f off:Nat}{x:Operand}{cs:List Value}{v:Value}(hx:ev E x=some (.agg cs.toArray))(hf:fl1B P s f=some off)(hv:cs[off]? =some v):PR P E C (.field s x f) v:=by
 intro n a w o' ho he hw
 unfold execOp
 rw [ho]
 unfold fl1B at hf
 split at hf
 ·rename_i fs hs
  split at hf
  ·rename_i fd hfd
   split at hf
   ·rename_i k hk
    simp only [Option.some.injEq] at hf
    subst hf
    have hA:=nt (P:=P) (t:=fd.type) (agg:=false) (n:=k) ⟨hk⟩ w
    simp [he.eval hx,Instr.field,run_underlying hs,hfd,asAgg,part,hA,hv]
   ·cases hf
  ·cases hf
 ·cases hf
end
end Go.Sx
namespace Go.Sx
open Go
def kq (P:Program)(xs:List Value)(f:Field):List Value:=(xs.drop f.offset).take (P.cellsOf f.type)
def ie (P:Program):Nat→TypeId→List Value→List Value→Option Bool
 | 0,_,_,_=>none
 | d+1,t,xs,ys=>
  match P.underlying t with
  | some .bool=>match xs,ys with
   | [.bool a],[.bool b]=>some (a==b)
   | _,_=>none
  | some (.int _)=>match xs,ys with
   | [.int k a],[.int k' b]=>if k=k' then some (a==b) else none
   | _,_=>none
  | some .string=>match xs,ys with
   | [.string a],[.string b]=>some (a.toList==b.toList)
   | _,_=>none
  | some (.struct fs)=>if P.stoodInHeld t=true then none else
   fs.toList.foldr (fun f acc=>match acc,(if f.name= "_" then none else ie P d f.type (kq P xs f) (kq P ys f)) with
    | some r,some b=>some (b&&r)
    | _,_=>none) (some true)
  | _=>none
def ofC (P:Program)(t:TypeId)(xs:List Value):Value:=match P.underlying t with
 | some (.struct _)=>.agg xs.toArray
 | _=>xs.headD .nilFunc
theorem Ec {xs:List Value}{o n:Nat}{v:Value}(h:(xs.drop o).take n=[v]):xs[o]? =some v:=by
 have h1:((xs.drop o).take n)[0]? =some v:=by rw [h];rfl
 rw [List.getElem?_take] at h1
 split at h1
 ·rwa [List.getElem?_drop,Nat.add_zero] at h1
 ·cases h1
def Ar:TypeDesc→Bool | .struct _ | .array _ _=>true | _=>false
theorem uZ {P:Program}{e:TypeId}{kd:TypeDesc}{xs:List Value}{o:Nat}{v:Value}(w:World)(hu:P.underlying e=some kd)(hk:Ar kd=false)(h:xs[o]? =some v):(part e xs.toArray o).run P w= .ok v w:=by
 have hA:(isAgg e).run P w= .ok false w:=by
  unfold isAgg
  rw [Sem.run_bind,run_underlying hu w]
  cases kd<;>simp_all [Ar]
 simp [part,hA,h]
theorem uY {P:Program}{e:TypeId}{fs:Array Field}{xs:List Value}{o:Nat}(w:World)(hu:P.underlying e=some (.struct fs)):(part e xs.toArray o).run P w= .ok (.agg ((xs.drop o).take (P.cellsOf e)).toArray) w:=by
 obtain⟨i,hi⟩:=info_of_underlying hu
 have hA:(isAgg e).run P w= .ok true w:=by
  unfold isAgg
  rw [Sem.run_bind,run_underlying hu w]
  simp
 have hS:(sizeOf e).run P w= .ok (P.cellsOf e) w:=by simp [sizeOf,typeInfo,hi,Program.cellsOf]
 have hE:xs.toArray.extract o (o+P.cellsOf e)=((xs.drop o).take (P.cellsOf e)).toArray:=by
  apply Array.ext'
  rw [Array.toList_extract]
  simp [List.extract_eq_take_drop]
 simp only [part,Sem.run_bind,hA,Result.andThen_ok,if_true,hS,Sem.run_pure,hE]
theorem y1 {P:Program}{e:TypeId}{d:Nat}{xs ys:List Value}{f:Field}{b:Bool}(w:World)(h:ie P d f.type (kq P xs f) (kq P ys f)=some b):
  (part f.type xs.toArray f.offset).run P w= .ok (ofC P f.type (kq P xs f)) w∧(part f.type ys.toArray f.offset).run P w= .ok (ofC P f.type (kq P ys f)) w:=by
 cases d with
 | zero=>simp [ie] at h
 | succ d=>
  unfold ie at h
  have one:∀{zs:List Value} {kd:TypeDesc} {v:Value},P.underlying f.type=some kd→Ar kd=false→kq P zs f=[v]→(part f.type zs.toArray f.offset).run P w= .ok (ofC P f.type (kq P zs f)) w:=by
   intro zs kd v hu hk hz
   rw [uZ w hu hk (Ec hz)]
   unfold ofC
   rw [hu,hz]
   cases kd<;>simp_all [Ar]
  split at h
  ·rename_i hu
   split at h
   ·rename_i a b' h1 h2
    exact⟨one hu rfl h1,one hu rfl h2⟩
   ·cases h
  ·rename_i hu
   split at h
   ·rename_i a b' h1 h2
    exact⟨one hu rfl h1,one hu rfl h2⟩
   ·cases h
  ·rename_i hu
   split at h
   ·rename_i a b' h1 h2
    exact⟨one hu rfl h1,one hu rfl h2⟩
   ·cases h
  ·rename_i fs hu
   refine⟨?_,?_⟩<;>
   ·rw [uY w hu];unfold ofC;rw [hu];rfl
  ·cases h
theorem AE {P:Program}:∀(d dd:Nat),d≤dd→∀(t:TypeId) (xs ys:List Value) (r:Bool) (w:World),ie P d t xs ys=some r→(Op.equalIn dd t (ofC P t xs) (ofC P t ys)).run P w= .ok r w
 | 0,_,_,_,_,_,_,_,h=>by simp [ie] at h
 | d+1,0,hd,_,_,_,_,_,_=>by omega
 | d+1,dd+1,hd,t,xs,ys,r,w,h=>by
  unfold ie at h
  unfold ofC
  split at h
  ·rename_i hu
   rw [hu]
   split at h
   ·cases h;exact run_equalIn_bool w dd t _ _ hu
   ·cases h
  ·rename_i hu
   rw [hu]
   split at h
   ·split at h
    ·rename_i hk
     subst hk
     cases h;exact run_equalIn_int w dd t _ _ _ _ hu
    ·cases h
   ·cases h
  ·rename_i hu
   rw [hu]
   split at h
   ·cases h;exact run_equalIn_string w dd t _ _ hu
   ·cases h
  ·rename_i fs hu
   rw [hu]
   split at h
   ·cases h
   ·rename_i hs
    have hfs:P.fieldsOf t=fs:=by simp [Program.fieldsOf,hu]
    show(Op.equalIn (dd+1) t (.agg xs.toArray) (.agg ys.toArray)).run P w=_
    rw [run_equalIn_struct w dd t xs.toArray ys.toArray (by rw [hfs];exact hu) (by simpa using hs),hfs]
    clear hu hfs
    generalize fs.toList=l at h
    induction l generalizing r with
    | nil=>simp only [List.foldr_nil,Option.some.injEq] at h;subst h;simp [Op.eqFields]
    | cons f l ih=>
     rw [List.foldr_cons] at h
     split at h
     ·rename_i r' b' hr hb
      split at hb
      ·cases hb
      ·rename_i hn
       simp only [Option.some.injEq] at h
       subst h
       obtain⟨p1,p2⟩:=y1 (e:=t) w hb
       have p3:=AE d dd omq f.type _ _ _ w hb
       simp only [Op.eqFields,hn,ne_eq,not_false_eq_true,if_true,Sem.run_bind,p1,p2,p3,Result.andThen_ok]
       cases b'
       ·simp
       ·simpa using ih _ hr
     ·cases h
  ·cases h
section
variable {P:Program}{E:Env}{C:World→Prop}
theorem AD {P:Program}{t:TypeId}{xs ys:List Value}{r:Bool}{d:Nat}(w:World)(hd:d≤10000)(hs:∃fs,P.underlying t=some (.struct fs))(h:ie P d t xs ys=some r):(Op.equal t (.agg xs.toArray) (.agg ys.toArray)).run P w= .ok r w:=by
 obtain⟨fs,hu⟩:=hs
 have:=AE d 10000 hd t xs ys r w h
 unfold ofC at this
 rw [hu] at this
 exact this
def AV (P:Program)(t:TypeId):Bool:=match P.underlying t with | some (.struct _)=>true | _=>false
theorem D3 {t t':TypeId}{x y:Operand}{xs ys:List Value}{r:Bool}(hx:ev E x=some (.agg xs.toArray))(hy:ev E y=some (.agg ys.toArray))(hs:AV P t=true)(hg:P.eqGuardType P.depth t=false)(h:ie P 4 t xs ys=some r):PR P E C (.binOp .eql t x y t') (.bool r):=by
 intro n ac w o ho he hw
 unfold execOp
 rw [ho]
 have hs':∃fs,P.underlying t=some (.struct fs):=by
  unfold AV at hs;split at hs
  ·exact⟨_,by assumption⟩
  ·cases hs
 have h1:=AD w dq hs' h
 have hgd:(eqGuard .eql t x y (.agg xs.toArray) (.agg ys.toArray)).run P w= .ok () w:=by simp [eqGuard,hg]
 simp only [he.eval hx,he.eval hy,Sem.run_bind,hgd,Result.andThen_ok,binOp,h1,Sem.run_pure]
theorem lL {t t':TypeId}{x y:Operand}{xs ys:List Value}{r:Bool}(hx:ev E x=some (.agg xs.toArray))(hy:ev E y=some (.agg ys.toArray))(hs:AV P t=true)(hg:P.eqGuardType P.depth t=false)(h:ie P 4 t xs ys=some r):PR P E C (.binOp .neq t x y t') (.bool (!r)):=by
 intro n ac w o ho he hw
 unfold execOp
 rw [ho]
 have hs':∃fs,P.underlying t=some (.struct fs):=by
  unfold AV at hs;split at hs
  ·exact⟨_,by assumption⟩
  ·cases hs
 have h1:=AD w dq hs' h
 have hgd:(eqGuard .neq t x y (.agg xs.toArray) (.agg ys.toArray)).run P w= .ok () w:=by simp [eqGuard,hg]
 simp only [he.eval hx,he.eval hy,Sem.run_bind,hgd,Result.andThen_ok,binOp,h1,Sem.run_pure]
end
end Go.Sx
namespace Go.Sx
open Go Go.Proofs
instance :El Tryz.prog 22 3 1:=kz
instance :El Tryz.prog 24 80 3:=kz
instance :El Tryz.prog 25 84 2:=kz
instance :El Tryz.prog 26 53 4:=kz
instance :El Tryz.prog 43 42 3:=kz
instance :El Tryz.prog 46 45 6:=kz
instance :El Tryz.prog 47 72 3:=kz
instance :El Tryz.prog 48 66 3:=kz
instance :El Tryz.prog 51 50 10:=kz
instance :El Tryz.prog 60 61 1:=kz
instance :El Tryz.prog 61 9 1:=kz
instance :El Tryz.prog 78 98 3:=kz
instance :El Tryz.prog 82 101 3:=kz
instance :El Tryz.prog 87 89 1:=kz
instance :El Tryz.prog 92 88 1:=kz
instance :El Tryz.prog 96 175 4:=kz
instance :El Tryz.prog 133 4 1:=kz
instance :El Tryz.prog 162 22 1:=kz
instance :El Tryz.prog 225 5 1:=kz
instance :Plc Tryz.prog 28 [(0,1),(1,1),(2,1)]:=kz
instance :Plc Tryz.prog 35 [(0,1),(1,1),(2,1)]:=kz
instance :Plc Tryz.prog 40 [(0,1),(1,1)]:=kz
instance :Plc Tryz.prog 42 [(0,1),(1,2)]:=kz
instance :Plc Tryz.prog 45 [(0,1),(1,1),(2,1),(3,1),(4,1),(5,1)]:=kz
instance :Plc Tryz.prog 50 [(0,1),(1,1),(2,1),(3,1),(4,1),(5,1),(6,1),(7,1),(8,1),(9,1)]:=kz
instance :Plc Tryz.prog 53 [(0,1),(1,1),(2,1),(3,1)]:=kz
instance :Plc Tryz.prog 66 [(0,1),(1,1),(2,1)]:=kz
instance :Plc Tryz.prog 72 [(0,1),(1,1),(2,1)]:=kz
instance :Plc Tryz.prog 80 [(0,1),(1,1),(2,1)]:=kz
instance :Plc Tryz.prog 84 [(0,1),(1,1)]:=kz
instance :Plc Tryz.prog 98 [(0,1),(1,1),(2,1)]:=kz
instance :Plc Tryz.prog 101 [(0,1),(1,1),(2,1)]:=kz
instance :Plc Tryz.prog 115 [(0,1),(1,1)]:=kz
instance :Plc Tryz.prog 124 [(0,1),(1,1),(2,4),(6,1),(7,1),(8,1),(9,1),(10,1)]:=kz
instance :Plc Tryz.prog 164 [(0,3),(3,1),(4,1)]:=kz
instance :Plc Tryz.prog 175 [(0,1),(1,2),(3,1)]:=kz
instance :Elz Tryz.prog 22 3 1 8 [Value.int IntKind.i64 0]:=⟨by kernel_rfl,rfl⟩
instance :Elz Tryz.prog 24 80 3 64 [gs [],Value.slice none 0 0,Value.slice none 0 0]:=⟨by kernel_rfl,rfl⟩
instance :Elz Tryz.prog 25 84 2 40 [gs [],Value.slice none 0 0]:=⟨by kernel_rfl,rfl⟩
instance :Elz Tryz.prog 26 53 4 88 [gs [],Value.slice none 0 0,Value.slice none 0 0,Value.slice none 0 0]:=⟨by kernel_rfl,rfl⟩
instance :Elz Tryz.prog 43 42 3 40 [gs [],Value.int IntKind.i64 0,gs []]:=⟨by kernel_rfl,rfl⟩
instance :Elz Tryz.prog 46 45 6 64 [Value.int IntKind.i64 0,gs [],Value.int IntKind.i64 0,gs [],Value.int IntKind.i64 0,Value.int IntKind.i64 0]:=⟨by kernel_rfl,rfl⟩
instance :Elz Tryz.prog 47 72 3 56 [gs [],gs [],Value.slice none 0 0]:=⟨by kernel_rfl,rfl⟩
instance :Elz Tryz.prog 48 66 3 40 [gs [],gs [],Value.int IntKind.i64 0]:=⟨by kernel_rfl,rfl⟩
instance :Elz Tryz.prog 51 50 10 160 [Value.int IntKind.i64 0,gs [],gs [],gs [],gs [],Value.int IntKind.i64 0,Value.slice none 0 0,Value.slice none 0 0,Value.slice none 0 0,Value.int IntKind.i64 0]:=⟨by kernel_rfl,rfl⟩
instance :Elz Tryz.prog 60 61 1 24 [Value.slice none 0 0]:=⟨by kernel_rfl,rfl⟩
instance :Elz Tryz.prog 61 9 1 16 [gs []]:=⟨by kernel_rfl,rfl⟩
instance :Elz Tryz.prog 78 98 3 56 [gs [],gs [],Value.slice none 0 0]:=⟨by kernel_rfl,rfl⟩
instance :Elz Tryz.prog 82 101 3 48 [Value.int IntKind.i64 0,gs [],Value.slice none 0 0]:=⟨by kernel_rfl,rfl⟩
instance :Elz Tryz.prog 87 89 1 8 [Value.nilFunc]:=⟨by kernel_rfl,rfl⟩
instance :Elz Tryz.prog 92 88 1 8 [Value.nilFunc]:=⟨by kernel_rfl,rfl⟩
instance :Elz Tryz.prog 96 175 4 48 [gs [],Value.int IntKind.i64 0,gs [],Value.int IntKind.i64 0]:=⟨by kernel_rfl,rfl⟩
instance :Elz Tryz.prog 133 4 1 1 [Value.bool false]:=⟨by kernel_rfl,rfl⟩
instance :Elz Tryz.prog 162 22 1 24 [Value.slice none 0 0]:=⟨by kernel_rfl,rfl⟩
instance :Elz Tryz.prog 225 5 1 1 [Value.int IntKind.u8 0]:=⟨by kernel_rfl,rfl⟩
instance :Ty Tryz.prog 2 false 1:=kz
instance :Ty Tryz.prog 3 false 1:=kz
instance :Ty Tryz.prog 4 false 1:=kz
instance :Ty Tryz.prog 9 false 1:=kz
instance :Ty Tryz.prog 22 false 1:=kz
instance :Ty Tryz.prog 24 false 1:=kz
instance :Ty Tryz.prog 25 false 1:=kz
instance :Ty Tryz.prog 26 false 1:=kz
instance :Ty Tryz.prog 28 true 3:=kz
instance :Ty Tryz.prog 33 false 1:=kz
instance :Ty Tryz.prog 35 true 3:=kz
instance :Ty Tryz.prog 40 true 2:=kz
instance :Ty Tryz.prog 42 true 3:=kz
instance :Ty Tryz.prog 43 false 1:=kz
instance :Ty Tryz.prog 45 true 6:=kz
instance :Ty Tryz.prog 46 false 1:=kz
instance :Ty Tryz.prog 47 false 1:=kz
instance :Ty Tryz.prog 48 false 1:=kz
instance :Ty Tryz.prog 50 true 10:=kz
instance :Ty Tryz.prog 51 false 1:=kz
instance :Ty Tryz.prog 53 true 4:=kz
instance :Ty Tryz.prog 61 false 1:=kz
instance :Ty Tryz.prog 66 true 3:=kz
instance :Ty Tryz.prog 72 true 3:=kz
instance :Ty Tryz.prog 73 false 1:=kz
instance :Ty Tryz.prog 78 false 1:=kz
instance :Ty Tryz.prog 80 true 3:=kz
instance :Ty Tryz.prog 82 false 1:=kz
instance :Ty Tryz.prog 84 true 2:=kz
instance :Ty Tryz.prog 87 false 1:=kz
instance :Ty Tryz.prog 88 false 1:=kz
instance :Ty Tryz.prog 89 false 1:=kz
instance :Ty Tryz.prog 96 false 1:=kz
instance :Ty Tryz.prog 98 true 3:=kz
instance :Ty Tryz.prog 101 true 3:=kz
instance :Ty Tryz.prog 110 false 1:=kz
instance :Ty Tryz.prog 117 false 1:=kz
instance :Ty Tryz.prog 133 false 1:=kz
instance :Ty Tryz.prog 156 false 1:=kz
instance :Ty Tryz.prog 162 false 1:=kz
instance :Ty Tryz.prog 175 true 4:=kz
instance :Zero Tryz.prog 22 [Value.slice none 0 0]:=kz
instance :Zero Tryz.prog 28 [Value.slice none 0 0,Value.slice none 0 0,Value.slice none 0 0]:=kz
instance :Zero Tryz.prog 35 [Value.int IntKind.i64 0,Value.int IntKind.i64 0,Value.int IntKind.i64 0]:=kz
instance :Zero Tryz.prog 40 [Value.int IntKind.i64 0,gs []]:=kz
instance :Zero Tryz.prog 42 [gs [],Value.int IntKind.i64 0,gs []]:=kz
instance :Zero Tryz.prog 45 [Value.int IntKind.i64 0,gs [],Value.int IntKind.i64 0,gs [],Value.int IntKind.i64 0,Value.int IntKind.i64 0]:=kz
instance :Zero Tryz.prog 50 [Value.int IntKind.i64 0,gs [],gs [],gs [],gs [],Value.int IntKind.i64 0,Value.slice none 0 0,Value.slice none 0 0,Value.slice none 0 0,Value.int IntKind.i64 0]:=kz
instance :Zero Tryz.prog 53 [gs [],Value.slice none 0 0,Value.slice none 0 0,Value.slice none 0 0]:=kz
instance :Zero Tryz.prog 61 [Value.slice none 0 0]:=kz
instance :Zero Tryz.prog 66 [gs [],gs [],Value.int IntKind.i64 0]:=kz
instance :Zero Tryz.prog 72 [gs [],gs [],Value.slice none 0 0]:=kz
instance :Zero Tryz.prog 80 [gs [],Value.slice none 0 0,Value.slice none 0 0]:=kz
instance :Zero Tryz.prog 84 [gs [],Value.slice none 0 0]:=kz
instance :Zero Tryz.prog 98 [gs [],gs [],Value.slice none 0 0]:=kz
instance :Zero Tryz.prog 101 [Value.int IntKind.i64 0,gs [],Value.slice none 0 0]:=kz
instance :Zero Tryz.prog 110 [Value.nilFunc]:=kz
instance :Zero Tryz.prog 115 [Value.slice none 0 0,Value.int IntKind.i64 0]:=kz
instance :Zero Tryz.prog 117 [Value.nilFunc]:=kz
instance :Zero Tryz.prog 124 [Value.pointer none,Value.slice none 0 0,gs [],Value.slice none 0 0,Value.slice none 0 0,Value.slice none 0 0,gs [],Value.slice none 0 0,Value.int IntKind.i64 0,Value.int IntKind.i64 0,Value.int IntKind.i64 0]:=kz
instance :Zero Tryz.prog 133 [Value.slice none 0 0]:=kz
instance :Zero Tryz.prog 156 [Value.nilFunc]:=kz
instance :Zero Tryz.prog 164 [gs [],Value.slice none 0 0,Value.slice none 0 0,gs [],Value.slice none 0 0]:=kz
instance :Zero Tryz.prog 175 [gs [],Value.int IntKind.i64 0,gs [],Value.int IntKind.i64 0]:=kz
instance :Fld Tryz.prog 28 0 0:=kz
instance :Fld Tryz.prog 28 1 1:=kz
instance :Fld Tryz.prog 28 2 2:=kz
instance :Fld Tryz.prog 35 0 0:=kz
instance :Fld Tryz.prog 40 0 0:=kz
instance :Fld Tryz.prog 40 1 1:=kz
instance :Fld Tryz.prog 42 0 0:=kz
instance :Fld Tryz.prog 42 1 1:=kz
instance :Fld Tryz.prog 45 0 0:=kz
instance :Fld Tryz.prog 45 1 1:=kz
instance :Fld Tryz.prog 45 2 2:=kz
instance :Fld Tryz.prog 45 3 3:=kz
instance :Fld Tryz.prog 45 4 4:=kz
instance :Fld Tryz.prog 45 5 5:=kz
instance :Fld Tryz.prog 50 0 0:=kz
instance :Fld Tryz.prog 50 1 1:=kz
instance :Fld Tryz.prog 50 2 2:=kz
instance :Fld Tryz.prog 50 3 3:=kz
instance :Fld Tryz.prog 50 4 4:=kz
instance :Fld Tryz.prog 50 5 5:=kz
instance :Fld Tryz.prog 50 6 6:=kz
instance :Fld Tryz.prog 50 7 7:=kz
instance :Fld Tryz.prog 50 8 8:=kz
instance :Fld Tryz.prog 50 9 9:=kz
instance :Fld Tryz.prog 53 0 0:=kz
instance :Fld Tryz.prog 53 1 1:=kz
instance :Fld Tryz.prog 53 2 2:=kz
instance :Fld Tryz.prog 53 3 3:=kz
instance :Fld Tryz.prog 66 0 0:=kz
instance :Fld Tryz.prog 66 1 1:=kz
instance :Fld Tryz.prog 66 2 2:=kz
instance :Fld Tryz.prog 72 0 0:=kz
instance :Fld Tryz.prog 72 1 1:=kz
instance :Fld Tryz.prog 72 2 2:=kz
instance :Fld Tryz.prog 80 0 0:=kz
instance :Fld Tryz.prog 80 1 1:=kz
instance :Fld Tryz.prog 80 2 2:=kz
instance :Fld Tryz.prog 84 0 0:=kz
instance :Fld Tryz.prog 84 1 1:=kz
instance :Fld Tryz.prog 98 0 0:=kz
instance :Fld Tryz.prog 98 1 1:=kz
instance :Fld Tryz.prog 98 2 2:=kz
instance :Fld Tryz.prog 101 0 0:=kz
instance :Fld Tryz.prog 101 1 1:=kz
instance :Fld Tryz.prog 101 2 2:=kz
instance :Fld Tryz.prog 115 0 0:=kz
instance :Fld Tryz.prog 115 1 1:=kz
instance :Fld Tryz.prog 124 0 0:=kz
instance :Fld Tryz.prog 124 1 1:=kz
instance :Fld Tryz.prog 124 2 2:=kz
instance :Fld Tryz.prog 124 3 6:=kz
instance :Fld Tryz.prog 124 4 7:=kz
instance :Fld Tryz.prog 124 5 8:=kz
instance :Fld Tryz.prog 124 6 9:=kz
instance :Fld Tryz.prog 124 7 10:=kz
instance :Fld Tryz.prog 164 0 0:=kz
instance :Fld Tryz.prog 164 1 3:=kz
instance :Fld Tryz.prog 164 2 4:=kz
instance :Fld Tryz.prog 175 0 0:=kz
instance :Fld Tryz.prog 175 1 1:=kz
instance :Fld Tryz.prog 175 2 3:=kz
instance :MapTB Tryz.prog 212:=kz
instance :Und Tryz.prog 2 (TypeDesc.int IntKind.i64):=kz
instance :Und Tryz.prog 3 (TypeDesc.int IntKind.i64):=kz
instance :Und Tryz.prog 5 (TypeDesc.int IntKind.u8):=kz
instance :Und Tryz.prog 9 TypeDesc.string:=kz
instance :Und Tryz.prog 30 (TypeDesc.int IntKind.u64):=kz
instance :Und Tryz.prog 197 (TypeDesc.int IntKind.u64):=kz
instance :Body Tryz.prog 9:=kz
instance :Body Tryz.prog 10:=kz
instance :Body Tryz.prog 11:=kz
instance :Body Tryz.prog 13:=kz
instance :Body Tryz.prog 14:=kz
instance :Body Tryz.prog 15:=kz
instance :Body Tryz.prog 16:=kz
instance :Body Tryz.prog 23:=kz
instance :Body Tryz.prog 24:=kz
instance :Body Tryz.prog 25:=kz
instance :Body Tryz.prog 26:=kz
instance :Body Tryz.prog 27:=kz
instance :Body Tryz.prog 28:=kz
instance :Body Tryz.prog 29:=kz
instance :Body Tryz.prog 30:=kz
instance :Body Tryz.prog 31:=kz
instance :Body Tryz.prog 32:=kz
instance :Body Tryz.prog 34:=kz
instance :Body Tryz.prog 35:=kz
instance :Body Tryz.prog 36:=kz
instance :Body Tryz.prog 37:=kz
instance :Body Tryz.prog 38:=kz
instance :Body Tryz.prog 39:=kz
instance :Body Tryz.prog 40:=kz
instance :Body Tryz.prog 41:=kz
instance :Body Tryz.prog 42:=kz
instance :Body Tryz.prog 43:=kz
instance :Body Tryz.prog 44:=kz
instance :Body Tryz.prog 45:=kz
instance :Body Tryz.prog 46:=kz
instance :Body Tryz.prog 47:=kz
instance :Body Tryz.prog 49:=kz
instance :Body Tryz.prog 51:=kz
instance :Body Tryz.prog 59:=kz
instance :Body Tryz.prog 60:=kz
instance :Body Tryz.prog 61:=kz
instance :Body Tryz.prog 62:=kz
instance :Body Tryz.prog 63:=kz
instance :Body Tryz.prog 64:=kz
instance :Body Tryz.prog 65:=kz
instance :Body Tryz.prog 66:=kz
instance :Body Tryz.prog 67:=kz
instance :Body Tryz.prog 68:=kz
instance :Body Tryz.prog 69:=kz
instance :Body Tryz.prog 70:=kz
instance :Body Tryz.prog 71:=kz
instance :Body Tryz.prog 72:=kz
instance :Body Tryz.prog 73:=kz
instance :Body Tryz.prog 74:=kz
instance :Body Tryz.prog 75:=kz
instance :Body Tryz.prog 77:=kz
instance :Body Tryz.prog 78:=kz
instance :Body Tryz.prog 79:=kz
instance :Body Tryz.prog 80:=kz
instance :Body Tryz.prog 81:=kz
instance :Body Tryz.prog 82:=kz
instance :Body Tryz.prog 83:=kz
instance :Body Tryz.prog 84:=kz
instance :Body Tryz.prog 85:=kz
instance :Body Tryz.prog 86:=kz
instance :Body Tryz.prog 87:=kz
instance :Body Tryz.prog 88:=kz
instance :Body Tryz.prog 89:=kz
instance :Body Tryz.prog 90:=kz
instance :Body Tryz.prog 91:=kz
instance :Body Tryz.prog 92:=kz
instance :Body Tryz.prog 93:=kz
instance :Body Tryz.prog 94:=kz
instance :Body Tryz.prog 95:=kz
instance :Body Tryz.prog 96:=kz
instance :Body Tryz.prog 97:=kz
instance :Body Tryz.prog 98:=kz
instance :Body Tryz.prog 99:=kz
instance :Body Tryz.prog 100:=kz
instance :Body Tryz.prog 101:=kz
instance :Body Tryz.prog 118:=kz
instance :Body Tryz.prog 119:=kz
instance :Body Tryz.prog 120:=kz
instance :Body Tryz.prog 123:=kz
instance :Body Tryz.prog 124:=kz
instance :Body Tryz.prog 125:=kz
instance :Body Tryz.prog 126:=kz
instance :Body Tryz.prog 127:=kz
instance :Body Tryz.prog 128:=kz
instance :Body Tryz.prog 129:=kz
instance :Body Tryz.prog 130:=kz
instance :Body Tryz.prog 131:=kz
instance :Body Tryz.prog 132:=kz
instance :Body Tryz.prog 133:=kz
instance :Body Tryz.prog 134:=kz
instance :Body Tryz.prog 135:=kz
instance :Body Tryz.prog 136:=kz
instance :Body Tryz.prog 137:=kz
instance :Body Tryz.prog 138:=kz
instance :Body Tryz.prog 139:=kz
instance :Body Tryz.prog 140:=kz
instance :Body Tryz.prog 141:=kz
instance :Body Tryz.prog 142:=kz
instance :Body Tryz.prog 143:=kz
instance :Body Tryz.prog 144:=kz
instance :Body Tryz.prog 145:=kz
instance :Body Tryz.prog 146:=kz
instance :Body Tryz.prog 147:=kz
instance :Body Tryz.prog 148:=kz
instance :Body Tryz.prog 153:=kz
instance :Body Tryz.prog 168:=kz
instance :Body Tryz.prog 169:=kz
instance :Body Tryz.prog 170:=kz
instance :Body Tryz.prog 171:=kz
instance :Body Tryz.prog 172:=kz
instance :Body Tryz.prog 173:=kz
instance :Body Tryz.prog 174:=kz
instance :Body Tryz.prog 175:=kz
instance :Body Tryz.prog 176:=kz
instance :Body Tryz.prog 177:=kz
instance :Body Tryz.prog 178:=kz
instance :Body Tryz.prog 179:=kz
instance :Body Tryz.prog 180:=kz
instance :Body Tryz.prog 181:=kz
instance :Body Tryz.prog 182:=kz
instance :Body Tryz.prog 183:=kz
instance :Body Tryz.prog 185:=kz
instance :Body Tryz.prog 192:=kz
instance :Body Tryz.prog 193:=kz
instance :Body Tryz.prog 194:=kz
instance :Body Tryz.prog 195:=kz
instance :Body Tryz.prog 196:=kz
end Go.Sx
namespace Go.Sx
open Go Go.Proofs Go.Proofs.YtjnlogbbcceaoaaGreat
section
variable {P:Program}
def OpensB (P:Program)(t:TypeId){α:Type}(en:α→List Value)(ok:Hp→α→Prop):Prop:=
 ∀(HH:Type) (enc:TypeId×Value→HH) (W:World) (fuel:Nat) (cs:List Value) (x:DataW HH×List MemPlace),DataW.trod enc P W 0 (fun _=>true) true fuel t cs=some x→Rows.uptoBulk x.1≤1048576→∃a:α,cs=en a∧ok (zq W) a
theorem ES {HH:Type}(d:DataW HH):1≤Rows.uptoBulk d:=by
 cases d with
 | lit l=>cases l<;>simp [Rows.uptoBulk]
 | nil=>simp [Rows.uptoBulk]
 | ptr d=>simp [Rows.uptoBulk]
 | slice elems spare=>simp [Rows.uptoBulk]
 | agg parts=>simp [Rows.uptoBulk]
 | iface t d=>simp [Rows.uptoBulk]
 | map entries=>simp [Rows.uptoBulk]
 | held h=>simp [Rows.uptoBulk]
theorem nQ {HH:Type}{d:DataW HH}:∀{l:List (DataW HH)},d∈l→Rows.uptoBulk d≤Rows.uptoBulkAll l
 | x::r,h=>by
  simp only [Rows.uptoBulkAll]
  rcases List.mem_cons.1 h with e | e
  ·subst e;omega
  ·have:=nQ e;omega
theorem yE {HH:Type}:∀{l:List (DataW HH)},l.length≤Rows.uptoBulkAll l
 | []=>by simp [Rows.uptoBulkAll]
 | x::r=>by
  simp only [Rows.uptoBulkAll,List.length_cons]
  have:=ES x;have:=yE (l:=r);omega
theorem bulk_of {HH:Type}{l:List (DataW HH)}{d:DataW HH}{i:Nat}(hk:Rows.uptoSmall HH l=true)(hi:l[i]? =some d):Rows.uptoBulk d≤1048576:=by
 have h1:Rows.uptoBulkAll l≤1048576:=of_decide_eq_true hk
 have h2:=nQ (List.mem_of_getElem? hi)
 omega
theorem BS {t:TypeId}{α:Type}{en:α→List Value}{ok:Hp→α→Prop}(h:E6 P t en ok):OpensB P t en ok:=fun HH enc W fuel cs x hx _=>h HH enc W fuel cs x hx
theorem vi {t e:TypeId}{k:Nat}{α:Type}{en:α→List Value}{ok:Hp→α→Prop}(ht:P.underlying t=some (.slice e))(hk:P.cellsOf e=k)(hpos:0<k)(he:OpensB P e en ok):
  OpensB P t (fun v:Sp×List α=>[.slice v.1.1 v.2.length v.1.2]) (fun H v=>RdSl H k en (.slice v.1.1 v.2.length v.1.2) v.2∧v.2.length≤1048576∧∀x∈v.2,ok H x):=by
 subst hk
 intro HH enc W fuel cs x h hbk
 rcases Go.Deep.open_slice ht h with ⟨rfl,_⟩ | ⟨a,len,cap,m,n,D,Pl,rfl,_,hl,hm,hmm,hxe,hx⟩
 ·exact⟨((none,0),[]),rfl,RdSl.nil,Nat.zero_le _,by simp⟩
 ·have hlm:m=cap:=by simpa using hmm
  subst hlm
  have hd:x.1= .slice ((List.range len).map D) ((List.range (m - len)).map fun j=>D (len+j)):=by rw [hxe]
  rw [hd] at hbk
  simp only [Rows.uptoBulk] at hbk
  have hlen1:len≤1048576:=by
   have:=yE (l:=(List.range len).map D)
   simp at this
   omega
  have hel:∀i,i<len→∃z:α,∃cs',W.cells? 0 (a.add (i * P.cellsOf e)) (P.cellsOf e)=some cs'∧cs'=en z∧ok (zq W) z:=fun i hi=>by
   obtain⟨cs',h1,h2⟩:=hx i omq
   have hbi:Rows.uptoBulk (D i)≤1048576:=by
    have:=nQ (d:=D i) (l:=(List.range len).map D) (List.mem_map.2 ⟨i,List.mem_range.2 hi,rfl⟩)
    omega
   obtain⟨z,h3,h4⟩:=he HH enc W n cs' _ h2 hbi
   exact⟨z,cs',h1,h3,h4⟩
  have hch:=oY hel
  obtain⟨l,hlen,hget⟩:=hch
  have hspot:l≠[]→a.spot=none:=fun hne=>by
   cases l with
   | nil=>exact absurd rfl hne
   | cons z l=>
    obtain⟨cs',h1,h2,_⟩:=hget 0 z rfl
    obtain⟨_,h3,h4⟩:=World.cells?_some h1
    have h5:=h4 0 omq
    have h6:cs'[0]? =some (cs'[0]'omq):=List.getElem?_eq_getElem omq
    rw [h6] at h5
    have:=Bt h5
    simpa [Addr.add] using this
  refine⟨((some a,m),l),(by simp only;rw [hlen]),⟨⟨_,_,rfl⟩,(by show l.length≤_;unfold maxLen at hm;omega),fun hne=>⟨m,?_⟩,fun i z hz j u hu=>?_,fun a' n' c' e=>by injection e with _ _ e;have e2:m=c':=e;show l.length≤c';omega⟩,by dsimp only;omega,fun z hz=>?_⟩
  ·have:=hspot hne
   obtain⟨b,o,sp⟩:=a
   simp only at this
   subst this
   simp [blk,off,hlen]
  ·obtain⟨cs',h1,rfl,_⟩:=hget i z hz
   obtain⟨_,h3,h4⟩:=World.cells?_some h1
   have hj:j<P.cellsOf e:=by rw [← h3];exact(List.getElem?_eq_some_iff.1 hu).1
   have h5:=h4 j hj
   have hsp:=hspot (fun e=>by rw [e] at hz;simp at hz)
   obtain⟨b,o,sp⟩:=a
   simp only at hsp
   subst hsp
   rw [eJ,eJ] at h5
   simp only [zq,blk,off]
   exact h5.trans hu
  ·obtain⟨i,hi⟩:=List.mem_iff_getElem?.1 hz
   obtain⟨cs',_,_,h4⟩:=hget i z hi
   exact h4
theorem OpensB.one {HH:Type}{enc:TypeId×Value→HH}{t:TypeId}{α:Type}{en:α→List Value}{ok:Hp→α→Prop}{W:World}{v:Value}{d:DataW HH}{p:List MemPlace}(h:OpensB P t en ok)(hT:DataW.Trod enc P W 0 (fun _=>true) true t v d p)(hb:Rows.uptoBulk d≤1048576):
  ∃a:α,v.cells.toList=en a∧ok (zq W) a:=by
 obtain⟨fuel,hf⟩:=hT
 exact h HH enc W fuel _ _ hf hb
end
end Go.Sx
namespace Go.Sx
open Go
inductive CT where
 | int
 | str (p:Str→Prop)
 | sl (t:Nat)
structure Sig where
 f:Nat→Option (Nat×Nat)
 N:Nat
instance :CoeFun Sig (fun _=>Nat→Option (Nat×Nat)):=⟨Sig.f⟩
def Sig.le (S S':Sig):Prop:=(∀b x,S b=some x→S' b=some x)∧S.N≤S'.N
theorem Sig.le.refl (S:Sig):S.le S:=⟨fun _ _ h=>h,Nat.le_refl _⟩
theorem Sig.le.trans {A B C:Sig}(h:A.le B)(k:B.le C):A.le C:=⟨fun b x hx=>k.1 b x (h.1 b x hx),Nat.le_trans h.2 k.2⟩
def Sig.up (S:Sig)(k:Nat):Sig:={S with N:=S.N+k}
theorem Sig.le_up (S:Sig)(k:Nat):S.le (S.up k):=⟨fun _ _ h=>h,Nat.le_add_right _ _⟩
def VarNm (s:Str):Prop:=s=[]∨s=[99]∨s=[110]∨s=[99,57]∨∃ds:Str,s=118::ds∧ds.length≤10∧∀c∈ds,48≤c∧c≤57
def AnyNm (s:Str):Prop:=s.length≤1000
def PNm (s:Str):Prop:=s.length≤1000∧s≠[109,111,114,101]
def eW:Nat→List CT
 | 0=>[.int,.str VarNm,.int,.str AnyNm,.int,.int]
 | 1=>[.str AnyNm,.str VarNm,.int]
 | 2=>[.str AnyNm,.str PNm,.sl 4]
 | 3=>[.int,.str VarNm,.str AnyNm,.str AnyNm,.str PNm,.int,.sl 4,.sl 2,.sl 1,.int]
 | _=>[.int]
def kT (t:Nat):Nat:=(eW t).length
theorem kT_pos:∀t,0<kT t
 | 0 | 1 | 2 | 3=>by decide
 | n+4=>by simp [kT,eW]
def SlT (S:Sig)(t:Nat)(a:Option Addr)(n c:Nat):Prop:=
 (a=none∧n=0∧c=0)∨∃b j m,a=some ⟨b,j * kT t,none⟩∧S b=some (t,m)∧n≤c∧j+c≤m∧c≤9223372036854775807
theorem SlT.nil {S:Sig}{t:Nat}:SlT S t none 0 0:=.inl ⟨rfl,rfl,rfl⟩
theorem SlT.le {S S':Sig}{t:Nat}{a:Option Addr}{n c:Nat}(h:SlT S t a n c)(hl:S.le S'):SlT S' t a n c:=by
 rcases h with h | ⟨b,j,m,h1,h2,h3⟩
 ·exact .inl h
 ·exact .inr ⟨b,j,m,h1,hl.1 _ _ h2,h3⟩
def CTy (H:Hp)(S:Sig):CT→Value→Prop
 | .int,v=>∃i,v= .int .i64 i
 | .str p,v=>∃s,v=gs s∧p s
 | .sl t,v=>∃a n c,v= .slice a n c∧SlT S t a n c∧n≤S.N
theorem CTy.le {H H':Hp}{S S':Sig}{ct:CT}{v:Value}(h:CTy H S ct v)(hH:H.le H')(hS:S.le S'):CTy H' S' ct v:=by
 cases ct with
 | int=>exact h
 | str p=>exact h
 | sl t=>
  obtain⟨a,n,c,e,hs,hn⟩:=h
  exact⟨a,n,c,e,hs.le hS,Nat.le_trans hn hS.2⟩
def AllT (H:Hp)(S:Sig):List CT→List Value→Prop
 | [],[]=>True
 | c::cs,v::vs=>CTy H S c v∧AllT H S cs vs
 | _,_=>False
theorem AllT.at {H:Hp}{S:Sig}:∀{cs:List CT} {vs:List Value},AllT H S cs vs→∀{j:Nat} {u:Value},vs[j]? =some u→∃ct,cs[j]? =some ct∧CTy H S ct u
 | [],[],_,j,u,hu=>by simp at hu
 | c::cs,v::vs,h,0,u,hu=>by simp at hu;subst hu;exact⟨c,rfl,h.1⟩
 | c::cs,v::vs,h,j+1,u,hu=>by
  obtain⟨ct,h1,h2⟩:=AllT.at h.2 (j:=j) (u:=u) (by simpa using hu)
  exact⟨ct,by simpa using h1,h2⟩
 | [],_::_,h,_,_,_=>h.elim
 | _::_,[],h,_,_,_=>h.elim
theorem AllT.of {H:Hp}{S:Sig}:∀{cs:List CT} {vs:List Value},vs.length=cs.length→(∀(j:Nat) (ct:CT),cs[j]? =some ct→∃u,vs[j]? =some u∧CTy H S ct u)→AllT H S cs vs
 | [],[],_,_=>trivial
 | c::cs,v::vs,hl,h=>by
  obtain⟨u,h1,h2⟩:=h 0 c rfl
  simp at h1;subst h1
  exact⟨h2,AllT.of (by simpa using hl) (fun j ct hj=>by simpa using h (j+1) ct (by simpa using hj))⟩
 | [],_::_,h,_=>by simp at h
 | _::_,[],h,_=>by simp at h
structure Bag (H:Hp)(S:Sig)(B:ak):Prop where
 ty:∀p∈B,∃t m,S p.1=some (t,m)∧p.2.length=m * kT t∧∀(o:Nat) (u:Value),p.2[o]? =some u→∃ct,(eW t)[o % kT t]? =some ct∧CTy H S ct u
 mem:∀b t m,S b=some (t,m)→∃cs,(b,cs)∈B
def Sig.nil:Sig:=⟨fun _=>none,10⟩
theorem Bag.nil {H:Hp}:Bag H Sig.nil []:=⟨by simp,by simp [Sig.nil]⟩
theorem Bag.leH {H H':Hp}{S:Sig}{B:ak}(h:Bag H S B)(hl:H.le H'):Bag H' S B:=
 ⟨fun p hp=>by
  obtain⟨t,m,h1,h2,h3⟩:=h.ty p hp
  refine⟨t,m,h1,h2,fun o u hu=>?_⟩
  obtain⟨ct,h4,h5⟩:=h3 o u hu
  exact⟨ct,h4,h5.le hl (.refl S)⟩,h.mem⟩
theorem Bag.up {H:Hp}{S:Sig}{B:ak}(h:Bag H S B)(k:Nat):Bag H (S.up k) B:=
 ⟨fun p hp=>by
  obtain⟨t,m,h1,h2,h3⟩:=h.ty p hp
  refine⟨t,m,h1,h2,fun o u hu=>?_⟩
  obtain⟨ct,h4,h5⟩:=h3 o u hu
  exact⟨ct,h4,h5.le (.refl H) (Sig.le_up S k)⟩,h.mem⟩
theorem Bag.perm {H:Hp}{S:Sig}{B B':ak}(h:Bag H S B)(hp:B.Perm B'):Bag H S B':=
 ⟨fun p hm=>h.ty p (hp.mem_iff.2 hm),fun b t m hs=>by
  obtain⟨cs,hc⟩:=h.mem b t m hs
  exact⟨cs,hp.mem_iff.1 hc⟩⟩
theorem Bag.take {H:Hp}{S:Sig}{B:ak}{b t m:Nat}(h:Bag H S B)(hS:S b=some (t,m)):∃cs R,B.Perm ((b,cs)::R)∧cs.length=m * kT t∧∀(o:Nat) (u:Value),cs[o]? =some u→∃ct,(eW t)[o % kT t]? =some ct∧CTy H S ct u:=by
 obtain⟨cs,hc⟩:=h.mem b t m hS
 obtain⟨X,Y,rfl⟩:=List.append_of_mem hc
 obtain⟨t',m',h1,h2,h3⟩:=h.ty _ hc
 rw [hS] at h1
 cases h1
 exact⟨cs,X++Y,List.perm_middle,h2,h3⟩
theorem Bag.back {H:Hp}{S:Sig}{R:ak}{b t m:Nat}{cs cs':List Value}(h:Bag H S ((b,cs)::R))(hS:S b=some (t,m))(hl:cs'.length=m * kT t)
    (hc:∀(o:Nat) (u:Value),cs'[o]? =some u→∃ct,(eW t)[o % kT t]? =some ct∧CTy H S ct u):Bag H S ((b,cs')::R):=
  ⟨fun p hp=>by
    rcases List.mem_cons.1 hp with rfl | hp
    · exact⟨t,m,hS,hl,hc⟩
    · exact h.ty p (List.mem_cons_of_mem _ hp),
   fun b' t' m' hs=>by
    obtain⟨c,hm⟩:=h.mem b' t' m' hs
    rcases List.mem_cons.1 hm with e | hm
    · cases e;exact⟨cs',by simp⟩
    · exact⟨c,List.mem_cons_of_mem _ hm⟩⟩
def Sig.put (S:Sig)(b t m:Nat):Sig:=⟨fun x=>if x=b then some (t,m) else S x,S.N⟩
theorem Sig.le_put {S:Sig}{b t m:Nat}(h:S b=none):S.le (S.put b t m):=⟨fun x y hx=>by
 simp only [Sig.put]
 split
 ·rename_i e;subst e;rw [h] at hx;cases hx
 ·exact hx,Nat.le_refl _⟩
theorem Sig.put_at {S:Sig}{b t m:Nat}:(S.put b t m) b=some (t,m):=by simp [Sig.put]
theorem Bag.add {H:Hp}{S:Sig}{B:ak}{b t m:Nat}{cs:List Value}(h:Bag H S B)(hb:S b=none)(hl:cs.length=m * kT t)
    (hc:∀(o:Nat) (u:Value),cs[o]? =some u→∃ct,(eW t)[o % kT t]? =some ct∧CTy H S ct u):Bag H (S.put b t m) ((b,cs)::B):=
  ⟨fun p hp=>by
    rcases List.mem_cons.1 hp with rfl | hp
    · refine⟨t,m,Sig.put_at,hl,fun o u hu=>?_⟩
      obtain⟨ct,h1,h2⟩:=hc o u hu
      exact⟨ct,h1,h2.le (.refl H) (Sig.le_put hb)⟩
    · obtain⟨t',m',h1,h2,h3⟩:=h.ty p hp
      refine⟨t',m',(Sig.le_put hb).1 _ _ h1,h2,fun o u hu=>?_⟩
      obtain⟨ct,h4,h5⟩:=h3 o u hu
      exact⟨ct,h4,h5.le (.refl H) (Sig.le_put hb)⟩,
   fun b' t' m' hs=>by
    simp only [Sig.put] at hs
    split at hs
    · rename_i e;subst e;exact⟨cs,by simp⟩
    · obtain⟨c,hm⟩:=h.mem b' t' m' hs
      exact⟨c,List.mem_cons_of_mem _ hm⟩⟩
theorem Bag.none {H:Hp}{S:Sig}{B:ak}(h:Bag H S B){b:Nat}(hb:∀p∈B,p.1≠b):S b=none:=by
 cases e:S b with
 | none=>rfl
 | some x=>
  obtain⟨cs,hc⟩:=h.mem b x.1 x.2 (by rw [e])
  exact absurd rfl (hb _ hc)
theorem set_get {cs:List Value}{o:Nat}{v:Value}{i:Nat}{u:Value}(h:(cs.set o v)[i]? =some u):(i=o∧u=v)∨cs[i]? =some u:=by
 rw [List.getElem?_set] at h
 split at h
 ·split at h
  ·simp only [Option.some.injEq] at h
   rename_i e _
   exact .inl ⟨e.symm,h.symm⟩
  ·cases h
 ·exact .inr h
theorem uX {vs cs:List Value}{o i:Nat}{u:Value}(hl:o+vs.length≤cs.length)(h:(bX cs o vs)[i]? =some u):(o≤i∧vs[i - o]? =some u)∨cs[i]? =some u:=by
 rw [ge _ _ _ hl] at h
 by_cases h1:i<o
 ·rw [List.getElem?_append_left (by simp;omega),List.getElem?_take,if_pos h1] at h
  exact .inr h
 ·rw [List.getElem?_append_right (by simp;omega),List.length_take,Nat.min_eq_left omq] at h
  by_cases h2:i - o<vs.length
  ·rw [List.getElem?_append_left h2] at h
   exact .inl ⟨by omega,h⟩
  ·rw [List.getElem?_append_right omq,List.getElem?_drop] at h
   rw [show o+vs.length+(i - o - vs.length)=i by omega] at h
   exact .inr h
theorem sk {z:Array Value}{m o:Nat}{u:Value}(hz:0<z.size)(h:(Builtin.zeroCells z m).toList[o]? =some u):z.toList[o % z.size]? =some u:=by
 have h1:(Builtin.zeroCells z m)[o]? =some u:=by simpa using h
 unfold Builtin.zeroCells at h1
 rw [Array.getElem?_map] at h1
 cases e:(Array.range (m * z.size))[o]? with
 | none=>rw [e] at h1;simp at h1
 | some i=>
  rw [e] at h1
  obtain⟨hlt,hi⟩:=Array.getElem?_eq_some_iff.1 e
  simp at hi
  subst hi
  have hm:=Nat.mod_lt o hz
  simp only [Option.map_some,Option.some.injEq] at h1
  rw [Array.getElem!_eq_getD,Array.getD_eq_getD_getElem?,Array.getElem?_eq_getElem hm] at h1
  simp only [Option.getD_some] at h1
  subst h1
  simp [hm]
section
variable {P:Program}{n:Nat}{ops:Array Oper}{Q:Exit→Act→World→Prop}{E:Env}{M:List Nat}{w0:World}{H0 H:Hp}{L:ak}{C:World→Prop}{rest:List Oper}{dst:Option Nat}{op:Op}{ty:TypeId}{pos:String}{aft:Array Edge}
theorem xH {α : Type} {k t e bs tt : Nat} {z : List Value} {enc : α → List Value} [hc : Cells k enc] [hE : Elz P tt e k bs z] {S : Sig} {B : ak} {F : ak → ak} {a : Option Addr} {n c : Nat} {v2 : Value} {ys : List α} {ty : TypeId}
  (hB : Bag H S B) (hT : SlT S t a n c) (hS : Src M w0 H0 H L enc v2 ys) (hk : kT t = k) (hy : ∀ y ∈ ys, AllT H S (eW t) (enc y)) (hz : AllT H S (eW t) z)
  (hb : (n + ys.length) * bs ≤ 140737488355328) (hbs : 0 < bs) (hU : Tl B L F) {w : World} (hw : St M w0 H0 H L w) :
  ∃ S' a' c' B' w', (S.le S' ∧ S'.N = S.N) ∧ SlT S' t a' (n + ys.length) c' ∧ Bag H S' B' ∧ St M w0 H0 H (F B') w' ∧ (Builtin.append_ #[tt, tt] ty #[.slice a n c, v2]).run P w = .ok (.slice a' (n + ys.length) c') w' := by
 obtain ⟨hu, i, zv, hi, h1, h2, h3, h4⟩ := hE.und
 have hkp := hc.pos
 have hmax : n + ys.length ≤ 140737488355328 := Nat.le_trans (Nat.le_mul_of_pos_right _ hbs) hb
 obtain ⟨R, hp1, hp2⟩ := hU.perm
 have hwR := hw.perm hp1
 obtain ⟨a2, cap2, rfl, hsrc⟩ := hS
 have hzk : zv.cells.size = k := by rw [← hE.len, ← h4]; simp
 have hzl : ∀ m, (Builtin.zeroCells zv.cells m).toList.length = m * k := by intro m; rw [Array.length_toList, size_zeroCells, hzk]
 have hzt : ∀ m (o : Nat) (u : Value), (Builtin.zeroCells zv.cells m).toList[o]? = some u → ∃ ct, (eW t)[o % k]? = some ct ∧ CTy H S ct u := fun m o u hx => by
  have := sk omq hx
  rw [h4, hzk] at this
  exact hz.at this
 by_cases hys : ys = []
 ·subst hys
  have hfc : ∀ w, (Builtin.firstCells i.size 0 (.slice a2 0 cap2)).run P w = .ok #[] w := by
   intro w
   cases a2 with
   | none => exact run_firstCells_none w _ _ _ _
   | some a => exact run_firstCells_some (P := P) w i.size 0 a 0 cap2 [] sq sq
  refine ⟨S, a, c, B, w, ⟨.refl S, rfl⟩, by simpa using hT, hB, hw.perm (hp1.trans (hp2 B).symm), ?_⟩
  rcases hT with ⟨rfl, rfl, rfl⟩ | ⟨b, j, m, rfl, hSb, hn, hjc, hcm⟩
  ·simp [Builtin.append_, run_underlying hu, sizeOf, typeInfo, hi, Builtin.lenOf, hfc]
  ·simp [Builtin.append_, run_underlying hu, sizeOf, typeInfo, hi, Builtin.lenOf, hfc, hn, storeCells]
 ·obtain ⟨sb, so, rfl, hrd⟩ := hsrc hys
  have hrd' : ∀ j u, (ys.flatMap enc)[j]? = some u → w.cell? ((⟨sb, so, none⟩ : Addr).add j) = some u := fun j u hj => by rw [eJ]; exact hrd w hw j u hj
  have hyl : (ys.flatMap enc).length = ys.length * k := jb (fun x _ => hc.len x)
  have hyl' : (ys.flatMap enc).length = ys.length * i.size := by rw [hyl, h1]
  have hypos : 0 < ys.length := List.length_pos_iff.2 hys
  have hyt : ∀ (o : Nat) (u : Value), (ys.flatMap enc)[o]? = some u → ∃ ct, (eW t)[o % k]? = some ct ∧ CTy H S ct u := fun o u hx => by
   obtain ⟨x, h5, h6⟩ := kN hkp (fun x _ => hc.len x) o u hx
   exact (hy x (List.mem_of_getElem? h5)).at h6
  have hone : ∀ u ∈ ys.flatMap enc, u.oneCell' = true := by
   intro u hu
   obtain ⟨x, _, hx⟩ := List.mem_flatMap.1 hu
   exact List.all_eq_true.1 (hc.one x) u hx
  have fresh : ∀ {X : ak} {cs : List Value} {w' : World}, St M w0 H0 H ((w.heap.size, cs) :: (B ++ X)) w' → S w.heap.size = none := fun {X cs w'} hst => hB.none (fun p hp e => by
   have hnd := hst.nd
   simp only [List.map_cons, List.nodup_cons] at hnd
   exact hnd.1 (List.mem_map.2 ⟨p, List.mem_append_left _ hp, e⟩))
  rcases hT with ⟨rfl, rfl, rfl⟩ | ⟨b, j, m, rfl, hSb, hn, hjc, hcm⟩
  ·-- the first block
   have hb0 : ys.length * i.bytes ≤ 281474976710656 := by rw [h2]; simp at hb; omega
   have hr := run_append_nil (P := P) w tt ty e i zv hu hi h3 ⟨sb, so, none⟩ ys.length cap2 (ys.flatMap enc) hyl' hrd' hypos (by simp at hmax; omega) hb0
   have hge := grownCap_ge w ys.length 0 e
   have hcm := grownCap_le_maxLen w ys.length 0 e (by simp only [maxLen]; simp at hmax; omega)
   simp only [maxLen] at hcm
   have hst := (hwR.drew).alloc ((ys.flatMap enc) ++ (Builtin.zeroCells zv.cells (grownCap w ys.length 0 e - ys.length)).toList) e
   have hlen : ((ys.flatMap enc) ++ (Builtin.zeroCells zv.cells (grownCap w ys.length 0 e - ys.length)).toList).length = grownCap w ys.length 0 e * kT t := by
    rw [List.length_append, hyl, hzl, ← Nat.add_mul, hk]; congr 1; omega
   refine ⟨S.put w.heap.size t (grownCap w ys.length 0 e), some ⟨w.heap.size, 0, none⟩, grownCap w ys.length 0 e, (w.heap.size, (ys.flatMap enc) ++ (Builtin.zeroCells zv.cells (grownCap w ys.length 0 e - ys.length)).toList) :: B, _, ⟨Sig.le_put (fresh hst), rfl⟩, .inr ⟨w.heap.size, 0, _, by simp, Sig.put_at, by omega, by omega, by omega⟩, hB.add (fresh hst) hlen (fun o u hx => ?_), hst.perm (hp2 ((_, _) :: B)).symm, ?_⟩
   ·by_cases ho : o < (ys.flatMap enc).length
    ·rw [List.getElem?_append_left ho] at hx; rw [hk]; exact hyt o u hx
    ·rw [List.getElem?_append_right omq] at hx
     have := hzt _ _ _ hx
     rw [hk]
     rw [show o % k = (o - (ys.flatMap enc).length) % k by
      rw [hyl]; conv => lhs; rw [show o = (o - ys.length * k) + ys.length * k by omega]
      rw [Nat.add_mul_mod_self_right]]
     exact this
   ·rw [hr]
    congr 2
    ·simp
    ·simp
  ·obtain ⟨cs, R2, hp3, hcl, hct⟩ := hB.take hSb
   have hB2 := hB.perm hp3
   have hw2 : St M w0 H0 H ((b, cs) :: (R2 ++ R)) w := hwR.perm (by simpa using hp3.append_right R)
   rw [hk] at hcl
   have hjm : j * k + c * k ≤ m * k := by rw [← Nat.add_mul]; exact Nat.mul_le_mul_right _ hjc
   by_cases hroom : n + ys.length ≤ c
   ·-- room
    have hroomk : n * k + ys.length * k ≤ c * k := by rw [← Nat.add_mul]; exact Nat.mul_le_mul_right _ hroom
    have hfit : j * k + n * k + 0 + (ys.flatMap enc).length ≤ cs.length := by rw [hyl, hcl]; omega
    obtain ⟨w', hr, hst⟩ := fI (P := P) (ys.flatMap enc) cs (j * k + n * k) 0 _ _ w hw2 (Upd.here _) hone hfit
    have hfc := run_firstCells_some (P := P) w i.size ys.length ⟨sb, so, none⟩ ys.length cap2 (ys.flatMap enc) hyl' hrd'
    have hfit' : (j * k + n * k) + (ys.flatMap enc).length ≤ cs.length := by omega
    have hsl : (bX cs (j * k + n * k) (ys.flatMap enc)).length = m * kT t := by
     rw [ge _ _ _ hfit', hk, ← hcl]
     simp only [List.length_append, List.length_take, List.length_drop]; omega
    refine ⟨S, some ⟨b, j * kT t, none⟩, c, (b, bX cs (j * k + n * k) (ys.flatMap enc)) :: R2, w', ⟨.refl S, rfl⟩, .inr ⟨b, j, m, rfl, hSb, hroom, hjc, hcm⟩, hB2.back hSb hsl (fun o u hx => ?_), hst.perm (by simpa using (hp2 ((_, _) :: R2)).symm), ?_⟩
    ·rcases uX hfit' hx with ⟨ho, hx⟩ | hx
     ·have := hyt _ _ hx
      rw [hk]
      rw [show o % k = (o - (j * k + n * k)) % k by
       conv => lhs; rw [show o = (o - (j * k + n * k)) + (j + n) * k by rw [Nat.add_mul]; omega]
       rw [Nat.add_mul_mod_self_right]]
      exact this
     ·exact hct o u hx
    ·have hr' : (storeCells ⟨b, j * kT t + n * i.size, none⟩ (ys.flatMap enc)).run P w = .ok () w' := by rw [h1, hk]; exact hr
     simp [Builtin.append_, run_underlying hu, sizeOf, typeInfo, hi, Builtin.lenOf, hroom, hfc, Addr.add_lit, hr']
   ·-- a new block
    have hnk : n * k ≤ c * k := Nat.mul_le_mul_right _ hn
    have hol : ((cs.drop (j * k)).take (n * k)).length = n * k := by rw [List.length_take, List.length_drop, hcl]; omega
    have hog : ∀ (o : Nat) (u : Value), ((cs.drop (j * k)).take (n * k))[o]? = some u → cs[j * k + o]? = some u := fun o u hx => by
     rw [List.getElem?_take] at hx
     split at hx
     ·rwa [List.getElem?_drop] at hx
     ·cases hx
    have holds : ∀ o u, ((cs.drop (j * k)).take (n * k))[o]? = some u → w.cell? ((⟨b, j * kT t, none⟩ : Addr).add o) = some u := by
     intro o u hj
     rw [eJ, hk, hw2.cell (.here _)]
     exact hog o u hj
    have hr := run_append_grow (P := P) w tt ty e i zv hu hi h3 ⟨b, j * kT t, none⟩ n c ((cs.drop (j * k)).take (n * k)) (by rw [hol, h1]) holds ⟨sb, so, none⟩ ys.length cap2 (ys.flatMap enc) hyl' hrd' omq omq (growslice_fits omq (by rw [h2]; exact hb))
    have hge := grownCap_ge w (n + ys.length) c e
    have hcm2 := grownCap_le_maxLen w (n + ys.length) c e (by simp only [maxLen]; omega)
    simp only [maxLen] at hcm2
    have hst := (hwR.drew).alloc (((cs.drop (j * k)).take (n * k)) ++ (ys.flatMap enc) ++ (Builtin.zeroCells zv.cells (grownCap w (n + ys.length) c e - (n + ys.length))).toList) e
    have hlen : (((cs.drop (j * k)).take (n * k)) ++ (ys.flatMap enc) ++ (Builtin.zeroCells zv.cells (grownCap w (n + ys.length) c e - (n + ys.length))).toList).length = grownCap w (n + ys.length) c e * kT t := by
     rw [List.length_append, List.length_append, hol, hyl, hzl, ← Nat.add_mul, ← Nat.add_mul, hk]; congr 1; omega
    refine ⟨S.put w.heap.size t (grownCap w (n + ys.length) c e), some ⟨w.heap.size, 0, none⟩, grownCap w (n + ys.length) c e, (w.heap.size, ((cs.drop (j * k)).take (n * k)) ++ (ys.flatMap enc) ++ (Builtin.zeroCells zv.cells (grownCap w (n + ys.length) c e - (n + ys.length))).toList) :: B, _, ⟨Sig.le_put (fresh hst), rfl⟩, .inr ⟨w.heap.size, 0, _, by simp, Sig.put_at, by omega, by omega, by omega⟩, hB.add (fresh hst) hlen (fun o u hx => ?_), hst.perm (hp2 ((_, _) :: B)).symm, ?_⟩
    ·rw [hk]
     by_cases ho : o < n * k
     ·rw [List.append_assoc, List.getElem?_append_left (by rw [hol]; exact ho)] at hx
      have := hct _ _ (hog o u hx)
      rw [hk, Nat.mul_comm, Nat.mul_add_mod] at this
      exact this
     ·rw [List.append_assoc, List.getElem?_append_right (by rw [hol]; omega), hol] at hx
      have hoe : o % k = (o - n * k) % k := by
       conv => lhs; rw [show o = (o - n * k) + n * k by omega]
       rw [Nat.add_mul_mod_self_right]
      rw [hoe]
      by_cases ho2 : o - n * k < (ys.flatMap enc).length
      ·rw [List.getElem?_append_left ho2] at hx; exact hyt _ u hx
      ·rw [List.getElem?_append_right omq] at hx
       have := hzt _ _ _ hx
       rw [show (o - n * k) % k = (o - n * k - (ys.flatMap enc).length) % k by
        rw [hyl]; conv => lhs; rw [show o - n * k = (o - n * k - ys.length * k) + ys.length * k by omega]
        rw [Nat.add_mul_mod_self_right]]
       exact this
    ·rw [hr]
     congr 2
     congr 1
     apply Array.ext'; simp
theorem iM {α:Type}{k t e bs tt:Nat}{z:List Value}{enc:α→List Value}[hc:Cells k enc]{cl:Call}{x y:Operand}{S:Sig}{B:ak}{F:ak→ak}{a:Option Addr}{m c:Nat}{v2:Value}{ys:List α}
  (hcl:cl={callee:=.builtin .append,args:= #[x,y],argTypes:= #[tt,tt]}) (hx:ev E x=some (.slice a m c)) (hy:ev E y=some v2) (hB:Bag H S B) (hT:SlT S t a m c) (hS:Src M w0 H0 H L enc v2 ys)
  [hE:Elz P tt e k bs z] (hk:kT t=k) (hyt:∀y∈ys,AllT H S (eW t) (enc y)) (hz:AllT H S (eW t) z) (hb:(m+ys.length) * bs≤140737488355328) (hbs:Nat.blt 0 bs=true) (hU:Tl B L F) (hd:cx dst n=true)
  (h:∀S' a' c' B',S.le S'→S'.N=S.N+ys.length→SlT S' t a' (m+ys.length) c'→Bag H S' B'→TL P n ops Q rest (cr dst (.slice a' (m+ys.length) c') E) (St M w0 H0 H (F B'))):
  TL P n ops Q ({dst:=dst,op:=.call cl,type:=ty,pos:=pos,after:=aft,guard:=none}::rest) E (St M w0 H0 H L):=by
 intro a0 w he hw
 refine cA rfl (fun K hK=>?_)
 obtain⟨S',a',c',B',w',h0,h1,h2,h3,h4⟩:=xH (P:=P) (tt:=tt) (ty:=ty) hB hT hS hk hyt hz hb (by simpa [Nat.blt_eq] using hbs) hU hw
 have hrun:(execOp a0.eval {dst:=dst,op:=.call cl,type:=ty,pos:=pos,after:=aft,guard:=none}).run P w= .ok (.value (.slice a' (m+ys.length) c')) w':=by
  subst hcl
  simp [execOp,resolve,invoke,builtin,he.eval hx,he.eval hy,h4]
 unfold Oper.wp
 rw [hrun]
 exact hK _ _ (h (S'.up ys.length) a' c' B' (h0.1.trans (Sig.le_up _ _)) (by simp only [Sig.up];rw [h0.2]) (h1.le (Sig.le_up _ _)) (h2.up _) _ _ (he.put hd) h3)
theorem TL.stT {t m b o k1:Nat}{x y:Operand}{u:Value}{ct:CT}{S:Sig}{B:ak}{F:ak→ak}{tt:TypeId}(hx:ev E x=some (.pointer (some ⟨b,o,none⟩)))(hy:ev E y=some u)(hB:Bag H S B)(hU:Tl B L F)(hS:S b=some (t,m))(ho:o<m * kT t)(hct:(eW t)[o % kT t]? =some ct)
  (hu:CTy H S ct u) [ht:Ty P tt false k1] [h1:One u] (hk:k1=1) (hd:cx dst n=true) (h:∀B',Bag H S B'→TL P n ops Q rest (cr dst undef E) (St M w0 H0 H (F B'))):
  TL P n ops Q ({dst:=dst,op:=.store tt x y,type:=ty,pos:=pos,after:=aft,guard:=none}::rest) E (St M w0 H0 H L):=by
 obtain⟨cs,R2,hp3,hcl,hty⟩:=hB.take hS
 obtain⟨R,hp1,hp2⟩:=hU.perm
 have hlt:o<cs.length:=by rw [hcl];exact ho
 have hp:L.Perm ((b,cs)::(R2++R)):=hp1.trans (by simpa using hp3.append_right R)
 refine aV hp (aX (b:=b) (o:=o) hx hy hk (.here _) (by rw [Nat.blt_eq];exact hlt) hd ?_)
 have hB':Bag H S ((b,cs.set o u)::R2):=(hB.perm hp3).back hS (by rw [List.length_set];exact hcl) (fun i v hv=>by
  rcases set_get hv with ⟨rfl,rfl⟩ | hv
  ·exact⟨ct,hct,hu⟩
  ·exact hty i v hv)
 exact aV (by simpa using(hp2 ((b,cs.set o u)::R2)).symm) (h _ hB')
end
theorem SlT.at {S:Sig}{t:Nat}{a:Option Addr}{n c:Nat}(h:SlT S t a n c)(hn:0<n):∃b j m,a=some ⟨b,j * kT t,none⟩∧S b=some (t,m)∧j+n≤m:=by
 rcases h with ⟨_,rfl,_⟩ | ⟨b,j,m,h1,h2,h3,h4,_⟩
 ·omega
 ·exact⟨b,j,m,h1,h2,by omega⟩
theorem bag_lt {j n m k i f:Nat}(h:j+n≤m)(hi:i<n)(hf:f<k):j * k+i * k+f<m * k:=by
 have h1:(j+i+1) * k≤m * k:=Nat.mul_le_mul_right _ omq
 rw [Nat.succ_mul,Nat.add_mul] at h1
 omega
theorem bag_mod {j k i f:Nat}(hf:f<k):(j * k+i * k+f) % k=f:=by
 rw [← Nat.add_mul,Nat.add_comm,Nat.add_mul_mod_self_right,Nat.mod_eq_of_lt hf]
theorem St.pubL {M:List Nat}{w0:World}{H0:Hp}{R:ak}:∀{B:ak} {H:Hp} {w:World},St M w0 H0 H (B++R) w→(∀p∈B,p.1∉M)→∃H',H.le H'∧(∀p∈B,∀(o:Nat) (u:Value),p.2[o]? =some u→H' p.1 o=some u)∧St M w0 H0 H' R w
 | [],H,w,hw,_=>⟨H,.refl H,by simp,hw⟩
 | (b,cs)::B,H,w,hw,hM=>by
  have h1:=hw.publish (hM (b,cs) sq)
  obtain⟨H',h2,h3,h4⟩:=St.pubL (B:=B) h1 (fun p hp=>hM p (List.mem_cons_of_mem _ hp))
  refine⟨H',hw.le_add.trans h2,fun p hp o u hu=>?_,h4⟩
  rcases List.mem_cons.1 hp with rfl | hp
  ·exact h2 _ _ _ (by simp only [Hp.add,if_true];exact hu)
  ·exact h3 p hp o u hu
structure BagH (H:Hp)(S:Sig):Prop where
 get:∀b t m,S b=some (t,m)→∀o,o<m * kT t→∃ct u,(eW t)[o % kT t]? =some ct∧H b o=some u∧CTy H S ct u
theorem St.pubB {M:List Nat}{w0 w:World}{H0 H:Hp}{L B:ak}{F:ak→ak}{S:Sig}(hB:Bag H S B)(hU:Tl B L F)(hM:∀p∈B,p.1∉M)(hw:St M w0 H0 H L w):∃H',H.le H'∧BagH H' S∧St M w0 H0 H' (F []) w:=by
 obtain⟨R,hp1,hp2⟩:=hU.perm
 obtain⟨H',h1,h2,h3⟩:=St.pubL (hw.perm hp1) hM
 refine⟨H',h1,⟨fun b t m hS o ho=>?_⟩,h3.perm (by simpa using(hp2 []).symm)⟩
 obtain⟨cs,hc⟩:=hB.mem b t m hS
 obtain⟨t',m',e,hl,hty⟩:=hB.ty _ hc
 rw [hS] at e
 cases e
 have hlt:o<cs.length:=by rw [hl];exact ho
 obtain⟨ct,h4,h5⟩:=hty o cs[o] (List.getElem?_eq_getElem hlt)
 exact⟨ct,cs[o],h4,h2 _ hc o _ (List.getElem?_eq_getElem hlt),h5.le h1 (.refl S)⟩
theorem vx {α:Type}{p:Nat→α→Prop}:∀{n:Nat},(∀i,i<n→∃x,p i x)→∃xs:List α,xs.length=n∧∀i x,xs[i]? =some x→p i x
 | 0,_=>⟨[],rfl,by simp⟩
 | n+1,h=>by
  obtain⟨xs,hl,hx⟩:=vx (n:=n) (fun i hi=>h i omq)
  obtain⟨y,hy⟩:=h n omq
  refine⟨xs++[y],by simp [hl],fun i x hi=>?_⟩
  by_cases hin:i<n
  ·rw [List.getElem?_append_left omq] at hi;exact hx i x hi
  ·rw [List.getElem?_append_right omq] at hi
   have:i - xs.length=0:=by
    have:=(List.getElem?_eq_some_iff.1 hi).1
    simp at this;omega
   rw [this] at hi
   simp at hi
   subst hi
   rwa [show i=n by omega]
theorem BagH.elem {H:Hp}{S:Sig}{t b m e:Nat}(h:BagH H S)(hS:S b=some (t,m))(he:e<m):∃cs,AllT H S (eW t) cs∧∀(j:Nat) (u:Value),cs[j]? =some u→H b (e * kT t+j)=some u:=by
 have hk:=kT_pos t
 obtain⟨cs,hl,hc⟩:=vx (n:=kT t) (p:=fun j u=>H b (e * kT t+j)=some u∧∃ct,(eW t)[j]? =some ct∧CTy H S ct u) (fun j hj=>by
  have hlt:e * kT t+j<m * kT t:=by
   have:(e+1) * kT t≤m * kT t:=Nat.mul_le_mul_right _ omq
   rw [Nat.succ_mul] at this;omega
  obtain⟨ct,u,h1,h2,h3⟩:=h.get b t m hS _ hlt
  rw [Nat.mul_comm,Nat.mul_add_mod,Nat.mod_eq_of_lt hj] at h1
  exact⟨u,h2,ct,h1,h3⟩)
 refine⟨cs,AllT.of hl (fun j ct hj=>?_),fun j u hu=>(hc j u hu).1⟩
 have hjl:j<cs.length:=by rw [hl];exact(List.getElem?_eq_some_iff.1 hj).1
 obtain⟨h1,ct',h2,h3⟩:=hc j cs[j] (List.getElem?_eq_getElem hjl)
 rw [hj] at h2
 cases h2
 exact⟨cs[j],List.getElem?_eq_getElem hjl,h3⟩
theorem SlT.list {α:Type}{k:Nat}{enc:α→List Value}[hc:Cells k enc]{H:Hp}{S:Sig}{t:Nat}{a:Option Addr}{n c:Nat}{p:α→Prop}(hT:SlT S t a n c)(hk:kT t=k)(hB:BagH H S)(hd:∀cs,AllT H S (eW t) cs→∃x,cs=enc x∧p x):∃xs:List α,xs.length=n∧RdSl H k enc (.slice a n c) xs∧∀x∈xs,p x:=by
 rcases hT with ⟨rfl,rfl,rfl⟩ | ⟨b,j,m,rfl,hS,hn,hj,hm⟩
 ·exact⟨[],rfl,⟨⟨_,_,rfl⟩,by simp,fun h=>absurd rfl h,fun i x hx=>by simp at hx,fun a n c _=>by simp⟩,by simp⟩
 ·obtain⟨xs,hl,hx⟩:=vx (n:=n) (p:=fun i x=>p x∧∀(f:Nat) (u:Value),(enc x)[f]? =some u→H b (j * k+i * k+f)=some u) (fun i hi=>by
   obtain⟨cs,h1,h2⟩:=hB.elem hS (e:=j+i) omq
   obtain⟨x,rfl,hp⟩:=hd cs h1
   refine⟨x,hp,fun f u hu=>?_⟩
   have:=h2 f u hu
   rwa [hk,Nat.add_mul] at this)
  refine⟨xs,hl,⟨⟨_,_,by rw [hl]⟩,by omega,fun _=>⟨c,by rw [hl];rfl⟩,fun i x hi f u hu=>?_,fun a n c' e=>by injection e with _ _ e;omega⟩,fun x hm=>?_⟩
  ·have:=(hx i x hi).2 f u hu
   simpa [blk,off,hk] using this
  ·obtain⟨i,hi⟩:=List.getElem?_of_mem hm
   exact(hx i x hi).1
end Go.Sx
