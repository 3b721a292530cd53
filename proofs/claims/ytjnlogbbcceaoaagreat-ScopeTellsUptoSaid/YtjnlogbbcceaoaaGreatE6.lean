import Derived.Test.YtjnlogbbcceaoaaGreatE5
import Derived.Maps.Own
import Derived.Laws.StructEq
import Derived.Test.YtjnlogbbcceaoaaGreatProg
import Derived.Test.YtjnlogbbcceaoaaGreatRows
set_option linter.all false
set_option maxRecDepth 100000
set_option maxHeartbeats 32000000
namespace Go.Sx
open Go
theorem iT {l:List Int}{k:Int}(h:k.toNat<l.length):l[k.toNat]? =some (aP l k):=by
 unfold aP;rw [List.getElem?_eq_getElem h];rfl
theorem ym:∀xs:List Int,xs.map (Value.int .i64)=xs.flatMap I64.cells
 | []=>rfl
 | x::r=>by rw [List.map_cons,List.flatMap_cons,ym r];rfl
def vR (n k:Nat):List Int:=List.replicate k (-2)++List.replicate (n - k) 0
theorem IM {n k:Nat}(h:k≤n):(vR n k).length=n:=by unfold vR;simp;omega
theorem IL {n:Nat}{k:Int}(k0:0≤k)(hk:k<n):(vR n k.toNat).set k.toNat (-2)=vR n (k+1).toNat:=by
 unfold vR
 rw [List.set_append_right _ _ sq,List.length_replicate,Nat.sub_self,show n - k.toNat=(n - (k+1).toNat)+1 by omega,List.replicate_succ,List.set_cons_zero,show(k+1).toNat=k.toNat+1 by omega,List.replicate_succ',List.append_assoc]
 rfl
theorem IN {n:Nat}{k:Int}(hk:¬k<n)(k1:k≤n):(vR n k.toNat).set (0:Int).toNat (-1)=(j3 n).1:=by
 unfold vR j3
 rw [show k.toNat=n by omega,Nat.sub_self]
 simp
section
variable {n k j y:Int}{q:SProc}{s:SStep}{p:List Int×List Int}{L:List Int}{N:List Int×List Int}
theorem FZ {X:List Int}(k0:0≤k)(hx:q.steps[k.toNat]? =some s)(h:X=(eV n (q.steps.drop k.toNat) k p).1):X=(eV n (q.steps.drop (k+1).toNat) (k+1) (dJ n k (dR s) p)).1:=by
 rw [h,bj hx,eV,show(k+1).toNat=k.toNat+1 by omega]
theorem IK {X:List Int}(k0:0≤k)(hk:¬k<q.steps.length)(h:X=(eV n (q.steps.drop k.toNat) k p).1):X=p.1:=by
 rw [h,List.drop_of_length_le om];rfl
theorem IJ (j0:0≤j)(hy:L[j.toNat]? =some y)(hb:(decide (y≤k)||decide (n≤y))=true)(h:N=dJ n k (L.drop j.toNat) p):N=dJ n k (L.drop (j+1).toNat) p:=by
 rw [h,bj hy,dJ,if_pos (by simpa using hb),show(j+1).toNat=j.toNat+1 by omega]
theorem Db (hb:(decide (y≤k)||decide (n≤y))=false):¬(y≤k∨n≤y):=by
 intro e;rw [← Bool.not_eq_true] at hb;exact hb (by simpa using e)
theorem pgo_T {o c:List Int}(j0:0≤j)(hy:L[j.toNat]? =some y)(hb:(decide (y≤k)||decide (n≤y))=false)(h1:1<aP (fU c y) y)(h:N=dJ n k (L.drop j.toNat) (o,c)):N=dJ n k (L.drop (j+1).toNat) (o.set y.toNat (-2),fU c y):=by
 rw [h,bj hy,dJ,if_neg (Db hb),show(j+1).toNat=j.toNat+1 by omega,if_pos h1]
theorem pgo_F {o c:List Int}(j0:0≤j)(hy:L[j.toNat]? =some y)(hb:(decide (y≤k)||decide (n≤y))=false)(h1:¬1<aP (fU c y) y)(h:N=dJ n k (L.drop j.toNat) (o,c)):N=dJ n k (L.drop (j+1).toNat) (o.set y.toNat k,fU c y):=by
 rw [h,bj hy,dJ,if_neg (Db hb),show(j+1).toNat=j.toNat+1 by omega,if_neg h1]
theorem pgo_end (j0:0≤j)(hj:¬j<L.length)(h:N=dJ n k (L.drop j.toNat) p):N=p:=by
 rw [h,List.drop_of_length_le om];rfl
end
section
variable {q:SProc}{up:List Int}{at_ k d i:Int}{s x:SStep}
theorem tm_bad {y:Int}(h:(dR s).all (fun t=>!(decide (t≤at_)||decide ((q.steps.length:Int)≤t)))=false):false=iK q up at_ s:=by
 unfold iK;rw [h];rfl
theorem tm_up (h:(dR s).all (fun t=>!(decide (t≤at_)||decide ((q.steps.length:Int)≤t)))=true)(h2:(decide (0<at_)&&decide (aP up at_<0))=true):false=iK q up at_ s:=by
 unfold iK;rw [h,h2];rfl
theorem tm_end (h:(dR s).all (fun t=>!(decide (t≤at_)||decide ((q.steps.length:Int)≤t)))=true)(h2:(decide (0<at_)&&decide (aP up at_<0))=false)(hi:¬0≤i)(hd:ff q up at_=d+(if i<0 then 0 else ff q up i)):decide (d≤24)=iK q up at_ s:=by
 unfold iK
 rw [h,h2,hd,if_pos om,Int.add_zero];rfl
theorem Ew (hlt:∀j:Int,0≤j→j<q.steps.length→aP up j<j)(i0:0≤i)(hn:i<q.steps.length)(hx:q.steps[i.toNat]? =some x)(hd:ff q up at_=d+(if i<0 then 0 else ff q up i)):
  ff q up at_=(d+l5 (some x))+(if aP up i<0 then 0 else ff q up (aP up i)):=by
 rw [hd,if_neg om,Cj hlt i0 hn,hx];omega
theorem kd_T (h:(decide (x.kind=3)||decide (x.kind=5))=true):l5 (some x)=1:=by unfold l5;dsimp only;rw [if_pos (by simpa using h)]
theorem kd_F (h:(decide (x.kind=3)||decide (x.kind=5))=false):l5 (some x)=0:=by
 unfold l5;dsimp only;rw [if_neg (by intro e;rw [← Bool.not_eq_true] at h;exact h (by simpa using e))]
theorem yt (q:SProc)(up:List Int)(x:Int)(h0:0≤x):0≤ff q up x∧ff q up x≤x+1:=by
 have:=qB (q:=q) (up:=up) (x+1).toNat x
 unfold ff;omega
theorem Gu (q:SProc)(up:List Int)(x:Int):0≤(if x<0 then 0 else ff q up x):=by
 split
 ·omega
 ·exact(yt q up x om).1
end
theorem A4 {r:Option (List Int)}{n:Nat}{v:Value}{H:Hp}(h:JB r n v H):(r=none∧v= .tuple #[.slice none 0 0,.bool false])∨∃d sv,r=some d∧v= .tuple #[sv,.bool true]∧RdSl H 1 Cp sv (d.map eM)∧d.length=n:=by
 unfold JB at h
 cases r with
 | none=>exact .inl ⟨rfl,h⟩
 | some d=>
  obtain⟨sv,h1,h2,h3⟩:=h
  exact .inr ⟨d,sv,rfl,h1,h2,h3⟩
def inW (a u:List Bool)(k:Nat):List Bool:=(List.zipWith (· || ·) u a).take k++u.drop k
theorem I7 (a u:List Bool):inW a u (0:Int).toNat=u:=by simp [inW]
theorem EU {a u:List Bool}{k:Nat}(h:a.length=u.length)(hk:k≤u.length):(inW a u k).length=u.length:=by simp [inW,h];omega
theorem inW_at {a u:List Bool}{k:Int}(h:a.length=u.length)(hk:k.toNat<u.length):(inW a u k.toNat)[k.toNat]?.getD false=u[k.toNat]?.getD false:=by
 unfold inW
 rw [List.getElem?_append_right (by simp [h];omega),List.length_take,List.length_zipWith,h,Nat.min_self,Nat.min_eq_left om,Nat.sub_self,List.getElem?_drop,Nat.add_zero]
theorem BX {a u:List Bool}{k:Int}{ak b:Bool}(k0:0≤k)(h:a.length=u.length)(hk:k.toNat<u.length)(ha:a[k.toNat]? =some ak)(hb:b=(u[k.toNat]?.getD false||ak)):(inW a u k.toNat).set k.toNat b=inW a u (k+1).toNat:=by
 have hu:=List.getElem?_eq_getElem hk
 unfold inW
 rw [List.set_append_right _ _ (by simp [h];omega)]
 rw [List.length_take,List.length_zipWith,h,Nat.min_self,Nat.min_eq_left om,Nat.sub_self,bj hu,List.set_cons_zero,show(k+1).toNat=k.toNat+1 by omega,List.take_add_one,List.getElem?_zipWith,hu,ha]
 rw [hu] at hb
 simp at hb
 simp [hb]
def Fb (a u:List Bool)(k:Nat):Prop:=∀j:Nat,j<k→¬(a[j]? =some true∧u[j]? =some true)
theorem I9 {a u:List Bool}{k:Int}{ak:Bool}(ha:a[k.toNat]? =some ak)(h1:(ak&&u[k.toNat]?.getD false)=true)(hk:k.toNat<u.length):sk a u=none:=by
 unfold sk
 rw [if_pos]
 rw [List.any_eq_true]
 refine⟨true,List.mem_of_getElem? (i:=k.toNat) ?_,rfl⟩
 have hu:=List.getElem?_eq_getElem hk
 rw [hu] at h1
 rw [List.getElem?_zipWith,ha,hu]
 simpa using h1
theorem uL {a u:List Bool}{k:Int}{ak:Bool}(k0:0≤k)(h:Fb a u k.toNat)(ha:a[k.toNat]? =some ak)(h1:(ak&&u[k.toNat]?.getD false)=false):Fb a u (k+1).toNat:=fun j hj e=>by
 by_cases hjk:j<k.toNat
 ·exact h j hjk e
 ·have:j=k.toNat:=by omega
  subst this
  rw [ha] at e
  obtain⟨e1,e2⟩:=e
  cases e1
  rw [e2] at h1
  cases h1
theorem F2 {a u:List Bool}{k:Int}(k0:0≤k)(h:Fb a u k.toNat)(hl:a.length=u.length)(hk:¬k<a.length):sk a u=some (inW a u k.toNat):=by
 unfold sk
 rw [if_neg]
 ·unfold inW
  rw [List.drop_of_length_le om,List.append_nil,List.take_of_length_le (by simp;omega)]
 ·intro e
  rw [List.any_eq_true] at e
  obtain⟨b,hb,hbt⟩:=e
  obtain⟨j,hj⟩:=List.getElem?_of_mem hb
  rw [List.getElem?_zipWith] at hj
  cases h1:a[j]? with
  | none=>rw [h1] at hj;simp at hj
  | some x=>
   cases h2:u[j]? with
   | none=>rw [h1,h2] at hj;simp at hj
   | some y=>
    rw [h1,h2] at hj
    simp at hj hbt
    subst hj
    simp at hbt
    have:=(List.getElem?_eq_some_iff.1 h1).1
    exact h j om ⟨by rw [h1,hbt.1],by rw [h2,hbt.2]⟩
section
variable {ts:List Term}{L:List Int}{k y:Int}{u u2:List Bool}{N:Option (List Bool)}{d:List Int}
theorem ru_none (k0:0≤k)(hx:L[k.toNat]? =some y)(hd:eq ts y=none)(h:N=kZ ts (L.drop k.toNat) u):N=none:=by
 rw [h,bj hx,kZ,hd]
theorem ru_bad (k0:0≤k)(hx:L[k.toNat]? =some y)(hd:eq ts y=some d)(hi:sk (d.map eM) u=none)(h:N=kZ ts (L.drop k.toNat) u):N=none:=by
 rw [h,bj hx,kZ,hd];dsimp only;rw [hi]
theorem ru_next (k0:0≤k)(hx:L[k.toNat]? =some y)(hd:eq ts y=some d)(hi:sk (d.map eM) u=some u2)(h:N=kZ ts (L.drop k.toNat) u):N=kZ ts (L.drop (k+1).toNat) u2:=by
 rw [h,bj hx,kZ,hd];dsimp only;rw [hi,show(k+1).toNat=k.toNat+1 by omega]
theorem ru_end (k0:0≤k)(hk:¬k<L.length)(h:N=kZ ts (L.drop k.toNat) u):N=some u:=by
 rw [h,List.drop_of_length_le om];rfl
end
section
variable {q:SProc}{i k:Int}{s:SStep}{up:List Int}{u u2:List Bool}{F:SFault}
theorem rs_form (k0:0≤k)(hx:q.steps[k.toNat]? =some s)(hm:dy s=false)(h:F=gy q i up (q.steps.drop k.toNat) k u):F=⟨1500,i,k⟩:=by
 rw [h,bj hx,gy,if_pos hm]
theorem rs_tree (k0:0≤k)(hx:q.steps[k.toNat]? =some s)(hm:dy s=true)(ht:iK q up k s=false)(h:F=gy q i up (q.steps.drop k.toNat) k u):F=⟨1502,i,k⟩:=by
 rw [h,bj hx,gy,if_neg (by rw [hm];decide),if_pos ht]
theorem rs_root (k0:0≤k)(hx:q.steps[k.toNat]? =some s)(hm:dy s=true)(ht:iK q up k s=true)(hr:cU s=false)(h:F=gy q i up (q.steps.drop k.toNat) k u):F=⟨1503,i,k⟩:=by
 rw [h,bj hx,gy,if_neg (by rw [hm];decide),if_neg (by rw [ht];decide),if_pos hr]
theorem rs_term (k0:0≤k)(hx:q.steps[k.toNat]? =some s)(hm:dy s=true)(ht:iK q up k s=true)(hr:cU s=true)(hu:kZ q.terms (bV s) u=none)(h:F=gy q i up (q.steps.drop k.toNat) k u):F=⟨1503,i,k⟩:=by
 rw [h,bj hx,gy,if_neg (by rw [hm];decide),if_neg (by rw [ht];decide),if_neg (by rw [hr];decide),hu]
theorem rs_next (k0:0≤k)(hx:q.steps[k.toNat]? =some s)(hm:dy s=true)(ht:iK q up k s=true)(hr:cU s=true)(hu:kZ q.terms (bV s) u=some u2)(h:F=gy q i up (q.steps.drop k.toNat) k u):F=gy q i up (q.steps.drop (k+1).toNat) (k+1) u2:=by
 rw [h,bj hx,gy,if_neg (by rw [hm];decide),if_neg (by rw [ht];decide),if_neg (by rw [hr];decide),hu,show(k+1).toNat=k.toNat+1 by omega]
theorem rs_end (k0:0≤k)(hk:¬k<q.steps.length)(h:F=gy q i up (q.steps.drop k.toNat) k u):F=okF:=by
 rw [h,List.drop_of_length_le om];rfl
end
theorem EW {q:SProc}(h:(bM q&&q.params.all dr)=true):1≤q.steps.length∧q.steps.length≤80∧q.terms.length≤160∧q.params.length≤6:=by
 simp only [Bool.and_eq_true] at h
 have h1:=h.1
 unfold bM at h1
 simp only [Bool.and_eq_true,decide_eq_true_eq] at h1
 omega
def se (q:SProc):Prop:=∀s∈q.steps,s.ways.length≤1000000000
end Go.Sx
namespace Go.Sx
open Go
def MapAt (b:Nat)(ks:List (List UInt8))(w:World):Prop:=∃es ck,w.heap[b]? =some (.map es ck)∧es.toList.map (fun e=>(e.key,e.val))=ks.map (fun k=>(gs k,Value.bool true))
def StM (M:List Nat)(w0:World)(H0 H:Hp)(L:aq)(b:Nat)(ks:List (List UInt8))(w:World):Prop:=St M w0 H0 H L w∧MapAt b ks w∧w0.heap.size≤b
theorem Gz (s k:List UInt8):(ByteArray.mk s.toArray==ByteArray.mk k.toArray)=decide (s=k):=by
 show(s.toArray==k.toArray)=_
 by_cases h:s=k
 ·subst h;simp
 ·rw [decide_eq_false h];simpa using h
theorem rZ (s:List UInt8):∀(l:List MapEntry) (ks:List (List UInt8)) (i:Nat),l.map (fun e=>(e.key,e.val))=ks.map (fun k=>(gs k,Value.bool true))→
  (s∉ks∧Instr.findNow .string (gs s) l i=some none)∨(s∈ks∧∃j,Instr.findNow .string (gs s) l i=some (some (j,.bool true))):=by
 intro l
 induction l with
 | nil=>intro ks i h;cases ks with
  | nil=>exact .inl ⟨by simp,rfl⟩
  | cons k ks=>cases h
 | cons e l ih=>
  intro ks i h
  cases ks with
  | nil=>cases h
  | cons k ks=>
   simp only [List.map_cons,List.cons.injEq,Prod.mk.injEq] at h
   obtain⟨⟨h1,h2⟩,h3⟩:=h
   have hs:Instr.sameNow .string (gs s) e.key=some (decide (s=k)):=by rw [h1];simp only [gs,Instr.sameNow,Gz]
   by_cases hk:s=k
   ·right
    refine⟨by simp [hk],i,?_⟩
    unfold Instr.findNow
    rw [hs,decide_eq_true hk,h2]
   ·have hn:Instr.findNow .string (gs s) (e::l) i=Instr.findNow .string (gs s) l (i+1):=by
     rw [Instr.findNow,hs,decide_eq_false hk]
    rcases ih ks (i+1) h3 with ⟨a,c⟩ | ⟨a,j,c⟩
    ·exact .inl ⟨by simp [hk,a],hn.trans c⟩
    ·exact .inr ⟨by simp [a],j,hn.trans c⟩
section
variable {P:Program}{n:Nat}{ops:Array Oper}{Q:Exit→Act→World→Prop}{E E':Env}{M:List Nat}{w0:World}{H0 H:Hp}{L:aq}{rest:List Oper}{dst:Option Nat}{op:Op}{ty:TypeId}{pos:String}{aft:Array Edge}{b:Nat}{ks:List (List UInt8)}
def I0 (P:Program)(t:TypeId):Bool:=match P.underlying t with
 | some (.map k e)=>(match P.underlying k with
  | some .string=>true
  | _=>false)&&(match P.info? e with
  | some i=>(match i.zero with
   | some (.bool false)=>true
   | _=>false)
  | none=>false)
 | _=>false
class MapTB (P:Program) (t:TypeId):Prop where
 outB:I0 P t=true
theorem MapTB.out {t:TypeId}(h:MapTB P t):∃k e,P.underlying t=some (.map k e)∧P.underlying k=some .string∧∀w,(zeroValue e).run P w= .ok (.bool false) w:=by
 have h:=h.outB
 unfold I0 at h
 split at h
 ·rename_i k e ht
  simp only [Bool.and_eq_true] at h
  obtain⟨h1,h2⟩:=h
  split at h1
  ·rename_i hk
   refine⟨k,e,ht,hk,fun w=>?_⟩
   split at h2
   ·rename_i i hi
    split at h2
    ·rename_i hz
     simp [zeroValue,typeInfo,hi,hz]
    ·cases h2
   ·cases h2
  ·cases h1
 ·cases h
theorem MapAt.kept {w w':World}(h:MapAt b ks w)(hk:∀i,i<w.heap.size→i=b→w'.heap[i]? =w.heap[i]?):MapAt b ks w':=by
 obtain⟨es,ck,h1,h2⟩:=h
 exact⟨es,ck,(hk b (cY h1) rfl).trans h1,h2⟩
theorem pH {e:Bool}{m k:Nat}{s:List UInt8}{w:World}(hk:P.underlying k=some .string):(Instr.checkKey e (m+1) k (gs s)).run P w= .ok () w:=by
 simp [Instr.checkKey,run_underlying hk,gs]
theorem StM.notin {w:World}(h:StM M w0 H0 H L b ks w):b∉keys L:=fun hm=>by
 obtain⟨p,hp,rfl⟩:=List.mem_map.1 hm
 obtain⟨t,ht⟩:=h.1.own p hp
 obtain⟨es,ck,h1,_⟩:=h.2.1
 rw [ht] at h1;cases h1
theorem StM.over {w1 w:World}{L':aq}{H':Hp}(h:StM M w0 H0 H L b ks w1)(hw:St (keys L) w1 H H' L' w):StM M w0 H0 H' L' b ks w:=by
 refine⟨?_,h.2.1.kept (fun i hi e=>hw.old i hi (by subst e;exact h.notin)),h.2.2⟩
 have:=St.pastX (L1:=L) (L1':=L') (L2:=[]) (by simpa using h.1) hw
 simpa using this
theorem StM.drop {x:Nat×List Value}{w:World}(h:StM M w0 H0 H (x::L) b ks w):StM M w0 H0 H L b ks w:=⟨h.1.drop,h.2⟩
theorem GI {c:Code}(h:∀w1,StM M w0 H0 H L b ks w1→TC P n c Q E (St (keys L) w1 H H L)):TC P n c Q E (StM M w0 H0 H L b ks):=fun a w he hw=>h w hw a w he (St.pass1 (L1:=L) (L2:=[]) (by simpa using hw.1))
theorem yB {q:Act→World→Prop}{w1:World}{L':aq}{H':Hp}(hm:StM M w0 H0 H L b ks w1)(h:TX n q E (St M w0 H0 H' L')):TX n q E (St (keys L) w1 H H' L'):=fun a w he hw=>h a w he (hm.over hw).1
theorem FV {t:TypeId}[hT:MapTB P t]{x y:Operand}{s:List UInt8}{w1:World}{L':aq}{H':Hp}(hm:StM M w0 H0 H L b ks w1)(hx:ev E x=some (.map (some b)))(hy:ev E y=some (gs s)):PR P E (St (keys L) w1 H H' L') (.lookup t x y false) (.bool (decide (s∈ks))):=by
 intro n a w o ho he hw
 obtain⟨es,ck,h1,h2⟩:=(hm.over hw).2.1
 obtain⟨k,e,ht,hk,hz⟩:=hT.out
 have hck:∀b,(Instr.checkKey b 10000 k (gs s)).run P w= .ok () w:=fun b=>pH (m:=9999) hk
 unfold execOp
 rw [ho]
 rcases rZ s es.toList ks 0 h2 with ⟨hn,hf⟩ | ⟨hn,j,hf⟩
 ·rw [decide_eq_false hn]
  simp [he.eval hx,he.eval hy,Instr.lookup,run_underlying ht,MapKept.run_getObj_map h1,hck,Instr.findKey,run_underlying hk,hf,hz,Result.andThen]
 ·rw [decide_eq_true hn]
  simp [he.eval hx,he.eval hy,Instr.lookup,run_underlying ht,MapKept.run_getObj_map h1,hck,Instr.findKey,run_underlying hk,hf,hz,Result.andThen]
theorem StM.put {w:World}{es:Array MapEntry}{ck:Nat}{s:List UInt8}(hw:StM M w0 H0 H L b ks w)(h1:w.heap[b]? =some (.map es ck))(h2:es.toList.map (fun e=>(e.key,e.val))=ks.map (fun k=>(gs k,Value.bool true))):
  StM M w0 H0 H L b (ks++[s]) {w with heap:=w.heap.setIfInBounds b (.map (es.push {key:=gs s,val:=.bool true,born:=ck}) (ck+1))}:=by
 have hlt:=cY h1
 have hoth:∀i,i≠b→(w.heap.setIfInBounds b (.map (es.push {key:=gs s,val:=.bool true,born:=ck}) (ck+1)))[i]? =w.heap[i]? :=fun i hi=>by
  rw [Array.getElem?_setIfInBounds,if_neg (fun e=>hi e.symm)]
 have hcell:∀o,w.cell? ⟨b,o,none⟩=none:=fun o=>by simp [World.cell?,h1]
 have h:=hw.1
 refine⟨⟨h.os,h.tape,h.output,by simpa using h.size,fun i hi hM=>?_,fun c o v hv=>?_,fun p hp=>?_,h.sep,h.nd,h.mine,h.fr⟩,⟨es.push {key:=gs s,val:=.bool true,born:=ck},ck+1,?_,?_⟩,hw.2.2⟩
 ·rw [← h.old i hi hM];exact hoth i (by have:=hw.2.2;omega)
 ·have hc:=h.hp c o v hv
  have hne:c≠b:=fun e=>by subst e;rw [hcell] at hc;cases hc
  rw [gH (hoth c hne)];exact hc
 ·obtain⟨t,ht⟩:=h.own p hp
  have hne:p.1≠b:=fun e=>by rw [e,h1] at ht;cases ht
  exact⟨t,(hoth _ hne).trans ht⟩
 ·show(w.heap.setIfInBounds b _)[b]? =_
  rw [Array.getElem?_setIfInBounds,if_pos rfl,if_pos hlt]
 ·simp [h2]
theorem GF {t:TypeId}[hT:MapTB P t]{x y z:Operand}{s:List UInt8}(hx:ev E x=some (.map (some b)))(hy:ev E y=some (gs s))(hz:ev E z=some (.bool true))(hs:s∉ks)(hd:cD dst n=true){w1:World}{L':aq}{H':Hp}(hm:StM M w0 H0 H L b ks w1)
  (h:TL P n ops Q rest (cz dst undef E) (StM M w0 H0 H' L' b (ks++[s]))):
  TL P n ops Q ({dst:=dst,op:=.mapUpdate t x y z,type:=ty,pos:=pos,after:=aft,guard:=none}::rest) E (St (keys L) w1 H H' L'):=by
 intro a w he hw0
 have hw:=hm.over hw0
 refine cJ rfl (fun K hK=>?_)
 obtain⟨es,ck,h1,h2⟩:=hw.2.1
 obtain⟨k,e,ht,hk,hzv⟩:=hT.out
 have hck:∀b,(Instr.checkKey b 10000 k (gs s)).run P w= .ok () w:=fun b=>pH (m:=9999) hk
 rcases rZ s es.toList ks 0 h2 with ⟨hn,hf⟩ | ⟨hn,j,hf⟩
 ·have hrun:(execOp a.eval {dst:=dst,op:=.mapUpdate t x y z,type:=ty,pos:=pos,after:=aft,guard:=none}).run P w= .ok .skip {w with heap:=w.heap.setIfInBounds b (.map (es.push {key:=gs s,val:=.bool true,born:=ck}) (ck+1))}:=by
   simp [execOp,he.eval hx,he.eval hy,he.eval hz,Instr.mapUpdate,run_underlying ht,MapKept.run_getObj_map h1,hck,Instr.findKey,run_underlying hk,hf,MapKept.run_setObj_map _ h1,Result.andThen]
  unfold Oper.wp
  rw [hrun]
  exact hK _ _ (h _ _ (he.put hd) (hw.put h1 h2))
 ·exact absurd hn hs
theorem DG {t:TypeId}[hT:MapTB P t](hd:cD dst n=true)(h:∀b w1,StM M w0 H0 H L b [] w1→TL P n ops Q rest (cz dst (.map (some b)) E) (St (keys L) w1 H H L)):
  TL P n ops Q ({dst:=dst,op:=.makeMap t none,type:=ty,pos:=pos,after:=aft,guard:=none}::rest) E (St M w0 H0 H L):=by
 intro a w he hw
 refine cJ rfl (fun K hK=>?_)
 have hrun:(execOp a.eval {dst:=dst,op:=.makeMap t none,type:=ty,pos:=pos,after:=aft,guard:=none}).run P w= .ok (.value (.map (some w.heap.size))) (w.alloc (.map #[] 0)):=by
  simp [execOp,Instr.makeMap,newObj,Result.andThen];rfl
 unfold Oper.wp
 rw [hrun]
 have hm:StM M w0 H0 H L w.heap.size [] (w.alloc (.map #[] 0)):=⟨(Ext.alloc w _).st hw,⟨#[],0,heap_alloc_new w _,rfl⟩,hw.size⟩
 exact hK _ _ (h _ _ hm _ _ (he.put hd) (St.pass1 (L1:=L) (L2:=[]) (by simpa using hm.1)))
end
end Go.Sx
namespace Go.Sx
open Go
def cat:List aq→aq
 | []=>[]
 | [a]=>a
 | a::b::r=>a++cat (b::r)
theorem vz:∀l:List aq,cat l=l.flatten
 | []=>rfl
 | [a]=>by simp [cat]
 | a::b::r=>by rw [cat,vz (b::r)];rfl
theorem II {α:Type}(ps:List α):(List.range ps.length).filterMap (fun i=>ps[i]?)=ps:=by
 induction ps with
 | nil=>rfl
 | cons p ps ih=>
  rw [List.length_cons,List.range_succ_eq_map,List.filterMap_cons]
  simp only [List.getElem?_cons_zero,List.filterMap_map]
  congr 1
theorem eN (ps:List aq)(js:List Nat)(h:js.isPerm (List.range ps.length)=true):(cat ps).Perm (cat (js.filterMap fun i=>ps[i]?)):=by
 rw [vz,vz]
 have h1:(js.filterMap fun i=>ps[i]?).Perm ps:=by
  have:=(List.isPerm_iff.1 h).filterMap (fun i=>ps[i]?)
  rwa [II] at this
 exact h1.symm.flatten
theorem kq (X:aq){A B C:aq}:(X++((A++B)++C)).Perm (X++(A++(B++C))):=by rw [List.append_assoc]
theorem Dc (X:aq){A B D C:aq}:(X++((A++(B++D))++C)).Perm (X++(A++(B++(D++C)))):=by rw [List.append_assoc,List.append_assoc]
theorem dV (X:aq){A:aq}:(X++(A++[])).Perm (X++A):=by rw [List.append_nil]
theorem FY (X:aq){A B:aq}:(X++(A++(B++[]))).Perm (X++(A++B)):=by rw [List.append_nil]
theorem gg {x y:Nat×List Value}{A B C:aq}:(x::y::((A++B)++C)).Perm (x::y::(A++(B++C))):=by rw [List.append_assoc]
section
variable {P:Program}{n:Nat}{ops:Array Oper}{Ri:World→Prop}{Q:Exit→Act→World→Prop}{E:Env}{M:List Nat}{w0:World}{H0 H:Hp}{L:aq}{C:World→Prop}{rest:List Oper}{dst:Option Nat}{op:Op}{ty:TypeId}{pos:String}{aft:Array Edge}
theorem aS {L':aq}{l:List Oper}(hp:L.Perm L')(h:TL P n ops Q l E (St M w0 H0 H L')):TL P n ops Q l E (St M w0 H0 H L):=fun a w he hw=>h a w he (hw.perm hp)
theorem vE {L':aq}{q:Act→World→Prop}(hp:L.Perm L')(h:TX n q E (St M w0 H0 H L')):TX n q E (St M w0 H0 H L):=fun a w he hw=>h a w he (hw.perm hp)
theorem vG {L':aq}{c:Code}(hp:L.Perm L')(h:TC P n c Q E (St M w0 H0 H L')):TC P n c Q E (St M w0 H0 H L):=fun a w he hw=>h a w he (hw.perm hp)
theorem xM {α:Type}{k j:Nat}{enc:α→List Value}{u:Value}{a':α}(hk:∀x,(enc x).length=k)(hj:j<k):∀(xs:List α) (i:Nat) (a:α),xs[i]? =some a→enc a'=(enc a).set j u→(xs.flatMap enc).set (i * k+j) u=(xs.set i a').flatMap enc
 | [],_,_,h,_=>by simp at h
 | y::xs,0,a,h,he=>by
  simp only [List.getElem?_cons_zero,Option.some.injEq] at h
  subst h
  simp only [List.flatMap_cons,List.set_cons_zero,Nat.zero_mul,Nat.zero_add]
  rw [List.set_append_left _ _ (by rw [hk];exact hj),he]
 | y::xs,i+1,a,h,he=>by
  simp only [List.flatMap_cons,List.set_cons_succ]
  rw [List.set_append_right _ _ (by rw [hk,Nat.succ_mul];omega),hk,show(i+1) * k+j - k=i * k+j by rw [Nat.succ_mul];omega]
  rw [xM hk hj xs i a (by simpa using h) he]
theorem OwnSl.put {α:Type}{k j i:Nat}{enc:α→List Value}[hc:Cells k enc]{b cap:Nat}{cs:List Value}{u:Value}{xs:List α}{a a':α}(hcl:cs.length=cap * k)(htk:cs.take (xs.length * k)=xs.flatMap enc)(hle:xs.length≤cap)(hcm:cap≤9223372036854775807)
  (hi:xs[i]? =some a) (he:enc a'=(enc a).set j u) (hj:j<k):OwnSl k enc (.slice (some ⟨b,0,none⟩) xs.length cap) (xs.set i a') [(b,cs.set (i * k+j) u)]:=by
 refine .inr ⟨b,cap,cs.set (i * k+j) u,by rw [List.length_set],rfl,by rw [List.length_set];exact hcl,?_,by rw [List.length_set];exact hle,hcm⟩
 rw [List.length_set,List.take_set,htk]
 exact xM hc.len hj xs i a hi he
theorem ig {α:Type}{t k k1 j i:Nat}{enc:α→List Value}[hc:Cells k enc]{x y:Operand}{v u:Value}{xs:List α}{ob:aq}{F:aq→aq}{a a':α}(hx:ev E x=some (.pointer (some ⟨ogb ob,i * k+j,none⟩)))(hy:ev E y=some u)
  (hO:OwnSl k enc v xs ob) (hU:Tl ob L F) (hi:xs[i]? =some a) (he:enc a'=(enc a).set j u) (hj:Nat.blt j k=true) [ht:Ty P t false k1] [h1:One u] (hk:k1=1) (hd:cD dst n=true)
  (h:∀ob',ogb ob'=ogb ob→OwnSl k enc v (xs.set i a') ob'→TL P n ops Q rest (cz dst undef E) (St M w0 H0 H (F ob'))):
  TL P n ops Q ({dst:=dst,op:=.store t x y,type:=ty,pos:=pos,after:=aft,guard:=none}::rest) E (St M w0 H0 H L):=by
 obtain⟨R,hp,hF⟩:=hU.perm
 rcases hO with ⟨rfl,rfl,rfl⟩ | ⟨b,cap,cs,rfl,rfl,hcl,htk,hle,hcm⟩
 ·simp at hi
 ·have hjk:j<k:=by rwa [Nat.blt_eq] at hj
  have hil:i<xs.length:=(List.getElem?_eq_some_iff.1 hi).1
  have hlt:i * k+j<cs.length:=by
   rw [hcl]
   have:(i+1) * k≤cap * k:=Nat.mul_le_mul_right k om
   rw [Nat.succ_mul] at this;omega
  refine aS hp (br (b:=b) (o:=i * k+j) hx hy hk (.here _) (by rw [Nat.blt_eq];exact hlt) hd ?_)
  exact aS (hF [(b,cs.set (i * k+j) u)]).symm (h [(b,cs.set (i * k+j) u)] rfl (OwnSl.put hcl htk hle hcm hi he hjk))
theorem FnX.enterM {f:FuncId}{args:List Value}{L1:aq}{Φ:Value→Hp→aq→Prop}{fn:Func}{c:Code}
  (hf:P.funcs[f]? =some fn) (hn:fn.ntmps=n) (hb:fn.body=some c) (hl:Nat.ble args.length n=true)
  (h:∀w0 M,(∀b∈M,b<w0.heap.size)→TC P n c (bodyPost P fn (yD M w0 H Φ)) (kP 0 args) (St M w0 H H L1)):FnX P f args H L1 Φ:=by
 intro w hw
 refine calls_of_wp hf hb (h w (keys L1) (fun b hm=>?_) _ w ⟨?_,rfl,fun t v ht=>?_⟩ hw)
 ·obtain⟨p,hp,rfl⟩:=List.mem_map.1 hm
  exact hw.lt hp
 ·have:=Nat.le_of_ble_eq_true hl
  simp [hn]
  omega
 ·have h1:=(l9 args 0 t v ht).2
  simp only [Nat.sub_zero] at h1
  have h2:t<args.length:=(List.getElem?_eq_some_iff.1 h1).1
  rw [Array.getElem?_append_left (by simpa using h2)]
  simpa using h1
theorem ka {f:FuncId}{args:List Value}{Φ:Value→Hp→aq→Prop}(hE:cZ P E op f args)(hF:FnO P f args H Φ)(hd:cD dst n=true)
  (h:∀v H' ob,(∀p∈ob,w0.heap.size≤p.1)→H.le H'→Φ v H' ob→TL P n ops Q rest (cz dst v E) (St M w0 H0 H' (L++ob))):
  TL P n ops Q ({dst:=dst,op:=op,type:=ty,pos:=pos,after:=aft,guard:=none}::rest) E (St M w0 H0 H L):=by
 intro a w he hw
 refine cJ rfl (fun K hK=>?_)
 unfold Oper.wp
 rw [hE n a w _ rfl he]
 refine(hF w (St.pass1 (L1:=[]) (L2:=L) hw)).mono ?_
 rintro e w' ⟨v,H',ob,rfl,hst,hΦ⟩
 exact hK _ _ (h v H' ob (fun p hp=>Nat.le_trans hw.size ((hst.mine p hp).resolve_left sq)) hst.fr.1 hΦ _ _ (he.put hd) (hw.pastO hst))
def fl1B (P:Program)(s f:Nat):Option Nat:=match P.underlying s with
 | some (.struct fs)=>match fs[f]? with
  | some fd=>match tyB P fd.type with
   | some (false,_)=>some fd.offset
   | _=>none
  | none=>none
 | _=>none
theorem qm {s f off:Nat}{x:Operand}{cs:List Value}{v:Value}(hx:ev E x=some (.agg cs.toArray))(hf:fl1B P s f=some off)(hv:cs[off]? =some v):PR P E C (.field s x f) v:=by
 intro n a w o' ho he hw
 unfold execOp
 rw [ho]
 unfold fl1B at hf
 split at hf
 ·rename_i fs hs
  split at hf
  ·rename_i fd hfd
   split at hf
   ·rename_i k hk
    simp only [Option.some.injEq] at hf
    subst hf
    have hA:=qi (P:=P) (t:=fd.type) (agg:=false) (n:=k) ⟨hk⟩ w
    simp [he.eval hx,Instr.field,run_underlying hs,hfd,asAgg,part,hA,hv]
   ·cases hf
  ·cases hf
 ·cases hf
end
end Go.Sx
namespace Go.Sx
open Go
def mb (P:Program)(xs:List Value)(f:Field):List Value:=(xs.drop f.offset).take (P.cellsOf f.type)
def jj (P:Program):Nat→TypeId→List Value→List Value→Option Bool
 | 0,_,_,_=>none
 | d+1,t,xs,ys=>
  match P.underlying t with
  | some .bool=>match xs,ys with
   | [.bool a],[.bool b]=>some (a==b)
   | _,_=>none
  | some (.int _)=>match xs,ys with
   | [.int k a],[.int k' b]=>if k=k' then some (a==b) else none
   | _,_=>none
  | some .string=>match xs,ys with
   | [.string a],[.string b]=>some (a.toList==b.toList)
   | _,_=>none
  | some (.struct fs)=>if P.stoodInHeld t=true then none else
   fs.toList.foldr (fun f acc=>match acc,(if f.name= "_" then none else jj P d f.type (mb P xs f) (mb P ys f)) with
    | some r,some b=>some (b&&r)
    | _,_=>none) (some true)
  | _=>none
def ofC (P:Program)(t:TypeId)(xs:List Value):Value:=match P.underlying t with
 | some (.struct _)=>.agg xs.toArray
 | _=>xs.headD .nilFunc
theorem IO {xs:List Value}{o n:Nat}{v:Value}(h:(xs.drop o).take n=[v]):xs[o]? =some v:=by
 have h1:((xs.drop o).take n)[0]? =some v:=by rw [h];rfl
 rw [List.getElem?_take] at h1
 split at h1
 ·rwa [List.getElem?_drop,Nat.add_zero] at h1
 ·cases h1
def Eo:TypeDesc→Bool | .struct _ | .array _ _=>true | _=>false
theorem yQ {P:Program}{e:TypeId}{kd:TypeDesc}{xs:List Value}{o:Nat}{v:Value}(w:World)(hu:P.underlying e=some kd)(hk:Eo kd=false)(h:xs[o]? =some v):(part e xs.toArray o).run P w= .ok v w:=by
 have hA:(isAgg e).run P w= .ok false w:=by
  unfold isAgg
  rw [Sem.run_bind,run_underlying hu w]
  cases kd<;>simp_all [Eo]
 simp [part,hA,h]
theorem yP {P:Program}{e:TypeId}{fs:Array Field}{xs:List Value}{o:Nat}(w:World)(hu:P.underlying e=some (.struct fs)):(part e xs.toArray o).run P w= .ok (.agg ((xs.drop o).take (P.cellsOf e)).toArray) w:=by
 obtain⟨i,hi⟩:=info_of_underlying hu
 have hA:(isAgg e).run P w= .ok true w:=by
  unfold isAgg
  rw [Sem.run_bind,run_underlying hu w]
  simp
 have hS:(sizeOf e).run P w= .ok (P.cellsOf e) w:=by simp [sizeOf,typeInfo,hi,Program.cellsOf]
 have hE:xs.toArray.extract o (o+P.cellsOf e)=((xs.drop o).take (P.cellsOf e)).toArray:=by
  apply Array.ext'
  rw [Array.toList_extract]
  simp [List.extract_eq_take_drop]
 simp only [part,Sem.run_bind,hA,Result.andThen_ok,if_true,hS,Sem.run_pure,hE]
theorem CW {P:Program}{e:TypeId}{d:Nat}{xs ys:List Value}{f:Field}{b:Bool}(w:World)(h:jj P d f.type (mb P xs f) (mb P ys f)=some b):
  (part f.type xs.toArray f.offset).run P w= .ok (ofC P f.type (mb P xs f)) w∧(part f.type ys.toArray f.offset).run P w= .ok (ofC P f.type (mb P ys f)) w:=by
 cases d with
 | zero=>simp [jj] at h
 | succ d=>
  unfold jj at h
  have one:∀{zs:List Value} {kd:TypeDesc} {v:Value},P.underlying f.type=some kd→Eo kd=false→mb P zs f=[v]→(part f.type zs.toArray f.offset).run P w= .ok (ofC P f.type (mb P zs f)) w:=by
   intro zs kd v hu hk hz
   rw [yQ w hu hk (IO hz)]
   unfold ofC
   rw [hu,hz]
   cases kd<;>simp_all [Eo]
  split at h
  ·rename_i hu
   split at h
   ·rename_i a b' h1 h2
    exact⟨one hu rfl h1,one hu rfl h2⟩
   ·cases h
  ·rename_i hu
   split at h
   ·rename_i a b' h1 h2
    exact⟨one hu rfl h1,one hu rfl h2⟩
   ·cases h
  ·rename_i hu
   split at h
   ·rename_i a b' h1 h2
    exact⟨one hu rfl h1,one hu rfl h2⟩
   ·cases h
  ·rename_i fs hu
   refine⟨?_,?_⟩<;>
   ·rw [yP w hu];unfold ofC;rw [hu];rfl
  ·cases h
theorem EA {P:Program}:∀(d dd:Nat),d≤dd→∀(t:TypeId) (xs ys:List Value) (r:Bool) (w:World),jj P d t xs ys=some r→(Op.equalIn dd t (ofC P t xs) (ofC P t ys)).run P w= .ok r w
 | 0,_,_,_,_,_,_,_,h=>by simp [jj] at h
 | d+1,0,hd,_,_,_,_,_,_=>by omega
 | d+1,dd+1,hd,t,xs,ys,r,w,h=>by
  unfold jj at h
  unfold ofC
  split at h
  ·rename_i hu
   rw [hu]
   split at h
   ·cases h;exact run_equalIn_bool w dd t _ _ hu
   ·cases h
  ·rename_i hu
   rw [hu]
   split at h
   ·split at h
    ·rename_i hk
     subst hk
     cases h;exact run_equalIn_int w dd t _ _ _ _ hu
    ·cases h
   ·cases h
  ·rename_i hu
   rw [hu]
   split at h
   ·cases h;exact run_equalIn_string w dd t _ _ hu
   ·cases h
  ·rename_i fs hu
   rw [hu]
   split at h
   ·cases h
   ·rename_i hs
    have hfs:P.fieldsOf t=fs:=by simp [Program.fieldsOf,hu]
    show(Op.equalIn (dd+1) t (.agg xs.toArray) (.agg ys.toArray)).run P w=_
    rw [run_equalIn_struct w dd t xs.toArray ys.toArray (by rw [hfs];exact hu) (by simpa using hs),hfs]
    clear hu hfs
    generalize fs.toList=l at h
    induction l generalizing r with
    | nil=>simp only [List.foldr_nil,Option.some.injEq] at h;subst h;simp [Op.eqFields]
    | cons f l ih=>
     rw [List.foldr_cons] at h
     split at h
     ·rename_i r' b' hr hb
      split at hb
      ·cases hb
      ·rename_i hn
       simp only [Option.some.injEq] at h
       subst h
       obtain⟨p1,p2⟩:=CW (e:=t) w hb
       have p3:=EA d dd om f.type _ _ _ w hb
       simp only [Op.eqFields,hn,ne_eq,not_false_eq_true,if_true,Sem.run_bind,p1,p2,p3,Result.andThen_ok]
       cases b'
       ·simp
       ·simpa using ih _ hr
     ·cases h
  ·cases h
section
variable {P:Program}{E:Env}{C:World→Prop}
theorem Ez {P:Program}{t:TypeId}{xs ys:List Value}{r:Bool}{d:Nat}(w:World)(hd:d≤10000)(hs:∃fs,P.underlying t=some (.struct fs))(h:jj P d t xs ys=some r):(Op.equal t (.agg xs.toArray) (.agg ys.toArray)).run P w= .ok r w:=by
 obtain⟨fs,hu⟩:=hs
 have:=EA d 10000 hd t xs ys r w h
 unfold ofC at this
 rw [hu] at this
 exact this
def ET (P:Program)(t:TypeId):Bool:=match P.underlying t with | some (.struct _)=>true | _=>false
theorem C8 {t t':TypeId}{x y:Operand}{xs ys:List Value}{r:Bool}(hx:ev E x=some (.agg xs.toArray))(hy:ev E y=some (.agg ys.toArray))(hs:ET P t=true)(hg:P.eqGuardType P.depth t=false)(h:jj P 4 t xs ys=some r):PR P E C (.binOp .eql t x y t') (.bool r):=by
 intro n ac w o ho he hw
 unfold execOp
 rw [ho]
 have hs':∃fs,P.underlying t=some (.struct fs):=by
  unfold ET at hs;split at hs
  ·exact⟨_,by assumption⟩
  ·cases hs
 have h1:=Ez w dq hs' h
 have hgd:(eqGuard .eql t x y (.agg xs.toArray) (.agg ys.toArray)).run P w= .ok () w:=by simp [eqGuard,hg]
 simp only [he.eval hx,he.eval hy,Sem.run_bind,hgd,Result.andThen_ok,binOp,h1,Sem.run_pure]
theorem uw {t t':TypeId}{x y:Operand}{xs ys:List Value}{r:Bool}(hx:ev E x=some (.agg xs.toArray))(hy:ev E y=some (.agg ys.toArray))(hs:ET P t=true)(hg:P.eqGuardType P.depth t=false)(h:jj P 4 t xs ys=some r):PR P E C (.binOp .neq t x y t') (.bool (!r)):=by
 intro n ac w o ho he hw
 unfold execOp
 rw [ho]
 have hs':∃fs,P.underlying t=some (.struct fs):=by
  unfold ET at hs;split at hs
  ·exact⟨_,by assumption⟩
  ·cases hs
 have h1:=Ez w dq hs' h
 have hgd:(eqGuard .neq t x y (.agg xs.toArray) (.agg ys.toArray)).run P w= .ok () w:=by simp [eqGuard,hg]
 simp only [he.eval hx,he.eval hy,Sem.run_bind,hgd,Result.andThen_ok,binOp,h1,Sem.run_pure]
end
end Go.Sx
namespace Go.Sx
open Go Go.Proofs
instance :El Tryz.prog 22 3 1:=kz
instance :El Tryz.prog 24 80 3:=kz
instance :El Tryz.prog 25 84 2:=kz
instance :El Tryz.prog 26 53 4:=kz
instance :El Tryz.prog 43 42 3:=kz
instance :El Tryz.prog 46 45 6:=kz
instance :El Tryz.prog 47 72 3:=kz
instance :El Tryz.prog 48 66 3:=kz
instance :El Tryz.prog 51 50 10:=kz
instance :El Tryz.prog 60 61 1:=kz
instance :El Tryz.prog 61 9 1:=kz
instance :El Tryz.prog 78 98 3:=kz
instance :El Tryz.prog 82 101 3:=kz
instance :El Tryz.prog 87 89 1:=kz
instance :El Tryz.prog 92 88 1:=kz
instance :El Tryz.prog 96 175 4:=kz
instance :El Tryz.prog 133 4 1:=kz
instance :El Tryz.prog 162 22 1:=kz
instance :El Tryz.prog 225 5 1:=kz
instance :Plc Tryz.prog 28 [(0,1),(1,1),(2,1)]:=kz
instance :Plc Tryz.prog 35 [(0,1),(1,1),(2,1)]:=kz
instance :Plc Tryz.prog 40 [(0,1),(1,1)]:=kz
instance :Plc Tryz.prog 42 [(0,1),(1,2)]:=kz
instance :Plc Tryz.prog 45 [(0,1),(1,1),(2,1),(3,1),(4,1),(5,1)]:=kz
instance :Plc Tryz.prog 50 [(0,1),(1,1),(2,1),(3,1),(4,1),(5,1),(6,1),(7,1),(8,1),(9,1)]:=kz
instance :Plc Tryz.prog 53 [(0,1),(1,1),(2,1),(3,1)]:=kz
instance :Plc Tryz.prog 66 [(0,1),(1,1),(2,1)]:=kz
instance :Plc Tryz.prog 72 [(0,1),(1,1),(2,1)]:=kz
instance :Plc Tryz.prog 80 [(0,1),(1,1),(2,1)]:=kz
instance :Plc Tryz.prog 84 [(0,1),(1,1)]:=kz
instance :Plc Tryz.prog 98 [(0,1),(1,1),(2,1)]:=kz
instance :Plc Tryz.prog 101 [(0,1),(1,1),(2,1)]:=kz
instance :Plc Tryz.prog 115 [(0,1),(1,1)]:=kz
instance :Plc Tryz.prog 124 [(0,1),(1,1),(2,4),(6,1),(7,1),(8,1),(9,1),(10,1)]:=kz
instance :Plc Tryz.prog 164 [(0,3),(3,1),(4,1)]:=kz
instance :Plc Tryz.prog 175 [(0,1),(1,2),(3,1)]:=kz
instance :Elz Tryz.prog 22 3 1 8 [Value.int IntKind.i64 0]:=⟨by kernel_rfl,rfl⟩
instance :Elz Tryz.prog 24 80 3 64 [gs [],Value.slice none 0 0,Value.slice none 0 0]:=⟨by kernel_rfl,rfl⟩
instance :Elz Tryz.prog 25 84 2 40 [gs [],Value.slice none 0 0]:=⟨by kernel_rfl,rfl⟩
instance :Elz Tryz.prog 26 53 4 88 [gs [],Value.slice none 0 0,Value.slice none 0 0,Value.slice none 0 0]:=⟨by kernel_rfl,rfl⟩
instance :Elz Tryz.prog 43 42 3 40 [gs [],Value.int IntKind.i64 0,gs []]:=⟨by kernel_rfl,rfl⟩
instance :Elz Tryz.prog 46 45 6 64 [Value.int IntKind.i64 0,gs [],Value.int IntKind.i64 0,gs [],Value.int IntKind.i64 0,Value.int IntKind.i64 0]:=⟨by kernel_rfl,rfl⟩
instance :Elz Tryz.prog 47 72 3 56 [gs [],gs [],Value.slice none 0 0]:=⟨by kernel_rfl,rfl⟩
instance :Elz Tryz.prog 48 66 3 40 [gs [],gs [],Value.int IntKind.i64 0]:=⟨by kernel_rfl,rfl⟩
instance :Elz Tryz.prog 51 50 10 160 [Value.int IntKind.i64 0,gs [],gs [],gs [],gs [],Value.int IntKind.i64 0,Value.slice none 0 0,Value.slice none 0 0,Value.slice none 0 0,Value.int IntKind.i64 0]:=⟨by kernel_rfl,rfl⟩
instance :Elz Tryz.prog 60 61 1 24 [Value.slice none 0 0]:=⟨by kernel_rfl,rfl⟩
instance :Elz Tryz.prog 61 9 1 16 [gs []]:=⟨by kernel_rfl,rfl⟩
instance :Elz Tryz.prog 78 98 3 56 [gs [],gs [],Value.slice none 0 0]:=⟨by kernel_rfl,rfl⟩
instance :Elz Tryz.prog 82 101 3 48 [Value.int IntKind.i64 0,gs [],Value.slice none 0 0]:=⟨by kernel_rfl,rfl⟩
instance :Elz Tryz.prog 87 89 1 8 [Value.nilFunc]:=⟨by kernel_rfl,rfl⟩
instance :Elz Tryz.prog 92 88 1 8 [Value.nilFunc]:=⟨by kernel_rfl,rfl⟩
instance :Elz Tryz.prog 96 175 4 48 [gs [],Value.int IntKind.i64 0,gs [],Value.int IntKind.i64 0]:=⟨by kernel_rfl,rfl⟩
instance :Elz Tryz.prog 133 4 1 1 [Value.bool false]:=⟨by kernel_rfl,rfl⟩
instance :Elz Tryz.prog 162 22 1 24 [Value.slice none 0 0]:=⟨by kernel_rfl,rfl⟩
instance :Elz Tryz.prog 225 5 1 1 [Value.int IntKind.u8 0]:=⟨by kernel_rfl,rfl⟩
instance :Ty Tryz.prog 2 false 1:=kz
instance :Ty Tryz.prog 3 false 1:=kz
instance :Ty Tryz.prog 4 false 1:=kz
instance :Ty Tryz.prog 9 false 1:=kz
instance :Ty Tryz.prog 22 false 1:=kz
instance :Ty Tryz.prog 24 false 1:=kz
instance :Ty Tryz.prog 25 false 1:=kz
instance :Ty Tryz.prog 26 false 1:=kz
instance :Ty Tryz.prog 28 true 3:=kz
instance :Ty Tryz.prog 33 false 1:=kz
instance :Ty Tryz.prog 35 true 3:=kz
instance :Ty Tryz.prog 40 true 2:=kz
instance :Ty Tryz.prog 42 true 3:=kz
instance :Ty Tryz.prog 43 false 1:=kz
instance :Ty Tryz.prog 45 true 6:=kz
instance :Ty Tryz.prog 46 false 1:=kz
instance :Ty Tryz.prog 47 false 1:=kz
instance :Ty Tryz.prog 48 false 1:=kz
instance :Ty Tryz.prog 50 true 10:=kz
instance :Ty Tryz.prog 51 false 1:=kz
instance :Ty Tryz.prog 53 true 4:=kz
instance :Ty Tryz.prog 61 false 1:=kz
instance :Ty Tryz.prog 66 true 3:=kz
instance :Ty Tryz.prog 72 true 3:=kz
instance :Ty Tryz.prog 73 false 1:=kz
instance :Ty Tryz.prog 78 false 1:=kz
instance :Ty Tryz.prog 80 true 3:=kz
instance :Ty Tryz.prog 82 false 1:=kz
instance :Ty Tryz.prog 84 true 2:=kz
instance :Ty Tryz.prog 87 false 1:=kz
instance :Ty Tryz.prog 88 false 1:=kz
instance :Ty Tryz.prog 89 false 1:=kz
instance :Ty Tryz.prog 96 false 1:=kz
instance :Ty Tryz.prog 98 true 3:=kz
instance :Ty Tryz.prog 101 true 3:=kz
instance :Ty Tryz.prog 110 false 1:=kz
instance :Ty Tryz.prog 117 false 1:=kz
instance :Ty Tryz.prog 133 false 1:=kz
instance :Ty Tryz.prog 156 false 1:=kz
instance :Ty Tryz.prog 162 false 1:=kz
instance :Ty Tryz.prog 175 true 4:=kz
instance :Zero Tryz.prog 22 [Value.slice none 0 0]:=kz
instance :Zero Tryz.prog 28 [Value.slice none 0 0,Value.slice none 0 0,Value.slice none 0 0]:=kz
instance :Zero Tryz.prog 35 [Value.int IntKind.i64 0,Value.int IntKind.i64 0,Value.int IntKind.i64 0]:=kz
instance :Zero Tryz.prog 40 [Value.int IntKind.i64 0,gs []]:=kz
instance :Zero Tryz.prog 42 [gs [],Value.int IntKind.i64 0,gs []]:=kz
instance :Zero Tryz.prog 45 [Value.int IntKind.i64 0,gs [],Value.int IntKind.i64 0,gs [],Value.int IntKind.i64 0,Value.int IntKind.i64 0]:=kz
instance :Zero Tryz.prog 50 [Value.int IntKind.i64 0,gs [],gs [],gs [],gs [],Value.int IntKind.i64 0,Value.slice none 0 0,Value.slice none 0 0,Value.slice none 0 0,Value.int IntKind.i64 0]:=kz
instance :Zero Tryz.prog 53 [gs [],Value.slice none 0 0,Value.slice none 0 0,Value.slice none 0 0]:=kz
instance :Zero Tryz.prog 61 [Value.slice none 0 0]:=kz
instance :Zero Tryz.prog 66 [gs [],gs [],Value.int IntKind.i64 0]:=kz
instance :Zero Tryz.prog 72 [gs [],gs [],Value.slice none 0 0]:=kz
instance :Zero Tryz.prog 80 [gs [],Value.slice none 0 0,Value.slice none 0 0]:=kz
instance :Zero Tryz.prog 84 [gs [],Value.slice none 0 0]:=kz
instance :Zero Tryz.prog 98 [gs [],gs [],Value.slice none 0 0]:=kz
instance :Zero Tryz.prog 101 [Value.int IntKind.i64 0,gs [],Value.slice none 0 0]:=kz
instance :Zero Tryz.prog 110 [Value.nilFunc]:=kz
instance :Zero Tryz.prog 115 [Value.slice none 0 0,Value.int IntKind.i64 0]:=kz
instance :Zero Tryz.prog 117 [Value.nilFunc]:=kz
instance :Zero Tryz.prog 124 [Value.pointer none,Value.slice none 0 0,gs [],Value.slice none 0 0,Value.slice none 0 0,Value.slice none 0 0,gs [],Value.slice none 0 0,Value.int IntKind.i64 0,Value.int IntKind.i64 0,Value.int IntKind.i64 0]:=kz
instance :Zero Tryz.prog 133 [Value.slice none 0 0]:=kz
instance :Zero Tryz.prog 156 [Value.nilFunc]:=kz
instance :Zero Tryz.prog 164 [gs [],Value.slice none 0 0,Value.slice none 0 0,gs [],Value.slice none 0 0]:=kz
instance :Zero Tryz.prog 175 [gs [],Value.int IntKind.i64 0,gs [],Value.int IntKind.i64 0]:=kz
instance :Fld Tryz.prog 28 0 0:=kz
instance :Fld Tryz.prog 28 1 1:=kz
instance :Fld Tryz.prog 28 2 2:=kz
instance :Fld Tryz.prog 35 0 0:=kz
instance :Fld Tryz.prog 40 0 0:=kz
instance :Fld Tryz.prog 40 1 1:=kz
instance :Fld Tryz.prog 42 0 0:=kz
instance :Fld Tryz.prog 42 1 1:=kz
instance :Fld Tryz.prog 45 0 0:=kz
instance :Fld Tryz.prog 45 1 1:=kz
instance :Fld Tryz.prog 45 2 2:=kz
instance :Fld Tryz.prog 45 3 3:=kz
instance :Fld Tryz.prog 45 4 4:=kz
instance :Fld Tryz.prog 45 5 5:=kz
instance :Fld Tryz.prog 50 0 0:=kz
instance :Fld Tryz.prog 50 1 1:=kz
instance :Fld Tryz.prog 50 2 2:=kz
instance :Fld Tryz.prog 50 3 3:=kz
instance :Fld Tryz.prog 50 4 4:=kz
instance :Fld Tryz.prog 50 5 5:=kz
instance :Fld Tryz.prog 50 6 6:=kz
instance :Fld Tryz.prog 50 7 7:=kz
instance :Fld Tryz.prog 50 8 8:=kz
instance :Fld Tryz.prog 50 9 9:=kz
instance :Fld Tryz.prog 53 0 0:=kz
instance :Fld Tryz.prog 53 1 1:=kz
instance :Fld Tryz.prog 53 2 2:=kz
instance :Fld Tryz.prog 53 3 3:=kz
instance :Fld Tryz.prog 66 0 0:=kz
instance :Fld Tryz.prog 66 1 1:=kz
instance :Fld Tryz.prog 66 2 2:=kz
instance :Fld Tryz.prog 72 0 0:=kz
instance :Fld Tryz.prog 72 1 1:=kz
instance :Fld Tryz.prog 72 2 2:=kz
instance :Fld Tryz.prog 80 0 0:=kz
instance :Fld Tryz.prog 80 1 1:=kz
instance :Fld Tryz.prog 80 2 2:=kz
instance :Fld Tryz.prog 84 0 0:=kz
instance :Fld Tryz.prog 84 1 1:=kz
instance :Fld Tryz.prog 98 0 0:=kz
instance :Fld Tryz.prog 98 1 1:=kz
instance :Fld Tryz.prog 98 2 2:=kz
instance :Fld Tryz.prog 101 0 0:=kz
instance :Fld Tryz.prog 101 1 1:=kz
instance :Fld Tryz.prog 101 2 2:=kz
instance :Fld Tryz.prog 115 0 0:=kz
instance :Fld Tryz.prog 115 1 1:=kz
instance :Fld Tryz.prog 124 0 0:=kz
instance :Fld Tryz.prog 124 1 1:=kz
instance :Fld Tryz.prog 124 2 2:=kz
instance :Fld Tryz.prog 124 3 6:=kz
instance :Fld Tryz.prog 124 4 7:=kz
instance :Fld Tryz.prog 124 5 8:=kz
instance :Fld Tryz.prog 124 6 9:=kz
instance :Fld Tryz.prog 124 7 10:=kz
instance :Fld Tryz.prog 164 0 0:=kz
instance :Fld Tryz.prog 164 1 3:=kz
instance :Fld Tryz.prog 164 2 4:=kz
instance :Fld Tryz.prog 175 0 0:=kz
instance :Fld Tryz.prog 175 1 1:=kz
instance :Fld Tryz.prog 175 2 3:=kz
instance :MapTB Tryz.prog 212:=kz
instance :Und Tryz.prog 2 (TypeDesc.int IntKind.i64):=kz
instance :Und Tryz.prog 3 (TypeDesc.int IntKind.i64):=kz
instance :Und Tryz.prog 5 (TypeDesc.int IntKind.u8):=kz
instance :Und Tryz.prog 9 TypeDesc.string:=kz
instance :Und Tryz.prog 30 (TypeDesc.int IntKind.u64):=kz
instance :Und Tryz.prog 197 (TypeDesc.int IntKind.u64):=kz
instance :Body Tryz.prog 9:=kz
instance :Body Tryz.prog 10:=kz
instance :Body Tryz.prog 11:=kz
instance :Body Tryz.prog 13:=kz
instance :Body Tryz.prog 14:=kz
instance :Body Tryz.prog 15:=kz
instance :Body Tryz.prog 16:=kz
instance :Body Tryz.prog 17:=kz
instance :Body Tryz.prog 18:=kz
instance :Body Tryz.prog 19:=kz
instance :Body Tryz.prog 20:=kz
instance :Body Tryz.prog 22:=kz
instance :Body Tryz.prog 23:=kz
instance :Body Tryz.prog 24:=kz
instance :Body Tryz.prog 25:=kz
instance :Body Tryz.prog 26:=kz
instance :Body Tryz.prog 27:=kz
instance :Body Tryz.prog 28:=kz
instance :Body Tryz.prog 29:=kz
instance :Body Tryz.prog 30:=kz
instance :Body Tryz.prog 31:=kz
instance :Body Tryz.prog 32:=kz
instance :Body Tryz.prog 34:=kz
instance :Body Tryz.prog 35:=kz
instance :Body Tryz.prog 36:=kz
instance :Body Tryz.prog 37:=kz
instance :Body Tryz.prog 38:=kz
instance :Body Tryz.prog 39:=kz
instance :Body Tryz.prog 40:=kz
instance :Body Tryz.prog 41:=kz
instance :Body Tryz.prog 42:=kz
instance :Body Tryz.prog 43:=kz
instance :Body Tryz.prog 44:=kz
instance :Body Tryz.prog 45:=kz
instance :Body Tryz.prog 46:=kz
instance :Body Tryz.prog 47:=kz
instance :Body Tryz.prog 48:=kz
instance :Body Tryz.prog 49:=kz
instance :Body Tryz.prog 50:=kz
instance :Body Tryz.prog 51:=kz
instance :Body Tryz.prog 52:=kz
instance :Body Tryz.prog 53:=kz
instance :Body Tryz.prog 54:=kz
instance :Body Tryz.prog 55:=kz
instance :Body Tryz.prog 56:=kz
instance :Body Tryz.prog 57:=kz
instance :Body Tryz.prog 58:=kz
instance :Body Tryz.prog 59:=kz
instance :Body Tryz.prog 60:=kz
instance :Body Tryz.prog 61:=kz
instance :Body Tryz.prog 62:=kz
instance :Body Tryz.prog 63:=kz
instance :Body Tryz.prog 64:=kz
instance :Body Tryz.prog 65:=kz
instance :Body Tryz.prog 66:=kz
instance :Body Tryz.prog 67:=kz
instance :Body Tryz.prog 68:=kz
instance :Body Tryz.prog 69:=kz
instance :Body Tryz.prog 70:=kz
instance :Body Tryz.prog 71:=kz
instance :Body Tryz.prog 72:=kz
instance :Body Tryz.prog 73:=kz
instance :Body Tryz.prog 74:=kz
instance :Body Tryz.prog 75:=kz
instance :Body Tryz.prog 77:=kz
instance :Body Tryz.prog 78:=kz
instance :Body Tryz.prog 79:=kz
instance :Body Tryz.prog 80:=kz
instance :Body Tryz.prog 81:=kz
instance :Body Tryz.prog 82:=kz
instance :Body Tryz.prog 83:=kz
instance :Body Tryz.prog 84:=kz
instance :Body Tryz.prog 85:=kz
instance :Body Tryz.prog 86:=kz
instance :Body Tryz.prog 87:=kz
instance :Body Tryz.prog 88:=kz
instance :Body Tryz.prog 89:=kz
instance :Body Tryz.prog 90:=kz
instance :Body Tryz.prog 91:=kz
instance :Body Tryz.prog 92:=kz
instance :Body Tryz.prog 93:=kz
instance :Body Tryz.prog 94:=kz
instance :Body Tryz.prog 95:=kz
instance :Body Tryz.prog 96:=kz
instance :Body Tryz.prog 97:=kz
instance :Body Tryz.prog 98:=kz
instance :Body Tryz.prog 99:=kz
instance :Body Tryz.prog 100:=kz
instance :Body Tryz.prog 101:=kz
instance :Body Tryz.prog 102:=kz
instance :Body Tryz.prog 103:=kz
instance :Body Tryz.prog 104:=kz
instance :Body Tryz.prog 105:=kz
instance :Body Tryz.prog 106:=kz
instance :Body Tryz.prog 107:=kz
instance :Body Tryz.prog 108:=kz
instance :Body Tryz.prog 109:=kz
instance :Body Tryz.prog 110:=kz
instance :Body Tryz.prog 111:=kz
instance :Body Tryz.prog 112:=kz
instance :Body Tryz.prog 113:=kz
instance :Body Tryz.prog 114:=kz
instance :Body Tryz.prog 115:=kz
instance :Body Tryz.prog 116:=kz
instance :Body Tryz.prog 117:=kz
instance :Body Tryz.prog 118:=kz
instance :Body Tryz.prog 119:=kz
instance :Body Tryz.prog 120:=kz
instance :Body Tryz.prog 123:=kz
instance :Body Tryz.prog 124:=kz
instance :Body Tryz.prog 125:=kz
instance :Body Tryz.prog 126:=kz
instance :Body Tryz.prog 127:=kz
instance :Body Tryz.prog 128:=kz
instance :Body Tryz.prog 129:=kz
instance :Body Tryz.prog 130:=kz
instance :Body Tryz.prog 131:=kz
instance :Body Tryz.prog 132:=kz
instance :Body Tryz.prog 133:=kz
instance :Body Tryz.prog 134:=kz
instance :Body Tryz.prog 135:=kz
instance :Body Tryz.prog 136:=kz
instance :Body Tryz.prog 137:=kz
instance :Body Tryz.prog 138:=kz
instance :Body Tryz.prog 139:=kz
instance :Body Tryz.prog 140:=kz
instance :Body Tryz.prog 141:=kz
instance :Body Tryz.prog 142:=kz
instance :Body Tryz.prog 143:=kz
instance :Body Tryz.prog 144:=kz
instance :Body Tryz.prog 145:=kz
instance :Body Tryz.prog 146:=kz
instance :Body Tryz.prog 147:=kz
instance :Body Tryz.prog 148:=kz
instance :Body Tryz.prog 149:=kz
instance :Body Tryz.prog 150:=kz
instance :Body Tryz.prog 151:=kz
instance :Body Tryz.prog 152:=kz
instance :Body Tryz.prog 153:=kz
instance :Body Tryz.prog 154:=kz
instance :Body Tryz.prog 155:=kz
instance :Body Tryz.prog 156:=kz
instance :Body Tryz.prog 168:=kz
instance :Body Tryz.prog 169:=kz
instance :Body Tryz.prog 170:=kz
instance :Body Tryz.prog 171:=kz
instance :Body Tryz.prog 172:=kz
instance :Body Tryz.prog 173:=kz
instance :Body Tryz.prog 174:=kz
instance :Body Tryz.prog 175:=kz
instance :Body Tryz.prog 176:=kz
instance :Body Tryz.prog 177:=kz
instance :Body Tryz.prog 178:=kz
instance :Body Tryz.prog 179:=kz
instance :Body Tryz.prog 180:=kz
instance :Body Tryz.prog 181:=kz
instance :Body Tryz.prog 182:=kz
instance :Body Tryz.prog 183:=kz
instance :Body Tryz.prog 184:=kz
instance :Body Tryz.prog 185:=kz
instance :Body Tryz.prog 192:=kz
instance :Body Tryz.prog 193:=kz
instance :Body Tryz.prog 194:=kz
instance :Body Tryz.prog 195:=kz
instance :Body Tryz.prog 196:=kz
instance :Body Tryz.prog 197:=kz
instance :Body Tryz.prog 198:=kz
end Go.Sx
namespace Go.Sx
open Go Go.Proofs Go.Proofs.YtjnlogbbcceaoaaGreat
section
variable {P:Program}
def OpensB (P:Program)(t:TypeId){α:Type}(en:α→List Value)(ok:Hp→α→Prop):Prop:=
 ∀(HH:Type) (enc:TypeId×Value→HH) (W:World) (fuel:Nat) (cs:List Value) (x:DataW HH×List MemPlace),DataW.trod enc P W 0 (fun _=>true) true fuel t cs=some x→Rows.uptoBulk x.1≤1048576→∃a:α,cs=en a∧ok (Ca W) a
theorem Jp {HH:Type}(d:DataW HH):1≤Rows.uptoBulk d:=by
 cases d with
 | lit l=>cases l<;>simp [Rows.uptoBulk]
 | nil=>simp [Rows.uptoBulk]
 | ptr d=>simp [Rows.uptoBulk]
 | slice elems spare=>simp [Rows.uptoBulk]
 | agg parts=>simp [Rows.uptoBulk]
 | iface t d=>simp [Rows.uptoBulk]
 | map entries=>simp [Rows.uptoBulk]
 | held h=>simp [Rows.uptoBulk]
theorem mQ {HH:Type}{d:DataW HH}:∀{l:List (DataW HH)},d∈l→Rows.uptoBulk d≤Rows.uptoBulkAll l
 | x::r,h=>by
  simp only [Rows.uptoBulkAll]
  rcases List.mem_cons.1 h with e | e
  ·subst e;omega
  ·have:=mQ e;omega
theorem Co {HH:Type}:∀{l:List (DataW HH)},l.length≤Rows.uptoBulkAll l
 | []=>by simp [Rows.uptoBulkAll]
 | x::r=>by
  simp only [Rows.uptoBulkAll,List.length_cons]
  have:=Jp x;have:=Co (l:=r);omega
theorem E8 {HH:Type}{l:List (DataW HH)}{d:DataW HH}{i:Nat}(hk:Rows.uptoSmall HH l=true)(hi:l[i]? =some d):Rows.uptoBulk d≤1048576:=by
 have h1:Rows.uptoBulkAll l≤1048576:=of_decide_eq_true hk
 have h2:=mQ (List.mem_of_getElem? hi)
 omega
theorem dj {t:TypeId}{α:Type}{en:α→List Value}{ok:Hp→α→Prop}(h:Opens P t en ok):OpensB P t en ok:=fun HH enc W fuel cs x hx _=>h HH enc W fuel cs x hx
theorem bO {t:TypeId}(ht:P.underlying t=some .string):OpensB P t (fun s:Str=>[gs s]) (fun _ s=>s.length≤1048576):=by
 intro HH enc W fuel cs x h hb
 obtain⟨s,rfl,hx,hw⟩:=DataW.trod_string ht h
 refine⟨s.data.toList,by rw [gs_of],?_⟩
 rw [hx] at hb
 simp only [Rows.uptoBulk] at hb
 show s.data.toList.length≤_
 first | omega | (simp at hb ⊢;omega)
theorem bN {t e:TypeId}{k:Nat}{α:Type}{en:α→List Value}{ok:Hp→α→Prop}(ht:P.underlying t=some (.slice e))(hk:P.cellsOf e=k)(hpos:0<k)(he:OpensB P e en ok):
  OpensB P t (fun v:Sp×List α=>[.slice v.1.1 v.2.length v.1.2]) (fun H v=>RdSl H k en (.slice v.1.1 v.2.length v.1.2) v.2∧v.2.length≤1048576∧∀x∈v.2,ok H x):=by
 subst hk
 intro HH enc W fuel cs x h hbk
 rcases Go.Deep.open_slice ht h with ⟨rfl,_⟩ | ⟨a,len,cap,m,n,D,Pl,rfl,_,hl,hm,hmm,hxe,hx⟩
 ·exact⟨((none,0),[]),rfl,RdSl.nil,Nat.zero_le _,by simp⟩
 ·have hlm:m=cap:=by simpa using hmm
  subst hlm
  have hd:x.1= .slice ((List.range len).map D) ((List.range (m - len)).map fun j=>D (len+j)):=by rw [hxe]
  rw [hd] at hbk
  simp only [Rows.uptoBulk] at hbk
  have hlen1:len≤1048576:=by
   have:=Co (l:=(List.range len).map D)
   simp at this
   omega
  have hel:∀i,i<len→∃z:α,∃cs',W.cells? 0 (a.add (i * P.cellsOf e)) (P.cellsOf e)=some cs'∧cs'=en z∧ok (Ca W) z:=fun i hi=>by
   obtain⟨cs',h1,h2⟩:=hx i om
   have hbi:Rows.uptoBulk (D i)≤1048576:=by
    have:=mQ (d:=D i) (l:=(List.range len).map D) (List.mem_map.2 ⟨i,List.mem_range.2 hi,rfl⟩)
    omega
   obtain⟨z,h3,h4⟩:=he HH enc W n cs' _ h2 hbi
   exact⟨z,cs',h1,h3,h4⟩
  have hch:=r7 hel
  obtain⟨l,hlen,hget⟩:=hch
  have hspot:l≠[]→a.spot=none:=fun hne=>by
   cases l with
   | nil=>exact absurd rfl hne
   | cons z l=>
    obtain⟨cs',h1,h2,_⟩:=hget 0 z rfl
    obtain⟨_,h3,h4⟩:=World.cells?_some h1
    have h5:=h4 0 om
    have h6:cs'[0]? =some (cs'[0]'om):=List.getElem?_eq_getElem om
    rw [h6] at h5
    have:=Ft h5
    simpa [Addr.add] using this
  refine⟨((some a,m),l),(by simp only;rw [hlen]),⟨⟨_,_,rfl⟩,(by show l.length≤_;unfold maxLen at hm;omega),fun hne=>⟨m,?_⟩,fun i z hz j u hu=>?_,fun a' n' c' e=>by injection e with _ _ e;have e2:m=c':=e;show l.length≤c';omega⟩,by dsimp only;omega,fun z hz=>?_⟩
  ·have:=hspot hne
   obtain⟨b,o,sp⟩:=a
   simp only at this
   subst this
   simp [blk,off,hlen]
  ·obtain⟨cs',h1,rfl,_⟩:=hget i z hz
   obtain⟨_,h3,h4⟩:=World.cells?_some h1
   have hj:j<P.cellsOf e:=by rw [← h3];exact(List.getElem?_eq_some_iff.1 hu).1
   have h5:=h4 j hj
   have hsp:=hspot (fun e=>by rw [e] at hz;simp at hz)
   obtain⟨b,o,sp⟩:=a
   simp only at hsp
   subst hsp
   rw [fA,fA] at h5
   simp only [Ca,blk,off]
   exact h5.trans hu
  ·obtain⟨i,hi⟩:=List.mem_iff_getElem?.1 hz
   obtain⟨cs',_,_,h4⟩:=hget i z hi
   exact h4
theorem OpensB.one {HH:Type}{enc:TypeId×Value→HH}{t:TypeId}{α:Type}{en:α→List Value}{ok:Hp→α→Prop}{W:World}{v:Value}{d:DataW HH}{p:List MemPlace}(h:OpensB P t en ok)(hT:DataW.Trod enc P W 0 (fun _=>true) true t v d p)(hb:Rows.uptoBulk d≤1048576):
  ∃a:α,v.cells.toList=en a∧ok (Ca W) a:=by
 obtain⟨fuel,hf⟩:=hT
 exact h HH enc W fuel _ _ hf hb
theorem fG {HH:Type}{enc:TypeId×Value→HH}{t:TypeId}{fs:Array Field}{W:World}{fuel:Nat}{cs:List Value}{x:DataW HH×List MemPlace}(ht:P.underlying t=some (.struct fs))(h:DataW.trod enc P W 0 (fun _=>true) true fuel t cs=some x)(hb:Rows.uptoBulk x.1≤1048576):
  cs.length=P.cellsOf t∧∃n,∀(i:Nat) (f:Field),ku fs.toList i=some f→∃y,DataW.trod enc P W 0 (fun _=>true) true n f.type ((cs.drop f.offset).take (P.cellsOf f.type))=some y∧Rows.uptoBulk y.1≤1048576:=by
 obtain⟨xs,n,_,hx,h1,h2,h3⟩:=DataW.trod_struct ht h
 refine⟨h1,n,fun i f hf0=>?_⟩
 have hf:fs[i]? =some f:=by rw [pi] at hf0;simpa using hf0
 have hi:i<xs.length:=by rw [h2];exact(Array.getElem?_eq_some_iff.1 hf).1
 refine⟨xs[i],(h3 i f hf).trans (List.getElem?_eq_getElem hi),?_⟩
 rw [hx] at hb
 simp only [Rows.uptoBulk] at hb
 have:=mQ (d:=(xs[i]).1) (l:=xs.map (·.1)) (List.mem_map.2 ⟨_,List.getElem_mem hi,rfl⟩)
 omega
end
def SWay.okB (_:Hp)(w:SWay):Prop:=w.label.length≤1048576∧w.name.length≤1048576
def SCast.okB (H:Hp)(c:SCast):Prop:=RdSl H 1 I64.cells (.slice c.ap.1 c.args.length c.ap.2) c.args∧c.proc.length≤1048576
def SStep.okB (H:Hp)(s:SStep):Prop:=StepOk H s∧s.ways.length≤1048576∧s.name.length≤1048576∧s.proc.length≤1048576∧(∀w∈s.ways,SWay.okB H w)∧∀c∈s.casts,SCast.okB H c
def SArm.okB (_:Hp)(a:SArm):Prop:=a.cn.length≤1048576
def STurn.okB (H:Hp)(t:STurn):Prop:=TurnOk H t
def SLocal.okB (H:Hp)(l:SLocal):Prop:=LocalOk H l
def SPoint.okB (H:Hp)(p:SPoint):Prop:=PointOk H p
def SProto.okB (H:Hp)(p:SProto):Prop:=ProtoOk H p
def SParam.okB (_:Hp)(p:SParam):Prop:=p.cn.length≤1048576∧p.name.length≤1048576
def Term.okB (_:Hp)(t:Term):Prop:=t.name.length≤1048576
def SProc.okB (H:Hp)(q:SProc):Prop:=ProcOk H q∧se q∧q.name.length≤1048576∧q.steps.length≤1048576∧q.terms.length≤1048576∧(∀p∈q.params,SParam.okB H p)∧(∀t∈q.terms,Term.okB H t)∧∀s∈q.steps,SStep.okB H s
def SProg.okB (H:Hp)(p:SProg):Prop:=ProgOk H p∧p.procs.length≤1048576∧∀q∈p.procs,SProc.okB H q
theorem SProg.okB.way {H:Hp}{p:SProg}(h:SProg.okB H p):∀q∈p.procs,se q:=fun q hq=>(h.2.2 q hq).2.1
structure SCar where
 k:Int
 n:Str
def SCar.cells (c:SCar):List Value:=[.int .i64 c.k,gs c.n]
def SCar.okB (_:Hp)(c:SCar):Prop:=c.n.length≤1048576
theorem lU:OpensB Tryz.prog 40 SCar.cells SCar.okB:=by
 intro HH enc W fuel cs x h hb
 obtain⟨hl,n,hf⟩:=fG Tryz.underlying40 h hb
 rw [show Tryz.prog.cellsOf 40=2 from by kernel_rfl] at hl
 obtain⟨y0,h0,b0⟩:=hf 0 _ rfl
 obtain⟨y1,h1,b1⟩:=hf 1 _ rfl
 obtain⟨c0,c1,rfl⟩:=len2 hl
 clear hl h hb
 obtain⟨a0,e0,w0⟩:=(dj (dX Tryz.underlying3)) HH enc W n _ _ h0 b0
 simp only [show Tryz.prog.cellsOf 3=1 from by kernel_rfl] at e0
 obtain⟨a1,e1,w1⟩:=(bO Tryz.underlying9) HH enc W n _ _ h1 b1
 simp only [show Tryz.prog.cellsOf 9=1 from by kernel_rfl] at e1
 simp at e0
 simp at e1
 subst e0
 subst e1
 exact⟨⟨a0,a1⟩,rfl,w1⟩
theorem Dg:OpensB Tryz.prog 66 SWay.cells SWay.okB:=by
 intro HH enc W fuel cs x h hb
 obtain⟨hl,n,hf⟩:=fG Tryz.underlying66 h hb
 rw [show Tryz.prog.cellsOf 66=3 from by kernel_rfl] at hl
 obtain⟨y0,h0,b0⟩:=hf 0 _ rfl
 obtain⟨y1,h1,b1⟩:=hf 1 _ rfl
 obtain⟨y2,h2,b2⟩:=hf 2 _ rfl
 obtain⟨c0,c1,c2,rfl⟩:=Dp hl
 clear hl h hb
 obtain⟨a0,e0,w0⟩:=(bO Tryz.underlying9) HH enc W n _ _ h0 b0
 simp only [show Tryz.prog.cellsOf 9=1 from by kernel_rfl] at e0
 obtain⟨a1,e1,w1⟩:=(bO Tryz.underlying9) HH enc W n _ _ h1 b1
 simp only [show Tryz.prog.cellsOf 9=1 from by kernel_rfl] at e1
 obtain⟨a2,e2,w2⟩:=(dj (dX Tryz.underlying3)) HH enc W n _ _ h2 b2
 simp only [show Tryz.prog.cellsOf 3=1 from by kernel_rfl] at e2
 simp at e0
 simp at e1
 simp at e2
 subst e0
 subst e1
 subst e2
 exact⟨⟨a0,a1,a2⟩,rfl,⟨w0,w1⟩⟩
theorem Bz:OpensB Tryz.prog 72 SCast.cells SCast.okB:=by
 intro HH enc W fuel cs x h hb
 obtain⟨hl,n,hf⟩:=fG Tryz.underlying72 h hb
 rw [show Tryz.prog.cellsOf 72=3 from by kernel_rfl] at hl
 obtain⟨y0,h0,b0⟩:=hf 0 _ rfl
 obtain⟨y1,h1,b1⟩:=hf 1 _ rfl
 obtain⟨y2,h2,b2⟩:=hf 2 _ rfl
 obtain⟨c0,c1,c2,rfl⟩:=Dp hl
 clear hl h hb
 obtain⟨a0,e0,w0⟩:=(bO Tryz.underlying9) HH enc W n _ _ h0 b0
 simp only [show Tryz.prog.cellsOf 9=1 from by kernel_rfl] at e0
 obtain⟨a1,e1,w1⟩:=(bO Tryz.underlying9) HH enc W n _ _ h1 b1
 simp only [show Tryz.prog.cellsOf 9=1 from by kernel_rfl] at e1
 obtain⟨⟨p2,l2⟩,e2,w2⟩:=(bN Tryz.underlying22 (k:=1) kr dq (dj (qq Tryz.underlying3))) HH enc W n _ _ h2 b2
 simp only [show Tryz.prog.cellsOf 22=1 from by kernel_rfl] at e2
 simp at e0
 simp at e1
 simp at e2
 subst e0
 subst e1
 subst e2
 exact⟨⟨a0,a1,l2,p2⟩,rfl,⟨w2.1,w1⟩⟩
theorem Bx:OpensB Tryz.prog 50 SStep.cells SStep.okB:=by
 intro HH enc W fuel cs x h hb
 obtain⟨hl,n,hf⟩:=fG Tryz.underlying50 h hb
 rw [show Tryz.prog.cellsOf 50=10 from by kernel_rfl] at hl
 obtain⟨y0,h0,b0⟩:=hf 0 _ rfl
 obtain⟨y1,h1,b1⟩:=hf 1 _ rfl
 obtain⟨y2,h2,b2⟩:=hf 2 _ rfl
 obtain⟨y3,h3,b3⟩:=hf 3 _ rfl
 obtain⟨y4,h4,b4⟩:=hf 4 _ rfl
 obtain⟨y5,h5,b5⟩:=hf 5 _ rfl
 obtain⟨y6,h6,b6⟩:=hf 6 _ rfl
 obtain⟨y7,h7,b7⟩:=hf 7 _ rfl
 obtain⟨y8,h8,b8⟩:=hf 8 _ rfl
 obtain⟨y9,h9,b9⟩:=hf 9 _ rfl
 obtain⟨c0,c1,c2,c3,c4,c5,c6,c7,c8,c9,rfl⟩:=len10 hl
 clear hl h hb
 obtain⟨a0,e0,w0⟩:=(dj (dX Tryz.underlying3)) HH enc W n _ _ h0 b0
 simp only [show Tryz.prog.cellsOf 3=1 from by kernel_rfl] at e0
 obtain⟨a1,e1,w1⟩:=(bO Tryz.underlying9) HH enc W n _ _ h1 b1
 simp only [show Tryz.prog.cellsOf 9=1 from by kernel_rfl] at e1
 obtain⟨a2,e2,w2⟩:=(bO Tryz.underlying9) HH enc W n _ _ h2 b2
 simp only [show Tryz.prog.cellsOf 9=1 from by kernel_rfl] at e2
 obtain⟨a3,e3,w3⟩:=(bO Tryz.underlying9) HH enc W n _ _ h3 b3
 simp only [show Tryz.prog.cellsOf 9=1 from by kernel_rfl] at e3
 obtain⟨a4,e4,w4⟩:=(bO Tryz.underlying9) HH enc W n _ _ h4 b4
 simp only [show Tryz.prog.cellsOf 9=1 from by kernel_rfl] at e4
 obtain⟨a5,e5,w5⟩:=(dj (dX Tryz.underlying3)) HH enc W n _ _ h5 b5
 simp only [show Tryz.prog.cellsOf 3=1 from by kernel_rfl] at e5
 obtain⟨⟨p6,l6⟩,e6,w6⟩:=(bN Tryz.underlying22 (k:=1) kr dq (dj (qq Tryz.underlying3))) HH enc W n _ _ h6 b6
 simp only [show Tryz.prog.cellsOf 22=1 from by kernel_rfl] at e6
 obtain⟨⟨p7,l7⟩,e7,w7⟩:=(bN Tryz.underlying47 (k:=3) kr dq Bz) HH enc W n _ _ h7 b7
 simp only [show Tryz.prog.cellsOf 47=1 from by kernel_rfl] at e7
 obtain⟨⟨p8,l8⟩,e8,w8⟩:=(bN Tryz.underlying48 (k:=3) kr dq Dg) HH enc W n _ _ h8 b8
 simp only [show Tryz.prog.cellsOf 48=1 from by kernel_rfl] at e8
 obtain⟨a9,e9,w9⟩:=(dj (dX Tryz.underlying3)) HH enc W n _ _ h9 b9
 simp only [show Tryz.prog.cellsOf 3=1 from by kernel_rfl] at e9
 simp at e0
 simp at e1
 simp at e2
 simp at e3
 simp at e4
 simp at e5
 simp at e6
 simp at e7
 simp at e8
 simp at e9
 subst e0
 subst e1
 subst e2
 subst e3
 subst e4
 subst e5
 subst e6
 subst e7
 subst e8
 subst e9
 exact⟨⟨a0,a1,a2,a3,a4,a5,l6,p6,l7,p7,l8,p8,a9⟩,rfl,⟨⟨w6.1,w7.1,fun c hc=>(w7.2.2 c hc).1,w8.1⟩,w8.2.1,w1,w4,w8.2.2,w7.2.2⟩⟩
theorem uH:OpensB Tryz.prog 175 SArm.cells SArm.okB:=by
 intro HH enc W fuel cs x h hb
 obtain⟨hl,n,hf⟩:=fG Tryz.underlying175 h hb
 rw [show Tryz.prog.cellsOf 175=4 from by kernel_rfl] at hl
 obtain⟨y0,h0,b0⟩:=hf 0 _ rfl
 obtain⟨y1,h1,b1⟩:=hf 1 _ rfl
 obtain⟨y2,h2,b2⟩:=hf 2 _ rfl
 obtain⟨c0,c1,c2,c3,rfl⟩:=len4 hl
 clear hl h hb
 obtain⟨a0,e0,w0⟩:=(bO Tryz.underlying9) HH enc W n _ _ h0 b0
 simp only [show Tryz.prog.cellsOf 9=1 from by kernel_rfl] at e0
 obtain⟨⟨a1,d1⟩,e1,w1⟩:=(lU) HH enc W n _ _ h1 b1
 simp only [show Tryz.prog.cellsOf 40=2 from by kernel_rfl] at e1
 obtain⟨a2,e2,w2⟩:=(dj (dX Tryz.underlying3)) HH enc W n _ _ h2 b2
 simp only [show Tryz.prog.cellsOf 3=1 from by kernel_rfl] at e2
 simp at e0
 simp [SCar.cells] at e1
 simp at e2
 subst e0
 obtain⟨rfl,rfl⟩:=e1
 subst e2
 exact⟨⟨a0,a1,d1,a2⟩,rfl,w1⟩
theorem Bv:OpensB Tryz.prog 101 STurn.cells STurn.okB:=by
 intro HH enc W fuel cs x h hb
 obtain⟨hl,n,hf⟩:=fG Tryz.underlying101 h hb
 rw [show Tryz.prog.cellsOf 101=3 from by kernel_rfl] at hl
 obtain⟨y0,h0,b0⟩:=hf 0 _ rfl
 obtain⟨y1,h1,b1⟩:=hf 1 _ rfl
 obtain⟨y2,h2,b2⟩:=hf 2 _ rfl
 obtain⟨c0,c1,c2,rfl⟩:=Dp hl
 clear hl h hb
 obtain⟨a0,e0,w0⟩:=(dj (dX Tryz.underlying3)) HH enc W n _ _ h0 b0
 simp only [show Tryz.prog.cellsOf 3=1 from by kernel_rfl] at e0
 obtain⟨a1,e1,w1⟩:=(bO Tryz.underlying9) HH enc W n _ _ h1 b1
 simp only [show Tryz.prog.cellsOf 9=1 from by kernel_rfl] at e1
 obtain⟨⟨p2,l2⟩,e2,w2⟩:=(bN Tryz.underlying96 (k:=4) kr dq uH) HH enc W n _ _ h2 b2
 simp only [show Tryz.prog.cellsOf 96=1 from by kernel_rfl] at e2
 simp at e0
 simp at e1
 simp at e2
 subst e0
 subst e1
 subst e2
 exact⟨⟨a0,a1,l2,p2⟩,rfl,⟨w2.1,fun a ha=>Nat.le_trans (w2.2.2 a ha) dq⟩⟩
theorem zd:OpensB Tryz.prog 84 SLocal.cells SLocal.okB:=by
 intro HH enc W fuel cs x h hb
 obtain⟨hl,n,hf⟩:=fG Tryz.underlying84 h hb
 rw [show Tryz.prog.cellsOf 84=2 from by kernel_rfl] at hl
 obtain⟨y0,h0,b0⟩:=hf 0 _ rfl
 obtain⟨y1,h1,b1⟩:=hf 1 _ rfl
 obtain⟨c0,c1,rfl⟩:=len2 hl
 clear hl h hb
 obtain⟨a0,e0,w0⟩:=(bO Tryz.underlying9) HH enc W n _ _ h0 b0
 simp only [show Tryz.prog.cellsOf 9=1 from by kernel_rfl] at e0
 obtain⟨⟨p1,l1⟩,e1,w1⟩:=(bN Tryz.underlying82 (k:=3) kr dq Bv) HH enc W n _ _ h1 b1
 simp only [show Tryz.prog.cellsOf 82=1 from by kernel_rfl] at e1
 simp at e0
 simp at e1
 subst e0
 subst e1
 exact⟨⟨a0,l1,p1⟩,rfl,⟨w1.1,w1.2.2⟩⟩
theorem zb:OpensB Tryz.prog 98 SPoint.cells SPoint.okB:=by
 intro HH enc W fuel cs x h hb
 obtain⟨hl,n,hf⟩:=fG Tryz.underlying98 h hb
 rw [show Tryz.prog.cellsOf 98=3 from by kernel_rfl] at hl
 obtain⟨y0,h0,b0⟩:=hf 0 _ rfl
 obtain⟨y1,h1,b1⟩:=hf 1 _ rfl
 obtain⟨y2,h2,b2⟩:=hf 2 _ rfl
 obtain⟨c0,c1,c2,rfl⟩:=Dp hl
 clear hl h hb
 obtain⟨a0,e0,w0⟩:=(bO Tryz.underlying9) HH enc W n _ _ h0 b0
 simp only [show Tryz.prog.cellsOf 9=1 from by kernel_rfl] at e0
 obtain⟨a1,e1,w1⟩:=(bO Tryz.underlying9) HH enc W n _ _ h1 b1
 simp only [show Tryz.prog.cellsOf 9=1 from by kernel_rfl] at e1
 obtain⟨⟨p2,l2⟩,e2,w2⟩:=(bN Tryz.underlying96 (k:=4) kr dq uH) HH enc W n _ _ h2 b2
 simp only [show Tryz.prog.cellsOf 96=1 from by kernel_rfl] at e2
 simp at e0
 simp at e1
 simp at e2
 subst e0
 subst e1
 subst e2
 exact⟨⟨a0,a1,l2,p2⟩,rfl,⟨w2.1,fun a ha=>Nat.le_trans (w2.2.2 a ha) dq⟩⟩
theorem sj:OpensB Tryz.prog 80 SProto.cells SProto.okB:=by
 intro HH enc W fuel cs x h hb
 obtain⟨hl,n,hf⟩:=fG Tryz.underlying80 h hb
 rw [show Tryz.prog.cellsOf 80=3 from by kernel_rfl] at hl
 obtain⟨y0,h0,b0⟩:=hf 0 _ rfl
 obtain⟨y1,h1,b1⟩:=hf 1 _ rfl
 obtain⟨y2,h2,b2⟩:=hf 2 _ rfl
 obtain⟨c0,c1,c2,rfl⟩:=Dp hl
 clear hl h hb
 obtain⟨a0,e0,w0⟩:=(bO Tryz.underlying9) HH enc W n _ _ h0 b0
 simp only [show Tryz.prog.cellsOf 9=1 from by kernel_rfl] at e0
 obtain⟨⟨p1,l1⟩,e1,w1⟩:=(bN Tryz.underlying61 (k:=1) kr dq (bO Tryz.underlying9)) HH enc W n _ _ h1 b1
 simp only [show Tryz.prog.cellsOf 61=1 from by kernel_rfl] at e1
 obtain⟨⟨p2,l2⟩,e2,w2⟩:=(bN Tryz.underlying78 (k:=3) kr dq zb) HH enc W n _ _ h2 b2
 simp only [show Tryz.prog.cellsOf 78=1 from by kernel_rfl] at e2
 simp at e0
 simp at e1
 simp at e2
 subst e0
 subst e1
 subst e2
 exact⟨⟨a0,l1,p1,l2,p2⟩,rfl,⟨w1.1,w2.1,w2.2.2⟩⟩
theorem zc:OpensB Tryz.prog 42 SParam.cells SParam.okB:=by
 intro HH enc W fuel cs x h hb
 obtain⟨hl,n,hf⟩:=fG Tryz.underlying42 h hb
 rw [show Tryz.prog.cellsOf 42=3 from by kernel_rfl] at hl
 obtain⟨y0,h0,b0⟩:=hf 0 _ rfl
 obtain⟨y1,h1,b1⟩:=hf 1 _ rfl
 obtain⟨c0,c1,c2,rfl⟩:=Dp hl
 clear hl h hb
 obtain⟨a0,e0,w0⟩:=(bO Tryz.underlying9) HH enc W n _ _ h0 b0
 simp only [show Tryz.prog.cellsOf 9=1 from by kernel_rfl] at e0
 obtain⟨⟨a1,d1⟩,e1,w1⟩:=(lU) HH enc W n _ _ h1 b1
 simp only [show Tryz.prog.cellsOf 40=2 from by kernel_rfl] at e1
 simp at e0
 simp [SCar.cells] at e1
 subst e0
 obtain⟨rfl,rfl⟩:=e1
 exact⟨⟨a0,a1,d1⟩,rfl,⟨w1,w0⟩⟩
theorem Bw:OpensB Tryz.prog 45 Term.cells Term.okB:=by
 intro HH enc W fuel cs x h hb
 obtain⟨hl,n,hf⟩:=fG Tryz.underlying45 h hb
 rw [show Tryz.prog.cellsOf 45=6 from by kernel_rfl] at hl
 obtain⟨y0,h0,b0⟩:=hf 0 _ rfl
 obtain⟨y1,h1,b1⟩:=hf 1 _ rfl
 obtain⟨y2,h2,b2⟩:=hf 2 _ rfl
 obtain⟨y3,h3,b3⟩:=hf 3 _ rfl
 obtain⟨y4,h4,b4⟩:=hf 4 _ rfl
 obtain⟨y5,h5,b5⟩:=hf 5 _ rfl
 obtain⟨c0,c1,c2,c3,c4,c5,rfl⟩:=len6 hl
 clear hl h hb
 obtain⟨a0,e0,w0⟩:=(dj (dX Tryz.underlying3)) HH enc W n _ _ h0 b0
 simp only [show Tryz.prog.cellsOf 3=1 from by kernel_rfl] at e0
 obtain⟨a1,e1,w1⟩:=(bO Tryz.underlying9) HH enc W n _ _ h1 b1
 simp only [show Tryz.prog.cellsOf 9=1 from by kernel_rfl] at e1
 obtain⟨a2,e2,w2⟩:=(dj (dX Tryz.underlying2)) HH enc W n _ _ h2 b2
 simp only [show Tryz.prog.cellsOf 2=1 from by kernel_rfl] at e2
 obtain⟨a3,e3,w3⟩:=(bO Tryz.underlying9) HH enc W n _ _ h3 b3
 simp only [show Tryz.prog.cellsOf 9=1 from by kernel_rfl] at e3
 obtain⟨a4,e4,w4⟩:=(dj (dX Tryz.underlying3)) HH enc W n _ _ h4 b4
 simp only [show Tryz.prog.cellsOf 3=1 from by kernel_rfl] at e4
 obtain⟨a5,e5,w5⟩:=(dj (dX Tryz.underlying3)) HH enc W n _ _ h5 b5
 simp only [show Tryz.prog.cellsOf 3=1 from by kernel_rfl] at e5
 simp at e0
 simp at e1
 simp at e2
 simp at e3
 simp at e4
 simp at e5
 subst e0
 subst e1
 subst e2
 subst e3
 subst e4
 subst e5
 exact⟨⟨a0,a1,a2,a3,a4,a5⟩,rfl,w1⟩
theorem By:OpensB Tryz.prog 53 SProc.cells SProc.okB:=by
 intro HH enc W fuel cs x h hb
 obtain⟨hl,n,hf⟩:=fG Tryz.underlying53 h hb
 rw [show Tryz.prog.cellsOf 53=4 from by kernel_rfl] at hl
 obtain⟨y0,h0,b0⟩:=hf 0 _ rfl
 obtain⟨y1,h1,b1⟩:=hf 1 _ rfl
 obtain⟨y2,h2,b2⟩:=hf 2 _ rfl
 obtain⟨y3,h3,b3⟩:=hf 3 _ rfl
 obtain⟨c0,c1,c2,c3,rfl⟩:=len4 hl
 clear hl h hb
 obtain⟨a0,e0,w0⟩:=(bO Tryz.underlying9) HH enc W n _ _ h0 b0
 simp only [show Tryz.prog.cellsOf 9=1 from by kernel_rfl] at e0
 obtain⟨⟨p1,l1⟩,e1,w1⟩:=(bN Tryz.underlying43 (k:=3) kr dq zc) HH enc W n _ _ h1 b1
 simp only [show Tryz.prog.cellsOf 43=1 from by kernel_rfl] at e1
 obtain⟨⟨p2,l2⟩,e2,w2⟩:=(bN Tryz.underlying46 (k:=6) kr dq Bw) HH enc W n _ _ h2 b2
 simp only [show Tryz.prog.cellsOf 46=1 from by kernel_rfl] at e2
 obtain⟨⟨p3,l3⟩,e3,w3⟩:=(bN Tryz.underlying51 (k:=10) kr dq Bx) HH enc W n _ _ h3 b3
 simp only [show Tryz.prog.cellsOf 51=1 from by kernel_rfl] at e3
 simp at e0
 simp at e1
 simp at e2
 simp at e3
 subst e0
 subst e1
 subst e2
 subst e3
 exact⟨⟨a0,l1,p1,l2,p2,l3,p3⟩,rfl,⟨⟨w1.1,fun x hx=>Nat.le_trans (w1.2.2 x hx).1 dq,Nat.le_trans w1.2.1 dq,w2.1,fun t ht=>Nat.le_trans (w2.2.2 t ht) dq,w3.1,fun s hs=>(w3.2.2 s hs).1⟩,fun s hs=>Nat.le_trans (w3.2.2 s hs).2.1 dq,w0,w3.2.1,w2.2.1,w1.2.2,w2.2.2,w3.2.2⟩⟩
theorem opensB_Program:OpensB Tryz.prog 28 SProg.cells SProg.okB:=by
 intro HH enc W fuel cs x h hb
 obtain⟨hl,n,hf⟩:=fG Tryz.underlying28 h hb
 rw [show Tryz.prog.cellsOf 28=3 from by kernel_rfl] at hl
 obtain⟨y0,h0,b0⟩:=hf 0 _ rfl
 obtain⟨y1,h1,b1⟩:=hf 1 _ rfl
 obtain⟨y2,h2,b2⟩:=hf 2 _ rfl
 obtain⟨c0,c1,c2,rfl⟩:=Dp hl
 clear hl h hb
 obtain⟨⟨p0,l0⟩,e0,w0⟩:=(bN Tryz.underlying24 (k:=3) kr dq sj) HH enc W n _ _ h0 b0
 simp only [show Tryz.prog.cellsOf 24=1 from by kernel_rfl] at e0
 obtain⟨⟨p1,l1⟩,e1,w1⟩:=(bN Tryz.underlying25 (k:=2) kr dq zd) HH enc W n _ _ h1 b1
 simp only [show Tryz.prog.cellsOf 25=1 from by kernel_rfl] at e1
 obtain⟨⟨p2,l2⟩,e2,w2⟩:=(bN Tryz.underlying26 (k:=4) kr dq By) HH enc W n _ _ h2 b2
 simp only [show Tryz.prog.cellsOf 26=1 from by kernel_rfl] at e2
 simp at e0
 simp at e1
 simp at e2
 subst e0
 subst e1
 subst e2
 exact⟨⟨l0,p0,l1,p1,l2,p2⟩,rfl,⟨⟨w0.1,w0.2.2,w1.1,w1.2.2,w2.1,fun q hq=>(w2.2.2 q hq).1⟩,w2.2.1,w2.2.2⟩⟩
end Go.Sx
