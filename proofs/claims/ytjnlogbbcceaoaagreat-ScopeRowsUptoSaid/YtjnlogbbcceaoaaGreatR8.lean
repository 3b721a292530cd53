import Derived.Test.YtjnlogbbcceaoaaGreatR7
set_option linter.all false
set_option maxRecDepth 100000
set_option maxHeartbeats 32000000
namespace Go.Sx
open Go Go.Proofs
theorem CF {H:Hp}(k:Int):
  FnS Tryz.prog 117 [.int .i64 k] H (.bool (lB k)):=by
 refine FnS.enter Tryz.func117 Tryz.ntmps117 rfl rfl (fun w0=>?_)
 refine jt ?_
 refine bO (decide (k=0)||(decide (k=3)||(decide (k=5)||(decide (k=6)||decide (k=10))))) 4 [(2,_)] ⟨rfl,trivial⟩ ?_ ?_
 ·
  refine Bb ?_
  exact eR (aJ rfl) rfl rfl ⟨rfl,trivial⟩
 refine TC.cond rfl ?_ ?_<;>intro c4
 ·
  refine nE ?_
  exact ax (.inr rfl) (ad rfl (RVal.tmp rfl)) (congrArg Value.bool (by unfold lB;first | exact c4.symm | (rw [c4]) | simp_all))
 refine uD ?_
 exact ax (.inr rfl) (ad rfl (RVal.tmp rfl)) (congrArg Value.bool (by unfold lB;first | exact c4.symm | (rw [c4]) | simp_all))
theorem Ap {H:Hp}(s:SStep)(hs:StepOk H s)(hl:s.ways.length≤1000000000):
  FnO Tryz.prog 58 [.agg s.cells.toArray] H (fun v H1 ob=>H1=H∧OwnSl 1 I64.cells v (kh s) ob):=by
 have hw:=hs.w
 have hmw:=hw.max
 refine FnO.enter Tryz.func58 Tryz.ntmps58 rfl rfl (fun w0=>?_)
 refine zm2 ?_
 refine TL.box rfl rfl (fun b1=>?_)
 refine zm1 ?_;refine jt ?_
 refine aW (V:=fun k v ob H1=>[(3,v),(4,.int .i64 k)]) (K:=[(1,_),(2,_)]) (L:=fun k v ob H1=>St [] w0 H H ((b1,_)::ob)) (I:=fun k v ob H1=>(0≤k∧k≤s.ways.length)∧OwnSl 1 I64.cells v ((s.ways.take k.toNat).map (·.next)) ob) (μ:=fun k=>(s.ways.length - k).toNat) 0 (.slice none 0 0) [] H ky ⟨o2q,OwnSl.nil⟩ (fun w hw=>hw) (fun k v ob H1 hI=>?_)
 obtain⟨⟨k0,k1⟩,hO⟩:=hI
 obtain⟨va,vc,rfl⟩:=hO.form
 refine qQ ?_;refine TL.run (ah rfl rfl hw) rfl (zm1 ?_)
 refine ag rfl ?_ ?_<;>intro c9
 ·
  obtain⟨x,hx⟩:=ao (l:=s.ways) k0 c9
  refine gj ?_;refine pN ?_;refine zm0 ?_;refine TL.run (ae rfl hw rfl om om) rfl (zm6 ?_);refine TL.run (br hw hx rfl rfl) rfl (aD rfl rfl rfl rfl (fun b19=>?_))
  refine TL.append (enc:=I64.cells) rfl rfl rfl hO (Src.own [x.next] (.here _) rfl rfl) (by simp;omega) rfl (.skip _ (.skip _ .all)) rfl (fun a20 c20 ob20 hO20=>?_)
  refine lr ?_
  exact aH (k+1) _ ob20 H ⟨o2q,by rw [bQ k0 hx];exact hO20⟩ ky (fun w hw=>hw.drop) om
 have htk:(s.ways.take k.toNat).length≤1000000000:=by rw [List.length_take];omega
 refine gh ?_;refine fL ?_;refine ay (ab rfl rfl rfl rfl) (CF s.kind) rfl (zm1 ?_)
 refine TC.cond rfl ?_ ?_<;>intro c24
 ·
  refine pN ?_
  refine aD rfl rfl rfl rfl (fun b28=>?_)
  refine TL.append (enc:=I64.cells) rfl rfl rfl hO (Src.own [s.next] (.here _) rfl rfl) (by simp;omega) rfl (.skip _ (.skip _ .all)) rfl (fun a29 c29 ob29 hO29=>?_)
  refine zm1 ?_;refine l9 ?_
  exact ef (.inr rfl) (ad rfl (RVal.tmp rfl)) (.skip _ (.skip _ .all)) ⟨rfl,hO29.cast (by unfold kh;rw [if_neg (by rw [Ak c24];decide),bC c9 k0])⟩
 refine cV ?_;refine l9 ?_
 exact ef (.inr rfl) (ad rfl (RVal.tmp rfl)) (.skip _ .all) ⟨rfl,hO.cast (by unfold kh;rw [if_pos (EK c24),bC c9 k0,List.append_nil])⟩
end Go.Sx
namespace Go.Sx
open Go
structure GP (H:Hp)(nm:Str)(p:SProto):Prop where
 ok:ProtoOk H p
 nm:p.name=nm
 rs:∃n,2≤n∧n≤5∧p.roles=rolesL.take n
theorem GP.le {H H':Hp}{nm:Str}{p:SProto}(h:GP H nm p)(hl:H.le H'):GP H' nm p:=⟨h.ok.le hl,h.nm,h.rs⟩
theorem GP.pr {H:Hp}{nm:Str}{p:SProto}(h:GP H nm p)(hn:nm=[112]∨nm=[113]):GPr p:=by
 obtain⟨n,h2,h5,hr⟩:=h.rs
 have hl:p.roles.length=n:=by rw [hr,List.length_take];show min n 5=n;omega
 exact⟨by rw [h.nm];exact hn,by omega,by omega,fun r hm=>by rw [hr] at hm;exact mJ hm⟩
def PsOk (H:Hp)(ps:List SProto):Prop:=∃p,GP H [112] p∧(ps=[p]∨∃q,GP H [113] q∧ps=[p,q])
theorem PsOk.le {H H':Hp}{ps:List SProto}(h:PsOk H ps)(hl:H.le H'):PsOk H' ps:=by
 obtain⟨p,hp,h⟩:=h
 refine⟨p,hp.le hl,?_⟩
 rcases h with h | ⟨q,hq,h⟩
 ·exact .inl h
 ·exact .inr ⟨q,hq.le hl,h⟩
theorem PsOk.pk {H:Hp}{ps:List SProto}(h:PsOk H ps):∀p∈ps,ProtoOk H p:=by
 obtain⟨p,hp,rfl | ⟨q,hq,rfl⟩⟩:=h<;>intro x hx<;>simp only [List.mem_cons,List.not_mem_nil,or_false] at hx
 ·subst hx;exact hp.ok
 ·rcases hx with rfl | rfl
  ·exact hp.ok
  ·exact hq.ok
theorem PsOk.pg {H:Hp}{ps:List SProto}(h:PsOk H ps):∀p∈ps,GPr p:=by
 obtain⟨p,hp,rfl | ⟨q,hq,rfl⟩⟩:=h<;>intro x hx<;>simp only [List.mem_cons,List.not_mem_nil,or_false] at hx
 ·subst hx;exact hp.pr (.inl rfl)
 ·rcases hx with rfl | rfl
  ·exact hp.pr (.inl rfl)
  ·exact hq.pr (.inr rfl)
theorem PsOk.pn {H:Hp}{ps:List SProto}(h:PsOk H ps):0<ps.length∧ps.length≤2:=by
 obtain⟨p,hp,rfl | ⟨q,hq,rfl⟩⟩:=h<;>simp
theorem tyNm_of {n:Nat}{l:List Str}(h:l=rolesL.take n):∀s∈l.map (fun r=>([112]++[46])++r),TyNm s:=by
 intro s hs
 simp only [List.mem_map] at hs
 obtain⟨r,hr,rfl⟩:=hs
 exact⟨r,List.mem_of_mem_take (h▸hr),rfl⟩
end Go.Sx
namespace Go.Sx
open Go
theorem pf:∀{l:List (List Int)} {x:List Int} {k:Nat},fO l x=some k→k<l.length
 | [],x,k,h=>by simp [fO] at h
 | y::r,x,k,h=>by
  unfold fO at h
  split at h
  ·simp at h;subst h;simp
  ·rw [Option.map_eq_some_iff] at h
   obtain⟨j,hj,rfl⟩:=h
   have:=pf hj
   simp;omega
theorem zd {p:SProto}{role:Str}{sets:List (List Int)}{frm:List Int}(h40:sets.length≤40)(h:(bR p role sets frm).2.1=0):
  0≤(bR p role sets frm).1∧(bR p role sets frm).1<(bR p role sets frm).2.2.length∧(bR p role sets frm).2.2.length≤40:=by
 unfold bR at h ⊢
 split at h
 ·simp at h
 ·rename_i hc
  rw [if_neg hc]
  split at h
  ·rename_i i hi
   have:=pf hi
   dsimp only
   omega
  ·rename_i hi
   split at h
   ·simp at h
   ·rename_i hn
    rw [if_neg hn]
    simp only [List.length_append,List.length_cons,List.length_nil]
    omega
def ArmIn (n B:Nat)(a:SArm):Prop:=(0≤a.next∧a.next<(n:Int))∧a.label.length≤B
theorem ArmIn.up {n m B:Nat}{a:SArm}(h:ArmIn n B a)(hm:n≤m):ArmIn m B a:=⟨⟨h.1.1,by have:=h.1.2;omega⟩,h.2⟩
theorem uQ {p:SProto}{role:Str}{set:List Int}{B:Nat}:∀(l:List Str) (sets:List (List Int)) (acc:List SArm),sets.length≤40→(∀a∈acc,ArmIn sets.length B a)→(∀lb∈l,lb.length≤B)→(turnA p role set l sets acc).2.1=0→
  (turnA p role set l sets acc).1.length=acc.length+l.length∧(turnA p role set l sets acc).2.2.length≤40∧∀a∈(turnA p role set l sets acc).1,ArmIn (turnA p role set l sets acc).2.2.length B a
 | [],sets,acc,h40,ha,_,_=>⟨rfl,h40,ha⟩
 | lb::r,sets,acc,h40,ha,hl,h0=>by
  unfold turnA at h0 ⊢
  have hat:= @zd p role sets (dW p set lb).2.2.1 h40
  have hge:= @sA p role sets (dW p set lb).2.2.1
  generalize bR p role sets (dW p set lb).2.2.1=q at h0 hat hge ⊢
  obtain⟨ix,e,s'⟩:=q
  dsimp only at h0 hat hge ⊢
  by_cases hb:e≠0
  ·rw [if_pos hb] at h0
   exact absurd h0 hb
  ·rw [if_neg hb] at h0 ⊢
   obtain⟨h1,h2,h3⟩:=hat (Decidable.of_not_not hb)
   have hacc:∀a∈acc++[(⟨lb,(dW p set lb).1,(dW p set lb).2.1,ix⟩:SArm)],ArmIn s'.length B a:=fj (fun a hm=>(ha a hm).up hge) ⟨⟨h1,h2⟩,hl lb sq⟩
   obtain⟨h4,h5,h6⟩:=uQ r s' _ h3 hacc (fun x hx=>hl x (by simp [hx])) h0
   refine⟨?_,h5,h6⟩
   rw [h4];simp only [List.length_append,List.length_cons,List.length_nil];omega
theorem yV:∀{l:List Str} {s x:Str},x∈cv l s→x=s∨x∈l
 | [],s,x,h=>by simp [cv] at h;exact .inl h
 | y::r,s,x,h=>by
  unfold cv at h
  split at h
  ·rcases List.mem_cons.1 h with rfl | h
   ·exact .inr sq
   ·rcases yV h with h | h
    ·exact .inl h
    ·exact .inr (by simp [h])
  ·split at h
   ·exact .inr h
   ·rcases List.mem_cons.1 h with rfl | h
    ·exact .inl rfl
    ·exact .inr h
theorem pE:∀{o i:List Str} {x:Str},x∈o.foldl cv i→x∈o∨x∈i
 | [],i,x,h=>.inr h
 | y::r,i,x,h=>by
  rcases pE (o:=r) (i:=cv i y) h with h | h
  ·exact .inl (by simp [h])
  ·rcases yV h with h | h
   ·exact .inl (by simp [h])
   ·exact .inr h
theorem sC:∀{l:List SArm} {o:List Str} {x:Str},x∈gO o l→x∈o∨∃a∈l,x=a.label
 | [],o,x,h=>.inl h
 | a::r,o,x,h=>by
  have h:x∈gO (o.foldl cv [a.label]) r:=h
  rcases sC h with h | ⟨b,hb,e⟩
  ·rcases pE h with h | h
   ·exact .inl h
   ·exact .inr ⟨a,by simp,by simpa using h⟩
  ·exact .inr ⟨b,by simp [hb],e⟩
theorem sB {p:SProto}:∀{l:List Int} {o:List Str} {x:Str},x∈kw p o l→x∈o∨∃q∈p.points,∃a∈q.arms,x=a.label
 | [],o,x,h=>.inl h
 | j::r,o,x,h=>by
  have h:x∈kw p (match p.points[j.toNat]? with | some x=>gO o x.arms | none=>o) r:=h
  rcases sB h with h | h
  ·split at h
   ·rename_i q hq
    rcases sC h with h | ⟨a,ha,e⟩
    ·exact .inl h
    ·exact .inr ⟨q,List.mem_of_getElem? hq,a,ha,e⟩
   ·exact .inl h
  ·exact .inr h
theorem putS_ne (l:List Str)(s:Str):cv l s≠[]:=by
 cases l with
 | nil=>simp [cv]
 | cons x r=>
  unfold cv
  split
  ·simp
  ·split<;>simp
theorem sJ:∀{o i:List Str},i≠[]→o.foldl cv i≠[]
 | [],_,h=>h
 | y::r,i,_=>sJ (o:=r) (i:=cv i y) (putS_ne _ _)
theorem wN:∀{l:List SArm} {o:List Str},o≠[]∨l≠[]→gO o l≠[]
 | [],o,h=>by
  rcases h with h | h
  ·exact h
  ·exact absurd rfl h
 | a::r,o,_=>wN (l:=r) (o:=o.foldl cv [a.label]) (.inl (sJ sq))
theorem wM {p:SProto}:∀{l:List Int} {o:List Str},(o≠[]∨∃j∈l,∃q,p.points[j.toNat]? =some q∧q.arms≠[])→kw p o l≠[]
 | [],o,h=>by
  rcases h with h | ⟨j,hj,_⟩
  ·exact h
  ·simp at hj
 | j::r,o,h=>by
  refine wM (l:=r) (o:=match p.points[j.toNat]? with | some x=>gO o x.arms | none=>o) ?_
  rcases h with h | ⟨k,hk,q,hq,ha⟩
  ·refine .inl ?_
   split
   ·exact wN (.inl h)
   ·exact h
  ·rcases List.mem_cons.1 hk with rfl | hk
   ·refine .inl ?_
    rw [hq]
    exact wN (.inr ha)
   ·exact .inr ⟨k,hk,q,hq,ha⟩
theorem ph {p:SProto}{role:Str}{B:Nat}(hB:∀x∈p.points,x.frm.length≤B∧x.to.length≤B):∀(l:List Int) (i:Nat) (kind:Int) (peer:Str),peer.length≤B→(ez p role i kind peer l).2.1.length≤B
 | [],_,_,_,h=>h
 | j::r,i,kind,peer,h=>by
  unfold ez
  split
  ·exact h
  ·rename_i x hx
   have hb:=hB x (List.mem_of_getElem? hx)
   have hp:(if x.to=role then x.frm else x.to).length≤B:=by
    split
    ·exact hb.1
    ·exact hb.2
   generalize (if x.to=role then x.frm else x.to)=pe at hp ⊢
   generalize (if x.to=role then(2:Int) else 1)=ke
   by_cases hc:0<i∧¬(ke=kind∧pe=peer)
   ·rw [if_pos hc];simp
   ·rw [if_neg hc];exact ph hB r _ _ _ hp
theorem sr {s:Str}(h:au s=true):s.length≤12∧s≠[]:=by
 unfold au at h
 split at h
 ·cases h
 ·split at h
  ·cases h
  ·rename_i h1 h2
   refine⟨by omega,fun e=>?_⟩
   subst e;simp at h1
theorem RPOk.lens {p:SProto}(h:RPOk p){x:SPoint}(hx:x∈p.points):(x.frm.length≤1000∧x.to.length≤1000)∧(∀a∈x.arms,a.label.length≤1000)∧(x.frm≠[]∨x.to≠[]→x.arms≠[]):=by
 have hp:=h.pt x hx
 unfold cb dy dH cj dv at hp
 simp only [Bool.or_eq_true,Bool.and_eq_true,decide_eq_true_eq] at hp
 rcases hp with ⟨h1,h2,h3⟩ | ⟨⟨h1,h2,_⟩,⟨h3,_⟩,h5,_⟩
 ·refine⟨by rw [h1,h2];simp,fun a ha=>?_,fun hh=>?_⟩
  ·rw [List.length_eq_zero_iff.1 (show x.arms.length=0 by omega)] at ha;simp at ha
  ·rcases hh with hh | hh
   ·exact absurd h1 hh
   ·exact absurd h2 hh
 ·have e1:=(sr (h.rn _ h1)).1
  have e2:=(sr (h.rn _ h2)).1
  refine⟨by omega,fun a ha=>?_,fun _ e=>?_⟩
  ·have:=List.all_eq_true.1 h5 a ha
   unfold fa at this
   simp only [Bool.and_eq_true] at this
   have:=(sr this.1).1
   omega
  ·rw [e] at h3;simp at h3
def TTok (n:Nat)(t:TT):Prop:=t.2.1.length≤1000∧t.2.2.length≤6∧(t.1≠0→t.1≠2→1≤t.2.2.length)∧∀a∈t.2.2,ArmIn n 1000 a
theorem TTok.up {n m:Nat}{t:TT}(h:TTok n t)(hm:n≤m):TTok m t:=⟨h.1,h.2.1,h.2.2.1,fun a ha=>(h.2.2.2 a ha).up hm⟩
theorem tt0 {n:Nat}:TTok n (0,[],[]):=⟨by simp,by simp,by simp,by simp⟩
theorem BY {p:SProto}{role:Str}(hP:RPOk p)(hr:role≠[]){sets:List (List Int)}{set:List Int}(h40:sets.length≤40)(hin:∀j∈set,inP p role j=true)(h0:(bD p role sets set).2.1=0):
  (bD p role sets set).2.2.length≤40∧TTok (bD p role sets set).2.2.length (bD p role sets set).1:=by
 unfold bD at h0 ⊢
 by_cases c1:set.length=0
 ·rw [if_pos c1];exact⟨h40,tt0⟩
 rw [if_neg c1] at h0 ⊢
 by_cases c2:(cL p role set).2.2≠0
 ·rw [if_pos c2];exact⟨h40,tt0⟩
 rw [if_neg c2] at h0 ⊢
 by_cases c3:(cL p role set).1=1∧jO p set=false
 ·rw [if_pos c3];exact⟨h40,tt0⟩
 rw [if_neg c3] at h0 ⊢
 by_cases c4:6<(cY p set).length
 ·rw [if_pos c4];exact⟨h40,tt0⟩
 rw [if_neg c4] at h0 ⊢
 by_cases c5:(cY p set).all (k8 p set)=false
 ·rw [if_pos c5];exact⟨h40,tt0⟩
 rw [if_neg c5] at h0 ⊢
 by_cases c6:(turnA p role set (cY p set) sets []).2.1≠0
 ·rw [if_pos c6] at h0;exact absurd h0 c6
 rw [if_neg c6]
 obtain⟨h1,h2,h3⟩:=uQ (B:=1000) (cY p set) sets [] h40 sq (fun lb hlb=>by
  rcases sB hlb with h | ⟨q,hq,a,ha,rfl⟩
  ·simp at h
  ·exact(hP.lens hq).2.1 a ha) (Decidable.of_not_not c6)
 refine⟨h2,?_,?_,fun _ _=>?_,h3⟩
 ·exact ph (fun x hx=>(hP.lens hx).1) set 0 0 [] sq
 ·dsimp only;rw [h1];simp only [List.length_nil];omega
 ·dsimp only;rw [h1]
  have:cY p set≠[]:=by
   refine wM (.inr ?_)
   obtain⟨j,r,e⟩:∃j r,set=j::r:=by
    cases set with
    | nil=>exact absurd rfl c1
    | cons j r=>exact⟨j,r,rfl⟩
   have hj:=hin j (by rw [e];simp)
   unfold inP at hj
   split at hj
   ·rename_i x hx
    refine⟨j,by rw [e];simp,x,hx,(hP.lens (List.mem_of_getElem? hx)).2.2 ?_⟩
    unfold d7 at hj
    simp only [Bool.or_eq_true,decide_eq_true_eq] at hj
    rcases hj with h | h
    ·exact .inl (by rw [h];exact hr)
    ·exact .inr (by rw [h];exact hr)
   ·cases hj
  have:=List.length_pos_iff.2 this
  simp only [List.length_nil];omega
def InP (p:SProto)(role:Str)(sets:List (List Int)):Prop:=∀s∈sets,∀j∈s,inP p role j=true
theorem m7 {p:SProto}{role:Str}{sets:List (List Int)}{frm:List Int}(h:InP p role sets):InP p role (bR p role sets frm).2.2:=by
 unfold bR
 split
 ·exact h
 ·split
  ·exact h
  ·split
   ·exact h
   ·exact fj h (fun j hj=>(List.mem_filter.1 hj).2)
theorem ru {p:SProto}{role:Str}{set:List Int}:∀(l:List Str) (sets:List (List Int)) (acc:List SArm),InP p role sets→InP p role (turnA p role set l sets acc).2.2
 | [],_,_,h=>h
 | lb::r,sets,acc,h=>by
  unfold turnA
  split
  ·exact m7 h
  ·exact ru r _ _ (m7 h)
theorem yu {p:SProto}{role:Str}{set:List Int}{sets:List (List Int)}(h:InP p role sets):InP p role (bD p role sets set).2.2:=by
 unfold bD
 split; · exact h
 split; · exact h
 split; · exact h
 split; · exact h
 split; · exact h
 split; · exact ru _ _ _ h
 exact ru _ _ _ h
theorem yO {p:SProto}{role:Str}(hP:RPOk p)(hr:role≠[]):∀(f i:Nat) (sets:List (List Int)) (acc:List TT),sets.length≤40→i≤sets.length→41≤i+f→acc.length=i→(∀t∈acc,TTok sets.length t)→InP p role sets→(jB p role f i sets acc).1=0→
  sets.length≤(jB p role f i sets acc).2.length∧∀t∈(jB p role f i sets acc).2,TTok (jB p role f i sets acc).2.length t
 | 0,i,sets,acc,h40,hi,hf,_,_,_,_=>by omega
 | f+1,i,sets,acc,h40,hi,hf,hac,hT,hI,h0=>by
  cases hs:sets[i]? with
  | none=>
   have hle:=List.getElem?_eq_none_iff.1 hs
   rw [mK hle]
   have:acc.length=sets.length:=by omega
   dsimp only
   rw [this]
   exact⟨Nat.le_refl _,hT⟩
  | some s=>
   have hlt:=(List.getElem?_eq_some_iff.1 hs).1
   by_cases hb:(bD p role sets s).2.1≠0
   ·rw [rO hs hb] at h0;exact absurd h0 hb
   ·rw [kO hs hb] at h0 ⊢
    obtain⟨h1,h2⟩:=BY hP hr h40 (hI s (List.mem_of_getElem? hs)) (Decidable.of_not_not hb)
    have hge:= @yv p role s sets
    have hin:= @yu p role s sets hI
    generalize (bD p role sets s).2.2=s' at *
    generalize (bD p role sets s).1=t' at *
    obtain⟨h3,h4⟩:=yO hP hr f (i+1) s' (acc++[t']) h1 om om (by simp [hac]) (fj (fun t ht=>(hT t ht).up hge) h2) hin h0
    exact⟨by omega,h4⟩
theorem Ca {p:SProto}{role:Str}(h0:(cN p role).1=0):0<(cN p role).2.length∧∀t∈(cN p role).2,TTok (cN p role).2.length t:=by
 unfold cN at h0 ⊢
 by_cases c1:(ci p&&cj p.roles role)=false
 ·rw [if_pos c1] at h0;cases h0
 rw [if_neg c1] at h0 ⊢
 by_cases c2:(bR p role [] [0]).2.1≠0
 ·rw [if_pos c2] at h0;exact absurd h0 c2
 rw [if_neg c2] at h0 ⊢
 have c1:ci p=true∧cj p.roles role=true:=by simpa using c1
 have hP:=RPOk.of c1.1
 have hr:=(sr (hP.rn role (of_decide_eq_true c1.2))).2
 obtain⟨h1,h2,h3⟩:= @zd p role [] [0] sq (Decidable.of_not_not c2)
 obtain⟨h4,h5⟩:=yO hP hr 41 0 _ [] h3 om om rfl sq (m7 (by intro s hs;simp at hs)) h0
 exact⟨by omega,h5⟩
theorem vi {p:SProto}:∀(l:List Str) (i:Nat),(jc p i l).1=0→∀r∈l,(cN p r).1=0
 | [],_,_,r,hr=>by simp at hr
 | x::l,i,h,r,hr=>by
  unfold jc at h
  split at h
  ·rename_i hb;exact absurd h hb
  ·rename_i hb
   rcases List.mem_cons.1 hr with rfl | hr
   ·exact Decidable.of_not_not hb
   ·exact vi l _ h r hr
theorem sW {p:SProto}(h:(jk p).1=0):∀r∈p.roles,(cN p r).1=0:=by
 unfold jk at h
 split at h
 ·cases h
 ·exact vi _ _ h
theorem LsOk.tg {H:Hp}{p:SProto}{ls:List SLocal}(h:LsOk H p p.roles.length ls)(hz:(jk p).1=0){k:Int}(h0:0≤k){T:SLocal}(hk:ls[k.toNat]? =some T):∀F:Fx,F.tys=ls→F.role=k→TG F T:=by
 intro F hF hR
 obtain⟨r,hr,hnm,hok,htt⟩:=h.at_ _ _ hk
 obtain⟨h1,h2⟩:=Ca (sW hz r (List.mem_of_getElem? hr))
 rw [← htt,List.length_map] at h1
 rw [← htt,List.length_map] at h2
 refine⟨by rw [hR];exact h0,by rw [hR,hF];have:=(List.getElem?_eq_some_iff.1 hk).1;omega,by rw [hR,hF];exact hk,h1,fun t ht=>?_⟩
 obtain⟨a1,a2,a3,a4⟩:=h2 (tt t) (List.mem_map.2 ⟨t,ht,rfl⟩)
 exact⟨a1,a2,a3,fun a ha=>(a4 a ha).2,fun a ha=>(a4 a ha).1⟩
structure LsG (H:Hp)(p:SProto)(lv:Value)(ls:List SLocal):Prop where
 r:RdSl H 2 SLocal.cells lv ls
 n:ls.length≤p.roles.length
 l:∀l∈ls,LocalOk H l∧l.name.length≤1000
 g:∀(k:Int) (T:SLocal),0≤k→ls[k.toNat]? =some T→∀F:Fx,F.tys=ls→F.role=k→TG F T
theorem LsG.le {H H':Hp}{p:SProto}{lv:Value}{ls:List SLocal}(h:LsG H p lv ls)(hl:H.le H'):LsG H' p lv ls:=⟨h.r.le hl,h.n,fun l hm=>⟨(h.l l hm).1.le hl,(h.l l hm).2⟩,h.g⟩
end Go.Sx
namespace Go.Sx
open Go
theorem oi {q:SProc}{n i:Int}(hi:0≤i){s:SStep}(hs:q.steps[i.toNat]? =some s):∀{L:List Int} {p:List Int×List Int},n≤p.1.length→(∀t∈L,t∈aG s)→(∀j:Int,0≤j→j<n→0≤aL p.1 j→Par q (aL p.1 j) j)→∀j:Int,0≤j→j<n→0≤aL (fY n i L p).1 j→Par q (aL (fY n i L p).1 j) j
 | [],p,_,_,h=>h
 | t::r,p,hn,hL,h=>by
  rw [fY]
  split
  ·exact oi hi hs hn (fun u hu=>hL u (by simp [hu])) h
  ·rename_i ht
   refine oi hi hs (by simpa using hn) (fun u hu=>hL u (by simp [hu])) (fun j hj hjn h0=>?_)
   dsimp only at h0 ⊢
   by_cases e:j=t
   ·subst e
    rw [ep om om hj,if_pos rfl] at h0 ⊢
    split at h0
    ·omega
    ·rename_i h2;rw [if_neg h2];exact⟨hi,s,hs,hL j sq⟩
   ·rw [kV om hj e] at h0 ⊢
    exact h j hj hjn h0
theorem Af {q:SProc}(hS:bK q){n:Int}:∀(l:List SStep) (k:Nat) (p:List Int×List Int),l=q.steps.drop k→n≤p.1.length→(∀j:Int,0≤j→j<n→0≤aL p.1 j→Par q (aL p.1 j) j)→∀j:Int,0≤j→j<n→0≤aL (ii n l k p).1 j→Par q (aL (ii n l k p).1 j) j:=by
 intro l
 induction l with
 | nil=>intro k p _ _ h;exact h
 | cons s r ih=>
  intro k p hl hn h
  have hx:q.steps[k]? =some s:=by
   have h1:(q.steps.drop k)[0]? =some s:=by rw [← hl];rfl
   rwa [List.getElem?_drop,Nat.add_zero] at h1
  have hr:r=q.steps.drop (k+1):=by
   have h1:(q.steps.drop k).drop 1=r:=by rw [← hl];rfl
   rw [← h1,List.drop_drop]
  rw [ii]
  exact ih (k+1) _ hr (by rw [gS.1];exact hn) (oi om (by simpa using hx) hn (fun t ht=>by rw [← nY (hS k s hx).1];exact ht) h)
theorem par_par {q:SProc}(hS:bK q){j:Int}(h0:0≤j)(hn:j<q.steps.length)(hp:0≤aL (tE q) j):Par q (aL (tE q) j) j:=by
 unfold tE at hp ⊢
 refine Af hS (n:=q.steps.length) q.steps 0 (mR q.steps.length) rfl (by simp [mR]) (fun j hj hjn h=>?_) j h0 hn hp
 exfalso
 unfold mR aL at h
 dsimp only at h
 rw [List.getElem?_set] at h
 split at h
 ·rw [if_pos (by simp;omega)] at h;simp at h
 ·rw [List.getElem?_replicate,if_pos om] at h;simp at h
theorem z6 {q:SProc}{i:Int}{up:List Int}:∀(l:List SStep) (k:Nat) (u:List Bool),l=q.steps.drop k→(vh q i up l k u).e=0→∀(j:Nat) (s:SStep),k≤j→q.steps[j]? =some s→yT q up j s=true∧eE s=true:=by
 intro l
 induction l with
 | nil=>
  intro k u hl _ j s hj hs
  have h1:=(List.getElem?_eq_some_iff.1 hs).1
  have h2:(q.steps.drop k).length=0:=by rw [← hl];rfl
  rw [List.length_drop] at h2;omega
 | cons x r ih=>
  intro k u hl h j s hj hs
  have hx:q.steps[k]? =some x:=by
   have h1:(q.steps.drop k)[0]? =some x:=by rw [← hl];rfl
   rwa [List.getElem?_drop,Nat.add_zero] at h1
  have hr:r=q.steps.drop (k+1):=by
   have h1:(q.steps.drop k).drop 1=r:=by rw [← hl];rfl
   rw [← h1,List.drop_drop]
  rw [vh] at h
  split at h
  ·cases h
  ·split at h
   ·cases h
   ·rename_i ht
    split at h
    ·cases h
    ·rename_i hro
     split at h
     ·cases h
     ·rename_i u2 _
      rcases Nat.lt_or_ge k j with hlt | hge
      ·exact ih (k+1) u2 hr h j s hlt hs
      ·have:j=k:=by omega
       subst this
       rw [hx] at hs;cases hs
       exact⟨by simpa using ht,by simpa using hro⟩
structure RefOk (q:SProc):Prop where
 s:bK q
 t:gb q
 n1:1≤q.steps.length
 n80:q.steps.length≤80
 t160:q.terms.length≤160
 p6:q.params.length≤6
 up:∀j:Int,0<j→j<q.steps.length→0≤aL (tE q) j∧Par q (aL (tE q) j) j
 ro:∀(k:Nat) (s:SStep),q.steps[k]? =some s→eE s=true
theorem Em {l:List SProc}{i:Int}{q:SProc}(h:(bh l i q).e=0):RefOk q:=by
 have hR:=wA h
 unfold bh at h
 split at h
 ·rename_i h2;exact absurd h h2
 ·rename_i h2
  have h2:(eX l i q).e=0:=by simpa using h2
  have hsz:(bP q&&q.params.all dJ)=true:=by
   unfold eX at h2
   split at h2
   ·cases h2
   ·rename_i hg;simpa using hg
  have hz:=head_sz hsz
  have hs:=ia _ _ _ _ _ h
  have hS:bK q:=lL (i:=i) hs
  have hsh:(eZ i q).e=0:=h
  rw [← D5 hz.2.1 hz.1] at hsh
  have htr:=z6 _ 0 _ rfl hsh
  refine⟨hS,rG hS hz.2.1 hs,hz.1,hz.2.1,hz.2.2.1,hz.2.2.2,fun j h0 hn=>?_,fun k s hk=>(htr k s (Nat.zero_le _) hk).2⟩
  have hx:=List.getElem?_eq_getElem (l:=q.steps) (i:=j.toNat) om
  have h3:=(htr j.toNat _ (Nat.zero_le _) hx).1
  unfold yT at h3
  simp only [Bool.and_eq_true] at h3
  have h4:=h3.2.1
  rw [show((j.toNat:Nat):Int)=j by omega,decide_eq_true h0,Bool.true_and] at h4
  have h5:0≤aL (tE q) j:=by simpa using h4
  exact⟨h5,par_par hS om hn h5⟩
theorem Cv {s:SStep}(hm:dg s=true):(¬(s.kind=3∨s.kind=5)→s.ways=[])∧(s.kind=1∨s.kind=8→s.name≠[])∧(s.kind=3→∀w∈s.ways,w.name=[])∧(s.kind=6∨s.kind=7→s.proc≠[])∧(¬(s.kind=6∨s.kind=7)→s.proc=[]):=by
 have hm2:=hm
 rw [← wC] at hm2
 unfold Cf at hm2
 split at hm2; · cases hm2
 split at hm2; · cases hm2
 rename_i htx
 split at hm2; · cases hm2
 rename_i hpb
 have htx:wl s=true:=by simpa using htx
 have hpb:oh s=false:=by simpa using hpb
 unfold wl at htx
 unfold oh at hpb
 simp only [Bool.and_eq_true] at htx
 simp only [Bool.or_eq_false_iff] at hpb
 obtain⟨t1,t2,t3,t4⟩:=htx
 obtain⟨p1,p2,p3,p4⟩:=hpb
 have hw:rP s=true:=by simpa using p3
 have hne:∀{x:Str},au x=true→x≠[]:=fun {x} h e=>by subst e;exact absurd h dq
 refine⟨fun h=>?_,fun h=>?_,fun h w hw2=>?_,fun h=>?_,fun h=>?_⟩
 ·rw [DI h] at hw;simpa using hw
 ·have:Bx s.kind=true:=by unfold Bx;rcases h with h | h<;>simp [h]
  rw [this] at t1;exact hne t1
 ·rw [ways_0 (.inl h)] at hw
  unfold eI at hw
  rw [if_pos h] at hw
  simp only [Bool.and_eq_true,decide_eq_true_eq,sV] at hw
  obtain⟨h2,⟨_,h3⟩,⟨_,h4⟩⟩:=hw
  obtain⟨i,hi⟩:=List.getElem?_of_mem hw2
  have hlt:=(List.getElem?_eq_some_iff.1 hi).1
  have:i=0∨i=1:=by omega
  rcases this with e | e<;>subst e
  ·rw [hi] at h3;exact h3
  ·rw [hi] at h4;exact h4
 ·have:callK s.kind=true:=by unfold callK;rcases h with h | h<;>simp [h]
  rw [this] at t4;exact hne t4
 ·have:callK s.kind=false:=by unfold callK;simp;omega
  rw [this] at t4;simpa [vH] using t4
theorem gf {k:Int}:∀(L:List Int) (ms:List Str) (b:List (List Str)) (j:Nat),(∀t∈L,t.toNat≠j)→(dP k L ms b)[j]? =b[j]?
 | [],_,_,_,_=>rfl
 | t::r,ms,b,j,h=>by
  rw [dP,gf r _ _ j (fun u hu=>h u (by simp [hu]))]
  unfold jd
  rw [List.getElem?_set,if_neg (h t sq)]
theorem lT {k:Int}:∀(L:List Int) (ms:List Str) (b:List (List Str)) {i:Nat} {t:Int} {m:Str},L[i]? =some t→ms[i]? =some m→L.Nodup→(∀t∈L,k<t∧t.toNat<b.length)→0≤k→
  (dP k L ms b)[t.toNat]? =some ((b[k.toNat]?.getD [])++(if m=[] then [] else [m]))
 | [],_,_,_,_,_,h,_,_,_,_=>by simp at h
 | u::r,ms,b,0,t,m,hL,hm,hn,hk,k0=>by
  simp only [List.getElem?_cons_zero,Option.some.injEq] at hL
  subst hL
  rw [List.nodup_cons] at hn
  cases ms with
  | nil=>simp at hm
  | cons m' ms=>
   simp only [List.getElem?_cons_zero,Option.some.injEq] at hm
   subst hm
   rw [dP,gf r _ _ u.toNat (fun v hv e=>hn.1 (by
    have h1:=hk u sq
    have h2:=hk v (by simp [hv])
    rw [show u=v by omega];exact hv))]
   unfold jd
   rw [List.getElem?_set,if_pos rfl,if_pos (hk u sq).2]
   rfl
 | u::r,ms,b,i+1,t,m,hL,hm,hn,hk,k0=>by
  rw [List.nodup_cons] at hn
  rw [dP]
  have hb:(jd b k u (ms.headD []))[k.toNat]? =b[k.toNat]? :=by
   unfold jd
   have:=hk u sq
   rw [List.getElem?_set,if_neg om]
  cases ms with
  | nil=>simp at hm
  | cons m' ms=>
   have:=lT r ms (jd b k u m') (i:=i) (t:=t) (m:=m) (by simpa using hL) (by simpa using hm) hn.2 (fun v hv=>by
    have:=hk v (by simp [hv])
    unfold jd;rw [List.length_set];exact this) k0
   simp only [List.headD_cons] at hb
   rw [hb] at this
   exact this
theorem kE {k:Int}:∀(L:List Int) (ms:List Str) (b:List (List Str)),(dP k L ms b).length=b.length
 | [],_,_=>rfl
 | t::r,ms,b=>by rw [dP,kE];simp [jd]
end Go.Sx
namespace Go.Sx
open Go
def co:List Int→Int→Int
 | [],_=> -1
 | y::r,x=>if y=x then 0 else if co r x<0 then -1 else co r x+1
theorem Ac {l:List Int}{x:Int}{k:Int}(h0:0≤k)(hx:l[k.toNat]? =some x)(hn:∀j:Nat,j<k.toNat→l[j]? ≠some x):co l x=k:=by
 induction l generalizing k with
 | nil=>simp at hx
 | cons y r ih=>
  unfold co
  by_cases hk:k=0
  ·subst hk
   simp at hx
   rw [if_pos hx]
  ·have hy:y≠x:=fun e=>hn 0 om (by simp [e])
   rw [if_neg hy]
   have e:k.toNat=(k - 1).toNat+1:=by omega
   rw [e,List.getElem?_cons_succ] at hx
   have:=ih (k:=k - 1) om hx (fun j hj=>by
    have:=hn (j+1) om
    rwa [List.getElem?_cons_succ] at this)
   rw [this,if_neg om];omega
theorem od {l:List Int}{x:Int}(h:x∉l):co l x= -1:=by
 induction l with
 | nil=>rfl
 | cons y r ih=>
  unfold co
  rw [if_neg (fun e=>h (by simp [e])),ih (fun hm=>h (by simp [hm]))];rfl
theorem vp {l:List Int}(hn:l.Nodup){i:Nat}{x:Int}(hx:l[i]? =some x):co l x=i:=by
 refine Ac (k:=i) om (by simpa using hx) (fun j hj e=>?_)
 obtain⟨a1,a2⟩:=List.getElem?_eq_some_iff.1 hx
 obtain⟨b1,b2⟩:=List.getElem?_eq_some_iff.1 e
 exact(List.pairwise_iff_getElem.1 hn) j i b1 a1 om (b2.trans a2.symm)
def t00:Term:=⟨0,[],0,[],0,0⟩
def getT (ts:List Term)(k:Int):Term:=ts[k.toNat]?.getD t00
def mvP (T:List Int)(t:Term):Term:={t with l:=co T t.l,r:=co T t.r}
def gk (ts:List Term)(s:SStep):List Int:=(lM s).flatMap (bi ts)
def termL (q:SProc):List Int:=(dx q).flatMap (fun k=>match q.steps[k.toNat]? with
 | some s=>gk q.terms s
 | none=>[])
def BL (T:List Int)(c:SCast):SCast:={c with args:=c.args.map (co T),ap:=(none,0)}
def zM (O:List Int)(w:SWay):SWay:={w with next:=co O w.next}
def pq (O T:List Int)(s:SStep):SStep:=
 {s with next:=co O s.next,term:=co T s.term,args:=s.args.map (co T),ap:=(none,0),casts:=s.casts.map (BL T),cp:=(none,0),ways:=s.ways.map (zM O),wp:=(none,0)}
def iO (q:SProc)(L:List Int):List SStep:=L.filterMap (fun k=>q.steps[k.toNat]?.map (pq (dx q) (termL q)))
def mL (q:SProc):SProc:=
 {name:=q.name,params:=q.params,pp:=(none,0),terms:=(termL q).map (fun k=>mvP (termL q) (getT q.terms k)),tp:=(none,0),steps:=iO q (dx q),sp:=(none,0)}
structure MS (ts:List Term)(T X:List Int)(st:RS):Prop where
 ml:st.1.length=ts.length
 o:st.2=X.map (fun k=>mvP T (getT ts k))
 m:∀(i:Nat) (x:Int),X[i]? =some x→aL st.1 x=i
theorem jy {ts:List Term}:∀(A B:List Int) (s:RS),cM ts (A++B) s=cM ts B (cM ts A s)
 | [],_,_=>rfl
 | k::r,B,s=>by
  rw [List.cons_append,cM,cM]
  split
  ·exact jy r B s
  ·exact jy r B _
structure TOk (ts:List Term)(T:List Int):Prop where
 nd:T.Nodup
 rg:∀k∈T,0≤k∧k<ts.length
theorem EN {ts:List Term}{T X Y:List Int}{st:RS}(hT:TOk ts T)(hX:T=X++Y)(h:MS ts T X st){y:Int}(hy:y= -1∨y∈X):(if 0≤y then aL st.1 y else y)=co T y:=by
 rcases hy with rfl | hy
 ·rw [if_neg om,od (fun hm=>by have:=hT.rg _ hm;omega)]
 ·have hm:y∈T:=by rw [hX];exact List.mem_append_left _ hy
  have:=hT.rg _ hm
  rw [if_pos this.1]
  obtain⟨i,hi⟩:=List.getElem?_of_mem hy
  have hi2:T[i]? =some y:=by rw [hX,List.getElem?_append_left (List.getElem?_eq_some_iff.1 hi).1];exact hi
  rw [h.m i y hi,vp hT.nd hi2]
theorem ms_one {ts:List Term}{T X Y:List Int}{st:RS}{a:Int}{t:Term}(hT:TOk ts T)(hX:T=X++a::Y)(h:MS ts T X st)(ht:ts[a.toNat]? =some t)(hl:t.l= -1∨t.l∈X)(hr:t.r= -1∨t.r∈X):MS ts T (X++[a]) (cM ts [a] st):=by
 have ha:0≤a∧a<ts.length:=hT.rg a (by rw [hX];simp)
 have hnX:∀x∈X,x≠a:=fun x hx e=>by
  subst e
  have:=hT.nd
  rw [hX,List.nodup_append] at this
  exact this.2.2 x hx x sq rfl
 have hrX:∀x∈X,0≤x:=fun x hx=>(hT.rg x (by rw [hX];simp [hx])).1
 rw [cM,ht]
 dsimp only
 rw [cM]
 refine⟨by rw [List.length_set];exact h.ml,?_,fun i x hx=>?_⟩
 ·rw [List.map_append,← h.o]
  congr 1
  have e1:=EN hT hX h hl
  have e2:=EN hT hX h hr
  simp only [List.map_cons,List.map_nil,getT,ht,Option.getD_some]
  unfold mvT mvP
  rw [e1,e2]
 ·by_cases hi:i<X.length
  ·rw [List.getElem?_append_left hi] at hx
   have hm:=List.mem_of_getElem? hx
   rw [kV ha.1 (hrX x hm) (hnX x hm)]
   exact h.m i x hx
  ·rw [List.getElem?_append_right om] at hx
   have:i - X.length=0:=by
    have:=(List.getElem?_eq_some_iff.1 hx).1
    simp at this;omega
   rw [this] at hx
   simp at hx
   subst hx
   have hol:st.2.length=X.length:=by rw [h.o,List.length_map]
   rw [ep ha.1 (by rw [h.ml];omega) ha.1,if_pos rfl,hol]
   omega
theorem rB {ts:List Term}{T:List Int}(hT:TOk ts T):∀(f:Nat) (a:Int),(a= -1∨Tr ts f a)→∀(X Y:List Int) (st:RS),T=X++(dL ts f a++Y)→MS ts T X st→MS ts T (X++dL ts f a) (cM ts (dL ts f a) st)∧(a= -1∨a∈dL ts f a)
 | 0,a,h,X,Y,st,hX,hM=>by
  rcases h with h | h
  ·subst h
   refine⟨?_,.inl rfl⟩
   simpa [dL,cM] using hM
  ·exact h.elim
 | f+1,a,h,X,Y,st,hX,hM=>by
  rcases h with h | h
  ·subst h
   rw [fB dq] at hX ⊢
   refine⟨?_,.inl rfl⟩
   simpa [cM] using hM
  ·obtain⟨h0,t,ht,_,_,hl0,hl1,hr0,hr1⟩:=h
   have hn:¬a<0:=by omega
   have hTl:t.l= -1∨Tr ts f t.l:=by
    rcases Int.lt_or_le (ak t.kind) 1 with h1 | h1
    ·exact .inl (hl1 h1)
    ·exact .inr (hl0 h1)
   have hTr:t.r= -1∨Tr ts f t.r:=by
    rcases Int.lt_or_le (ak t.kind) 2 with h1 | h1
    ·exact .inl (hr1 h1)
    ·exact .inr (hr0 h1)
   rw [gp hn ht] at hX ⊢
   obtain⟨m1,k1⟩:=rB hT f t.l hTl X (dL ts f t.r++[a]++Y) st (by rw [hX];simp) hM
   obtain⟨m2,k2⟩:=rB hT f t.r hTr (X++dL ts f t.l) ([a]++Y) _ (by rw [hX];simp) m1
   have m3:=ms_one (a:=a) (Y:=Y) hT (by rw [hX];simp) m2 ht (by
    rcases k1 with k | k
    ·exact .inl k
    ·exact .inr (by simp [k])) (by
    rcases k2 with k | k
    ·exact .inl k
    ·exact .inr (by simp [k]))
   refine⟨?_,.inr sq⟩
   rw [jy,jy]
   simpa using m3
theorem nL {ts:List Term}{T X Y:List Int}{st:RS}{root:Int}(hT:TOk ts T)(hm:cF ts root=true)(hX:T=X++(bi ts root++Y))(hM:MS ts T X st):MS ts T (X++bi ts root) (eD ts root st)∧aL (eD ts root st).1 root=co T root:=by
 have htr:=mZ hm
 obtain⟨h1,h2⟩:=rB hT (root.toNat+1) root (.inr htr) X Y st hX hM
 refine⟨h1,?_⟩
 have h0:0≤root:=htr.1
 have hin:root∈bi ts root:=by
  rcases h2 with h2 | h2
  ·omega
  ·exact h2
 have hin2:root∈X++bi ts root:=by simp [hin]
 have:=EN (Y:=Y) hT (by rw [hX];simp [bi]) h1 (.inr hin2)
 rw [if_pos h0] at this
 exact this
theorem nK {ts:List Term}{T:List Int}(hT:TOk ts T):∀(L acc X Y:List Int) (st:RS),(∀t∈L,cF ts t=true)→T=X++(L.flatMap (bi ts)++Y)→MS ts T X st→(bp ts L acc st).1=acc++L.map (co T)∧MS ts T (X++L.flatMap (bi ts)) (bp ts L acc st).2
 | [],acc,X,Y,st,_,_,hM=>by simpa [bp] using hM
 | r::L,acc,X,Y,st,hm,hX,hM=>by
  rw [bp]
  rw [List.flatMap_cons] at hX
  obtain⟨h1,h2⟩:=nL (Y:=L.flatMap (bi ts)++Y) hT (hm r sq) (by rw [hX];simp) hM
  obtain⟨h3,h4⟩:=nK hT L (acc++[aL (eD ts r st).1 r]) (X++bi ts r) Y (eD ts r st) (fun t ht=>hm t (by simp [ht])) (by rw [hX];simp) h1
  refine⟨by rw [h3,h2];simp,?_⟩
  rw [List.flatMap_cons,← List.append_assoc];exact h4
theorem vR {ts:List Term}{T:List Int}(hT:TOk ts T):∀(L:List SCast) (acc:List SCast) (X Y:List Int) (st:RS),(∀c∈L,∀t∈c.args,cF ts t=true)→T=X++(L.flatMap (fun c=>c.args.flatMap (bi ts))++Y)→MS ts T X st→
  (cT ts L acc st).1=acc++L.map (BL T)∧MS ts T (X++L.flatMap (fun c=>c.args.flatMap (bi ts))) (cT ts L acc st).2
 | [],acc,X,Y,st,_,_,hM=>by simpa [cT] using hM
 | c::L,acc,X,Y,st,hm,hX,hM=>by
  rw [cT]
  rw [List.flatMap_cons] at hX
  obtain⟨h1,h2⟩:=nK hT c.args [] X (L.flatMap (fun c=>c.args.flatMap (bi ts))++Y) st (hm c sq) (by rw [hX];simp) hM
  obtain⟨h3,h4⟩:=vR hT L (acc++[{c with args:=(bp ts c.args [] st).1,ap:=(none,0)}]) (X++c.args.flatMap (bi ts)) Y (bp ts c.args [] st).2 (fun d hd=>hm d (by simp [hd])) (by rw [hX];simp) h2
  refine⟨?_,?_⟩
  ·rw [h3,h1];simp [BL]
  ·rw [List.flatMap_cons,← List.append_assoc];exact h4
theorem term_or {s:SStep}{ts:List Term}(hm:dg s=true)(hr:eE s=true)(ht:∀t∈a8 s,cF ts t=true):(s.term= -1∧rHd s=s.args)∨(0≤s.term∧cF ts s.term=true∧rHd s=s.term::s.args):=by
 by_cases h:s.term= -1
 ·exact .inl ⟨h,rHd_F h⟩
 ·right
  have hin:s.term∈a8 s:=by
   rw [← iF hm hr,← yN,rHd_T h];simp
  have:=ht _ hin
  exact⟨(mZ this).1,this,rHd_T h⟩
theorem DU {q:SProc}{O T X Y:List Int}{st:RS}{s:SStep}{pl:List Int}(hT:TOk q.terms T)(hm:dg s=true)(hr:eE s=true)(ht:∀t∈a8 s,cF q.terms t=true)(hX:T=X++(gk q.terms s++Y))(hM:MS q.terms T X st)
  (hO:∀x∈aG s,aL pl x=co O x) (hOn:co O (-1)= -1):g6 q.terms pl s st=pq O T s∧MS q.terms T (X++gk q.terms s) (gB q.terms s st).2:=by
 have hst:gk q.terms s=(rHd s).flatMap (bi q.terms)++s.casts.flatMap (fun c=>c.args.flatMap (bi q.terms)):=by
  unfold gk
  rw [← yN,List.flatMap_append,List.flatMap_assoc]
 rw [hst] at hX ⊢
 have hargs:∀t∈s.args,cF q.terms t=true:=fun t h=>ht t (iD h)
 have hcasts:∀c∈s.casts,∀t∈c.args,cF q.terms t=true:=fun c hc t h=>ht t (iC hc h)
 have hneg:co T (-1)= -1:=od (fun h=>by have:=hT.rg _ h;omega)
 obtain⟨XA,hXA,hMA,htm⟩:∃XA,(rHd s).flatMap (bi q.terms)=XA++s.args.flatMap (bi q.terms)∧MS q.terms T (X++XA) (dc q.terms s st)∧(if 0≤s.term then aL (dc q.terms s st).1 s.term else s.term)=co T s.term:=by
  rcases term_or hm hr ht with ⟨h1,h2⟩ | ⟨h1,h2,h3⟩
  ·refine⟨[],by rw [h2];rfl,?_,?_⟩
   ·unfold dc;rw [if_neg om,List.append_nil];exact hM
   ·rw [if_neg om,h1,hneg]
  ·refine⟨bi q.terms s.term,by rw [h3,List.flatMap_cons],?_,?_⟩
   ·unfold dc;rw [if_pos h1]
    exact(nL (Y:=s.args.flatMap (bi q.terms)++s.casts.flatMap (fun c=>c.args.flatMap (bi q.terms))++Y) hT h2 (by rw [hX,h3,List.flatMap_cons];simp) hM).1
   ·unfold dc;rw [if_pos h1,if_pos h1]
    exact(nL (Y:=s.args.flatMap (bi q.terms)++s.casts.flatMap (fun c=>c.args.flatMap (bi q.terms))++Y) hT h2 (by rw [hX,h3,List.flatMap_cons];simp) hM).2
 rw [hXA] at hX ⊢
 obtain⟨hB1,hB2⟩:=nK hT s.args [] (X++XA) (s.casts.flatMap (fun c=>c.args.flatMap (bi q.terms))++Y) (dc q.terms s st) hargs (by rw [hX];simp) hMA
 obtain⟨hC1,hC2⟩:=vR hT s.casts [] (X++XA++s.args.flatMap (bi q.terms)) Y (bp q.terms s.args [] (dc q.terms s st)).2 hcasts (by rw [hX];simp) hB2
 refine⟨?_,?_⟩
 ·unfold g6 pq
  have e1:(dK q.terms s st).1=s.args.map (co T):=by unfold dK;rw [hB1];rfl
  have e2:(gB q.terms s st).1=s.casts.map (BL T):=by unfold gB dK;rw [hC1];rfl
  have e3:s.ways.map (iw pl)=s.ways.map (zM O):=List.map_congr_left (fun w hw=>by
   unfold iw zM;rw [hO _ (rk hm hw)])
  have e4:(if cd s.kind=true then aL pl s.next else s.next)=co O s.next:=by
   by_cases hg:cd s.kind=true
   ·rw [if_pos hg,hO _ (oB hg)]
   ·rw [if_neg hg]
    have:s.next= -1:=by
     have hm2:=hm
     unfold dg at hm2
     split at hm2; · cases hm2
     split at hm2; · cases hm2
     rename_i hb
     have hb:gA (dD s)=false:=by simpa using hb
     unfold gA at hb
     simp only [Bool.or_eq_false_iff] at hb
     have h9:=hb.2.2.2.2.2.2.2.2
     simp only [dD,hg,if_false] at h9
     simpa using h9
    rw [this,hOn]
  rw [e1,e2,e3,e4,htm]
 ·have:gB q.terms s st=cT q.terms s.casts [] (bp q.terms s.args [] (dc q.terms s st)).2:=rfl
  rw [this]
  simpa using hC2
theorem uX {q:SProc}{T:List Int}{pl:List Int}(hT:TOk q.terms T)(hh:∀(k:Nat) (s:SStep),q.steps[k]? =some s→dg s=true∧eE s=true∧(∀t∈a8 s,cF q.terms t=true)∧∀x∈aG s,aL pl x=co (dx q) x)(hOn:co (dx q) (-1)= -1)(hTq:T=termL q):
  ∀(L:List Int) (acc:List SStep) (X Y:List Int) (st:RS),(∀k∈L,0≤k∧k<q.steps.length)→T=X++(L.flatMap (fun k=>match q.steps[k.toNat]? with | some s=>gk q.terms s | none=>[])++Y)→MS q.terms T X st→
  (d9 q pl L acc st).1=acc++iO q L∧MS q.terms T (X++L.flatMap (fun k=>match q.steps[k.toNat]? with | some s=>gk q.terms s | none=>[])) (d9 q pl L acc st).2
 | [],acc,X,Y,st,_,_,hM=>by simpa [d9,iO] using hM
 | k::L,acc,X,Y,st,hr,hX,hM=>by
  obtain⟨s,hs⟩:∃s,q.steps[k.toNat]? =some s:=⟨_,List.getElem?_eq_getElem (by have:=hr k sq;omega)⟩
  rw [d9,hs]
  dsimp only
  rw [List.flatMap_cons,hs] at hX
  dsimp only at hX
  obtain⟨a1,a2,a3,a4⟩:=hh _ _ hs
  obtain⟨h1,h2⟩:=DU (Y:=L.flatMap (fun k=>match q.steps[k.toNat]? with | some s=>gk q.terms s | none=>[])++Y) hT a1 a2 a3 (by rw [hX];simp) hM a4 hOn
  obtain⟨h3,h4⟩:=uX hT hh hOn hTq L (acc++[g6 q.terms pl s st]) (X++gk q.terms s) Y (gB q.terms s st).2 (fun j hj=>hr j (by simp [hj])) (by rw [hX];simp) h2
  refine⟨?_,?_⟩
  ·rw [h3,h1];unfold iO;rw [List.filterMap_cons,hs];simp [hTq]
  ·rw [List.flatMap_cons,hs,← List.append_assoc];exact h4
theorem yr:∀{L:List Int} {u u2:List Bool},(∀k∈L,0≤k∧k<u.length)→eV L u=some u2→L.Nodup∧(∀k∈L,u[k.toNat]?.getD false=false)∧(∀k∈L,u2[k.toNat]?.getD false=true)∧∀i:Nat,u[i]?.getD false=true→u2[i]?.getD false=true
 | [],u,u2,_,h=>by
  cases h
  exact⟨List.nodup_nil,by simp,by simp,fun i h=>h⟩
 | k::r,u,u2,hr,h=>by
  rw [eV] at h
  split at h
  ·cases h
  ·rename_i hu
   have hu:u[k.toNat]?.getD false=false:=by simpa using hu
   have hk:=hr k sq
   obtain⟨h1,h2,h3,h4⟩:=yr (fun j hj=>by rw [List.length_set];exact hr j (by simp [hj])) h
   have hks:(u.set k.toNat true)[k.toNat]?.getD false=true:=by rw [List.getElem?_set,if_pos rfl,if_pos om];rfl
   have hmono:∀i:Nat,u[i]?.getD false=true→(u.set k.toNat true)[i]?.getD false=true:=fun i hi=>by
    rw [List.getElem?_set]
    split
    ·rw [if_pos om];rfl
    ·exact hi
   refine⟨?_,fun j hj=>?_,fun j hj=>?_,fun i hi=>h4 i (hmono i hi)⟩
   ·rw [List.nodup_cons]
    refine⟨fun hm=>?_,h1⟩
    have:=h2 k hm
    rw [hks] at this;cases this
   ·rcases List.mem_cons.1 hj with rfl | hj
    ·exact hu
    ·have:=h2 j hj
     cases e:u[j.toNat]?.getD false with
     | false=>rfl
     | true=>rw [hmono _ e] at this;cases this
   ·rcases List.mem_cons.1 hj with rfl | hj
    ·exact h4 _ hks
    ·exact h3 j hj
theorem rM {ts:List Term}:∀{L:List Int} {u u2:List Bool},u.length=ts.length→bV ts L u=some u2→(L.flatMap (bi ts)).Nodup∧(∀k∈L.flatMap (bi ts),u[k.toNat]?.getD false=false)∧(∀k∈L.flatMap (bi ts),u2[k.toNat]?.getD false=true)∧∀i:Nat,u[i]?.getD false=true→u2[i]?.getD false=true
 | [],u,u2,_,h=>by
  cases h
  exact⟨by simp,by simp,by simp,fun i h=>h⟩
 | t::r,u,u2,hu,h=>by
  rw [bV] at h
  split at h
  ·cases h
  ·split at h
   ·cases h
   ·rename_i u3 h3
    obtain⟨a1,a2,a3,a4⟩:=yr (fun k hk=>by have:=gL _ _ k hk;rw [hu];exact this) h3
    obtain⟨b1,b2,b3,b4⟩:=rM (L:=r) (by rw [nH h3];exact hu) h
    rw [List.flatMap_cons]
    refine⟨?_,fun k hk=>?_,fun k hk=>?_,fun i hi=>b4 i (a4 i hi)⟩
    ·rw [List.nodup_append]
     refine⟨a1,b1,fun x hx y hy e=>?_⟩
     subst e
     have:=b2 x hy
     rw [a3 x hx] at this;cases this
    ·rcases List.mem_append.1 hk with hk | hk
     ·exact a2 k hk
     ·have:=b2 k hk
      cases e:u[k.toNat]?.getD false with
      | false=>rfl
      | true=>rw [a4 _ e] at this;cases this
    ·rcases List.mem_append.1 hk with hk | hk
     ·exact b4 _ (a3 k hk)
     ·exact b3 k hk
theorem rH {q:SProc}{i:Int}:∀(l:List SStep) (k:Int) (c d:List Int) (u:List Bool),u.length=q.terms.length→(bN q i l k c d u).e=0→(l.flatMap (fun s=>(a8 s).flatMap (bi q.terms))).Nodup∧∀x∈l.flatMap (fun s=>(a8 s).flatMap (bi q.terms)),u[x.toNat]?.getD false=false
 | [],_,_,_,_,_,_=>by simp
 | s::r,k,c,d,u,hu,h=>by
  rw [bN] at h
  split at h
  ·cases h
  ·split at h
   ·cases h
   ·split at h
    ·cases h
    ·rename_i c2 d2 _
     split at h
     ·cases h
     ·split at h
      ·cases h
      ·rename_i u2 h2
       obtain⟨a1,a2,a3,a4⟩:=rM hu h2
       obtain⟨b1,b2⟩:=rH r (k+1) c2 d2 u2 (by rw [kg h2];exact hu) h
       rw [List.flatMap_cons]
       refine⟨?_,fun x hx=>?_⟩
       ·rw [List.nodup_append]
        refine⟨a1,b1,fun x hx y hy e=>?_⟩
        subst e
        have:=b2 x hy
        rw [a3 x hx] at this;cases this
       ·rcases List.mem_append.1 hx with hx | hx
        ·exact a2 x hx
        ·have:=b2 x hx
         cases e:u[x.toNat]?.getD false with
         | false=>rfl
         | true=>rw [a4 _ e] at this;cases this
theorem flat_nd {q:SProc}{g:SStep→List Int}(h:(q.steps.flatMap g).Nodup){L:List Int}(hL:L.Nodup)(hr:∀k∈L,0≤k∧k<q.steps.length):(L.flatMap (fun k=>match q.steps[k.toNat]? with | some s=>g s | none=>[])).Nodup:=by
 unfold List.Nodup at h ⊢
 rw [List.pairwise_flatMap] at h ⊢
 obtain⟨h1,h2⟩:=h
 refine⟨fun k hk=>?_,?_⟩
 ·have hx:=List.getElem?_eq_getElem (l:=q.steps) (i:=k.toNat) (by have:=hr k hk;omega)
  rw [hx]
  exact h1 _ (List.getElem_mem _)
 ·refine gM (R:=(· ≠ ·)) (fun a ha b hb hne x hx y hy e=>?_) hL
  have h3:=hr a ha
  have h4:=hr b hb
  have hxa:=List.getElem?_eq_getElem (l:=q.steps) (i:=a.toNat) om
  have hxb:=List.getElem?_eq_getElem (l:=q.steps) (i:=b.toNat) om
  rw [hxa] at hx
  rw [hxb] at hy
  rcases Int.lt_trichotomy a b with h5 | h5 | h5
  ·exact(List.pairwise_iff_getElem.1 h2) a.toNat b.toNat om om om x hx y hy e
  ·exact hne h5
  ·exact(List.pairwise_iff_getElem.1 h2) b.toNat a.toNat om om om y hy x hx e.symm
theorem rX:∀(L:List Int) (i:Int) (pl:List Int),L.Nodup→(∀k∈L,0≤k∧k<pl.length)→∀(j:Nat) (x:Int),L[j]? =some x→aL (eF L i pl) x=i+j
 | [],_,_,_,_,_,_,h=>by simp at h
 | y::r,i,pl,hn,hr,0,x,h=>by
  simp at h;subst h
  rw [List.nodup_cons] at hn
  have hy:=hr y sq
  rw [eF]
  have:∀(L:List Int) (i:Int) (pl:List Int),y∉L→(∀k∈L,0≤k)→aL (eF L i pl) y=aL pl y:=by
   intro L
   induction L with
   | nil=>intro i pl _ _;rfl
   | cons z t ih=>
    intro i pl hm hz
    rw [eF,ih _ _ (fun h=>hm (by simp [h])) (fun k hk=>hz k (by simp [hk])),kV (hz z sq) hy.1 (fun e=>hm (by simp [e]))]
  rw [this r (i+1) _ hn.1 (fun k hk=>(hr k (by simp [hk])).1),ep hy.1 hy.2 hy.1,if_pos rfl];omega
 | y::r,i,pl,hn,hr,j+1,x,h=>by
  rw [List.nodup_cons] at hn
  rw [eF,rX r (i+1) _ hn.2 (fun k hk=>by rw [List.length_set];exact hr k (by simp [hk])) j x (by simpa using h)];omega
theorem DS {l:List SProc}{i:Int}{q:SProc}(h:(bh l i q).e=0):TOk q.terms (termL q):=by
 have hF:=Em h
 have hS:=hF.s
 have hsh:(eZ i q).e=0:=by
  unfold bh at h
  split at h
  ·rename_i h2;exact absurd h h2
  ·exact h
 have hroots:∀(k:Nat) (s:SStep),q.steps[k]? =some s→lM s=a8 s:=fun k s hs=>iF (hS k s hs).1 (hF.ro k s hs)
 have h1:=(rH q.steps 0 _ _ _ sq hsh).1
 have h2:=flat_nd h1 (kQ hS hF.t _ _ om) (fun k hk=>ol hS hk)
 have e:termL q=(dx q).flatMap (fun k=>match q.steps[k.toNat]? with | some s=>(a8 s).flatMap (bi q.terms) | none=>[]):=by
  unfold termL
  congr 1
  funext k
  cases hk:q.steps[k.toNat]? with
  | none=>rfl
  | some s=>dsimp only;unfold gk;rw [hroots _ s hk]
 refine⟨by rw [e];exact h2,fun k hk=>?_⟩
 rw [e] at hk
 obtain⟨a,_,ha⟩:=List.mem_flatMap.1 hk
 split at ha
 ·obtain⟨t,_,ht⟩:=List.mem_flatMap.1 ha
  exact gL _ _ k ht
 ·cases ha
theorem Eh {l:List SProc}{i:Int}{q:SProc}(h:(bh l i q).e=0):mL q=iG q:=by
 have hR:=wA h
 have hF:=Em h
 have hS:=hF.s
 have hT:=hF.t
 have hsh:(eZ i q).e=0:=by
  unfold bh at h
  split at h
  ·rename_i h2;exact absurd h h2
  ·exact h
 have hts:iL q:=pu (ia _ _ _ _ _ hsh)
 have hOn:(dx q).Nodup:=kQ hS hT _ _ om
 have hOr:∀k∈dx q,0≤k∧k<q.steps.length:=fun k hk=>ol hS hk
 have hneg:co (dx q) (-1)= -1:=od (fun hm=>by have:=hOr _ hm;omega)
 have hroots:∀(k:Nat) (s:SStep),q.steps[k]? =some s→lM s=a8 s:=fun k s hs=>iF (hS k s hs).1 (hF.ro k s hs)
 have hTok:=DS h
 have hpl:∀x∈dx q,aL (bS q) x=co (dx q) x:=fun x hx=>by
  obtain⟨j,hj⟩:=List.getElem?_of_mem hx
  unfold bS
  rw [rX (dx q) 0 _ hOn (fun k hk=>by rw [List.length_replicate];exact hOr k hk) j x hj,vp hOn hj];omega
 have hin:∀x:Int,0≤x→x<q.steps.length→x∈dx q:=fun x h0 h1=>by
  have:=ord_all hS hT x.toNat om
  rwa [show((x.toNat:Nat):Int)=x by omega] at this
 obtain⟨h1,h2⟩:=uX (pl:=bS q) hTok (fun k s hs=>⟨(hS k s hs).1,hF.ro k s hs,hts k s hs,fun x hx=>hpl x (hin x (by have:=(hS k s hs).2 x hx;omega) (by have:=(hS k s hs).2 x hx;omega))⟩) hneg rfl (dx q) [] [] [] (List.replicate q.terms.length 0,[]) hOr (by rw [List.append_nil];rfl) ⟨by simp,rfl,by simp⟩
 unfold mL iG
 dsimp only
 have h3:=h2.o
 rw [List.nil_append] at h1 h3
 rw [h1,h3]
 rfl
theorem vM {l:List SProc}:∀(r:List SProc) (i:Int),(cJ (bh l) r i).e=0→∀q∈r,∃j,(bh l j q).e=0
 | [],_,_,q,hq=>by cases hq
 | x::r,i,h,q,hq=>by
  rw [cJ] at h
  split at h
  ·rename_i h1;exact absurd h h1
  ·rename_i h1
   rcases List.mem_cons.1 hq with rfl | hq
   ·exact⟨i,by simpa using h1⟩
   ·exact vM r (i+1) h q hq
theorem sR {pg:SProg}(h:(bZ pg).e=0):∀q∈pg.procs,mL q=iG q:=fun q hq=>by
 obtain⟨j,hj⟩:=vM _ _ (sS h).2.1 q hq
 exact Eh hj
def CsAll (H:Hp)(C:List SCast):Prop:=∀c∈C,RdSl H 1 I64.cells (.slice c.ap.1 c.args.length c.ap.2) c.args
end Go.Sx
namespace Go.Sx
open Go
theorem Ay {ds:Str}(h:∀c∈ds,48≤c∧c≤57):ds.all eW=true:=by
 refine List.all_eq_true.2 (fun c hc=>?_)
 obtain⟨h1,h2⟩:=h c hc
 have h1':(48:Nat)≤c.toNat:=by simpa [UInt8.le_iff_toNat_le] using h1
 have h2':c.toNat≤57:=by simpa [UInt8.le_iff_toNat_le] using h2
 unfold eW iT
 simp;right;omega
theorem kw_v (ds:Str):dT (118::ds)=false:=by simp [dT,kw1,kw2,kw3]
end Go.Sx
namespace Go.Sx
open Go
theorem prog_eq {a b:SProg}(h:a.bare=b.bare):a.protos.map SProto.bare=b.protos.map SProto.bare∧a.locals.map SLocal.bare=b.locals.map SLocal.bare∧a.procs.map SProc.bare=b.procs.map SProc.bare:=by
 unfold SProg.bare at h
 injection h with h1 _ h2 _ h3 _
 exact⟨h1,h2,h3⟩
end Go.Sx
namespace Go.Sx
open Go
structure RW (q:SProc):Prop where
 r:RefOk q
 m:iL q
 t:TOk q.terms (termL q)
 d:∀x:Int,0≤x→x<q.steps.length→kC q (tE q) x≤24
section
variable {q:SProc}(h:RW q)
include h
end
theorem gP {q:SProc}{x:Int}(h0:0≤x)(h1:x<q.steps.length):∃s,q.steps[x.toNat]? =some s:=⟨_,List.getElem?_eq_getElem om⟩
end Go.Sx
namespace Go.Sx
open Go
theorem vy {n at_:Int}:∀{L c d c2 d2:List Int},bU n at_ L c d=some (c2,d2)→n=d.length→0≤at_→d2.length=d.length∧aL d2 at_=aL d at_∧∀j:Int,0≤j→aL d2 j=if j∈L then aL d at_ else aL d j
 | [],c,d,c2,d2,h,_,_=>by
  simp only [bU,Option.some.injEq,Prod.mk.injEq] at h
  obtain⟨rfl,rfl⟩:=h
  exact⟨rfl,rfl,fun j _=>by simp⟩
 | t::r,c,d,c2,d2,h,hn,h0=>by
  rw [bU] at h
  split at h
  ·cases h
  ·rename_i ht
   obtain⟨e1,e2,e3⟩:=vy h (by rw [List.length_set];exact hn) h0
   have hs:∀j:Int,0≤j→aL (d.set t.toNat (aL d at_)) j=if j=t then aL d at_ else aL d j:=fun j hj=>ep om om hj
   have ha:aL (d.set t.toNat (aL d at_)) at_=aL d at_:=by rw [hs at_ h0,if_neg om]
   refine⟨by rw [e1,List.length_set],by rw [e2,ha],fun j hj=>?_⟩
   rw [e3 j hj,ha,hs j hj]
   by_cases h1:j=t
   ·subst h1;simp
   ·simp [h1]
theorem yt:∀{L:List Int} {u:List Bool},L.Nodup→(∀k∈L,0≤k∧k<u.length)→(∀k∈L,u[k.toNat]?.getD false=false)→∃u2,eV L u=some u2∧u2.length=u.length∧∀i:Nat,u2[i]?.getD false=true→u[i]?.getD false=true∨(i:Int)∈L
 | [],u,_,_,_=>⟨u,rfl,rfl,fun i h=>.inl h⟩
 | k::r,u,hn,hr,hf=>by
  rw [List.nodup_cons] at hn
  have hk:=hr k sq
  obtain⟨u2,e1,e2,e3⟩:=yt (u:=u.set k.toNat true) hn.2 (fun j hj=>by rw [List.length_set];exact hr j (by simp [hj])) (fun j hj=>by
   have hj2:=hr j (by simp [hj])
   rw [List.getElem?_set,if_neg (fun e=>hn.1 (by rw [show k=j by omega];exact hj))]
   exact hf j (by simp [hj]))
  refine⟨u2,by rw [eV,if_neg (by rw [hf k sq];decide),e1],by rw [e2,List.length_set],fun i hi=>?_⟩
  rcases e3 i hi with h | h
  ·rw [List.getElem?_set] at h
   by_cases e:k.toNat=i
   ·exact .inr (by simp;left;omega)
   ·rw [if_neg e] at h;exact .inl h
  ·exact .inr (by simp [h])
theorem rN {ts:List Term}:∀{L:List Int} {u:List Bool},u.length=ts.length→(∀t∈L,cF ts t=true)→(L.flatMap (bi ts)).Nodup→(∀k∈L.flatMap (bi ts),u[k.toNat]?.getD false=false)→∃u2,bV ts L u=some u2∧u2.length=u.length∧∀i:Nat,u2[i]?.getD false=true→u[i]?.getD false=true∨(i:Int)∈L.flatMap (bi ts)
 | [],u,_,_,_,_=>⟨u,rfl,rfl,fun i h=>.inl h⟩
 | t::r,u,hu,hm,hn,hf=>by
  rw [List.flatMap_cons] at hn hf
  have hn2:=List.nodup_append.1 hn
  obtain⟨u1,a1,a2,a3⟩:=yt (L:=bi ts t) (u:=u) hn2.1 (fun k hk=>by have:=gL _ _ k hk;rw [hu];exact this) (fun k hk=>hf k (by simp [hk]))
  obtain⟨u2,b1,b2,b3⟩:=rN (ts:=ts) (L:=r) (u:=u1) (by rw [a2,hu]) (fun x hx=>hm x (by simp [hx])) hn2.2.1 (fun k hk=>by
   cases e:u1[k.toNat]?.getD false with
   | false=>rfl
   | true=>
    rcases a3 _ e with h | h
    ·have:=hf k (List.mem_append_right _ hk)
     rw [h] at this;cases this
    ·have h0:0≤k:=by
      obtain⟨x,_,hx⟩:=List.mem_flatMap.1 hk
      exact(gL _ _ k hx).1
     rw [show((k.toNat:Nat):Int)=k by omega] at h
     exact absurd rfl (hn2.2.2 k h k hk))
  refine⟨u2,?_,by rw [b2,a2],fun i hi=>?_⟩
  ·rw [bV,if_neg (by rw [hm t sq];decide),a1];exact b1
  ·rw [List.flatMap_cons]
   rcases b3 i hi with h | h
   ·rcases a3 i h with h | h
    ·exact .inl h
    ·exact .inr (List.mem_append_left _ h)
   ·exact .inr (List.mem_append_right _ h)
structure DeepOk (q:SProc)(dp:Int→Int):Prop where
 r:∀x:Int,0≤x→x<q.steps.length→0≤dp x∧dp x≤24
 z:dp 0=fZ q.steps[(0:Int).toNat]?
 n:∀p x:Int,Par q p x→dp x=fZ q.steps[x.toNat]? +dp p
theorem kd_s (s:SStep):fZ (some s)=if s.kind=3∨s.kind=5 then 1 else 0:=rfl
theorem CL {s:SStep}{k:Int}{d:List Int}(h0:0≤k)(h1:k<d.length)(hb: -1000≤aL d k∧aL d k≤1000):(∀j:Int,0≤j→j≠k→aL (dn s k d) j=aL d j)∧aL (dn s k d) k=fZ (some s)+aL d k:=by
 unfold dn
 rw [kd_s]
 split
 ·unfold f9
  refine⟨fun j hj hne=>by rw [ep h0 h1 hj,if_neg hne],?_⟩
  rw [ep h0 h1 h0,if_pos rfl,nb om om];omega
 ·exact⟨fun j _ _=>rfl,by omega⟩
theorem D4 {q:SProc}{i:Int}{dp:Int→Int}(hS:bK q)(hn:q.steps.length≤80)(hT:gb q)(hD:DeepOk q dp)(hm:iL q):∀(l:List SStep) (k:Nat) (c d:List Int) (u:List Bool),l=q.steps.drop k→c.length=q.steps.length→d.length=q.steps.length→u.length=q.terms.length→
  (∀j:Int,0≤j→aL c j=(((q.steps.take k).flatMap aG).count j:Int))→(∀p x:Int,Par q p x→p<k→k≤x→aL d x=dp p)→(k=0→aL d 0=0)→
  (l.flatMap (fun s=>(a8 s).flatMap (bi q.terms))).Nodup→(∀x∈l.flatMap (fun s=>(a8 s).flatMap (bi q.terms)),u[x.toNat]?.getD false=false)→bN q i l k c d u=okF:=by
 intro l
 induction l with
 | nil=>intros;rfl
 | cons s r ih=>
  intro k c d u hl hc hd hu hcc hdd hz hnd hf
  have hx:q.steps[k]? =some s:=by
   have h1:(q.steps.drop k)[0]? =some s:=by rw [← hl];rfl
   rwa [List.getElem?_drop,Nat.add_zero] at h1
  have hr:r=q.steps.drop (k+1):=by
   have h1:(q.steps.drop k).drop 1=r:=by rw [← hl];rfl
   rw [← h1,List.drop_drop]
  have hkn:=(List.getElem?_eq_some_iff.1 hx).1
  obtain⟨hms,hns⟩:=hS k s hx
  have hck:(0:Int)<k→aL c k=1:=fun h0=>by
   have h1:=hT k om hkn
   have h2:=sO hS k
   have h3:=hcc k om
   unfold k9 at h1
   rw [← List.take_append_drop k q.steps,List.flatMap_append,List.count_append,h2] at h1
   omega
  have hdk:aL d k=dp k - fZ (some s)∧(-1000≤aL d k∧aL d k≤1000):=by
   have hkd:=vE (some s)
   by_cases h0:(0:Int)<k
   ·have h1:=hck h0
    have h3:=hcc k om
    have hin:(k:Int)∈(q.steps.take k).flatMap aG:=List.count_pos_iff.1 om
    obtain⟨sp,hsp,hin2⟩:=List.mem_flatMap.1 hin
    obtain⟨p,hp⟩:=List.getElem?_of_mem hsp
    have hpk:p<k:=by have:=(List.getElem?_eq_some_iff.1 hp).1;simp at this;omega
    rw [List.getElem?_take_of_lt hpk] at hp
    have hP:Par q p k:=⟨by omega,sp,by simpa using hp,hin2⟩
    have e:=hdd p k hP om om
    have e2:=hD.n p k hP
    have e3:=hD.r p om om
    rw [show((k:Int)).toNat=k by omega,hx] at e2
    omega
   ·have e:k=0:=by omega
    subst e
    have e2:=hD.z
    rw [show((0:Int)).toNat=0 from rfl,hx] at e2
    have:=hz rfl
    simp only [Int.natCast_zero,Int.ofNat_zero] at *
    omega
  obtain⟨g1,g2⟩:=CL (s:=s) (k:=k) (d:=d) om om hdk.2
  have hall:(aG s).all (fun t=>!(decide (t≤k)||decide ((q.steps.length:Int)≤t)))=true:=List.all_eq_true.2 (fun t ht=>by
   have:=hns t ht
   rw [decide_eq_false om,decide_eq_false om];rfl)
  rw [jH (c:=c) (d:=dn s k d)] at hall
  obtain⟨⟨c2,d2⟩,hng⟩:=Option.isSome_iff_exists.1 hall
  have hbd:=Av hS k om
  have hnl:=mW _ hms
  have hneg:∀(c:List Int) (j:Int),¬0≤j→aL c j=aL c 0:=fun c j hj=>by unfold aL;rw [show j.toNat=0 by omega];rfl
  have hcl:∀j:Int,((q.steps.take k).flatMap aG).count j≤7 * k:=fun j=>Nat.le_trans List.count_le_length hbd
  obtain⟨c1,c3⟩:=iQ hng (by rw [hc]) om (fun j=>by
   by_cases hj:0≤j
   ·rw [hcc j hj];have:=hcl j;omega
   ·rw [hneg _ _ hj,hcc 0 om];have:=hcl 0;omega)
  obtain⟨d1,d3,d4⟩:=vy hng (by rw [wS,hd]) om
  rw [List.flatMap_cons] at hnd hf
  have hnd2:=List.nodup_append.1 hnd
  obtain⟨u2,u1,u3,u4⟩:=rN hu (hm k s hx) hnd2.1 (fun x hx=>hf x (List.mem_append_left _ hx))
  have hgd:aL d2 k=dp k:=by rw [d3,g2,hdk.1];omega
  have hrg:=hD.r k om om
  rw [bN,if_neg (by rw [hms];decide),if_neg (fun e=>e.2 (hck e.1)),hng]
  dsimp only
  rw [if_neg om,u1]
  dsimp only
  rw [show((k:Int)+1)=((k+1:Nat):Int) by omega]
  refine ih (k+1) c2 d2 u2 hr (by rw [c1,hc]) (by rw [d1,wS,hd]) (by rw [u3,hu]) (fun j hj=>?_) (fun p x hP hpk hkx=>?_) (fun e=>by omega) hnd2.2.1 (fun x hx=>?_)
  ·rw [c3 j hj,hcc j hj,wR hx,List.count_append];omega
  ·have hlx:=ko hS hP
   have hp0:=hP.1
   rw [d4 x om]
   by_cases hpe:p=k
   ·subst hpe
    obtain⟨_,s',hs',hm'⟩:=hP
    rw [show((k:Int)).toNat=k by omega,hx] at hs'
    obtain rfl:=Option.some.inj hs'
    rw [if_pos hm',g2,hdk.1];omega
   ·have hnin:¬x∈aG s:=fun hm'=>hpe (r3 hS hT hP ⟨by omega,s,by simpa using hx,hm'⟩)
    rw [if_neg hnin,g1 x om om]
    exact hdd p x hP om om
  ·cases e:u2[x.toNat]?.getD false with
   | false=>rfl
   | true=>
    rcases u4 _ e with h | h
    ·have:=hf x (List.mem_append_right _ hx)
     rw [h] at this;cases this
    ·have h0:0≤x:=by
      obtain⟨_,_,hx⟩:=List.mem_flatMap.1 hx
      obtain⟨_,_,hx⟩:=List.mem_flatMap.1 hx
      exact(gL _ _ x hx).1
     rw [show((x.toNat:Nat):Int)=x by omega] at h
     exact absurd rfl (hnd2.2.2 x h x hx)
theorem u6 {q:SProc}{i:Int}{dp:Int→Int}(hS:bK q)(hn:q.steps.length≤80)(hT:gb q)(hD:DeepOk q dp)(hm:iL q)(hd:(q.steps.flatMap (fun s=>(a8 s).flatMap (bi q.terms))).Nodup):eZ i q=okF:=
 D4 hS hn hT hD hm q.steps 0 _ _ _ rfl sq sq sq (fun j _=>by rw [eL];simp) (fun p x hP h1 _=>by have:=hP.1;omega) (fun _=>eL) hd (fun x hx=>by rw [List.getElem?_replicate];split<;>rfl)
theorem zo {α β:Type}{f:α→List β}{l:List α}{x:α}(h:x∈l):(f x).Sublist (l.flatMap f):=by
 obtain⟨A,B,rfl⟩:=List.append_of_mem h
 rw [List.flatMap_append,List.flatMap_cons]
 exact(List.sublist_append_left _ _).trans (List.sublist_append_right _ _)
end Go.Sx
namespace Go.Sx
open Go
def dj (t n:Nat):List Int:=(List.range n).map (fun i=>((t+i:Nat):Int))
theorem yR (t:Nat):dj t 0=[]:=rfl
theorem jC (t:Nat):dj t 1=[(t:Int)]:=rfl
theorem dG (t a b:Nat):dj t (a+b)=dj t a++dj (t+a) b:=by
 unfold dj
 rw [List.range_add,List.map_append,List.map_map]
 congr 1
 exact List.map_congr_left (fun i _=>by show((t+(a+i):Nat):Int)=_;congr 1;omega)
theorem px (n k:Nat):dj n (k+1)=(n:Int)::dj (n+1) k:=by rw [show k+1=1+k by omega,dG,jC];rfl
theorem zZ {t n:Nat}{x:Int}:x∈dj t n↔(t:Int)≤x∧x<((t+n:Nat):Int):=by
 unfold dj
 rw [List.mem_map]
 constructor
 ·rintro⟨i,hi,rfl⟩
  have:=List.mem_range.1 hi
  omega
 ·intro h
  exact⟨(x - t).toNat,List.mem_range.2 om,by omega⟩
theorem vf (t n:Nat):(dj t n).Nodup:=by
 unfold dj List.Nodup
 rw [List.pairwise_map]
 exact List.Pairwise.imp (fun h e=>h om) List.nodup_range
def Lies (T:List Term)(t:Nat)(ts:List Term):Prop:=∀i:Nat,i<ts.length→T[t+i]? =ts[i]?
theorem Lies.left {T:List Term}{t:Nat}{a b:List Term}(h:Lies T t (a++b)):Lies T t a:=fun i hi=>by
 rw [h i (by simp;omega),List.getElem?_append_left hi]
theorem Lies.right {T:List Term}{t:Nat}{a b:List Term}(h:Lies T t (a++b)):Lies T (t+a.length) b:=fun i hi=>by
 have:=h (a.length+i) (by simp;omega)
 rw [List.getElem?_append_right om,Nat.add_sub_cancel_left] at this
 rw [← this];congr 1;omega
theorem Lies.self (T:List Term):Lies T 0 T:=fun i _=>by rw [Nat.zero_add]
structure TS (t:Nat)(ts:List Term)(r:Int)(e:Int)(V:List Str):Prop where
 p:∀T,Lies T t ts→∀(f:Nat) (dp:Int),r.toNat<f→dp+e≤25→∃p,cf T f r.toNat dp=some p
 o:∀T,Lies T t ts→∀f:Nat,r.toNat<f→dL T f r=dj t ts.length
 v:∀T,Lies T t ts→∀f:Nat,r.toNat<f→∀x∈fh T f r,x∈V
 r0:(t:Int)≤r
 r1:r<((t+ts.length:Nat):Int)
 f:∀x∈ts,bF x=true
theorem TS.leaf {t:Nat}{x:Term}{V:List Str}(ho:ak x.kind=0)(hf:bF x=true)(hl:x.l= -1)(hr:x.r= -1)(hv:x.kind=0→x.name∈V):TS t [x] t 1 V:=by
 have get:∀T,Lies T t [x]→T[t]? =some x:=fun T h=>by have:=h 0 sq;simpa using this
 refine⟨fun T h f dp hf1 hd=>?_,fun T h f hf1=>?_,fun T h f hf1 y hy=>?_,by omega,by simp only [List.length_cons,List.length_nil];omega,fun y hy=>by rw [List.mem_singleton.1 hy];exact hf⟩
 ·obtain⟨g,rfl⟩:∃g,f=g+1:=⟨f - 1,by omega⟩
  refine⟨_,kP (by simpa using get T h) ?_ (by rw [if_pos om]) (by rw [if_pos om])⟩
  unfold okT
  rw [ho,hf,hl,hr]
  simp;omega
 ·obtain⟨g,rfl⟩:∃g,f=g+1:=⟨f - 1,by omega⟩
  rw [gp om (by simpa using get T h),hl,hr,fB dq];rfl
 ·obtain⟨g,rfl⟩:∃g,f=g+1:=⟨f - 1,by omega⟩
  rw [i6 om (by simpa using get T h),hl,hr,kI dq] at hy
  by_cases hk:x.kind=0
  ·rw [if_pos hk] at hy;simp at hy;subst hy;exact hv hk
  ·rw [if_neg hk] at hy;simp at hy
theorem TS.both {t:Nat}{a b:List Term}{ra rb e:Int}{V:List Str}{k:Int}(ha:TS t a ra e V)(hb:TS (t+a.length) b rb e V)(hk:ak k=2)(hf:bF ⟨k,[],0,[],ra,rb⟩=true)(he:0≤e)(hk0:k≠0):TS t (a++b++[⟨k,[],0,[],ra,rb⟩]) ((t+a.length+b.length:Nat):Int) (e+1) V:=by
 have get:∀T,Lies T t (a++b++[⟨k,[],0,[],ra,rb⟩])→T[t+a.length+b.length]? =some ⟨k,[],0,[],ra,rb⟩:=fun T h=>by
  have:=h.right 0 sq
  rw [List.length_append] at this
  simpa [Nat.add_assoc] using this
 have ha0:=ha.r0;have ha1:=ha.r1;have hb0:=hb.r0;have hb1:=hb.r1
 refine⟨fun T h f dp hf1 hd=>?_,fun T h f hf1=>?_,fun T h f hf1 y hy=>?_,by omega,by simp;omega,fun y hy=>?_⟩
 ·obtain⟨g,rfl⟩:∃g,f=g+1:=⟨f - 1,by omega⟩
  obtain⟨p,hp⟩:=ha.p T h.left.left g (dp+1) om om
  obtain⟨q,hq⟩:=hb.p T h.left.right g (dp+1) om om
  refine⟨_,kP (t:=⟨k,[],0,[],ra,rb⟩) (by rw [Int.toNat_natCast];exact get T h) ?_ (by rw [if_neg (by dsimp only;omega)];exact hp) (by rw [if_neg (by dsimp only;omega)];exact hq)⟩
  unfold okT
  rw [hf]
  dsimp only
  rw [hk,if_neg dq,if_neg dq]
  simp only [Bool.and_eq_true,decide_eq_true_eq,Bool.and_true]
  exact⟨by decide,by omega,o2q,by omega,by omega⟩
 ·obtain⟨g,rfl⟩:∃g,f=g+1:=⟨f - 1,by omega⟩
  rw [gp om (by rw [Int.toNat_natCast];exact get T h)]
  dsimp only
  rw [ha.o T h.left.left g om,hb.o T h.left.right g om]
  rw [List.length_append,List.length_append,List.length_singleton,dG,dG,jC,Nat.add_assoc,List.append_assoc]
 ·obtain⟨g,rfl⟩:∃g,f=g+1:=⟨f - 1,by omega⟩
  rw [i6 om (by rw [Int.toNat_natCast];exact get T h)] at hy
  dsimp only at hy
  rw [if_neg hk0,List.append_nil] at hy
  rcases List.mem_append.1 hy with hy | hy
  ·exact ha.v T h.left.left g om y hy
  ·exact hb.v T h.left.right g om y hy
 ·rcases List.mem_append.1 hy with hy | hy
  ·rcases List.mem_append.1 hy with hy | hy
   ·exact ha.f y hy
   ·exact hb.f y hy
  ·rw [List.mem_singleton.1 hy];exact hf
theorem TS.up {t:Nat}{ts:List Term}{r e:Int}{V W:List Str}(h:TS t ts r e V)(hs:∀x∈V,x∈W):TS t ts r e W:=⟨h.p,h.o,fun T hl f hf x hx=>hs x (h.v T hl f hf x hx),h.r0,h.r1,h.f⟩
inductive TSs (V:List Str):Nat→List Term→List Int→Prop
 | nil {t:Nat}:TSs V t [] []
 | cons {t:Nat} {a b:List Term} {r e:Int} {rs:List Int} (h:TS t a r e V) (he:e≤24) (hr:TSs V (t+a.length) b rs):TSs V t (a++b) (r::rs)
theorem TSs.one {V:List Str}{t:Nat}{a:List Term}{r e:Int}(h:TS t a r e V)(he:e≤24):TSs V t a [r]:=by
 have:=TSs.cons h he (TSs.nil (V:=V))
 rwa [List.append_nil] at this
theorem TSs.fl {V:List Str}{t:Nat}{ts:List Term}{rs:List Int}(h:TSs V t ts rs):∀x∈ts,bF x=true:=by
 induction h with
 | nil=>intro x hx;cases hx
 | cons h he hr ih=>
  intro x hx
  rcases List.mem_append.1 hx with hx | hx
  ·exact h.f x hx
  ·exact ih x hx
structure TsR (V:List Str)(T:List Term)(t n:Nat)(rs:List Int):Prop where
 p:∀r∈rs,∃p,cf T (r.toNat+1) r.toNat 1=some p
 o:rs.flatMap (bi T)=dj t n
 v:∀r∈rs,∀x∈fh T (r.toNat+1) r,x∈V
 r:∀r∈rs,(t:Int)≤r∧r<((t+n:Nat):Int)
theorem TSs.all {V:List Str}:∀{t:Nat} {ts:List Term} {rs:List Int},TSs V t ts rs→∀T,Lies T t ts→TsR V T t ts.length rs:=by
 intro t ts rs h
 induction h with
 | nil=>intro T _;exact⟨by simp,rfl,by simp,by simp⟩
 | cons h he hr ih=>
  rename_i t a b r e rs
  intro T hT
  have hi:=ih T hT.right
  have h0:=h.r0;have h1:=h.r1
  refine⟨fun x hx=>?_,?_,fun x hx=>?_,fun x hx=>?_⟩
  ·rcases List.mem_cons.1 hx with rfl | hx
   ·exact h.p T hT.left _ 1 om om
   ·exact hi.p x hx
  ·rw [List.flatMap_cons,hi.o]
   unfold bi
   rw [h.o T hT.left _ om,List.length_append,dG]
  ·rcases List.mem_cons.1 hx with rfl | hx
   ·exact h.v T hT.left _ om
   ·exact hi.v x hx
  ·rw [List.length_append]
   rcases List.mem_cons.1 hx with rfl | hx
   ·omega
   ·have:=hi.r x hx;omega
def CallOk (ps:List SProto)(s:Str):Prop:=∃p∈ps,∃r∈p.roles,s=p.name++r
structure SOk (ps:List SProto)(Γ:List Str)(t:Nat)(s:SStep)(ts:List Term):Prop where
 may:dg s=true
 tm:TSs Γ t ts (a8 s)
 ask:s.kind=4∨s.kind=5∨s.kind=9→s.name∈Γ
 bnd:∀m∈bz s,m≠[]→m∉Γ
 pr:s.proc≠[]→CallOk ps s.proc∧s.args.length=2
 cs:∀c∈s.casts,CallOk ps c.proc∧c.args.length=1
 op:s.kind=8→∃p∈ps,s.label=p.name∧(cz s).length=p.roles.length∧(cz s).Nodup∧∀r∈cz s,r∈p.roles
def wU (s:SStep):List Str:=if s.kind=1∨s.kind=8 then [s.name] else []
def wnm (w:SWay):List Str:=if w.name=[] then [] else [w.name]
inductive SG (ps:List SProto):Option (List SWay)→Nat→List Str→Nat→Nat→List SStep→List Term→Prop
 | fin {d:Nat} {Γ:List Str} {n t:Nat} {s:SStep} {ts:List Term} (h:SOk ps Γ t s ts) (hn:aG s=[]) (hd:s.kind≠3∧s.kind≠5):SG ps none d Γ n t [s] ts
 | go {d:Nat} {Γ:List Str} {n t:Nat} {s:SStep} {ts us:List Term} {xs:List SStep} (h:SOk ps Γ t s ts) (hg:cd s.kind=true) (hn:s.next=((n+1:Nat):Int)) (hr:SG ps none d (Γ++wU s) (n+1) (t+ts.length) xs us):SG ps none d Γ n t (s::xs) (ts++us)
 | fork {d:Nat} {Γ:List Str} {n t:Nat} {s:SStep} {ts us:List Term} {xs:List SStep} (h:SOk ps Γ t s ts) (hk:s.kind=3∨s.kind=5) (hr:SG ps (some s.ways) d Γ (n+1) (t+ts.length) xs us):SG ps none (d+1) Γ n t (s::xs) (ts++us)
 | nil {d:Nat} {Γ:List Str} {n t:Nat}:SG ps (some []) d Γ n t [] []
 | cons {d:Nat} {Γ:List Str} {n t:Nat} {w:SWay} {ws:List SWay} {xs xs':List SStep} {us us':List Term} (hn:w.next=(n:Int)) (h1:SG ps none d (Γ++wnm w) n t xs us) (h2:SG ps (some ws) d Γ (n+xs.length) (t+us.length) xs' us'):SG ps (some (w::ws)) d Γ n t (xs++xs') (us++us')
theorem SG.snoc {ps:List SProto}{d:Nat}{Γ:List Str}{w:SWay}{ys:List SStep}{vs:List Term}:∀{ws:List SWay} {n t:Nat} {xs:List SStep} {us:List Term},SG ps (some ws) d Γ n t xs us→w.next=((n+xs.length:Nat):Int)→SG ps none d (Γ++wnm w) (n+xs.length) (t+us.length) ys vs→SG ps (some (ws++[w])) d Γ n t (xs++ys) (us++vs)
 | [],n,t,xs,us,h,hn,h1=>by
  cases h
  have:=SG.cons (ws:=[]) (by simpa using hn) (by simpa using h1) SG.nil
  simpa using this
 | w0::ws,n,t,xs,us,h,hn,h1=>by
  cases h with
  | cons e g1 g2=>
   rename_i xa xb ua ub
   have:=SG.snoc g2 (w:=w) (ys:=ys) (vs:=vs) (by rw [hn];simp;omega) (by rw [List.length_append,List.length_append] at h1;simpa [Nat.add_assoc] using h1)
   have:=SG.cons (ws:=ws++[w]) e g1 this
   simpa [List.append_assoc] using this
theorem SG.fl {ps:List SProto}{o:Option (List SWay)}{d:Nat}{Γ:List Str}{n t:Nat}{xs:List SStep}{ts:List Term}(h:SG ps o d Γ n t xs ts):∀x∈ts,bF x=true:=by
 induction h with
 | fin h hn hd=>exact h.tm.fl
 | go h hg hn hr ih=>
  intro x hx
  rcases List.mem_append.1 hx with hx | hx
  ·exact h.tm.fl x hx
  ·exact ih x hx
 | fork h hk hr ih=>
  intro x hx
  rcases List.mem_append.1 hx with hx | hx
  ·exact h.tm.fl x hx
  ·exact ih x hx
 | nil=>intro x hx;cases hx
 | cons hn h1 h2 ih1 ih2=>
  intro x hx
  rcases List.mem_append.1 hx with hx | hx
  ·exact ih1 x hx
  ·exact ih2 x hx
theorem Ax {x:Term}(h:bF x=true):x.name.length≤12:=by
 unfold bF at h
 split at h
 ·have h1:au x.name=true:=by simp at h;exact h.1
  unfold au at h1
  split at h1
  ·cases h1
  ·split at h1
   ·cases h1
   ·omega
 ·split at h
  ·simp at h;rw [h.1];simp
  ·split at h
   ·simp at h;rw [h.1];simp
   ·split at h
    ·simp at h;rw [h.1];simp
    ·simp at h;rw [h.1];simp
theorem SG.up {ps:List SProto}:∀{o:Option (List SWay)} {d d':Nat} {Γ:List Str} {n t:Nat} {xs:List SStep} {ts:List Term},SG ps o d Γ n t xs ts→d≤d'→SG ps o d' Γ n t xs ts:=by
 intro o d d' Γ n t xs ts h
 induction h generalizing d' with
 | fin h hn hd=>intro _;exact .fin h hn hd
 | go h hg hn hr ih=>intro hd;exact .go h hg hn (ih hd)
 | fork h hk hr ih=>
  intro hd
  obtain⟨e,rfl⟩:∃e,d'=e+1:=⟨d' - 1,by omega⟩
  exact .fork h hk (ih om)
 | nil=>intro _;exact .nil
 | cons hn h1 h2 ih1 ih2=>intro hd;exact .cons hn (ih1 hd) (ih2 hd)
end Go.Sx
