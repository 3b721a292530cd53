import Derived.Test.YtjnlogbbcceaoaaGreatJ6
set_option linter.all false
set_option maxRecDepth 100000
set_option maxHeartbeats 32000000
namespace Go.Sx
open Go
theorem oG:∀{l:List (List Int)} {x:List Int} {k:Nat},iG l x=some k→k<l.length
 | [],x,k,h=>by simp [iG] at h
 | y::r,x,k,h=>by
  unfold iG at h
  split at h
  ·simp at h;subst h;simp
  ·rw [Option.map_eq_some_iff] at h
   obtain⟨j,hj,rfl⟩:=h
   have:=oG hj
   simp;omega
theorem yi {p:SProto}{role:Str}{sets:List (List Int)}{frm:List Int}(h40:sets.length≤40)(h:(bS p role sets frm).2.1=0):
  0≤(bS p role sets frm).1∧(bS p role sets frm).1<(bS p role sets frm).2.2.length∧(bS p role sets frm).2.2.length≤40:=by
 unfold bS at h ⊢
 split at h
 ·simp at h
 ·rename_i hc
  rw [if_neg hc]
  split at h
  ·rename_i i hi
   have:=oG hi
   dsimp only
   omega
  ·rename_i hi
   split at h
   ·simp at h
   ·rename_i hn
    rw [if_neg hn]
    simp only [List.length_append,List.length_cons,List.length_nil]
    omega
def ArmIn (n B:Nat)(a:SArm):Prop:=(0≤a.next∧a.next<(n:Int))∧a.label.length≤B
theorem ArmIn.up {n m B:Nat}{a:SArm}(h:ArmIn n B a)(hm:n≤m):ArmIn m B a:=⟨⟨h.1.1,by have:=h.1.2;omega⟩,h.2⟩
theorem tP {p:SProto}{role:Str}{set:List Int}{B:Nat}:∀(l:List Str) (sets:List (List Int)) (acc:List SArm),sets.length≤40→(∀a∈acc,ArmIn sets.length B a)→(∀lb∈l,lb.length≤B)→(dh p role set l sets acc).2.1=0→
  (dh p role set l sets acc).1.length=acc.length+l.length∧(dh p role set l sets acc).2.2.length≤40∧∀a∈(dh p role set l sets acc).1,ArmIn (dh p role set l sets acc).2.2.length B a
 | [],sets,acc,h40,ha,_,_=>⟨rfl,h40,ha⟩
 | lb::r,sets,acc,h40,ha,hl,h0=>by
  unfold dh at h0 ⊢
  have hat:= @yi p role sets (el p set lb).2.2.1 h40
  have hge:= @rv p role sets (el p set lb).2.2.1
  generalize bS p role sets (el p set lb).2.2.1=q at h0 hat hge ⊢
  obtain⟨ix,e,s'⟩:=q
  dsimp only at h0 hat hge ⊢
  by_cases hb:e≠0
  ·rw [if_pos hb] at h0
   exact absurd h0 hb
  ·rw [if_neg hb] at h0 ⊢
   obtain⟨h1,h2,h3⟩:=hat (Decidable.of_not_not hb)
   have hacc:∀a∈acc++[(⟨lb,(el p set lb).1,(el p set lb).2.1,ix⟩:SArm)],ArmIn s'.length B a:=fN (fun a hm=>(ha a hm).up hge) ⟨⟨h1,h2⟩,hl lb sq⟩
   obtain⟨h4,h5,h6⟩:=tP r s' _ h3 hacc (fun x hx=>hl x (by simp [hx])) h0
   refine⟨?_,h5,h6⟩
   rw [h4];simp only [List.length_append,List.length_cons,List.length_nil];omega
theorem xO:∀{l:List Str} {s x:Str},x∈cw l s→x=s∨x∈l
 | [],s,x,h=>by simp [cw] at h;exact .inl h
 | y::r,s,x,h=>by
  unfold cw at h
  split at h
  ·rcases List.mem_cons.1 h with rfl | h
   ·exact .inr sq
   ·rcases xO h with h | h
    ·exact .inl h
    ·exact .inr (by simp [h])
  ·split at h
   ·exact .inr h
   ·rcases List.mem_cons.1 h with rfl | h
    ·exact .inl rfl
    ·exact .inr h
theorem oT:∀{o i:List Str} {x:Str},x∈o.foldl cw i→x∈o∨x∈i
 | [],i,x,h=>.inr h
 | y::r,i,x,h=>by
  rcases oT (o:=r) (i:=cw i y) h with h | h
  ·exact .inl (by simp [h])
  ·rcases xO h with h | h
   ·exact .inl (by simp [h])
   ·exact .inr h
theorem ym:∀{l:List SArm} {o:List Str} {x:Str},x∈kn o l→x∈o∨∃a∈l,x=a.label
 | [],o,x,h=>.inl h
 | a::r,o,x,h=>by
  have h:x∈kn (o.foldl cw [a.label]) r:=h
  rcases ym h with h | ⟨b,hb,e⟩
  ·rcases oT h with h | h
   ·exact .inl h
   ·exact .inr ⟨a,by simp,by simpa using h⟩
  ·exact .inr ⟨b,by simp [hb],e⟩
theorem yk {p:SProto}:∀{l:List Int} {o:List Str} {x:Str},x∈mP p o l→x∈o∨∃q∈p.points,∃a∈q.arms,x=a.label
 | [],o,x,h=>.inl h
 | j::r,o,x,h=>by
  have h:x∈mP p (match p.points[j.toNat]? with | some x=>kn o x.arms | none=>o) r:=h
  rcases yk h with h | h
  ·split at h
   ·rename_i q hq
    rcases ym h with h | ⟨a,ha,e⟩
    ·exact .inl h
    ·exact .inr ⟨q,List.mem_of_getElem? hq,a,ha,e⟩
   ·exact .inl h
  ·exact .inr h
theorem putS_ne (l:List Str)(s:Str):cw l s≠[]:=by
 cases l with
 | nil=>simp [cw]
 | cons x r=>
  unfold cw
  split
  ·simp
  ·split<;>simp
theorem rE:∀{o i:List Str},i≠[]→o.foldl cw i≠[]
 | [],_,h=>h
 | y::r,i,_=>rE (o:=r) (i:=cw i y) (putS_ne _ _)
theorem vy:∀{l:List SArm} {o:List Str},o≠[]∨l≠[]→kn o l≠[]
 | [],o,h=>by
  rcases h with h | h
  ·exact h
  ·exact absurd rfl h
 | a::r,o,_=>vy (l:=r) (o:=o.foldl cw [a.label]) (.inl (rE sq))
theorem AU {p:SProto}:∀{l:List Int} {o:List Str},(o≠[]∨∃j∈l,∃q,p.points[j.toNat]? =some q∧q.arms≠[])→mP p o l≠[]
 | [],o,h=>by
  rcases h with h | ⟨j,hj,_⟩
  ·exact h
  ·simp at hj
 | j::r,o,h=>by
  refine AU (l:=r) (o:=match p.points[j.toNat]? with | some x=>kn o x.arms | none=>o) ?_
  rcases h with h | ⟨k,hk,q,hq,ha⟩
  ·refine .inl ?_
   split
   ·exact vy (.inl h)
   ·exact h
  ·rcases List.mem_cons.1 hk with rfl | hk
   ·refine .inl ?_
    rw [hq]
    exact vy (.inr ha)
   ·exact .inr ⟨k,hk,q,hq,ha⟩
theorem oH {p:SProto}{role:Str}{B:Nat}(hB:∀x∈p.points,x.frm.length≤B∧x.to.length≤B):∀(l:List Int) (i:Nat) (kind:Int) (peer:Str),peer.length≤B→(fG p role i kind peer l).2.1.length≤B
 | [],_,_,_,h=>h
 | j::r,i,kind,peer,h=>by
  unfold fG
  split
  ·exact h
  ·rename_i x hx
   have hb:=hB x (List.mem_of_getElem? hx)
   have hp:(if x.to=role then x.frm else x.to).length≤B:=by
    split
    ·exact hb.1
    ·exact hb.2
   generalize (if x.to=role then x.frm else x.to)=pe at hp ⊢
   generalize (if x.to=role then(2:Int) else 1)=ke
   by_cases hc:0<i∧¬(ke=kind∧pe=peer)
   ·rw [if_pos hc];simp
   ·rw [if_neg hc];exact oH hB r _ _ _ hp
theorem vt {s:Str}(h:aH s=true):s.length≤12∧s≠[]:=by
 unfold aH at h
 split at h
 ·cases h
 ·split at h
  ·cases h
  ·rename_i h1 h2
   refine⟨by omega,fun e=>?_⟩
   subst e;simp at h1
theorem RPOk.lens {p:SProto}(h:RPOk p){x:SPoint}(hx:x∈p.points):(x.frm.length≤1000∧x.to.length≤1000)∧(∀a∈x.arms,a.label.length≤1000)∧(x.frm≠[]∨x.to≠[]→x.arms≠[]):=by
 have hp:=h.pt x hx
 unfold cX eV eT cj dZ at hp
 simp only [Bool.or_eq_true,Bool.and_eq_true,decide_eq_true_eq] at hp
 rcases hp with ⟨h1,h2,h3⟩ | ⟨⟨h1,h2,_⟩,⟨h3,_⟩,h5,_⟩
 ·refine⟨by rw [h1,h2];simp,fun a ha=>?_,fun hh=>?_⟩
  ·rw [List.length_eq_zero_iff.1 (show x.arms.length=0 by omega)] at ha;simp at ha
  ·rcases hh with hh | hh
   ·exact absurd h1 hh
   ·exact absurd h2 hh
 ·have e1:=(vt (h.rn _ h1)).1
  have e2:=(vt (h.rn _ h2)).1
  refine⟨by omega,fun a ha=>?_,fun _ e=>?_⟩
  ·have:=List.all_eq_true.1 h5 a ha
   unfold fm at this
   simp only [Bool.and_eq_true] at this
   have:=(vt this.1).1
   omega
  ·rw [e] at h3;simp at h3
def TTok (n:Nat)(t:TT):Prop:=t.2.1.length≤1000∧t.2.2.length≤6∧(t.1≠0→t.1≠2→1≤t.2.2.length)∧∀a∈t.2.2,ArmIn n 1000 a
theorem TTok.up {n m:Nat}{t:TT}(h:TTok n t)(hm:n≤m):TTok m t:=⟨h.1,h.2.1,h.2.2.1,fun a ha=>(h.2.2.2 a ha).up hm⟩
theorem tt0 {n:Nat}:TTok n (0,[],[]):=⟨by simp,by simp,by simp,by simp⟩
theorem Bk {p:SProto}{role:Str}(hP:RPOk p)(hr:role≠[]){sets:List (List Int)}{set:List Int}(h40:sets.length≤40)(hin:∀j∈set,inP p role j=true)(h0:(bH p role sets set).2.1=0):
  (bH p role sets set).2.2.length≤40∧TTok (bH p role sets set).2.2.length (bH p role sets set).1:=by
 unfold bH at h0 ⊢
 by_cases c1:set.length=0
 ·rw [if_pos c1];exact⟨h40,tt0⟩
 rw [if_neg c1] at h0 ⊢
 by_cases c2:(du p role set).2.2≠0
 ·rw [if_pos c2];exact⟨h40,tt0⟩
 rw [if_neg c2] at h0 ⊢
 by_cases c3:(du p role set).1=1∧nV p set=false
 ·rw [if_pos c3];exact⟨h40,tt0⟩
 rw [if_neg c3] at h0 ⊢
 by_cases c4:6<(eG p set).length
 ·rw [if_pos c4];exact⟨h40,tt0⟩
 rw [if_neg c4] at h0 ⊢
 by_cases c5:(eG p set).all (nP p set)=false
 ·rw [if_pos c5];exact⟨h40,tt0⟩
 rw [if_neg c5] at h0 ⊢
 by_cases c6:(dh p role set (eG p set) sets []).2.1≠0
 ·rw [if_pos c6] at h0;exact absurd h0 c6
 rw [if_neg c6]
 obtain⟨h1,h2,h3⟩:=tP (B:=1000) (eG p set) sets [] h40 sq (fun lb hlb=>by
  rcases yk hlb with h | ⟨q,hq,a,ha,rfl⟩
  ·simp at h
  ·exact(hP.lens hq).2.1 a ha) (Decidable.of_not_not c6)
 refine⟨h2,?_,?_,fun _ _=>?_,h3⟩
 ·exact oH (fun x hx=>(hP.lens hx).1) set 0 0 [] sq
 ·dsimp only;rw [h1];simp only [List.length_nil];omega
 ·dsimp only;rw [h1]
  have:eG p set≠[]:=by
   refine AU (.inr ?_)
   obtain⟨j,r,e⟩:∃j r,set=j::r:=by
    cases set with
    | nil=>exact absurd rfl c1
    | cons j r=>exact⟨j,r,rfl⟩
   have hj:=hin j (by rw [e];simp)
   unfold inP at hj
   split at hj
   ·rename_i x hx
    refine⟨j,by rw [e];simp,x,hx,(hP.lens (List.mem_of_getElem? hx)).2.2 ?_⟩
    unfold ff at hj
    simp only [Bool.or_eq_true,decide_eq_true_eq] at hj
    rcases hj with h | h
    ·exact .inl (by rw [h];exact hr)
    ·exact .inr (by rw [h];exact hr)
   ·cases hj
  have:=List.length_pos_iff.2 this
  simp only [List.length_nil];omega
def InP (p:SProto)(role:Str)(sets:List (List Int)):Prop:=∀s∈sets,∀j∈s,inP p role j=true
theorem ru {p:SProto}{role:Str}{sets:List (List Int)}{frm:List Int}(h:InP p role sets):InP p role (bS p role sets frm).2.2:=by
 unfold bS
 split
 ·exact h
 ·split
  ·exact h
  ·split
   ·exact h
   ·exact fN h (fun j hj=>(List.mem_filter.1 hj).2)
theorem qz {p:SProto}{role:Str}{set:List Int}:∀(l:List Str) (sets:List (List Int)) (acc:List SArm),InP p role sets→InP p role (dh p role set l sets acc).2.2
 | [],_,_,h=>h
 | lb::r,sets,acc,h=>by
  unfold dh
  split
  ·exact ru h
  ·exact qz r _ _ (ru h)
theorem Dt {p:SProto}{role:Str}{set:List Int}{sets:List (List Int)}(h:InP p role sets):InP p role (bH p role sets set).2.2:=by
 unfold bH
 split; · exact h
 split; · exact h
 split; · exact h
 split; · exact h
 split; · exact h
 split; · exact qz _ _ _ h
 exact qz _ _ _ h
theorem xL {p:SProto}{role:Str}(hP:RPOk p)(hr:role≠[]):∀(f i:Nat) (sets:List (List Int)) (acc:List TT),sets.length≤40→i≤sets.length→41≤i+f→acc.length=i→(∀t∈acc,TTok sets.length t)→InP p role sets→(kX p role f i sets acc).1=0→
  sets.length≤(kX p role f i sets acc).2.length∧∀t∈(kX p role f i sets acc).2,TTok (kX p role f i sets acc).2.length t
 | 0,i,sets,acc,h40,hi,hf,_,_,_,_=>by omega
 | f+1,i,sets,acc,h40,hi,hf,hac,hT,hI,h0=>by
  cases hs:sets[i]? with
  | none=>
   have hle:=List.getElem?_eq_none_iff.1 hs
   rw [xJ hle]
   have:acc.length=sets.length:=by omega
   dsimp only
   rw [this]
   exact⟨Nat.le_refl _,hT⟩
  | some s=>
   have hlt:=(List.getElem?_eq_some_iff.1 hs).1
   by_cases hb:(bH p role sets s).2.1≠0
   ·rw [xK hs hb] at h0;exact absurd h0 hb
   ·rw [t7 hs hb] at h0 ⊢
    obtain⟨h1,h2⟩:=Bk hP hr h40 (hI s (List.mem_of_getElem? hs)) (Decidable.of_not_not hb)
    have hge:= @xo p role s sets
    have hin:= @Dt p role s sets hI
    generalize (bH p role sets s).2.2=s' at *
    generalize (bH p role sets s).1=t' at *
    obtain⟨h3,h4⟩:=xL hP hr f (i+1) s' (acc++[t']) h1 omq omq (by simp [hac]) (fN (fun t ht=>(hT t ht).up hge) h2) hin h0
    exact⟨by omega,h4⟩
theorem BB {p:SProto}{role:Str}(h0:(dL p role).1=0):0<(dL p role).2.length∧∀t∈(dL p role).2,TTok (dL p role).2.length t:=by
 unfold dL at h0 ⊢
 by_cases c1:(dB p&&cj p.roles role)=false
 ·rw [if_pos c1] at h0;cases h0
 rw [if_neg c1] at h0 ⊢
 by_cases c2:(bS p role [] [0]).2.1≠0
 ·rw [if_pos c2] at h0;exact absurd h0 c2
 rw [if_neg c2] at h0 ⊢
 have c1:dB p=true∧cj p.roles role=true:=by simpa using c1
 have hP:=RPOk.of c1.1
 have hr:=(vt (hP.rn role (of_decide_eq_true c1.2))).2
 obtain⟨h1,h2,h3⟩:= @yi p role [] [0] sq (Decidable.of_not_not c2)
 obtain⟨h4,h5⟩:=xL hP hr 41 0 _ [] h3 omq omq rfl sq (ru (by intro s hs;simp at hs)) h0
 exact⟨by omega,h5⟩
theorem ug {p:SProto}:∀(l:List Str) (i:Nat),(j5 p i l).1=0→∀r∈l,(dL p r).1=0
 | [],_,_,r,hr=>by simp at hr
 | x::l,i,h,r,hr=>by
  unfold j5 at h
  split at h
  ·rename_i hb;exact absurd h hb
  ·rename_i hb
   rcases List.mem_cons.1 hr with rfl | hr
   ·exact Decidable.of_not_not hb
   ·exact ug l _ h r hr
theorem E3 {p:SProto}(h:(kY p).1=0):∀r∈p.roles,(dL p r).1=0:=by
 unfold kY at h
 split at h
 ·cases h
 ·exact ug _ _ h
theorem LsOk.tg {H:Hp}{p:SProto}{ls:List SLocal}(h:LsOk H p p.roles.length ls)(hz:(kY p).1=0){k:Int}(h0:0≤k){T:SLocal}(hk:ls[k.toNat]? =some T):∀F:Fx,F.tys=ls→F.role=k→TG F T:=by
 intro F hF hR
 obtain⟨r,hr,hnm,hok,htt⟩:=h.at_ _ _ hk
 obtain⟨h1,h2⟩:=BB (E3 hz r (List.mem_of_getElem? hr))
 rw [← htt,List.length_map] at h1
 rw [← htt,List.length_map] at h2
 refine⟨by rw [hR];exact h0,by rw [hR,hF];have:=(List.getElem?_eq_some_iff.1 hk).1;omega,by rw [hR,hF];exact hk,h1,fun t ht=>?_⟩
 obtain⟨a1,a2,a3,a4⟩:=h2 (tt t) (List.mem_map.2 ⟨t,ht,rfl⟩)
 exact⟨a1,a2,a3,fun a ha=>(a4 a ha).2,fun a ha=>(a4 a ha).1⟩
def Sig.un (S S':Sig):Sig:=⟨fun b=>match S.f b with | .some x=>.some x | .none=>S'.f b,max S.N S'.N⟩
theorem Sig.le_un {S S':Sig}:S.le (S.un S'):=⟨fun b x h=>by show(match S.f b with | .some x=>.some x | .none=>S'.f b)=some x;rw [h],Nat.le_max_left _ _⟩
theorem Bag.un_le {H:Hp}{S S':Sig}{B B':ak}(h:Bag H S B)(h':Bag H S' B')(hd:((B++B').map (·.1)).Nodup):S'.le (S.un S'):=by
 refine⟨fun b x hx=>?_,Nat.le_max_right _ _⟩
 show(match S.f b with | .some x=>.some x | .none=>S'.f b)=some x
 cases e:S.f b with
 | none=>exact hx
 | some y=>
  obtain⟨c1,m1⟩:=h.mem b y.1 y.2 e
  obtain⟨c2,m2⟩:=h'.mem b x.1 x.2 hx
  rw [List.map_append,List.nodup_append] at hd
  exact absurd rfl (hd.2.2 b (List.mem_map.2 ⟨_,m1,rfl⟩) b (List.mem_map.2 ⟨_,m2,rfl⟩))
theorem Bag.un {H:Hp}{S S':Sig}{B B':ak}(h:Bag H S B)(h':Bag H S' B')(hd:((B++B').map (·.1)).Nodup):Bag H (S.un S') (B++B'):=by
 have hle:=h.un_le h' hd
 refine⟨fun q hq=>?_,fun b t m hs=>?_⟩
 ·rcases List.mem_append.1 hq with hq | hq
  ·obtain⟨t,m,h1,h2,h3⟩:=h.ty q hq
   refine⟨t,m,Sig.le_un.1 _ _ h1,h2,fun o u hu=>?_⟩
   obtain⟨ct,h4,h5⟩:=h3 o u hu
   exact⟨ct,h4,h5.le (.refl H) Sig.le_un⟩
  ·obtain⟨t,m,h1,h2,h3⟩:=h'.ty q hq
   refine⟨t,m,hle.1 _ _ h1,h2,fun o u hu=>?_⟩
   obtain⟨ct,h4,h5⟩:=h3 o u hu
   exact⟨ct,h4,h5.le (.refl H) hle⟩
 ·have hs:(match S.f b with | .some x=>.some x | .none=>S'.f b)=some (t,m):=hs
  cases e:S.f b with
  | none=>
   rw [e] at hs
   obtain⟨cs,hc⟩:=h'.mem b t m hs
   exact⟨cs,List.mem_append_right _ hc⟩
  | some y=>
   rw [e] at hs
   cases hs
   obtain⟨cs,hc⟩:=h.mem b t m e
   exact⟨cs,List.mem_append_left _ hc⟩
structure PSt where
 k:Int
 h:Hp
 a:Int
 S:Sig
 v:Value
 qs:List GProc
 ob:ak
 B:ak
structure PInv (H:Hp)(dl:Value)(m:Int)(q:PSt):Prop where
 le:H.le q.h
 d:DiceOk q.h dl q.a
 o:OwnSl 4 GProc.cells q.v q.qs q.ob
 b:Bag q.h q.S q.B
 g:∀x∈q.qs,GPOk q.h q.S x
 N:q.S.N≤10000000
 n:(q.qs.length:Int)≤m
theorem PInv.add {H h':Hp}{dl:Value}{m m' k a':Int}{q:PSt}{S':Sig}{v':Value}{x:GProc}{ob' B':ak}(h:PInv H dl m q)(hl:q.h.le h')(hd:DiceOk h' dl a')(hO:OwnSl 4 GProc.cells v' (q.qs++[x]) ob')(hB:Bag h' S' B')(hx:GPOk h' S' x)(hnd:((q.B++B').map (·.1)).Nodup)(hN:S'.N≤10000000)(hm:m+1≤m'):
  PInv H dl m' ⟨k,h',a',q.S.un S',v',q.qs++[x],ob',q.B++B'⟩:=
 ⟨h.le.trans hl,hd,hO,(h.b.leH hl).un hB hnd,fN (fun y hy=>(h.g y hy).le hl Sig.le_un) (hx.le (.refl _) ((h.b.leH hl).un_le hB hnd)),Nat.max_le.2 ⟨h.N,hN⟩,by
  have:=h.n
  simp only [List.length_append,List.length_cons,List.length_nil];omega⟩
structure LsG (H:Hp)(p:SProto)(lv:Value)(ls:List SLocal):Prop where
 r:RdSl H 2 SLocal.cells lv ls
 n:ls.length≤p.roles.length
 l:∀l∈ls,LocalOk H l∧l.name.length≤1000
 g:∀(k:Int) (T:SLocal),0≤k→ls[k.toNat]? =some T→∀F:Fx,F.tys=ls→F.role=k→TG F T
theorem LsG.of {H:Hp}{p:SProto}{lv:Value}(hG:GPr p)(h1:(kY p).1=0→∃ls,RdSl H 2 SLocal.cells lv ls∧LsOk H p p.roles.length ls)(h2:(kY p).1≠0→lv= .slice none 0 0):∃ls,LsG H p lv ls:=by
 by_cases h:(kY p).1=0
 ·obtain⟨ls,hr,hk⟩:=h1 h
  refine⟨ls,hr,by have:=hk.len;omega,fun l hl=>?_,fun k T k0 hT=>hk.tg h k0 hT⟩
  obtain⟨i,hi⟩:=List.getElem?_of_mem hl
  obtain⟨r,hr,hn,hok,_⟩:=hk.at_ i l hi
  refine⟨hok,?_⟩
  have e1:=hG.rs r (List.mem_of_getElem? hr)
  have e2:=hG.n1
  rw [hn];simp only [List.length_append,List.length_cons,List.length_nil];omega
 ·rw [h2 h]
  exact⟨[],.nil,by simp,by simp,fun k T _ hT=>by simp at hT⟩
theorem LsG.le {H H':Hp}{p:SProto}{lv:Value}{ls:List SLocal}(h:LsG H p lv ls)(hl:H.le H'):LsG H' p lv ls:=⟨h.r.le hl,h.n,fun l hm=>⟨(h.l l hm).1.le hl,(h.l l hm).2⟩,h.g⟩
theorem yJ {P:Program}{n:Nat}{ops:Array Oper}{Q:Exit→Act→World→Prop}{E:Env}{M:List Nat}{w0:World}{H0 H:Hp}{L:ak}{l:List Oper}(h:(L.map (·.1)).Nodup→TL P n ops Q l E (St M w0 H0 H L)):TL P n ops Q l E (St M w0 H0 H L):=
 fun a w he hw=>h hw.nd a w he hw
theorem Ey {x y z:Nat×List Value}{A B:ak}(h:((x::y::z::(A++B)).map (·.1)).Nodup):(B.map (·.1)).Nodup:=
 h.sublist ((((((List.sublist_append_right A B).cons z).cons y).cons x)).map _)
end Go.Sx
namespace Go.Sx
open Go
structure GenC (N:Nat)(c:SCast):Prop where
 r:AnyNm c.role
 p:PNm c.proc
 a:c.args.length≤N
structure GenW (w:SWay):Prop where
 l:AnyNm w.label
 n:VarNm w.name
structure GenS (N:Nat)(s:SStep):Prop where
 name:VarNm s.name
 peer:AnyNm s.peer
 label:AnyNm s.label
 proc:PNm s.proc
 an:s.args.length≤N
 cn:s.casts.length≤N
 wn:s.ways.length≤N
 c:∀c∈s.casts,GenC N c
 w:∀w∈s.ways,GenW w
structure GenQ (N:Nat)(q:SProc):Prop where
 nm:PNm q.name
 pv:∀x∈q.params,VarNm x.name∧x.cn.length≤1000
 pl:q.params.length≤2
 s0:0<q.steps.length
 tl:q.terms.length≤10000000
 sl:q.steps.length≤10000000
 t:∀t∈q.terms,VarNm t.name∧AnyNm t.text
 s:∀s∈q.steps,GenS N s
theorem AllT.one {H:Hp}{S:Sig}{c:CT}{cs:List CT}{vs:List Value}(h:AllT H S (c::cs) vs):∃v r,vs=v::r∧CTy H S c v∧AllT H S cs r:=by
 cases vs with
 | nil=>exact h.elim
 | cons v r=>exact⟨v,r,rfl,h.1,h.2⟩
theorem AllT.none {H:Hp}{S:Sig}{vs:List Value}(h:AllT H S [] vs):vs=[]:=by
 cases vs with
 | nil=>rfl
 | cons v r=>exact h.elim
theorem yu {H:Hp}{S:Sig}{cs:List Value}(h:AllT H S (eW 4) cs):∃x:Int,cs=I64.cells x∧True:=by
 obtain⟨v,r,rfl,h1,h2⟩:=h.one
 rw [h2.none]
 obtain⟨i,rfl⟩:=h1
 exact⟨i,rfl,trivial⟩
theorem Cn {H:Hp}{S:Sig}{cs:List Value}(h:AllT H S (eW 0) cs):∃t:Term,cs=t.cells∧VarNm t.name∧AnyNm t.text:=by
 obtain⟨v1,_,rfl,⟨k,rfl⟩,g1⟩:=h.one
 obtain⟨v2,_,rfl,⟨n,rfl,hn⟩,g2⟩:=g1.one
 obtain⟨v3,_,rfl,⟨i,rfl⟩,g3⟩:=g2.one
 obtain⟨v4,_,rfl,⟨x,rfl,hx⟩,g4⟩:=g3.one
 obtain⟨v5,_,rfl,⟨l,rfl⟩,g5⟩:=g4.one
 obtain⟨v6,_,rfl,⟨r,rfl⟩,g6⟩:=g5.one
 rw [g6.none]
 exact⟨⟨k,n,i,x,l,r⟩,rfl,hn,hx⟩
theorem EE {H:Hp}{S:Sig}{cs:List Value}(h:AllT H S (eW 1) cs):∃w:SWay,cs=w.cells∧GenW w:=by
 obtain⟨v1,_,rfl,⟨k,rfl,hk⟩,g1⟩:=h.one
 obtain⟨v2,_,rfl,⟨n,rfl,hn⟩,g2⟩:=g1.one
 obtain⟨v3,_,rfl,⟨i,rfl⟩,g3⟩:=g2.one
 rw [g3.none]
 exact⟨⟨k,n,i⟩,rfl,hk,hn⟩
theorem Cr {H:Hp}{S:Sig}(hB:BagH H S){cs:List Value}(h:AllT H S (eW 2) cs):∃c:SCast,cs=c.cells∧GenC S.N c∧RdSl H 1 I64.cells (.slice c.ap.1 c.args.length c.ap.2) c.args:=by
 obtain⟨v1,_,rfl,⟨k,rfl,hk⟩,g1⟩:=h.one
 obtain⟨v2,_,rfl,⟨n,rfl,hn⟩,g2⟩:=g1.one
 obtain⟨v3,_,rfl,⟨a,m,c,rfl,hs,hm⟩,g3⟩:=g2.one
 rw [g3.none]
 obtain⟨xs,hl,hr,_⟩:=hs.list (enc:=I64.cells) (p:=fun _=>True) rfl hB (fun cs h=>yu h)
 subst hl
 exact⟨⟨k,n,xs,(a,c)⟩,rfl,⟨hk,hn,hm⟩,hr⟩
theorem Co {H:Hp}{S:Sig}(hB:BagH H S){cs:List Value}(h:AllT H S (eW 3) cs):∃s:SStep,cs=s.cells∧GenS S.N s∧StepOk H s:=by
 obtain⟨v1,_,rfl,⟨k,rfl⟩,g1⟩:=h.one
 obtain⟨v2,_,rfl,⟨nm,rfl,hnm⟩,g2⟩:=g1.one
 obtain⟨v3,_,rfl,⟨pe,rfl,hpe⟩,g3⟩:=g2.one
 obtain⟨v4,_,rfl,⟨la,rfl,hla⟩,g4⟩:=g3.one
 obtain⟨v5,_,rfl,⟨pr,rfl,hpr⟩,g5⟩:=g4.one
 obtain⟨v6,_,rfl,⟨tm,rfl⟩,g6⟩:=g5.one
 obtain⟨v7,_,rfl,⟨aa,an,ac,rfl,has,han⟩,g7⟩:=g6.one
 obtain⟨v8,_,rfl,⟨ca,cn,cc,rfl,hcs,hcn⟩,g8⟩:=g7.one
 obtain⟨v9,_,rfl,⟨wa,wn,wc,rfl,hws,hwn⟩,g9⟩:=g8.one
 obtain⟨v10,_,rfl,⟨nx,rfl⟩,g10⟩:=g9.one
 rw [g10.none]
 obtain⟨A,hl1,hr1,_⟩:=has.list (enc:=I64.cells) (p:=fun _=>True) rfl hB (fun cs h=>yu h)
 obtain⟨C,hl2,hr2,hC⟩:=hcs.list (enc:=SCast.cells) (p:=fun c=>GenC S.N c∧RdSl H 1 I64.cells (.slice c.ap.1 c.args.length c.ap.2) c.args) rfl hB (fun cs h=>Cr hB h)
 obtain⟨W,hl3,hr3,hW⟩:=hws.list (enc:=SWay.cells) (p:=GenW) rfl hB (fun cs h=>EE h)
 subst hl1 hl2 hl3
 exact⟨⟨k,nm,pe,la,pr,tm,A,(aa,ac),C,(ca,cc),W,(wa,wc),nx⟩,rfl,⟨hnm,hpe,hla,hpr,han,hcn,hwn,fun c hc=>(hC c hc).1,hW⟩,⟨hr1,hr2,fun c hc=>(hC c hc).2,hr3⟩⟩
theorem AnyNm.cn {s:Str}(h:s.length≤1000):s.length≤4294960000:=by omega
theorem Cp {H:Hp}{S:Sig}(hB:BagH H S){q:GProc}(h:GPOk H S q):∃p:SProc,q.cells=p.cells∧p.name=q.name∧p.params=q.params∧GenQ S.N p∧ProcOk H p:=by
 obtain⟨T,hl1,hr1,hT⟩:=h.t.list (enc:=Term.cells) (p:=fun t=>VarNm t.name∧AnyNm t.text) rfl hB (fun cs h=>Cn h)
 obtain⟨L,hl2,hr2,hL⟩:=h.s.list (enc:=SStep.cells) (p:=fun s=>GenS S.N s∧StepOk H s) rfl hB (fun cs h=>Co hB h)
 obtain⟨nm,params,pp,ta,tn,tc,sa,sn,sc⟩:=q
 have h1:=h.nm;have h2:=h.pa;have h3:=h.pv;have h4:=h.pl;have h5:=h.s0;have h6:=h.tl;have h7:=h.sl
 dsimp only at *
 subst hl1 hl2
 refine⟨⟨nm,params,pp,T,(ta,tc),L,(sa,sc)⟩,rfl,rfl,rfl,⟨h1,h3,h4,h5,h6,h7,hT,fun s hs=>(hL s hs).1⟩,⟨h2,fun x hx=>AnyNm.cn (h3 x hx).2,by show params.length≤_;omega,hr1,fun t ht=>?_,hr2,fun s hs=>(hL s hs).2⟩⟩
 have:=(hT t ht).1.len
 omega
theorem rD {H:Hp}{S:Sig}(hB:BagH H S):∀(qs:List GProc),(∀x∈qs,GPOk H S x)→∃ps:List SProc,qs.map GProc.cells=ps.map SProc.cells∧ps.map (·.name)=qs.map (·.name)∧∀p∈ps,GenQ S.N p∧ProcOk H p
 | [],_=>⟨[],rfl,rfl,by simp⟩
 | q::r,h=>by
  obtain⟨p,h1,h2,_,h3,h4⟩:=Cp hB (h q sq)
  obtain⟨ps,h5,h6,h7⟩:=rD hB r (fun x hx=>h x (by simp [hx]))
  refine⟨p::ps,by simp [h1,h5],by simp [h2,h6],fun x hx=>?_⟩
  rcases List.mem_cons.1 hx with rfl | hx
  ·exact⟨h3,h4⟩
  ·exact h7 x hx
theorem recell2 {α β:Type}{H:Hp}{k:Nat}{enc:α→List Value}{enc':β→List Value}{v:Value}{l:List α}{l':List β}(h:RdSl H k enc v l)(e:l.map enc=l'.map enc'):RdSl H k enc' v l':=by
 have hl:l'.length=l.length:=by have:=congrArg List.length e;simpa using this.symm
 refine⟨by rw [hl];exact h.len,by rw [hl];exact h.max,fun hne=>?_,fun i x hx j u hu=>?_,fun a n c hv=>by rw [hl];exact h.room a n c hv⟩
 ·rw [hl];exact h.addr (fun e0=>hne (List.length_eq_zero_iff.1 (by rw [hl,e0];rfl)))
 ·have h1:(l.map enc)[i]? =some (enc' x):=by rw [e,List.getElem?_map,hx];rfl
  rw [List.getElem?_map] at h1
  cases hy:l[i]? with
  | none=>rw [hy] at h1;simp at h1
  | some y=>
   rw [hy] at h1
   simp only [Option.map_some,Option.some.injEq] at h1
   exact h.get i y hy j u (by rw [h1];exact hu)
structure GenP (P:SProg):Prop where
 l:P.locals=[]
 n1:1≤P.procs.length
 n11:P.procs.length≤11
 q:∀q∈P.procs,GenQ 10000000 q
theorem GenS.up {N M:Nat}{s:SStep}(h:GenS N s)(hm:N≤M):GenS M s:=
 ⟨h.name,h.peer,h.label,h.proc,Nat.le_trans h.an hm,Nat.le_trans h.cn hm,Nat.le_trans h.wn hm,fun c hc=>⟨(h.c c hc).r,(h.c c hc).p,Nat.le_trans (h.c c hc).a hm⟩,h.w⟩
theorem GenQ.up {N M:Nat}{q:SProc}(h:GenQ N q)(hm:N≤M):GenQ M q:=⟨h.nm,h.pv,h.pl,h.s0,h.tl,h.sl,h.t,fun s hs=>(h.s s hs).up hm⟩
theorem yt {H:Hp}{S:Sig}{qs:List GProc}{pv psv:Value}{ps:List SProto}(hB:BagH H S)(hq:RdSl H 4 GProc.cells pv qs)(hg:∀x∈qs,GPOk H S x)(hps:RdSl H 3 SProto.cells psv ps)(hpo:∀p∈ps,ProtoOk H p)(hN:S.N≤10000000)(h1:1≤qs.length)(h11:qs.length≤11):
  ∃P:SProg,.agg #[psv,.slice none 0 0,pv]=Value.agg P.cells.toArray∧ProgOk H P∧GenP P∧P.protos=ps∧P.procs.map (·.name)=qs.map (·.name):=by
 obtain⟨procs,h2,h3,h4⟩:=rD hB qs hg
 have hr:=recell2 (enc':=SProc.cells) hq h2
 have hl:procs.length=qs.length:=by have:=congrArg List.length h2;simpa using this.symm
 obtain⟨pa,pc,rfl⟩:=hr.len
 obtain⟨sa,sc,rfl⟩:=hps.len
 exact⟨⟨ps,(sa,sc),[],(none,0),procs,(pa,pc)⟩,rfl,⟨hps,hpo,RdSl.nil,by simp,hr,fun q hq=>(h4 q hq).2⟩,⟨rfl,by dsimp only;omega,by dsimp only;omega,fun q hq=>(h4 q hq).1.up hN⟩,rfl,h3⟩
section
variable {P:Program}{n:Nat}{ops:Array Oper}{Q:Exit→Act→World→Prop}{E:Env}{M:List Nat}{w0:World}{H0 H:Hp}{L:ak}{C:World→Prop}
theorem TX.pubB {S:Sig}{B:ak}{F:ak→ak}{q:Act→World→Prop}(hB:Bag H S B)(hU:Tl B L F)(hM:∀p∈B,p.1∉M)(h:∀H',H.le H'→BagH H' S→TX n q E (St M w0 H0 H' (F []))):TX n q E (St M w0 H0 H L):=by
 intro a w he hw
 obtain⟨H',h1,h2,h3⟩:=St.pubB hB hU hM hw
 exact h H' h1 h2 a w he h3
end
theorem SlT.tail {S:Sig}{t:Nat}{a:Option Addr}{n c k:Nat}(h:SlT S t a n c)(hn:0<n)(hk:kT t=k):∃a',Go.sliced a 1 n c k= .slice a' (n - 1) (c - 1)∧SlT S t a' (n - 1) (c - 1):=by
 rcases h with ⟨_,h,_⟩ | ⟨b,j,m,rfl,hS,h1,h2,h3⟩
 ·omega
 ·subst hk
  unfold Go.sliced
  by_cases hc:c=1
  ·rw [if_pos hc]
   exact⟨_,rfl,.inr ⟨b,j,m,rfl,hS,by omega,by omega,by omega⟩⟩
  ·rw [if_neg hc]
   refine⟨some ⟨b,(j+1) * kT t,none⟩,?_,.inr ⟨b,j+1,m,rfl,hS,by omega,by omega,by omega⟩⟩
   simp only [Option.map_some,Addr.add_lit]
   congr 3
   simp [Nat.add_mul]
theorem zF {i:Nat}{r:Str}(h:rolesL[i]? =some r):AnyNm r:=by
 have:=my (n:=5) (by rw [List.take_of_length_le dq];exact List.mem_of_getElem? h)
 simp [AnyNm];omega
theorem yH {i:Nat}{r:Str}(h:labelsL[i]? =some r):AnyNm r:=by
 have:=Ch h;simp [AnyNm];omega
end Go.Sx
namespace Go.Sx
open Go
def BI (l:List Str)(s:Str):List Str:=l.foldl cw [s]
theorem ya {o i:List Str}{x:Str}:x∈o.foldl cw i↔x∈o∨x∈i:=by
 induction o generalizing i with
 | nil=>simp
 | cons y r ih=>
  rw [List.foldl_cons,ih,vr,List.mem_cons]
  constructor
  ·rintro(h | h | h)
   ·exact .inl (.inr h)
   ·exact .inl (.inl h)
   ·exact .inr h
  ·rintro((h | h) | h)
   ·exact .inr (.inl h)
   ·exact .inl h
   ·exact .inr (.inr h)
theorem Em {l:List Str}{s x:Str}:x∈BI l s↔x=s∨x∈l:=by
 unfold BI;rw [ya];simp [or_comm]
theorem nG {o i:List Str}{x:Str}:x∈o.foldl BI i↔x∈o∨x∈i:=by
 induction o generalizing i with
 | nil=>simp
 | cons y r ih=>
  rw [List.foldl_cons,ih,Em,List.mem_cons]
  constructor
  ·rintro(h | h | h)
   ·exact .inl (.inr h)
   ·exact .inl (.inl h)
   ·exact .inr h
  ·rintro((h | h) | h)
   ·exact .inr (.inl h)
   ·exact .inl h
   ·exact .inr (.inr h)
def wbF (i:Int)(w:SWay):Bool:=decide (w.next=i)&& !decide (w.name=[])
def fp (s:SStep)(i:Int):List Str:=(if s.kind=1∨s.kind=8 then [s.name] else [])++(if s.kind=5 then(s.ways.filter (wbF i)).map (·.name) else [])
def ET (q:SProc)(up:List Int):Nat→Int→List Str→List Str
 | 0,_,acc=>acc
 | f+1,i,acc=>if i≤0 then acc else match q.steps[(aG up i).toNat]? with
  | none=>acc
  | some s=>ET q up f (aG up i) ((fp s i).foldl BI acc)
def lT (q:SProc)(up:List Int)(at_:Int):List Str:=ET q up at_.toNat at_ ((q.params.map (·.name)).foldl BI [])
def chW (q:SProc)(up:List Int):Nat→Int→List Str
 | 0,_=>[]
 | f+1,i=>if i≤0 then [] else match q.steps[(aG up i).toNat]? with
  | none=>[]
  | some s=>fp s i++chW q up f (aG up i)
theorem yc {q:SProc}{up:List Int}{x:Str}:∀(f:Nat) (i:Int) (acc:List Str),x∈ET q up f i acc↔x∈acc∨x∈chW q up f i
 | 0,i,acc=>by simp [ET,chW]
 | f+1,i,acc=>by
  rw [ET,chW]
  split
  ·simp
  ·split
   ·simp
   ·rename_i s hs
    rw [yc f,nG,List.mem_append]
    constructor
    ·rintro((h | h) | h)
     ·exact .inr (.inl h)
     ·exact .inl h
     ·exact .inr (.inr h)
    ·rintro(h | h | h)
     ·exact .inl (.inr h)
     ·exact .inl (.inl h)
     ·exact .inr h
theorem yC {q:SProc}{up:List Int}(hlt:∀j:Int,0≤j→j<q.steps.length→aG up j<j):∀(f g:Nat) (i:Int),i<q.steps.length→i≤f→i≤g→chW q up f i=chW q up g i
 | 0,0,_,_,_,_=>rfl
 | 0,g+1,i,_,h,_=>by rw [chW,chW,if_pos omq]
 | f+1,0,i,_,_,h=>by rw [chW,chW,if_pos omq]
 | f+1,g+1,i,hn,h1,h2=>by
  rw [chW,chW]
  split
  ·rfl
  ·rename_i h0
   have:=hlt i omq hn
   split
   ·rfl
   ·rw [yC hlt f g (aG up i) omq omq omq]
theorem kj {q:SProc}{up:List Int}{at_:Int}{x:Str}:x∈lT q up at_↔x∈q.params.map (·.name)∨x∈chW q up at_.toNat at_:=by
 unfold lT;rw [yc,nG];simp
theorem nC {q:SProc}{n i:Int}(hi:0≤i){s:SStep}(hs:q.steps[i.toNat]? =some s):∀{L:List Int} {p:List Int×List Int},n≤p.1.length→(∀t∈L,t∈aL s)→(∀j:Int,0≤j→j<n→0≤aG p.1 j→Par q (aG p.1 j) j)→∀j:Int,0≤j→j<n→0≤aG (fS n i L p).1 j→Par q (aG (fS n i L p).1 j) j
 | [],p,_,_,h=>h
 | t::r,p,hn,hL,h=>by
  rw [fS]
  split
  ·exact nC hi hs hn (fun u hu=>hL u (by simp [hu])) h
  ·rename_i ht
   refine nC hi hs (by simpa using hn) (fun u hu=>hL u (by simp [hu])) (fun j hj hjn h0=>?_)
   dsimp only at h0 ⊢
   by_cases e:j=t
   ·subst e
    rw [ek omq omq hj,if_pos rfl] at h0 ⊢
    split at h0
    ·omega
    ·rename_i h2;rw [if_neg h2];exact⟨hi,s,hs,hL j sq⟩
   ·rw [kM omq hj e] at h0 ⊢
    exact h j hj hjn h0
theorem zg {q:SProc}(hS:bI q){n:Int}:∀(l:List SStep) (k:Nat) (p:List Int×List Int),l=q.steps.drop k→n≤p.1.length→(∀j:Int,0≤j→j<n→0≤aG p.1 j→Par q (aG p.1 j) j)→∀j:Int,0≤j→j<n→0≤aG (gZ n l k p).1 j→Par q (aG (gZ n l k p).1 j) j:=by
 intro l
 induction l with
 | nil=>intro k p _ _ h;exact h
 | cons s r ih=>
  intro k p hl hn h
  have hx:q.steps[k]? =some s:=by
   have h1:(q.steps.drop k)[0]? =some s:=by rw [← hl];rfl
   rwa [List.getElem?_drop,Nat.add_zero] at h1
  have hr:r=q.steps.drop (k+1):=by
   have h1:(q.steps.drop k).drop 1=r:=by rw [← hl];rfl
   rw [← h1,List.drop_drop]
  rw [gZ]
  exact ih (k+1) _ hr (by rw [gK.1];exact hn) (nC omq (by simpa using hx) hn (fun t ht=>by rw [← uf (hS k s hx).1];exact ht) h)
theorem par_par {q:SProc}(hS:bI q){j:Int}(h0:0≤j)(hn:j<q.steps.length)(hp:0≤aG (fJ q) j):Par q (aG (fJ q) j) j:=by
 unfold fJ at hp ⊢
 refine zg hS (n:=q.steps.length) q.steps 0 (mF q.steps.length) rfl (by simp [mF]) (fun j hj hjn h=>?_) j h0 hn hp
 exfalso
 unfold mF aG at h
 dsimp only at h
 rw [List.getElem?_set] at h
 split at h
 ·rw [if_pos (by simp;omega)] at h;simp at h
 ·rw [List.getElem?_replicate,if_pos omq] at h;simp at h
theorem qS {q:SProc}{i:Int}{up:List Int}:∀(l:List SStep) (k:Nat) (u:List Bool),l=q.steps.drop k→(ue q i up l k u).e=0→∀(j:Nat) (s:SStep),k≤j→q.steps[j]? =some s→ud q up j s=true∧dA s=true:=by
 intro l
 induction l with
 | nil=>
  intro k u hl _ j s hj hs
  have h1:=(List.getElem?_eq_some_iff.1 hs).1
  have h2:(q.steps.drop k).length=0:=by rw [← hl];rfl
  rw [List.length_drop] at h2;omega
 | cons x r ih=>
  intro k u hl h j s hj hs
  have hx:q.steps[k]? =some x:=by
   have h1:(q.steps.drop k)[0]? =some x:=by rw [← hl];rfl
   rwa [List.getElem?_drop,Nat.add_zero] at h1
  have hr:r=q.steps.drop (k+1):=by
   have h1:(q.steps.drop k).drop 1=r:=by rw [← hl];rfl
   rw [← h1,List.drop_drop]
  rw [ue] at h
  split at h
  ·cases h
  ·split at h
   ·cases h
   ·rename_i ht
    split at h
    ·cases h
    ·rename_i hro
     split at h
     ·cases h
     ·rename_i u2 _
      rcases Nat.lt_or_ge k j with hlt | hge
      ·exact ih (k+1) u2 hr h j s hlt hs
      ·have:j=k:=by omega
       subst this
       rw [hx] at hs;cases hs
       exact⟨by simpa using ht,by simpa using hro⟩
structure RefOk (q:SProc):Prop where
 s:bI q
 t:f4 q
 n1:1≤q.steps.length
 n80:q.steps.length≤80
 t160:q.terms.length≤160
 p6:q.params.length≤6
 up:∀j:Int,0<j→j<q.steps.length→0≤aG (fJ q) j∧Par q (aG (fJ q) j) j
 ro:∀(k:Nat) (s:SStep),q.steps[k]? =some s→dA s=true
theorem u7 {l:List SProc}{i:Int}{q:SProc}(h:(aS l i q).e=0):RefOk q:=by
 have hR:=u6 h
 unfold aS at h
 split at h
 ·rename_i h2;exact absurd h h2
 ·rename_i h2
  have h2:(dM l i q).e=0:=by simpa using h2
  have hsz:(bG q&&q.params.all eU)=true:=by
   unfold dM at h2
   split at h2
   ·cases h2
   ·rename_i hg;simpa using hg
  have hz:=head_sz hsz
  have hs:=fV _ _ _ _ _ h
  have hS:bI q:=lH (i:=i) hs
  have hsh:(d9 i q).e=0:=h
  rw [← xz hz.2.1 hz.1] at hsh
  have htr:=qS _ 0 _ rfl hsh
  refine⟨hS,qI hS hz.2.1 hs,hz.1,hz.2.1,hz.2.2.1,hz.2.2.2,fun j h0 hn=>?_,fun k s hk=>(htr k s (Nat.zero_le _) hk).2⟩
  have hx:=List.getElem?_eq_getElem (l:=q.steps) (i:=j.toNat) omq
  have h3:=(htr j.toNat _ (Nat.zero_le _) hx).1
  unfold ud at h3
  simp only [Bool.and_eq_true] at h3
  have h4:=h3.2.1
  rw [show((j.toNat:Nat):Int)=j by omega,decide_eq_true h0,Bool.true_and] at h4
  have h5:0≤aG (fJ q) j:=by simpa using h4
  exact⟨h5,par_par hS omq hn h5⟩
theorem RefOk.lt {q:SProc}(h:RefOk q):∀j:Int,0≤j→j<q.steps.length→aG (fJ q) j<j:=AM q
def ve (s:SStep):List Str:=(if s.kind=1∨s.kind=8 then [s.name] else [])++(s.ways.filter (fun w=>!decide (w.name=[]))).map (·.name)
def uses0 (s:SStep):List Str:=if s.kind=4∨s.kind=5∨s.kind=9 then [s.name] else []
def Aw (ts:List Term)(s:SStep):List Str:=((dF s).flatMap (xl ts)).foldl BI (uses0 s)
def lK (P:SProg)(ts:List Term)(s:SStep)(have_:List Str):Int:=
 if(Aw ts s).all (fun n=>cj have_ n)=false then 1505
 else if(ve s).all (fun n=>!cj have_ n)=false then 1506
 else if(callK s.kind&& !br P.procs s.proc s.args.length)=true then 1507
 else if s.casts.all (fun c=>br P.procs c.proc (c.args.length+1))=false then 1507
 else if(decide (s.kind=8)&& !eg P s)=true then 1508 else 0
theorem yI {l l':List Str}{p:Str→Bool}(h:∀x,x∈l↔x∈l'):l.all p=l'.all p:=by
 rw [Bool.eq_iff_iff,List.all_eq_true,List.all_eq_true]
 exact⟨fun h1 x hx=>h1 x ((h x).2 hx),fun h1 x hx=>h1 x ((h x).1 hx)⟩
theorem yV {ts:List Term}{s:SStep}(hr:dF s=a8 s)(x:Str):x∈Aw ts s↔x∈cu ts s:=by
 unfold Aw cu uses0
 rw [nG,hr,List.mem_append]
 simp only [List.mem_flatMap,Dp]
theorem nH {s:SStep}(hm:dO s=true):(¬(s.kind=3∨s.kind=5)→s.ways=[])∧(s.kind=1∨s.kind=8→s.name≠[])∧(s.kind=3→∀w∈s.ways,w.name=[])∧(s.kind=6∨s.kind=7→s.proc≠[])∧(¬(s.kind=6∨s.kind=7)→s.proc=[]):=by
 have hm2:=hm
 rw [← vd] at hm2
 unfold BJ at hm2
 split at hm2; · cases hm2
 split at hm2; · cases hm2
 rename_i htx
 split at hm2; · cases hm2
 rename_i hpb
 have htx:uQ s=true:=by simpa using htx
 have hpb:nB s=false:=by simpa using hpb
 unfold uQ at htx
 unfold nB at hpb
 simp only [Bool.and_eq_true] at htx
 simp only [Bool.or_eq_false_iff] at hpb
 obtain⟨t1,t2,t3,t4⟩:=htx
 obtain⟨p1,p2,p3,p4⟩:=hpb
 have hw:qR s=true:=by simpa using p3
 have hne:∀{x:Str},aH x=true→x≠[]:=fun {x} h e=>by subst e;exact absurd h dq
 refine⟨fun h=>?_,fun h=>?_,fun h w hw2=>?_,fun h=>?_,fun h=>?_⟩
 ·rw [Dk h] at hw;simpa using hw
 ·have:AR s.kind=true:=by unfold AR;rcases h with h | h<;>simp [h]
  rw [this] at t1;exact hne t1
 ·rw [ways_0 (.inl h)] at hw
  unfold eA at hw
  rw [if_pos h] at hw
  simp only [Bool.and_eq_true,decide_eq_true_eq,lu] at hw
  obtain⟨h2,⟨_,h3⟩,⟨_,h4⟩⟩:=hw
  obtain⟨i,hi⟩:=List.getElem?_of_mem hw2
  have hlt:=(List.getElem?_eq_some_iff.1 hi).1
  have:i=0∨i=1:=by omega
  rcases this with e | e<;>subst e
  ·rw [hi] at h3;exact h3
  ·rw [hi] at h4;exact h4
 ·have:callK s.kind=true:=by unfold callK;rcases h with h | h<;>simp [h]
  rw [this] at t4;exact hne t4
 ·have:callK s.kind=false:=by unfold callK;simp;omega
  rw [this] at t4;simpa [uA] using t4
theorem qU {s:SStep}(hm:dO s=true)(x:Str):x∈ve s↔x∈bK s∧x≠[]:=by
 obtain⟨h1,h2,h3,_,_⟩:=nH hm
 unfold ve bK
 by_cases k1:s.kind=1∨s.kind=8
 ·have hw:=h1 omq
  rw [if_pos k1,if_pos k1,hw]
  simp only [List.filter_nil,List.map_nil,List.append_nil,List.mem_singleton]
  exact⟨fun e=>⟨e,by rw [e];exact h2 k1⟩,fun e=>e.1⟩
 ·rw [if_neg k1,if_neg k1,List.nil_append]
  by_cases k5:s.kind=5
  ·rw [if_pos k5]
   simp only [List.mem_map,List.mem_filter]
   constructor
   ·rintro⟨w,⟨hw,hn⟩,rfl⟩
    exact⟨⟨w,hw,rfl⟩,by simpa using hn⟩
   ·rintro⟨⟨w,hw,rfl⟩,hn⟩
    exact⟨w,⟨hw,by simpa using hn⟩,rfl⟩
  ·rw [if_neg k5]
   have e:(s.ways.filter (fun w=>!decide (w.name=[])))=[]:=by
    rw [List.filter_eq_nil_iff]
    intro w hw
    by_cases k3:s.kind=3
    ·simp [h3 k3 w hw]
    ·rw [h1 omq] at hw;cases hw
   rw [e]
   simp only [List.map_nil,List.not_mem_nil,List.mem_replicate,false_iff]
   rintro⟨⟨_,h⟩,h'⟩
   exact h' h
theorem nw {P:SProg}{ts:List Term}{s:SStep}{hv bd:List Str}(hm:dO s=true)(hr:dA s=true)(hb:∀x,x∈hv↔x∈bd):lK P ts s hv=stepE P ts s bd:=by
 have hh:∀n,cj hv n=cj bd n:=fun n=>by unfold cj;exact decide_eq_decide.2 (hb n)
 have e1:(Aw ts s).all (fun n=>cj hv n)=(cu ts s).all (fun n=>cj bd n):=by
  rw [yI (yV (dX hm hr))]
  simp only [hh]
 have e2:(ve s).all (fun n=>!cj hv n)=(bK s).all (fun n=>!(!decide (n=[])&&cj bd n)):=by
  rw [Bool.eq_iff_iff,List.all_eq_true,List.all_eq_true]
  constructor
  ·intro h x hx
   by_cases hn:x=[]
   ·simp [hn]
   ·have:=h x ((qU hm x).2 ⟨hx,hn⟩)
    rw [hh] at this
    simpa [hn] using this
  ·intro h x hx
   obtain⟨h1,h2⟩:=(qU hm x).1 hx
   have:=h x h1
   rw [hh]
   simpa [h2] using this
 have e3:(callK s.kind&& !br P.procs s.proc s.args.length)=(!decide (s.proc=[])&& !br P.procs s.proc s.args.length):=by
  obtain⟨_,_,_,h4,h5⟩:=nH hm
  congr 1
  by_cases k:s.kind=6∨s.kind=7
  ·have:callK s.kind=true:=by unfold callK;rcases k with h | h<;>simp [h]
   rw [this,decide_eq_false (h4 k)];rfl
  ·have:callK s.kind=false:=by unfold callK;simp;omega
   rw [this,decide_eq_true (h5 k)];rfl
 unfold lK stepE
 rw [e1,e2,e3]
def gf (P:SProg)(q:SProc)(i:Int):List SStep→Int→SFault
 | [],_=>okF
 | s::r,at_=>if lK P q.terms s (lT q (fJ q) at_)≠0 then⟨lK P q.terms s (lT q (fJ q) at_),i,at_⟩ else gf P q i r (at_+1)
def y9 (P:SProg)(i:Int)(q:SProc):SFault:=gf P q i q.steps 0
theorem nR {q:SProc}(h:RefOk q){k t:Int}{s:SStep}(hs:q.steps[k.toNat]? =some s)(h0:0≤k)(ht:t∈aL s)(x:Str):x∈lT q (fJ q) t↔x∈lT q (fJ q) k∨x∈fp s t:=by
 have hp:Par q k t:=⟨h0,s,hs,ht⟩
 have hl:=iH h.s hp
 have hu:aG (fJ q) t=k:=kf h.s h.t (h.up t omq omq).2 hp
 rw [kj,kj,show t.toNat=(t.toNat - 1)+1 by omega,chW,if_neg omq,hu,hs]
 dsimp only
 rw [List.mem_append,yC h.lt (t.toNat - 1) k.toNat k omq omq omq]
 constructor
 ·rintro(h | h | h)
  ·exact .inl (.inl h)
  ·exact .inr h
  ·exact .inl (.inr h)
 ·rintro((h | h) | h)
  ·exact .inl h
  ·exact .inr (.inr h)
  ·exact .inr (.inl h)
theorem EV {q:SProc}(h:RefOk q){k:Nat}{s:SStep}(hs:q.steps[k]? =some s){j:Nat}{t:Int}{m:Str}(ht:(aL s)[j]? =some t)(hm:(bK s)[j]? =some m)(x:Str):x∈fp s t↔x=m∧x≠[]:=by
 have hmay:=(h.s k s hs).1
 obtain⟨h1,h2,h3,_,_⟩:=nH hmay
 have hnd:=kh h.s h.t hs
 unfold fp
 unfold bK at hm
 by_cases k1:s.kind=1∨s.kind=8
 ·rw [if_pos k1] at hm ⊢
  rw [if_neg omq,List.append_nil,List.mem_singleton]
  have:m=s.name:=by
   cases j with
   | zero=>simpa using hm.symm
   | succ j=>simp at hm
  subst this
  exact⟨fun e=>⟨e,by rw [e];exact h2 k1⟩,fun e=>e.1⟩
 ·rw [if_neg k1] at hm ⊢
  rw [List.nil_append]
  by_cases k5:s.kind=5
  ·rw [if_pos k5] at hm ⊢
   have hns:aL s=s.ways.map (·.next):=by
    unfold aL;rw [if_neg (by rw [k5];decide)]
   rw [hns] at ht hnd
   rw [List.getElem?_map] at ht hm
   cases hw:s.ways[j]? with
   | none=>rw [hw] at hm;cases hm
   | some w=>
    rw [hw] at ht hm
    simp only [Option.map_some,Option.some.injEq] at ht hm
    subst ht hm
    simp only [List.mem_map,List.mem_filter,wbF,Bool.and_eq_true,decide_eq_true_eq,Bool.not_eq_true',decide_eq_false_iff_not]
    constructor
    ·rintro⟨v,⟨hv,he,hn⟩,rfl⟩
     have:v=w:=by
      obtain⟨i,hi⟩:=List.getElem?_of_mem hv
      have h5:(s.ways.map (·.next))[i]? =some w.next:=by rw [List.getElem?_map,hi];simp [he]
      have h6:(s.ways.map (·.next))[j]? =some w.next:=by rw [List.getElem?_map,hw];rfl
      have hij:i=j:=by
       obtain⟨a1,a2⟩:=List.getElem?_eq_some_iff.1 h5
       obtain⟨b1,b2⟩:=List.getElem?_eq_some_iff.1 h6
       rcases Nat.lt_trichotomy i j with hlt | heq | hgt
       ·exact absurd (a2.trans b2.symm) ((List.pairwise_iff_getElem.1 hnd) i j a1 b1 hlt)
       ·exact heq
       ·exact absurd (b2.trans a2.symm) ((List.pairwise_iff_getElem.1 hnd) j i b1 a1 hgt)
      subst hij
      rw [hw] at hi;cases hi;rfl
     subst this
     exact⟨rfl,hn⟩
    ·rintro⟨rfl,hn⟩
     exact⟨w,⟨List.mem_of_getElem? hw,rfl,hn⟩,rfl⟩
  ·rw [if_neg k5] at hm ⊢
   simp only [List.map_nil,List.not_mem_nil,false_iff]
   rintro⟨rfl,hn⟩
   rw [List.getElem?_replicate] at hm
   split at hm
   ·cases hm;exact hn rfl
   ·cases hm
theorem iL {k:Int}:∀(L:List Int) (ms:List Str) (b:List (List Str)) (j:Nat),(∀t∈L,t.toNat≠j)→(dE k L ms b)[j]? =b[j]?
 | [],_,_,_,_=>rfl
 | t::r,ms,b,j,h=>by
  rw [dE,iL r _ _ j (fun u hu=>h u (by simp [hu]))]
  unfold iZ
  rw [List.getElem?_set,if_neg (h t sq)]
theorem rQ {k:Int}:∀(L:List Int) (ms:List Str) (b:List (List Str)) {i:Nat} {t:Int} {m:Str},L[i]? =some t→ms[i]? =some m→L.Nodup→(∀t∈L,k<t∧t.toNat<b.length)→0≤k→
  (dE k L ms b)[t.toNat]? =some ((b[k.toNat]?.getD [])++(if m=[] then [] else [m]))
 | [],_,_,_,_,_,h,_,_,_,_=>by simp at h
 | u::r,ms,b,0,t,m,hL,hm,hn,hk,k0=>by
  simp only [List.getElem?_cons_zero,Option.some.injEq] at hL
  subst hL
  rw [List.nodup_cons] at hn
  cases ms with
  | nil=>simp at hm
  | cons m' ms=>
   simp only [List.getElem?_cons_zero,Option.some.injEq] at hm
   subst hm
   rw [dE,iL r _ _ u.toNat (fun v hv e=>hn.1 (by
    have h1:=hk u sq
    have h2:=hk v (by simp [hv])
    rw [show u=v by omega];exact hv))]
   unfold iZ
   rw [List.getElem?_set,if_pos rfl,if_pos (hk u sq).2]
   rfl
 | u::r,ms,b,i+1,t,m,hL,hm,hn,hk,k0=>by
  rw [List.nodup_cons] at hn
  rw [dE]
  have hb:(iZ b k u (ms.headD []))[k.toNat]? =b[k.toNat]? :=by
   unfold iZ
   have:=hk u sq
   rw [List.getElem?_set,if_neg omq]
  cases ms with
  | nil=>simp at hm
  | cons m' ms=>
   have:=rQ r ms (iZ b k u m') (i:=i) (t:=t) (m:=m) (by simpa using hL) (by simpa using hm) hn.2 (fun v hv=>by
    have:=hk v (by simp [hv])
    unfold iZ;rw [List.length_set];exact this) k0
   simp only [List.headD_cons] at hb
   rw [hb] at this
   exact this
theorem o5 {k:Int}:∀(L:List Int) (ms:List Str) (b:List (List Str)),(dE k L ms b).length=b.length
 | [],_,_=>rfl
 | t::r,ms,b=>by rw [dE,o5];simp [iZ]
theorem Bz {P:SProg}{q:SProc}{i:Int}(h:RefOk q):∀(l:List SStep) (k:Nat) (b:List (List Str)),l=q.steps.drop k→b.length=q.steps.length→
  (∀j:Nat,k≤j→j<q.steps.length→(j=0∨aG (fJ q) j<k)→∀x,x∈lT q (fJ q) j↔x∈b[j]?.getD [])→gf P q i l k=dz P q i l k b:=by
 intro l
 induction l with
 | nil=>intro k b _ _ _;rfl
 | cons s r ih=>
  intro k b hl hbl hb
  have hx:q.steps[k]? =some s:=by
   have h1:(q.steps.drop k)[0]? =some s:=by rw [← hl];rfl
   rwa [List.getElem?_drop,Nat.add_zero] at h1
  have hr:r=q.steps.drop (k+1):=by
   have h1:(q.steps.drop k).drop 1=r:=by rw [← hl];rfl
   rw [← h1,List.drop_drop]
  have hkn:=(List.getElem?_eq_some_iff.1 hx).1
  have hin:=(h.s k s hx).2
  rw [gf,dz]
  try dsimp only
  have hkb:∀x,x∈lT q (fJ q) k↔x∈b[k]?.getD []:=hb k (Nat.le_refl _) hkn (by
   by_cases e:k=0
   ·exact .inl e
   ·exact .inr (h.lt k omq omq))
  rw [show((k:Int).toNat)=k by omega,nw (bd:=b[k]?.getD []) (h.s k s hx).1 (h.ro k s hx) hkb]
  split
  ·rfl
  ·have:=ih (k+1) (dE k (aL s) (bK s) b) hr (by rw [o5];exact hbl) (fun j hj hjn hpar x=>by
    by_cases hjs:(j:Int)∈aL s
    ·obtain⟨a,ha⟩:=List.getElem?_of_mem hjs
     have hlt:=(List.getElem?_eq_some_iff.1 ha).1
     have hbl2:=nT s
     have hm:=List.getElem?_eq_getElem (l:=bK s) (i:=a) omq
     have h1:=rQ (k:=k) (aL s) (bK s) b ha hm (kh h.s h.t hx) (fun t ht=>by have:=hin t ht;omega) omq
     rw [show((j:Int).toNat)=j by omega] at h1
     rw [h1,nR h (k:=k) (by simpa using hx) omq hjs,hkb,EV h hx ha hm]
     simp only [Option.getD_some,List.mem_append,show((k:Int).toNat)=k by omega]
     constructor
     ·rintro(h | ⟨h1,h2⟩)
      ·exact .inl h
      ·right;rw [if_neg (by rw [← h1];exact h2)];simp [h1]
     ·rintro(h | h)
      ·exact .inl h
      ·split at h
       ·cases h
       ·rename_i hne
        have h:=List.mem_singleton.1 h
        exact .inr ⟨h,by rw [h];exact hne⟩
    ·rw [iL (aL s) _ _ j (fun t ht e=>hjs (by
      have:=hin t ht
      rw [show(j:Int)=t by omega];exact ht))]
     refine hb j omq hjn ?_ x
     rcases hpar with e | e
     ·exact .inl e
     ·right
      rcases Nat.eq_zero_or_pos j with e0 | e0
      ·omega
      ·have h2:=h.up j omq omq
       have hne:aG (fJ q) j≠k:=fun e2=>by
        have hp:=h2.2
        rw [e2] at hp
        obtain⟨_,s',hs',hm⟩:=hp
        rw [show((k:Int).toNat)=k by omega,hx] at hs'
        cases hs'
        exact hjs hm
       omega)
   exact this
theorem xD {P:SProg}{q:SProc}{i:Int}(h:RefOk q):y9 P i q=er P i q:=by
 refine Bz h q.steps 0 (ij q) rfl (rR q) (fun j _ hjn hpar x=>?_)
 have hj:j=0:=by
  rcases hpar with e | e
  ·exact e
  ·rcases Nat.eq_zero_or_pos j with e0 | e0
   ·exact e0
   ·have:=(h.up j omq omq).1
    omega
 subst hj
 rw [kj]
 unfold ij
 rw [List.getElem?_set,if_pos rfl,if_pos (by have:=h.n1;simp;omega)]
 simp [chW]
end Go.Sx
namespace Go.Sx
open Go
def ax:List Int→Int→Int
 | [],_=> -1
 | y::r,x=>if y=x then 0 else if ax r x<0 then -1 else ax r x+1
theorem lN (l:List Int)(x:Int):ax l x= -1∨(0≤ax l x∧ax l x<l.length):=by
 induction l with
 | nil=>exact .inl rfl
 | cons y r ih=>
  unfold ax
  split
  ·right;simp only [List.length_cons];omega
  ·split
   ·exact .inl rfl
   ·right;simp only [List.length_cons];omega
theorem zd {l:List Int}{x:Int}{k:Int}(h0:0≤k)(hx:l[k.toNat]? =some x)(hn:∀j:Nat,j<k.toNat→l[j]? ≠some x):ax l x=k:=by
 induction l generalizing k with
 | nil=>simp at hx
 | cons y r ih=>
  unfold ax
  by_cases hk:k=0
  ·subst hk
   simp at hx
   rw [if_pos hx]
  ·have hy:y≠x:=fun e=>hn 0 omq (by simp [e])
   rw [if_neg hy]
   have e:k.toNat=(k - 1).toNat+1:=by omega
   rw [e,List.getElem?_cons_succ] at hx
   have:=ih (k:=k - 1) omq hx (fun j hj=>by
    have:=hn (j+1) omq
    rwa [List.getElem?_cons_succ] at this)
   rw [this,if_neg omq];omega
theorem gJ {l:List Int}{x:Int}(h:x∉l):ax l x= -1:=by
 induction l with
 | nil=>rfl
 | cons y r ih=>
  unfold ax
  rw [if_neg (fun e=>h (by simp [e])),ih (fun hm=>h (by simp [hm]))];rfl
theorem ep {l:List Int}(hn:l.Nodup){i:Nat}{x:Int}(hx:l[i]? =some x):ax l x=i:=by
 refine zd (k:=i) omq (by simpa using hx) (fun j hj e=>?_)
 obtain⟨a1,a2⟩:=List.getElem?_eq_some_iff.1 hx
 obtain⟨b1,b2⟩:=List.getElem?_eq_some_iff.1 e
 exact(List.pairwise_iff_getElem.1 hn) j i b1 a1 omq (b2.trans a2.symm)
def t00:Term:=⟨0,[],0,[],0,0⟩
def vA (ts:List Term)(k:Int):Term:=ts[k.toNat]?.getD t00
def mvP (T:List Int)(t:Term):Term:={t with l:=ax T t.l,r:=ax T t.r}
def jK (ts:List Term)(s:SStep):List Int:=(dF s).flatMap (postS ts)
def termL (q:SProc):List Int:=(bu q).flatMap (fun k=>match q.steps[k.toNat]? with
 | some s=>jK q.terms s
 | none=>[])
def gj (T:List Int)(c:SCast):SCast:={c with args:=c.args.map (ax T),ap:=(none,0)}
def jp (O:List Int)(w:SWay):SWay:={w with next:=ax O w.next}
def cC (O T:List Int)(s:SStep):SStep:=
 {s with next:=ax O s.next,term:=ax T s.term,args:=s.args.map (ax T),ap:=(none,0),casts:=s.casts.map (gj T),cp:=(none,0),ways:=s.ways.map (jp O),wp:=(none,0)}
def gr (q:SProc)(L:List Int):List SStep:=L.filterMap (fun k=>q.steps[k.toNat]?.map (cC (bu q) (termL q)))
def bf (q:SProc):SProc:=
 {name:=q.name,params:=q.params,pp:=(none,0),terms:=(termL q).map (fun k=>mvP (termL q) (vA q.terms k)),tp:=(none,0),steps:=gr q (bu q),sp:=(none,0)}
structure MS (ts:List Term)(T X:List Int)(st:RS):Prop where
 ml:st.1.length=ts.length
 o:st.2=X.map (fun k=>mvP T (vA ts k))
 m:∀(i:Nat) (x:Int),X[i]? =some x→aG st.1 x=i
theorem jr {ts:List Term}:∀(A B:List Int) (s:RS),cJ ts (A++B) s=cJ ts B (cJ ts A s)
 | [],_,_=>rfl
 | k::r,B,s=>by
  rw [List.cons_append,cJ,cJ]
  split
  ·exact jr r B s
  ·exact jr r B _
structure TOk (ts:List Term)(T:List Int):Prop where
 nd:T.Nodup
 rg:∀k∈T,0≤k∧k<ts.length
theorem Ek {ts:List Term}{T X Y:List Int}{st:RS}(hT:TOk ts T)(hX:T=X++Y)(h:MS ts T X st){y:Int}(hy:y= -1∨y∈X):(if 0≤y then aG st.1 y else y)=ax T y:=by
 rcases hy with rfl | hy
 ·rw [if_neg omq,gJ (fun hm=>by have:=hT.rg _ hm;omega)]
 ·have hm:y∈T:=by rw [hX];exact List.mem_append_left _ hy
  have:=hT.rg _ hm
  rw [if_pos this.1]
  obtain⟨i,hi⟩:=List.getElem?_of_mem hy
  have hi2:T[i]? =some y:=by rw [hX,List.getElem?_append_left (List.getElem?_eq_some_iff.1 hi).1];exact hi
  rw [h.m i y hi,ep hT.nd hi2]
theorem ms_one {ts:List Term}{T X Y:List Int}{st:RS}{a:Int}{t:Term}(hT:TOk ts T)(hX:T=X++a::Y)(h:MS ts T X st)(ht:ts[a.toNat]? =some t)(hl:t.l= -1∨t.l∈X)(hr:t.r= -1∨t.r∈X):MS ts T (X++[a]) (cJ ts [a] st):=by
 have ha:0≤a∧a<ts.length:=hT.rg a (by rw [hX];simp)
 have hnX:∀x∈X,x≠a:=fun x hx e=>by
  subst e
  have:=hT.nd
  rw [hX,List.nodup_append] at this
  exact this.2.2 x hx x sq rfl
 have hrX:∀x∈X,0≤x:=fun x hx=>(hT.rg x (by rw [hX];simp [hx])).1
 rw [cJ,ht]
 dsimp only
 rw [cJ]
 refine⟨by rw [List.length_set];exact h.ml,?_,fun i x hx=>?_⟩
 ·rw [List.map_append,← h.o]
  congr 1
  have e1:=Ek hT hX h hl
  have e2:=Ek hT hX h hr
  simp only [List.map_cons,List.map_nil,vA,ht,Option.getD_some]
  unfold mvT mvP
  rw [e1,e2]
 ·by_cases hi:i<X.length
  ·rw [List.getElem?_append_left hi] at hx
   have hm:=List.mem_of_getElem? hx
   rw [kM ha.1 (hrX x hm) (hnX x hm)]
   exact h.m i x hx
  ·rw [List.getElem?_append_right omq] at hx
   have:i - X.length=0:=by
    have:=(List.getElem?_eq_some_iff.1 hx).1
    simp at this;omega
   rw [this] at hx
   simp at hx
   subst hx
   have hol:st.2.length=X.length:=by rw [h.o,List.length_map]
   rw [ek ha.1 (by rw [h.ml];omega) ha.1,if_pos rfl,hol]
   omega
theorem BM {ts:List Term}{f:Nat}{a:Int}{t:Term}(h0:¬a<0)(ht:ts[a.toNat]? =some t):a∈cv ts (f+1) a:=by
 rw [fe h0 ht];simp
theorem qE {ts:List Term}{T:List Int}(hT:TOk ts T):∀(f:Nat) (a:Int),(a= -1∨Tr ts f a)→∀(X Y:List Int) (st:RS),T=X++(cv ts f a++Y)→MS ts T X st→MS ts T (X++cv ts f a) (cJ ts (cv ts f a) st)∧(a= -1∨a∈cv ts f a)
 | 0,a,h,X,Y,st,hX,hM=>by
  rcases h with h | h
  ·subst h
   refine⟨?_,.inl rfl⟩
   simpa [cv,cJ] using hM
  ·exact h.elim
 | f+1,a,h,X,Y,st,hX,hM=>by
  rcases h with h | h
  ·subst h
   rw [db dq] at hX ⊢
   refine⟨?_,.inl rfl⟩
   simpa [cJ] using hM
  ·obtain⟨h0,t,ht,_,_,hl0,hl1,hr0,hr1⟩:=h
   have hn:¬a<0:=by omega
   have hTl:t.l= -1∨Tr ts f t.l:=by
    rcases Int.lt_or_le (ah t.kind) 1 with h1 | h1
    ·exact .inl (hl1 h1)
    ·exact .inr (hl0 h1)
   have hTr:t.r= -1∨Tr ts f t.r:=by
    rcases Int.lt_or_le (ah t.kind) 2 with h1 | h1
    ·exact .inl (hr1 h1)
    ·exact .inr (hr0 h1)
   rw [fe hn ht] at hX ⊢
   obtain⟨m1,k1⟩:=qE hT f t.l hTl X (cv ts f t.r++[a]++Y) st (by rw [hX];simp) hM
   obtain⟨m2,k2⟩:=qE hT f t.r hTr (X++cv ts f t.l) ([a]++Y) _ (by rw [hX];simp) m1
   have m3:=ms_one (a:=a) (Y:=Y) hT (by rw [hX];simp) m2 ht (by
    rcases k1 with k | k
    ·exact .inl k
    ·exact .inr (by simp [k])) (by
    rcases k2 with k | k
    ·exact .inl k
    ·exact .inr (by simp [k]))
   refine⟨?_,.inr sq⟩
   rw [jr,jr]
   simpa using m3
theorem ni {ts:List Term}{T X Y:List Int}{st:RS}{root:Int}(hT:TOk ts T)(hm:cq ts root=true)(hX:T=X++(postS ts root++Y))(hM:MS ts T X st):MS ts T (X++postS ts root) (eu ts root st)∧aG (eu ts root st).1 root=ax T root:=by
 have htr:=iz hm
 obtain⟨h1,h2⟩:=qE hT (root.toNat+1) root (.inr htr) X Y st hX hM
 refine⟨h1,?_⟩
 have h0:0≤root:=htr.1
 have hin:root∈postS ts root:=by
  rcases h2 with h2 | h2
  ·omega
  ·exact h2
 have hin2:root∈X++postS ts root:=by simp [hin]
 have:=Ek (Y:=Y) hT (by rw [hX];simp [postS]) h1 (.inr hin2)
 rw [if_pos h0] at this
 exact this
theorem nh {ts:List Term}{T:List Int}(hT:TOk ts T):∀(L acc X Y:List Int) (st:RS),(∀t∈L,cq ts t=true)→T=X++(L.flatMap (postS ts)++Y)→MS ts T X st→(bj ts L acc st).1=acc++L.map (ax T)∧MS ts T (X++L.flatMap (postS ts)) (bj ts L acc st).2
 | [],acc,X,Y,st,_,_,hM=>by simpa [bj] using hM
 | r::L,acc,X,Y,st,hm,hX,hM=>by
  rw [bj]
  rw [List.flatMap_cons] at hX
  obtain⟨h1,h2⟩:=ni (Y:=L.flatMap (postS ts)++Y) hT (hm r sq) (by rw [hX];simp) hM
  obtain⟨h3,h4⟩:=nh hT L (acc++[aG (eu ts r st).1 r]) (X++postS ts r) Y (eu ts r st) (fun t ht=>hm t (by simp [ht])) (by rw [hX];simp) h1
  refine⟨by rw [h3,h2];simp,?_⟩
  rw [List.flatMap_cons,← List.append_assoc];exact h4
theorem uI {ts:List Term}{T:List Int}(hT:TOk ts T):∀(L:List SCast) (acc:List SCast) (X Y:List Int) (st:RS),(∀c∈L,∀t∈c.args,cq ts t=true)→T=X++(L.flatMap (fun c=>c.args.flatMap (postS ts))++Y)→MS ts T X st→
  (cO ts L acc st).1=acc++L.map (gj T)∧MS ts T (X++L.flatMap (fun c=>c.args.flatMap (postS ts))) (cO ts L acc st).2
 | [],acc,X,Y,st,_,_,hM=>by simpa [cO] using hM
 | c::L,acc,X,Y,st,hm,hX,hM=>by
  rw [cO]
  rw [List.flatMap_cons] at hX
  obtain⟨h1,h2⟩:=nh hT c.args [] X (L.flatMap (fun c=>c.args.flatMap (postS ts))++Y) st (hm c sq) (by rw [hX];simp) hM
  obtain⟨h3,h4⟩:=uI hT L (acc++[{c with args:=(bj ts c.args [] st).1,ap:=(none,0)}]) (X++c.args.flatMap (postS ts)) Y (bj ts c.args [] st).2 (fun d hd=>hm d (by simp [hd])) (by rw [hX];simp) h2
  refine⟨?_,?_⟩
  ·rw [h3,h1];simp [gj]
  ·rw [List.flatMap_cons,← List.append_assoc];exact h4
theorem term_or {s:SStep}{ts:List Term}(hm:dO s=true)(hr:dA s=true)(ht:∀t∈a8 s,cq ts t=true):(s.term= -1∧rHd s=s.args)∨(0≤s.term∧cq ts s.term=true∧rHd s=s.term::s.args):=by
 by_cases h:s.term= -1
 ·exact .inl ⟨h,rHd_F h⟩
 ·right
  have hin:s.term∈a8 s:=by
   rw [← dX hm hr,← xI,rHd_T h];simp
  have:=ht _ hin
  exact⟨(iz this).1,this,rHd_T h⟩
theorem DB {q:SProc}{O T X Y:List Int}{st:RS}{s:SStep}{pl:List Int}(hT:TOk q.terms T)(hm:dO s=true)(hr:dA s=true)(ht:∀t∈a8 s,cq q.terms t=true)(hX:T=X++(jK q.terms s++Y))(hM:MS q.terms T X st)
  (hO:∀x∈aL s,aG pl x=ax O x) (hOn:ax O (-1)= -1):gV q.terms pl s st=cC O T s∧MS q.terms T (X++jK q.terms s) (gx q.terms s st).2:=by
 have hst:jK q.terms s=(rHd s).flatMap (postS q.terms)++s.casts.flatMap (fun c=>c.args.flatMap (postS q.terms)):=by
  unfold jK
  rw [← xI,List.flatMap_append,List.flatMap_assoc]
 rw [hst] at hX ⊢
 have hargs:∀t∈s.args,cq q.terms t=true:=fun t h=>ht t (iu h)
 have hcasts:∀c∈s.casts,∀t∈c.args,cq q.terms t=true:=fun c hc t h=>ht t (it hc h)
 have hneg:ax T (-1)= -1:=gJ (fun h=>by have:=hT.rg _ h;omega)
 obtain⟨XA,hXA,hMA,htm⟩:∃XA,(rHd s).flatMap (postS q.terms)=XA++s.args.flatMap (postS q.terms)∧MS q.terms T (X++XA) (cY q.terms s st)∧(if 0≤s.term then aG (cY q.terms s st).1 s.term else s.term)=ax T s.term:=by
  rcases term_or hm hr ht with ⟨h1,h2⟩ | ⟨h1,h2,h3⟩
  ·refine⟨[],by rw [h2];rfl,?_,?_⟩
   ·unfold cY;rw [if_neg omq,List.append_nil];exact hM
   ·rw [if_neg omq,h1,hneg]
  ·refine⟨postS q.terms s.term,by rw [h3,List.flatMap_cons],?_,?_⟩
   ·unfold cY;rw [if_pos h1]
    exact(ni (Y:=s.args.flatMap (postS q.terms)++s.casts.flatMap (fun c=>c.args.flatMap (postS q.terms))++Y) hT h2 (by rw [hX,h3,List.flatMap_cons];simp) hM).1
   ·unfold cY;rw [if_pos h1,if_pos h1]
    exact(ni (Y:=s.args.flatMap (postS q.terms)++s.casts.flatMap (fun c=>c.args.flatMap (postS q.terms))++Y) hT h2 (by rw [hX,h3,List.flatMap_cons];simp) hM).2
 rw [hXA] at hX ⊢
 obtain⟨hB1,hB2⟩:=nh hT s.args [] (X++XA) (s.casts.flatMap (fun c=>c.args.flatMap (postS q.terms))++Y) (cY q.terms s st) hargs (by rw [hX];simp) hMA
 obtain⟨hC1,hC2⟩:=uI hT s.casts [] (X++XA++s.args.flatMap (postS q.terms)) Y (bj q.terms s.args [] (cY q.terms s st)).2 hcasts (by rw [hX];simp) hB2
 refine⟨?_,?_⟩
 ·unfold gV cC
  have e1:(dK q.terms s st).1=s.args.map (ax T):=by unfold dK;rw [hB1];rfl
  have e2:(gx q.terms s st).1=s.casts.map (gj T):=by unfold gx dK;rw [hC1];rfl
  have e3:s.ways.map (ip pl)=s.ways.map (jp O):=List.map_congr_left (fun w hw=>by
   unfold ip jp;rw [hO _ (mo hm hw)])
  have e4:(if fA s.kind=true then aG pl s.next else s.next)=ax O s.next:=by
   by_cases hg:fA s.kind=true
   ·rw [if_pos hg,hO _ (nM hg)]
   ·rw [if_neg hg]
    have:s.next= -1:=by
     have hm2:=hm
     unfold dO at hm2
     split at hm2; · cases hm2
     split at hm2; · cases hm2
     rename_i hb
     have hb:je (dr s)=false:=by simpa using hb
     unfold je at hb
     simp only [Bool.or_eq_false_iff] at hb
     have h9:=hb.2.2.2.2.2.2.2.2
     simp only [dr,hg,if_false] at h9
     simpa using h9
    rw [this,hOn]
  rw [e1,e2,e3,e4,htm]
 ·have:gx q.terms s st=cO q.terms s.casts [] (bj q.terms s.args [] (cY q.terms s st)).2:=rfl
  rw [this]
  simpa using hC2
theorem tW {q:SProc}{T:List Int}{pl:List Int}(hT:TOk q.terms T)(hh:∀(k:Nat) (s:SStep),q.steps[k]? =some s→dO s=true∧dA s=true∧(∀t∈a8 s,cq q.terms t=true)∧∀x∈aL s,aG pl x=ax (bu q) x)(hOn:ax (bu q) (-1)= -1)(hTq:T=termL q):
  ∀(L:List Int) (acc:List SStep) (X Y:List Int) (st:RS),(∀k∈L,0≤k∧k<q.steps.length)→T=X++(L.flatMap (fun k=>match q.steps[k.toNat]? with | some s=>jK q.terms s | none=>[])++Y)→MS q.terms T X st→
  (d8 q pl L acc st).1=acc++gr q L∧MS q.terms T (X++L.flatMap (fun k=>match q.steps[k.toNat]? with | some s=>jK q.terms s | none=>[])) (d8 q pl L acc st).2
 | [],acc,X,Y,st,_,_,hM=>by simpa [d8,gr] using hM
 | k::L,acc,X,Y,st,hr,hX,hM=>by
  obtain⟨s,hs⟩:∃s,q.steps[k.toNat]? =some s:=⟨_,List.getElem?_eq_getElem (by have:=hr k sq;omega)⟩
  rw [d8,hs]
  dsimp only
  rw [List.flatMap_cons,hs] at hX
  dsimp only at hX
  obtain⟨a1,a2,a3,a4⟩:=hh _ _ hs
  obtain⟨h1,h2⟩:=DB (Y:=L.flatMap (fun k=>match q.steps[k.toNat]? with | some s=>jK q.terms s | none=>[])++Y) hT a1 a2 a3 (by rw [hX];simp) hM a4 hOn
  obtain⟨h3,h4⟩:=tW hT hh hOn hTq L (acc++[gV q.terms pl s st]) (X++jK q.terms s) Y (gx q.terms s st).2 (fun j hj=>hr j (by simp [hj])) (by rw [hX];simp) h2
  refine⟨?_,?_⟩
  ·rw [h3,h1];unfold gr;rw [List.filterMap_cons,hs];simp [hTq]
  ·rw [List.flatMap_cons,hs,← List.append_assoc];exact h4
theorem xm:∀{L:List Int} {u u2:List Bool},(∀k∈L,0≤k∧k<u.length)→eR L u=some u2→L.Nodup∧(∀k∈L,u[k.toNat]?.getD false=false)∧(∀k∈L,u2[k.toNat]?.getD false=true)∧∀i:Nat,u[i]?.getD false=true→u2[i]?.getD false=true
 | [],u,u2,_,h=>by
  cases h
  exact⟨List.nodup_nil,by simp,by simp,fun i h=>h⟩
 | k::r,u,u2,hr,h=>by
  rw [eR] at h
  split at h
  ·cases h
  ·rename_i hu
   have hu:u[k.toNat]?.getD false=false:=by simpa using hu
   have hk:=hr k sq
   obtain⟨h1,h2,h3,h4⟩:=xm (fun j hj=>by rw [List.length_set];exact hr j (by simp [hj])) h
   have hks:(u.set k.toNat true)[k.toNat]?.getD false=true:=by rw [List.getElem?_set,if_pos rfl,if_pos omq];rfl
   have hmono:∀i:Nat,u[i]?.getD false=true→(u.set k.toNat true)[i]?.getD false=true:=fun i hi=>by
    rw [List.getElem?_set]
    split
    ·rw [if_pos omq];rfl
    ·exact hi
   refine⟨?_,fun j hj=>?_,fun j hj=>?_,fun i hi=>h4 i (hmono i hi)⟩
   ·rw [List.nodup_cons]
    refine⟨fun hm=>?_,h1⟩
    have:=h2 k hm
    rw [hks] at this;cases this
   ·rcases List.mem_cons.1 hj with rfl | hj
    ·exact hu
    ·have:=h2 j hj
     cases e:u[j.toNat]?.getD false with
     | false=>rfl
     | true=>rw [hmono _ e] at this;cases this
   ·rcases List.mem_cons.1 hj with rfl | hj
    ·exact h4 _ hks
    ·exact h3 j hj
theorem qN {ts:List Term}:∀{L:List Int} {u u2:List Bool},u.length=ts.length→bT ts L u=some u2→(L.flatMap (postS ts)).Nodup∧(∀k∈L.flatMap (postS ts),u[k.toNat]?.getD false=false)∧(∀k∈L.flatMap (postS ts),u2[k.toNat]?.getD false=true)∧∀i:Nat,u[i]?.getD false=true→u2[i]?.getD false=true
 | [],u,u2,_,h=>by
  cases h
  exact⟨by simp,by simp,by simp,fun i h=>h⟩
 | t::r,u,u2,hu,h=>by
  rw [bT] at h
  split at h
  ·cases h
  ·split at h
   ·cases h
   ·rename_i u3 h3
    obtain⟨a1,a2,a3,a4⟩:=xm (fun k hk=>by have:=gF _ _ k hk;rw [hu];exact this) h3
    obtain⟨b1,b2,b3,b4⟩:=qN (L:=r) (by rw [nf h3];exact hu) h
    rw [List.flatMap_cons]
    refine⟨?_,fun k hk=>?_,fun k hk=>?_,fun i hi=>b4 i (a4 i hi)⟩
    ·rw [List.nodup_append]
     refine⟨a1,b1,fun x hx y hy e=>?_⟩
     subst e
     have:=b2 x hy
     rw [a3 x hx] at this;cases this
    ·rcases List.mem_append.1 hk with hk | hk
     ·exact a2 k hk
     ·have:=b2 k hk
      cases e:u[k.toNat]?.getD false with
      | false=>rfl
      | true=>rw [a4 _ e] at this;cases this
    ·rcases List.mem_append.1 hk with hk | hk
     ·exact b4 _ (a3 k hk)
     ·exact b3 k hk
theorem lI {q:SProc}{i:Int}:∀(l:List SStep) (k:Int) (c d:List Int) (u:List Bool),u.length=q.terms.length→(bB q i l k c d u).e=0→(l.flatMap (fun s=>(a8 s).flatMap (postS q.terms))).Nodup∧∀x∈l.flatMap (fun s=>(a8 s).flatMap (postS q.terms)),u[x.toNat]?.getD false=false
 | [],_,_,_,_,_,_=>by simp
 | s::r,k,c,d,u,hu,h=>by
  rw [bB] at h
  split at h
  ·cases h
  ·split at h
   ·cases h
   ·split at h
    ·cases h
    ·rename_i c2 d2 _
     split at h
     ·cases h
     ·split at h
      ·cases h
      ·rename_i u2 h2
       obtain⟨a1,a2,a3,a4⟩:=qN hu h2
       obtain⟨b1,b2⟩:=lI r (k+1) c2 d2 u2 (by rw [j4 h2];exact hu) h
       rw [List.flatMap_cons]
       refine⟨?_,fun x hx=>?_⟩
       ·rw [List.nodup_append]
        refine⟨a1,b1,fun x hx y hy e=>?_⟩
        subst e
        have:=b2 x hy
        rw [a3 x hx] at this;cases this
       ·rcases List.mem_append.1 hx with hx | hx
        ·exact a2 x hx
        ·have:=b2 x hx
         cases e:u[x.toNat]?.getD false with
         | false=>rfl
         | true=>rw [a4 _ e] at this;cases this
theorem flat_nd {q:SProc}{g:SStep→List Int}(h:(q.steps.flatMap g).Nodup){L:List Int}(hL:L.Nodup)(hr:∀k∈L,0≤k∧k<q.steps.length):(L.flatMap (fun k=>match q.steps[k.toNat]? with | some s=>g s | none=>[])).Nodup:=by
 unfold List.Nodup at h ⊢
 rw [List.pairwise_flatMap] at h ⊢
 obtain⟨h1,h2⟩:=h
 refine⟨fun k hk=>?_,?_⟩
 ·have hx:=List.getElem?_eq_getElem (l:=q.steps) (i:=k.toNat) (by have:=hr k hk;omega)
  rw [hx]
  exact h1 _ (List.getElem_mem _)
 ·refine fK (R:=(· ≠ ·)) (fun a ha b hb hne x hx y hy e=>?_) hL
  have h3:=hr a ha
  have h4:=hr b hb
  have hxa:=List.getElem?_eq_getElem (l:=q.steps) (i:=a.toNat) omq
  have hxb:=List.getElem?_eq_getElem (l:=q.steps) (i:=b.toNat) omq
  rw [hxa] at hx
  rw [hxb] at hy
  rcases Int.lt_trichotomy a b with h5 | h5 | h5
  ·exact(List.pairwise_iff_getElem.1 h2) a.toNat b.toNat omq omq omq x hx y hy e
  ·exact hne h5
  ·exact(List.pairwise_iff_getElem.1 h2) b.toNat a.toNat omq omq omq y hy x hx e.symm
theorem q3:∀(L:List Int) (i:Int) (pl:List Int),L.Nodup→(∀k∈L,0≤k∧k<pl.length)→∀(j:Nat) (x:Int),L[j]? =some x→aG (ew L i pl) x=i+j
 | [],_,_,_,_,_,_,h=>by simp at h
 | y::r,i,pl,hn,hr,0,x,h=>by
  simp at h;subst h
  rw [List.nodup_cons] at hn
  have hy:=hr y sq
  rw [ew]
  have:∀(L:List Int) (i:Int) (pl:List Int),y∉L→(∀k∈L,0≤k)→aG (ew L i pl) y=aG pl y:=by
   intro L
   induction L with
   | nil=>intro i pl _ _;rfl
   | cons z t ih=>
    intro i pl hm hz
    rw [ew,ih _ _ (fun h=>hm (by simp [h])) (fun k hk=>hz k (by simp [hk])),kM (hz z sq) hy.1 (fun e=>hm (by simp [e]))]
  rw [this r (i+1) _ hn.1 (fun k hk=>(hr k (by simp [hk])).1),ek hy.1 hy.2 hy.1,if_pos rfl];omega
 | y::r,i,pl,hn,hr,j+1,x,h=>by
  rw [List.nodup_cons] at hn
  rw [ew,q3 r (i+1) _ hn.2 (fun k hk=>by rw [List.length_set];exact hr k (by simp [hk])) j x (by simpa using h)];omega
theorem xw {l:List SProc}{i:Int}{q:SProc}(h:(aS l i q).e=0):TOk q.terms (termL q):=by
 have hF:=u7 h
 have hS:=hF.s
 have hsh:(d9 i q).e=0:=by
  unfold aS at h
  split at h
  ·rename_i h2;exact absurd h h2
  ·exact h
 have hroots:∀(k:Nat) (s:SStep),q.steps[k]? =some s→dF s=a8 s:=fun k s hs=>dX (hS k s hs).1 (hF.ro k s hs)
 have h1:=(lI q.steps 0 _ _ _ sq hsh).1
 have h2:=flat_nd h1 (i3 hS hF.t _ _ omq) (fun k hk=>q6 hS hk)
 have e:termL q=(bu q).flatMap (fun k=>match q.steps[k.toNat]? with | some s=>(a8 s).flatMap (postS q.terms) | none=>[]):=by
  unfold termL
  congr 1
  funext k
  cases hk:q.steps[k.toNat]? with
  | none=>rfl
  | some s=>dsimp only;unfold jK;rw [hroots _ s hk]
 refine⟨by rw [e];exact h2,fun k hk=>?_⟩
 rw [e] at hk
 obtain⟨a,_,ha⟩:=List.mem_flatMap.1 hk
 split at ha
 ·obtain⟨t,_,ht⟩:=List.mem_flatMap.1 ha
  exact gF _ _ k ht
 ·cases ha
theorem TOk.len {ts:List Term}{T:List Int}(h:TOk ts T):T.length≤ts.length:=rc _ _ h.nd h.rg
theorem DO {l:List SProc}{i:Int}{q:SProc}(h:(aS l i q).e=0):bf q=bU q:=by
 have hR:=u6 h
 have hF:=u7 h
 have hS:=hF.s
 have hT:=hF.t
 have hsh:(d9 i q).e=0:=by
  unfold aS at h
  split at h
  ·rename_i h2;exact absurd h h2
  ·exact h
 have hts:jF q:=j3 (fV _ _ _ _ _ hsh)
 have hOn:(bu q).Nodup:=i3 hS hT _ _ omq
 have hOr:∀k∈bu q,0≤k∧k<q.steps.length:=fun k hk=>q6 hS hk
 have hneg:ax (bu q) (-1)= -1:=gJ (fun hm=>by have:=hOr _ hm;omega)
 have hroots:∀(k:Nat) (s:SStep),q.steps[k]? =some s→dF s=a8 s:=fun k s hs=>dX (hS k s hs).1 (hF.ro k s hs)
 have hTok:=xw h
 have hpl:∀x∈bu q,aG (bL q) x=ax (bu q) x:=fun x hx=>by
  obtain⟨j,hj⟩:=List.getElem?_of_mem hx
  unfold bL
  rw [q3 (bu q) 0 _ hOn (fun k hk=>by rw [List.length_replicate];exact hOr k hk) j x hj,ep hOn hj];omega
 have hin:∀x:Int,0≤x→x<q.steps.length→x∈bu q:=fun x h0 h1=>by
  have:=vh hS hT x.toNat omq
  rwa [show((x.toNat:Nat):Int)=x by omega] at this
 obtain⟨h1,h2⟩:=tW (pl:=bL q) hTok (fun k s hs=>⟨(hS k s hs).1,hF.ro k s hs,hts k s hs,fun x hx=>hpl x (hin x (by have:=(hS k s hs).2 x hx;omega) (by have:=(hS k s hs).2 x hx;omega))⟩) hneg rfl (bu q) [] [] [] (List.replicate q.terms.length 0,[]) hOr (by rw [List.append_nil];rfl) ⟨by simp,rfl,by simp⟩
 unfold bf bU
 dsimp only
 have h3:=h2.o
 rw [List.nil_append] at h1 h3
 rw [h1,h3]
 rfl
theorem nN {l:List SProc}:∀(r:List SProc) (i:Int),(cb (aS l) r i).e=0→∀q∈r,∃j,(aS l j q).e=0
 | [],_,_,q,hq=>by cases hq
 | x::r,i,h,q,hq=>by
  rw [cb] at h
  split at h
  ·rename_i h1;exact absurd h h1
  ·rename_i h1
   rcases List.mem_cons.1 hq with rfl | hq
   ·exact⟨i,by simpa using h1⟩
   ·exact nN r (i+1) h q hq
theorem f3 {pg:SProg}(h:(bJ pg).e=0):∀q∈pg.procs,bf q=bU q:=fun q hq=>by
 obtain⟨j,hj⟩:=nN _ _ (ii h).2.1 q hq
 exact DO hj
def gT (q:SProc)(k:Int):List Int:=match q.steps[k.toNat]? with
 | some s=>jK q.terms s
 | none=>[]
theorem A0 {q:SProc}{k:Int}{s:SStep}(h:q.steps[k.toNat]? =some s):gT q k=(dF s).flatMap (postS q.terms):=by unfold gT;rw [h];rfl
theorem kA (q:SProc):(bu q).flatMap (gT q)=termL q:=rfl
def CsAll (H:Hp)(C:List SCast):Prop:=∀c∈C,RdSl H 1 I64.cells (.slice c.ap.1 c.args.length c.ap.2) c.args
def s00:SStep:=⟨0,[],[],[],[],0,[],(none,0),[],(none,0),[],(none,0),0⟩
def Cm (q:SProc)(k:Int):SStep:=q.steps[k.toNat]?.getD s00
def jt (q:SProc)(k:Int):SStep:=cC (bu q) (termL q) (Cm q k)
theorem lG {q:SProc}:∀{L:List Int},(∀k∈L,0≤k∧k<q.steps.length)→gr q L=L.map (jt q)
 | [],_=>rfl
 | k::r,h=>by
  have hx:=List.getElem?_eq_getElem (l:=q.steps) (i:=k.toNat) (by have:=h k sq;omega)
  unfold gr
  rw [List.filterMap_cons,hx,List.map_cons]
  have:=lG (L:=r) (fun j hj=>h j (by simp [hj]))
  unfold gr at this
  simp only [Option.map_some]
  rw [this]
  unfold jt Cm
  rw [hx];rfl
theorem AZ {ts:List Term}{k:Int}{t:Term}(h:ts[k.toNat]? =some t):vA ts k=t:=by unfold vA;rw [h];rfl
end Go.Sx
namespace Go.Sx
open Go
theorem rJ {f g:Int→SProc→SFault}{m:SProc→SProc}:∀(l:List SProc) (i:Int),(∀j,∀q∈l,g j (m q)=f j q)→cb g (l.map m) i=cb f l i
 | [],_,_=>rfl
 | q::r,i,h=>by
  rw [List.map_cons]
  unfold cb
  rw [h i q sq,rJ r (i+1) (fun j x hx=>h j x (by simp [hx]))]
end Go.Sx
