import Derived.Test.YtjnlogbbcceaoaaGreatR10
import Derived.Lib.ItoaNum
set_option linter.all false
set_option maxRecDepth 100000
set_option maxHeartbeats 32000000
namespace Go.Sx
open Go Go.Proofs
theorem uO {H:Hp}{q:SProc}(hQ:ProcOk H q)(hS:bK q)(hn1:1≤q.steps.length)(hn80:q.steps.length≤80)(a:Int):
  Fn Tryz.prog 21 [.agg q.cells.toArray,.int .i64 a] H (fun v H1=>∃q2:SProc,v= .agg q2.cells.toArray∧ProcOk H1 q2∧TurnR q q2):=by
 refine Fn.enter Tryz.func21 Tryz.ntmps21 rfl rfl (fun w0=>?_)
 refine zm2 ?_
 refine TL.box rfl rfl (fun b2=>?_)
 refine TL.alloc rfl (fun b4=>?_)
 refine TL.nil (af (gX ?_));refine TL.run (ah rfl rfl hQ.s) rfl (zm1 ?_);refine mp ?_
 refine TL.alloc rfl (fun b6=>?_)
 refine fb ?_;refine xO ?_
 refine TL.append (enc:=SStep.cells) rfl rfl rfl (OwnSl.nil (enc:=SStep.cells)) (Src.sl hQ.s) (by simp;omega) rfl (.new _ rfl) rfl (fun a19 c19 ob19 hO19=>?_)
 refine o6 ?_
 replace hO19:=hO19.cast (List.nil_append _)
 refine af (lm ?_)
 refine ag rfl ?_ ?_<;>intro c22
 ·
  refine qP ?_;refine aI (TX.pubO hO19 (.s2 (.skip _ .all)) sq (fun H9 le9 hR9=>?_))
  have hPO:ProcOk H9 (⟨q.name,q.params,q.pp,q.terms,q.tp,q.steps,(a19,c19)⟩:SProc):=by have h:=hQ.le le9;exact⟨h.pa,h.pz,h.pl,h.t,h.tn,hR9,h.ss⟩
  exact aR (.inr rfl) (ad rfl (RVal.cellA rfl (.h1) rfl)) ⟨(⟨q.name,q.params,q.pp,q.terms,q.tp,q.steps,(a19,c19)⟩:SProc),rfl,hPO,.same rfl rfl rfl rfl⟩
 refine lq ?_;refine TL.run (fk rfl) rfl (zm0 ?_);refine q6 ?_;refine TL.run (fk rfl) rfl (TL.run (km rfl rfl (by rw [mv om om];omega)) rfl (TL.run (fk rfl) rfl ?_))
 have hk0:=mQ a (n:=(q.steps.length:Int) - 2) om om
 generalize hkE:IntKind.i64.wrap ((IntKind.u64.wrap a).tmod (IntKind.u64.wrap ((q.steps.length:Int) - 2)))=k0 at hk0 ⊢
 refine nv ?_
 generalize hkk:(1:Int)+k0=k
 have k1:1≤k:=by omega
 have k2:k+1<q.steps.length:=by omega
 obtain⟨sa,hsa⟩:=ao (l:=q.steps) (i:=k) om om
 obtain⟨sb,hsb⟩:=ao (l:=q.steps) (i:=k+1) om om
 have hsao:=hQ.ss sa (List.mem_of_getElem? hsa)
 obtain⟨hma,_⟩:=hS _ _ hsa
 have hsz:=fH hma
 have hne:=nY hma
 refine af (xO ?_);refine zm0 ?_;refine xK ?_;refine TL.run (bg hQ.s hsa rfl rfl) rfl (da (ab rfl rfl rfl rfl) (Ap sa hsao om) rfl (fun v37 H37 ob37 hle37 hp37=>?_))
 obtain⟨eH37,hO37⟩:=hp37
 subst H37
 obtain⟨a37,c37,rfl⟩:=hO37.form
 refine TL.pubO hO37 (.s3 (.past _ .all)) sq (fun HP37 leP37 hR37=>?_)
 refine aM (L':=(b6,_)::((b4,_)::((b2,_)::(ob19)))) (fE [(b6,_),(b4,_),(b2,_)] (A:=ob19)) ?_
 replace hQ:=hQ.le leP37
 rw [hne] at hR37 ⊢
 have hR37m:=hR37.max
 refine xJ ?_
 refine TC.loop (V:=fun i=>[(9,.int .i64 i)]) (K:=[(4,_),(5,_),(6,_),(7,_),(8,_)]) (L:=fun i=>_) (I:=fun i=>(0≤i∧i≤(aG sa).length)∧k+1∉(aG sa).take i.toNat) (μ:=fun i=>((aG sa).length - i).toNat) (i:=(0:Int)) ky ⟨o2q,by simp⟩ (fun w hw=>hw) (fun i hI=>?_)
 obtain⟨⟨i0,i1⟩,hNo⟩:=hI
 refine f3 ?_;refine TL.run (ah rfl rfl hR37) rfl (zm1 ?_)
 refine ag rfl ?_ ?_<;>intro c41
 ·
  obtain⟨t,ht⟩:=ao (l:=aG sa) i0 c41
  refine o7 ?_;refine TL.run (ae rfl hR37 rfl om om) rfl (TL.run (aQ hR37 ht rfl rfl) rfl (uw ?_));refine zm1 ?_
  refine ag rfl ?_ ?_<;>intro c50
  ·
   refine qP ?_;refine iM ?_
   refine TX.pubO hO19 (.s2 (.skip _ .all)) sq (fun H9 le9 hR9=>?_)
   have hPO:ProcOk H9 (⟨q.name,q.params,q.pp,q.terms,q.tp,q.steps,(a19,c19)⟩:SProc):=by have h:=hQ.le le9;exact⟨h.pa,h.pz,h.pl,h.t,h.tn,hR9,h.ss⟩
   exact aR (.inr rfl) (ad rfl (RVal.cellA rfl (.h1) rfl)) ⟨(⟨q.name,q.params,q.pp,q.terms,q.tp,q.steps,(a19,c19)⟩:SProc),rfl,hPO,.same rfl rfl rfl rfl⟩
  refine gG ?_
  exact aS (i+1) ⟨o2q,by rw [jx i0 ht];intro hm;rcases List.mem_append.1 hm with hm | hm;exact hNo hm;rw [List.mem_singleton] at hm;exact c50 hm.symm⟩ ky (fun w hw=>hw) om
 have hno:k+1∉aG sa:=by rw [List.take_of_length_le om] at hNo;exact hNo
 refine gh ?_;refine eH ?_
 refine TD.part 4 19 rfl rfl rfl ?_ ?_
 ·
  refine zm385 ?_;refine lX ?_;refine lX ?_;refine qq ?_;refine lX ?_;refine qq ?_;refine uv ?_;refine aK (n6 (i:=(k+1).toNat) rfl hO19 (.s2 (.skip _ .all)) hsb) rfl (lX ?_)
  refine uv ?_;refine aK (n6 (i:=k.toNat) rfl hO19 (.s2 (.skip _ .all)) hsa) rfl (uv ?_)
  refine bf (iq (i:=k.toNat) (a':=sb) rfl rfl rfl rfl hO19 (.s2 (.skip _ .all)) om rfl (fun obA eobA hobA=>?_))
  exact bj (zq249)
 refine zm386 ?_;refine lX ?_;refine zm4 ?_;refine zm5 ?_;refine qq ?_;refine lX ?_;refine qq ?_;refine uv ?_
 refine aK (n6 (i:=(k+1).toNat) rfl hO19 (.s2 (.skip _ .all)) hsb) rfl (lX ?_);refine uv ?_;refine aK (n6 (i:=k.toNat) rfl hO19 (.s2 (.skip _ .all)) hsa) rfl (uv ?_)
 refine bf (iq (i:=k.toNat) (a':=sb) rfl rfl rfl rfl hO19 (.s2 (.skip _ .all)) om rfl (fun obA eobA hobA=>?_))
 refine bj (lj ?_)
 exact zq249
end Go.Sx
namespace Go.Sx
open Go
theorem zt {u:Nat}(h:10≤u):Lib.decDigits u=Lib.decDigits (u / 10)++[UInt8.ofNat (48+u % 10)]:=by
 rw [Lib.decDigits,dif_neg om]
theorem dec_len (k : Nat) : ∀ u : Nat, u < 10 ^ k → (Lib.decDigits u).length ≤ max k 1 := by
  induction k with
  | zero => intro u h; have : u = 0 := by simpa using h
            subst this; rw [Lib.decDigits_one dq]; simp
  | succ k ih =>
    intro u h
    by_cases h10 : u < 10
    · rw [Lib.decDigits_one h10]; simp
    · rw [zt om]
      have := ih (u / 10) (by rw [Nat.pow_succ] at h; omega)
      simp only [List.length_append, List.length_cons, List.length_nil]
      have h2 : 1 ≤ (Lib.decDigits (u / 10)).length := by
        rw [Lib.decDigits]; split <;> simp
      rcases Nat.eq_zero_or_pos k with rfl | hk
      · simp at h; omega
      · omega
def DigI (m u z:Nat)(o:List UInt8):Prop:=m≤9223372036854775808∧((o=[]∧u=m∧z=1)∨(o≠[]∧z=0∧u≤m∧(if u=0 then o else Lib.decDigits u++o)=Lib.decDigits m))
section
variable {m u z:Nat}{o:List UInt8}{n:Int}
theorem DigI.zero (h0: -9223372036854775808≤n)(h1:n≤9223372036854775807):DigI n.natAbs n.natAbs 1 []:=⟨by omega,.inl ⟨rfl,rfl,rfl⟩⟩
theorem DigI.lt (h:DigI m u z o):u<18446744073709551616:=by
 obtain⟨h0,⟨_,h,_⟩ | ⟨_,_,h,_⟩⟩:=h<;>omega
theorem DigI.len (h : DigI m u z o) : o.length ≤ 20 := by
  obtain ⟨h0, ⟨h, _⟩ | ⟨_, _, _, h⟩⟩ := h
  · rw [h]; simp
  · have h2 := dec_len 20 m (by have : (10 : Nat) ^ 20 = 100000000000000000000 := by decide
                                omega)
    have h3 := congrArg List.length h
    split at h3
    · omega
    · simp only [List.length_append] at h3; omega
theorem DigI.next (h:DigI m u z o)(hg:0<u∨o.length=0):DigI m (u / 10) 0 ([UInt8.ofNat (48+u % 10)]++o):=by
 obtain⟨h0,h⟩:=h
 refine⟨h0,.inr ⟨by simp,rfl,?_,?_⟩⟩
 ·rcases h with ⟨_,rfl,_⟩ | ⟨_,_,h,_⟩<;>omega
 ·have key:0<u→(if u / 10=0 then [UInt8.ofNat (48+u % 10)]++o else Lib.decDigits (u / 10)++([UInt8.ofNat (48+u % 10)]++o))=Lib.decDigits u++o:=by
   intro hu
   split
   ·rw [Lib.decDigits_one om,show u % 10=u by omega]
   ·rw [zt (u:=u) om];simp
  rcases h with ⟨rfl,rfl,_⟩ | ⟨hne,_,_,h⟩
  ·rcases Nat.eq_zero_or_pos u with rfl | hu
   ·rw [Lib.decDigits_one dq];rfl
   ·rw [key hu];simp
  ·have hu:0<u:=by
    rcases hg with h | h
    ·exact h
    ·exact absurd (List.length_eq_zero_iff.1 h) hne
   rw [key hu,← h,if_neg om]
theorem DigI.down (h:DigI m u z o)(hg:0<u∨o.length=0):u / 10+0<u+z:=by
 obtain⟨h0,⟨_,_,rfl⟩ | ⟨hne,rfl,_,_⟩⟩:=h
 ·omega
 ·rcases hg with h | h
  ·omega
  ·exact absurd (List.length_eq_zero_iff.1 h) hne
theorem dgo_1 (h:decide ((0:Int)<(u:Int))=true):true=(decide (0<u)||decide (o.length=0)):=by
 have:0<u:=by have:=of_decide_eq_true h;omega
 simp [this]
theorem dgo_2 (h:decide ((0:Int)<(u:Int))=false):decide ((o.length:Int)=0)=(decide (0<u)||decide (o.length=0)):=by
 have:¬0<u:=by have:=of_decide_eq_false h;omega
 have e:((o.length:Int)=0)↔o.length=0:=by omega
 simp only [this,decide_false,Bool.false_or]
 exact decide_eq_decide.2 e
theorem dgo_T (h:(decide (0<u)||decide (o.length=0))=true):0<u∨o.length=0:=by simpa only [Bool.or_eq_true,decide_eq_true_eq] using h
theorem dgo_F (h:(decide (0<u)||decide (o.length=0))=false):¬0<u∧¬o.length=0:=by simpa only [Bool.or_eq_false_iff,decide_eq_false_iff_not] using h
theorem DigI.out (h:DigI m u z o)(hu:¬0<u)(ho:¬o.length=0):o=Lib.decDigits m:=by
 obtain⟨h0,⟨rfl,_⟩ | ⟨_,_,_,h⟩⟩:=h
 ·exact absurd rfl ho
 ·rwa [if_pos om] at h
theorem zr (hD:DigI n.natAbs u z o)(hend:¬0<u∧¬o.length=0)(h:n<0):[45]++o=Lib.itoa n:=by
 rw [hD.out hend.1 hend.2];unfold Lib.itoa;rw [if_pos h];rfl
theorem zq (hD:DigI n.natAbs u z o)(hend:¬0<u∧¬o.length=0)(h:¬n<0):o=Lib.itoa n:=by
 rw [hD.out hend.1 hend.2];unfold Lib.itoa;rw [if_neg h];congr 1;omega
theorem dig_quo (h:u<18446744073709551616):IntKind.u64.wrap ((u:Int).tdiv 10)=((u / 10:Nat):Int):=by
 rw [Int.tdiv_eq_ediv_of_nonneg om]
 simp only [IntKind.wrap,IntKind.signed,IntKind.bits]
 simp
 omega
theorem E8 (u:Nat):IntKind.u8.wrap (IntKind.u64.wrap (48+(u:Int).tmod 10))=((UInt8.ofNat (48+u % 10)).toNat:Int):=by
 rw [Int.tmod_eq_emod_of_nonneg om]
 simp only [IntKind.wrap,IntKind.signed,IntKind.bits]
 simp
theorem dig_pos (h0: -9223372036854775808≤n)(h1:n≤9223372036854775807)(h:¬n<0):IntKind.u64.wrap n=(n.natAbs:Int):=by
 simp only [IntKind.wrap,IntKind.signed,IntKind.bits]
 simp
 omega
theorem dig_neg (h0: -9223372036854775808≤n)(h1:n≤9223372036854775807)(h:n<0):IntKind.u64.wrap (0 - IntKind.u64.wrap n)=(n.natAbs:Int):=by
 simp only [IntKind.wrap,IntKind.signed,IntKind.bits]
 simp
 omega
end
end Go.Sx
namespace Go.Sx
open Go Go.Proofs
theorem AA {H:Hp}(n:Int)(h0: -9223372036854775808≤n)(h1:n≤9223372036854775807)(hn:¬n<0):
  FnS Tryz.prog 181 [.int .i64 n] H (gs (Lib.itoa n)):=by
 refine FnS.enter Tryz.func181 Tryz.ntmps181 rfl rfl (fun w0=>?_)
 refine mo ?_;refine TL.run (PR.to (fk rfl) (congrArg (Value.int .u64) (dig_pos h0 h1 hn))) rfl (o5 ?_)
 refine ag rfl ?_ ?_<;>intro c8
 · exact absurd c8 hn
 exact TC.skip (zq475)
theorem Az {H:Hp}(n:Int)(h0: -9223372036854775808≤n)(h1:n≤9223372036854775807)(hn:n<0):
  FnS Tryz.prog 181 [.int .i64 n] H (gs (Lib.itoa n)):=by
 refine FnS.enter Tryz.func181 Tryz.ntmps181 rfl rfl (fun w0=>?_)
 refine mo ?_;refine TL.run (fk rfl) rfl (o5 ?_)
 refine ag rfl ?_ ?_<;>intro c8
 ·
  refine iX ?_;refine TL.run (PR.to (aJ rfl) (congrArg (Value.int .u64) (dig_neg h0 h1 hn))) rfl (dN ?_)
  exact zq475
 exact absurd hn c8
theorem vO {H:Hp}(n:Int)(h0: -9223372036854775808≤n)(h1:n≤9223372036854775807):FnS Tryz.prog 181 [.int .i64 n] H (gs (Lib.itoa n)):=by
 by_cases hn:n<0
 · exact Az n h0 h1 hn
 · exact AA n h0 h1 hn
end Go.Sx
namespace Go.Sx
open Go Go.Proofs
theorem bq {H:Hp}{bd:Nat}{dl:Value}{at_:Int}(n:Int)(hn:n≤1000000000)(hd:DiceOk H dl at_):
  DFn Tryz.prog bd dl at_ 65 [.int .i64 n] H (fun v H1 ob=>ob=[]∧(H1=H∧∃r,v= .int .i64 r∧PickR n r)):=by
 obtain⟨l,hl,ha0,ha1⟩:=hd.l
 have hmax:=hl.max
 refine FnX.enter Tryz.func65 Tryz.ntmps65 rfl rfl (fun w0=>?_)
 refine zm7 ?_;refine oJ ?_;refine iZ ?_;refine TQ.run (aJ rfl) rfl (fT (s:=7) rfl (fun g7=>?_) (fun g7=>?_))
 ·
  have q7:=of_decide_eq_true g7
  refine Dy ?_;refine Dy ?_;refine jQ rfl rfl rfl rfl (jQ rfl rfl rfl rfl (lE ?_));refine dt rfl (lF ?_)
  exact aZ (.inr rfl) (ad rfl (RVal.tmp rfl)) (fun w hw=>hw) ⟨_,[],rfl,⟨l,hl,ha0,ha1⟩,rfl,rfl,_,rfl,⟨by omega,fun h=>by omega,fun _=>rfl⟩⟩
 have q7:=of_decide_eq_false g7
 refine bA rfl rfl (aJ rfl) rfl (bA rfl rfl (bH rfl) rfl (xI ?_));refine bA rfl rfl (aJ rfl) rfl (bA rfl rfl (bH rfl) rfl (xI ?_));refine bA rfl rfl (ah rfl rfl hl) rfl (xH ?_)
 refine ag rfl ?_ ?_<;>intro c18
 ·
  refine lF ?_
  exact aZ (.inr rfl) (ad rfl (RVal.tmp rfl)) (fun w hw=>hw) ⟨_,[],rfl,⟨l,hl,ha0,ha1⟩,rfl,rfl,_,rfl,⟨by omega,fun h=>by omega,fun _=>rfl⟩⟩
 have hn1:1≤n∧at_<l.length:=by omega
 obtain⟨x,hx⟩:=ao (l:=l) (i:=at_+1 - 1) om om
 refine lq ?_;refine qO ?_;refine jX ?_;refine TL.run (bH rfl) rfl (qo ?_);refine oJ ?_;refine uu ?_;refine o4 ?_;refine TQ.run (bH rfl) rfl (gE ?_)
 refine TQ.run (aB rfl (.here _) rfl) rfl (TQ.run ((by first | exact fw rfl rfl om om | exact aJ rfl)) rfl (TQ.run (ae rfl hl rfl om om) rfl (TQ.run (aQ hl hx rfl rfl) rfl ?_)))
 refine TQ.run (fk rfl) rfl (TQ.run (aJ rfl) rfl (TQ.run (fk rfl) rfl (TQ.run (km rfl rfl (by rw [mv om om];omega)) rfl ?_)));refine TQ.run (fk rfl) rfl (lE ?_)
 exact TC.ret (aZ (.inr rfl) (ad rfl (RVal.tmp rfl)) (fun w hw=>hw) ⟨_,[],rfl,⟨l,hl,by omega,by omega⟩,rfl,rfl,_,rfl,⟨(mQ x (n:=n) om hn).1,fun _=>(mQ x (n:=n) om hn).2,fun h=>absurd h om⟩⟩)
theorem cZ {H:Hp}(k:Int):
  FnS Tryz.prog 71 [.int .i64 k] H (.agg (TStep.cells ⟨k,[],[],[],[], -1,none,0,0,none,0,0,none,0,0, -1⟩).toArray):=by
 refine FnS.enter Tryz.func71 Tryz.ntmps71 rfl rfl (fun w0=>?_)
 refine zm2 ?_
 refine TL.alloc rfl (fun b2=>?_)
 refine iu ?_;refine dw ?_;refine jq ?_
 exact ax (.inr rfl) (ad rfl (RVal.cellA rfl (.here _) rfl)) rfl
end Go.Sx
namespace Go.Sx
open Go Go.Proofs
theorem New_ok {H:Hp}{v:Value}{l:List Int}(hl:RdSl H 1 I64.cells v l)(hm:l.length≤1000000000000):
  FnO Tryz.prog 28 [v] H (fun v H1 ob=>∃bd dl,v= .pointer (some ⟨bd,0,none⟩)∧ob=[(bd,[dl,.int .i64 0])]∧DiceOk H1 dl 0):=by
 refine FnO.enter Tryz.func28 Tryz.ntmps28 rfl rfl (fun w0=>?_)
 refine mo ?_
 refine TL.append (enc:=I64.cells) rfl rfl rfl (OwnSl.nil (enc:=I64.cells)) (Src.sl hl) (by simp;omega) rfl (.new _ rfl) rfl (fun a4 c4 ob4 hO4=>?_)
 refine dw ?_
 refine TL.box rfl rfl (fun b6=>?_)
 refine dN ?_
 refine TX.pubO hO4 (.skip _ .all) sq (fun H1 hle1 hR=>?_)
 exact af (TC.ret (ef (.inr rfl) (ad rfl (RVal.tmp rfl)) .all ⟨_,_,rfl,rfl,⟨_,hR,by omega,by simp⟩⟩))
theorem jI {H:Hp}:
  Fn Tryz.prog 26 [] H (fun v H1=>RdSl H1 1 Str.cells v rolesL):=by
 refine Fn.enter Tryz.func26 Tryz.ntmps26 rfl rfl (fun w0=>?_)
 refine ye ?_
 refine aD rfl rfl rfl rfl (fun b1=>?_)
 refine dN ?_
 refine TX.pub sq (fun H_b1 le_b1 rd_b1=>?_)
 have hR:RdSl H_b1 1 Str.cells _ (rolesL):=RdSl.blk (cap:=5) rd_b1 (by intro x hx;rfl) kr (by show 5≤9223372036854775807;decide)
 exact af (TC.ret (aR (.inr rfl) (ad rfl (RVal.tmp rfl)) hR))
theorem eO {H:Hp}:
  Fn Tryz.prog 27 [] H (fun v H1=>RdSl H1 1 Str.cells v labelsL):=by
 refine Fn.enter Tryz.func27 Tryz.ntmps27 rfl rfl (fun w0=>?_)
 refine ye ?_
 refine aD rfl rfl rfl rfl (fun b1=>?_)
 refine dN ?_
 refine TX.pub sq (fun H_b1 le_b1 rd_b1=>?_)
 have hR:RdSl H_b1 1 Str.cells _ (labelsL):=RdSl.blk (cap:=4) rd_b1 (by intro x hx;rfl) kr (by show 4≤9223372036854775807;decide)
 exact af (TC.ret (aR (.inr rfl) (ad rfl (RVal.tmp rfl)) hR))
theorem gq {H:Hp}{bd:Nat}{dl:Value}{at_:Int}(hd:DiceOk H dl at_):
  DFn Tryz.prog bd dl at_ 192 [] H (fun v H1 ob=>ob=[]∧(H1=H∧∃k,v= .agg #[.int .i64 k,gs []]∧0≤k∧k≤4)):=by
 refine FnX.enter Tryz.func192 Tryz.ntmps192 rfl rfl (fun w0=>?_)
 refine zm2 ?_
 refine TL.alloc rfl (fun b2=>?_)
 refine gF ?_
 refine aD rfl rfl rfl rfl (fun b3=>?_)
 refine zm0 ?_
 refine aE (X:=[(b3,_),(b2,_)]) (bd:=bd) rfl (ab rfl rfl rfl rfl) (bq 6 om hd) rfl (fun v5 H5 at5 hle5 hd5 hp5=>?_)
 obtain⟨eH5,r5,rfl,hr5⟩:=hp5
 replace eH5:=eH5.symm;subst eH5
 have hra5:=hr5.1
 have hrb5:=hr5.2.1 om
 obtain⟨k,hk,hxk⟩:=data_at hra5 hrb5
 refine fp ?_;refine TL.run (aB rfl (.here _) hxk) rfl (dw ?_);refine mb ?_
 exact aZ (.inr rfl) (ad rfl (RVal.cellA rfl (.h1) rfl)) (fun w hw=>hw.drop.drop) ⟨_,[],rfl,hd5,rfl,rfl,_,rfl,hk⟩
theorem fI {H:Hp}{bd:Nat}{dl:Value}{at_:Int}(hd:DiceOk H dl at_){tv:Value}{types:List Str}(hty:RdSl H 1 Str.cells tv types)(htn:∀s∈types,TyNm s)(htl:types.length≤100):
  DFn Tryz.prog bd dl at_ 193 [tv] H (fun v H1 ob=>ob=[]∧(H1=H∧∃k nm,v= .agg #[.int .i64 k,gs nm]∧CarOk types k nm)):=by
 refine FnX.enter Tryz.func193 Tryz.ntmps193 rfl rfl (fun w0=>?_)
 refine zm2 ?_
 refine TL.alloc rfl (fun b4=>?_)
 refine TL.nil (af (jR ?_));refine TL.run (ah rfl rfl hty) rfl (zm3 ?_)
 refine ai (s:=8) rfl ?_ ?_<;>intro g8
 ·
  have q8:=of_decide_eq_true g8
  refine cK ?_;refine TL.gd rfl rfl (aE (X:=[(b4,_)]) (bd:=bd) rfl (ab rfl rfl rfl rfl) (bq 4 om hd) rfl (fun v10 H10 at10 hle10 hd10 hp10=>?_))
  obtain⟨eH10,r10,rfl,hr10⟩:=hp10
  replace eH10:=eH10.symm;subst eH10
  have hra10:=hr10.1
  have hrb10:=hr10.2.1 om
  refine gi ?_
  refine ag rfl ?_ ?_<;>intro c12
  ·
   refine gw ?_;refine TL.run (ah rfl rfl hty) rfl (aE (X:=[(b4,_)]) (bd:=bd) rfl (ab rfl rfl rfl rfl) (bq (types.length:Int) om hd10) rfl (fun v17 H17 at17 hle17 hd17 hp17=>?_))
   obtain⟨eH17,r17,rfl,hr17⟩:=hp17
   replace eH17:=eH17.symm;subst eH17
   have hra17:=hr17.1
   have hrb17:=hr17.2.1 om
   obtain⟨s,hx⟩:=ao (l:=types) hra17 hrb17
   refine TL.run (ae rfl hty rfl om om) rfl (TL.run (aQ hty hx rfl rfl) rfl (dw ?_));refine jq ?_
   exact aI (aZ (.inr rfl) (ad rfl (RVal.cellA rfl (.here _) rfl)) (fun w hw=>hw.drop) ⟨_,[],rfl,hd17,rfl,rfl,_,_,rfl,.inr ⟨rfl,List.mem_of_getElem? hx⟩⟩)
  refine lq ?_
  refine aE (X:=[(b4,_)]) (bd:=bd) rfl (ab rfl rfl rfl rfl) (gq hd10) rfl (fun v22 H22 at22 hle22 hd22 hp22=>?_)
  obtain⟨eH22,k22,rfl,hk22⟩:=hp22
  replace eH22:=eH22.symm;subst eH22
  refine jq ?_
  exact aZ (.inr rfl) (ad rfl (RVal.cellA rfl (.here _) rfl)) (fun w hw=>hw.drop) ⟨_,[],rfl,hd22,rfl,rfl,_,_,rfl,.inl ⟨hk22.1,hk22.2,rfl⟩⟩
 have q8:=of_decide_eq_false g8
 refine jn ?_;refine pP ?_;refine lq ?_
 refine aE (X:=[(b4,_)]) (bd:=bd) rfl (ab rfl rfl rfl rfl) (gq hd) rfl (fun v22 H22 at22 hle22 hd22 hp22=>?_)
 obtain⟨eH22,k22,rfl,hk22⟩:=hp22
 replace eH22:=eH22.symm;subst eH22
 refine jq ?_
 exact aZ (.inr rfl) (ad rfl (RVal.cellA rfl (.here _) rfl)) (fun w hw=>hw.drop) ⟨_,[],rfl,hd22,rfl,rfl,_,_,rfl,.inl ⟨hk22.1,hk22.2,rfl⟩⟩
theorem ES {H:Hp}{bd:Nat}{dl:Value}{at_:Int}(hd:DiceOk H dl at_){tv:Value}{types:List Str}(hty:RdSl H 1 Str.cells tv types)(htn:∀s∈types,TyNm s)(htl:types.length≤100)(places:Int)(h1:1≤places)(h2:places≤1000):
  DFn Tryz.prog bd dl at_ 169 [tv,.int .i64 places] H (fun v H1 ob=>ob=[]∧(H.le H1∧∃l:List SArm,RdSl H1 4 SArm.cells v l∧ArmsG types places l)):=by
 have hty0:=hty
 refine FnX.enter Tryz.func169 Tryz.ntmps169 rfl rfl (fun w0=>?_)
 refine k4 ?_;refine mo ?_
 refine aE (X:=[]) (bd:=bd) rfl (ab rfl rfl rfl rfl) (bq 3 om hd) rfl (fun v12 H12 at12 hle12 hd12 hp12=>?_)
 obtain⟨eH12,r12,rfl,hr12⟩:=hp12
 replace eH12:=eH12.symm;subst eH12
 have hra12:=hr12.1
 have hrb12:=hr12.2.1 om
 refine jX ?_;refine k6 ?_
 refine aE (X:=[]) (bd:=bd) rfl (ab rfl rfl rfl rfl) (bq 4 om hd12) rfl (fun v15 H15 at15 hle15 hd15 hp15=>?_)
 obtain⟨eH15,r15,rfl,hr15⟩:=hp15
 replace eH15:=eH15.symm;subst eH15
 have hra15:=hr15.1
 have hrb15:=hr15.2.1 om
 refine xJ ?_
 refine aW (V:=fun(p:Int×Int) v ob H1=>[(7,v),(10,.int .i64 p.1)]) (K:=[(0,_),(1,_),(2,_),(6,_),(8,_),(9,_)]) (L:=fun(p:Int×Int) v ob H1=>St (keys [(bd,[dl,.int .i64 at_])]) w0 H H1 ((bd,[dl,.int .i64 p.2])::ob)) (I:=fun(p:Int×Int) v ob H1=>(0≤p.1∧p.1≤1+r12)∧DiceOk H1 dl p.2∧H.le H1∧∃l:List SArm,OwnSl 4 SArm.cells v l ob∧(l.length:Int)=p.1∧ArmsI types places r15.toNat l) (μ:=fun(p:Int×Int)=>(1+r12 - p.1).toNat) (0,at15) (.slice none 0 0) [] H ky ⟨o2q,hd15,.refl _,[],OwnSl.nil,rfl,.nil⟩ (fun w hw=>hw) (fun p v ob H1 hI=>?_)
 obtain⟨⟨k0,k1⟩,hI2,hI3,l,hO,hI5,hI6⟩:=hI
 replace hty:=hty0.le hI3
 refine f3 ?_;refine zm1 ?_
 refine ag rfl ?_ ?_<;>intro c18
 ·
  obtain⟨lb,hlx,hlb⟩:=EV (f:=r15) (k:=p.1) hra15 k0
  have hm4:=tmod4 (x:=r15+p.1) om
  have hl4:labelsL.length=4:=rfl
  refine w5 ?_
  refine TD.part 7 10 rfl rfl rfl ?_ ?_
  ·
   refine aT [false] [(0,1),(2,1),(3,1),(4,1),(5,1),(8,1),(9,1),(11,1),(12,1),(1,3),(6,1),(7,2),(10,5),(13,5),(14,1),(15,3),(16,5),(17,1)] kr kr (ut ?_)
   refine qq ?_;refine aq (km rfl rfl dq) rfl (xG ?_)
   refine TF.call (ab rfl rfl rfl rfl) (eO) rfl (fun v22 H22 hle22 hp22=>?_)
   replace hty:=hty.le hle22
   replace hI2:=hI2.le hle22
   have hll22:=hp22
   refine aq (ae rfl hll22 rfl om om) rfl (aK (aQ hll22 hlx rfl rfl) rfl (aw rfl (aE (X:=[]) (bd:=bd) rfl (ab rfl rfl rfl rfl) (fI hI2 hty htn htl) rfl (fun v31 H31 at31 hle31 hd31 hp31=>?_))))
   obtain⟨eH31,k31,nm31,rfl,hc31⟩:=hp31
   replace eH31:=eH31.symm;subst eH31
   refine az SN hle22 (aw rfl (aE (X:=[]) (bd:=bd) rfl (ab rfl rfl rfl rfl) (bq places om hd31) rfl (fun v34 H34 at34 hle34 hd34 hp34=>?_)))
   obtain⟨eH34,r34,rfl,hr34⟩:=hp34
   replace eH34:=eH34.symm;subst eH34
   have hra34:=hr34.1
   have hrb34:=hr34.2.1 om
   exact az SN hle22 (C3)
  refine TD.part 7 13 rfl rfl rfl ?_ ?_
  ·
   refine aT [false] [(0,1),(2,1),(3,1),(4,1),(5,1),(8,1),(9,1),(11,1),(12,1),(1,3),(6,1),(10,5),(7,2),(13,5),(14,1),(15,3),(16,5),(17,1)] kr kr (ut ?_)
   refine qq ?_;refine aq (km rfl rfl dq) rfl (xG ?_)
   refine TF.call (ab rfl rfl rfl rfl) (eO) rfl (fun v22 H22 hle22 hp22=>?_)
   replace hty:=hty.le hle22
   replace hI2:=hI2.le hle22
   have hll22:=hp22
   refine aq (ae rfl hll22 rfl om om) rfl (aw rfl (aE (X:=[]) (bd:=bd) rfl (ab rfl rfl rfl rfl) (fI hI2 hty htn htl) rfl (fun v31 H31 at31 hle31 hd31 hp31=>?_)))
   obtain⟨eH31,k31,nm31,rfl,hc31⟩:=hp31
   replace eH31:=eH31.symm;subst eH31
   refine az SN hle22 (aK (aQ hll22 hlx rfl rfl) rfl (aw rfl (aE (X:=[]) (bd:=bd) rfl (ab rfl rfl rfl rfl) (bq places om hd31) rfl (fun v34 H34 at34 hle34 hd34 hp34=>?_))))
   obtain⟨eH34,r34,rfl,hr34⟩:=hp34
   replace eH34:=eH34.symm;subst eH34
   have hra34:=hr34.1
   have hrb34:=hr34.2.1 om
   exact az SN hle22 (C3)
  refine aT [false] [(0,1),(2,1),(3,1),(4,1),(5,1),(8,1),(9,1),(11,1),(12,1),(1,3),(6,1),(10,5),(13,5),(7,2),(14,1),(15,3),(16,5),(17,1)] kr kr (ut ?_)
  refine qq ?_;refine aq (km rfl rfl dq) rfl (xG ?_)
  refine TF.call (ab rfl rfl rfl rfl) (eO) rfl (fun v22 H22 hle22 hp22=>?_)
  replace hty:=hty.le hle22
  replace hI2:=hI2.le hle22
  have hll22:=hp22
  refine aq (ae rfl hll22 rfl om om) rfl (aw rfl (aE (X:=[]) (bd:=bd) rfl (ab rfl rfl rfl rfl) (fI hI2 hty htn htl) rfl (fun v31 H31 at31 hle31 hd31 hp31=>?_)))
  obtain⟨eH31,k31,nm31,rfl,hc31⟩:=hp31
  replace eH31:=eH31.symm;subst eH31
  refine az SN hle22 (aw rfl (aE (X:=[]) (bd:=bd) rfl (ab rfl rfl rfl rfl) (bq places om hd31) rfl (fun v34 H34 at34 hle34 hd34 hp34=>?_)))
  obtain⟨eH34,r34,rfl,hr34⟩:=hp34
  replace eH34:=eH34.symm;subst eH34
  have hra34:=hr34.1
  have hrb34:=hr34.2.1 om
  exact az SN hle22 (aK (aQ hll22 hlx rfl rfl) rfl (C3))
 refine tw ?_
 refine dX (X:=[(bd,_)]) hO rfl (by simp [keys]) (fun H2 hle2 hR=>?_)
 exact aZ (.inr rfl) (ad rfl (RVal.tmp rfl)) (fun w hw=>hw) ⟨_,[],rfl,(hI2.le hle2),rfl,hI3.trans hle2,_,hR,hI6.fin om om⟩
end Go.Sx
namespace Go.Sx
open Go Go.Proofs
theorem yn {H:Hp}{bd:Nat}{dl:Value}{at_:Int}(hd:DiceOk H dl at_){tv:Value}{types:List Str}(hty:RdSl H 1 Str.cells tv types)(htn:∀s∈types,TyNm s)(htl:types.length≤100)(name:Str):
  DFn Tryz.prog bd dl at_ 168 [gs name,.int .i64 2,tv] H (fun v H1 ob=>ob=[]∧(H.le H1∧∃p:SProto,v= .agg p.cells.toArray∧ProtoOk H1 p∧p.name=name∧p.roles=rolesL.take 2∧kH p)):=by
 have hrl:(rolesL.take (2:Int).toNat).length=2:=rfl
 refine FnX.enter Tryz.func168 Tryz.ntmps168 rfl rfl (fun w0=>?_)
 refine zm2 ?_
 refine TL.alloc rfl (fun b8=>?_)
 refine iu ?_
 refine TL.call (ab rfl rfl rfl rfl) (jI) rfl (fun v19 H19 hle19 hp19=>?_)
 replace hd:=hd.le hle19
 replace hty:=hty.le hle19
 have hro19:=hp19
 obtain⟨ra19,rc19,rfl⟩:=hro19.len
 have hcp:5≤rc19:=hro19.room _ _ _ rfl
 have hsl:=hro19.sliced (i:=0) (j:=(2:Int).toNat) om dq
 have hle0:=hle19
 refine zm0 ?_;refine xF ?_
 refine TL.append (enc:=Str.cells) rfl rfl rfl (OwnSl.nil (enc:=Str.cells)) (Src.sl hsl) (by simp only [List.length_drop,List.length_nil];omega) rfl (.new _ rfl) rfl (fun a22 c22 ob22 hO22=>?_)
 refine dw ?_
 refine TL.alloc rfl (fun b9=>?_)
 refine xE ?_
 refine dX (X:=[(b9,_),(b8,_),(bd,_)]) hO22 rfl (by simp [keys]) (fun HR leR hR=>?_)
 replace hd:=hd.le leR
 replace hty:=hty.le leR
 replace hle0:=hle0.trans leR
 have hrs0:RdSl HR 1 Str.cells (.slice a22 (rolesL.take (2:Int).toNat).length c22) (rolesL.take (2:Int).toNat):=hR
 have hty1:=hty
 have hleR:=hle0
 refine af (tf (V:=fun(q:Q4)=>[(10,gs q.a),(11,gs q.b)]) (K:=[(0,_),(2,_),(3,_),(8,_),(9,_)]) ky (L:=fun(q:Q4)=>St (keys [(bd,[dl,.int .i64 at_])]) w0 H q.h [(b9,[gs name,.slice a22 (rolesL.take (2:Int).toNat).length c22,.slice none 0 0]),(b8,[gs [],.slice none 0 0,.slice none 0 0]),(bd,[dl,.int .i64 q.at_])]) (I:=fun(q:Q4)=>DiceOk q.h dl q.at_∧HR.le q.h) ?_ ?_)
 · exact C2
 intro q hI
 obtain⟨hI1,hI2⟩:=hI
 have hty:=hty1.le hI2
 have hrs:=hrs0.le hI2
 have hle:=hleR.trans hI2
 refine dM ?_
 refine aE (X:=[(b9,_),(b8,_)]) (bd:=bd) rfl (ab rfl rfl rfl rfl) (bq 2 om hI1) rfl (fun v36 H36 at36 hle36 hd36 hp36=>?_)
 obtain⟨eH36,r36,rfl,hr36⟩:=hp36
 replace eH36:=eH36.symm;subst eH36
 have hra36:=hr36.1
 have hrb36:=hr36.2.1 om
 refine lW ?_;refine dM ?_
 refine aE (X:=[(b9,_),(b8,_)]) (bd:=bd) rfl (ab rfl rfl rfl rfl) (gq hd36) rfl (fun v39 H39 at39 hle39 hd39 hp39=>?_)
 obtain⟨eH39,k39,rfl,hk39⟩:=hp39
 replace eH39:=eH39.symm;subst eH39
 refine TL.alloc rfl (fun b13=>?_)
 refine qN ?_;refine Dx ?_;refine AO ?_;refine ur ?_;refine ur ?_;refine zm5 ?_;refine A8 ?_;refine dZ ?_;refine uq ?_
 refine aF rfl rfl rfl rfl (fun b55=>?_)
 refine dZ ?_
 refine aF rfl rfl rfl rfl (fun b57=>?_)
 refine aw rfl (TL.append (enc:=SPoint.cells) rfl rfl rfl (OwnSl.nil (enc:=SPoint.cells)) (Src.own [⟨_,_,[⟨[],0,[],0⟩,⟨[],0,[],0⟩],(some ⟨b55,0,none⟩,2)⟩] (.here _) rfl rfl) sq rfl (.new _ rfl) rfl (fun a58 c58 ob58 hO58=>?_))
 refine az (S0 (S0 (S1 (S1 (S1 (S1 SN)))))) (Hp.le.refl _) (fu ?_);refine mn ?_;refine k7 ?_;refine j5 ?_;refine TC.rounds 1 (AN ?_);refine fU rfl (gh ?_);refine k4 ?_
 refine ag rfl ?_ ?_<;>intro c93
 ·
  refine eH ?_;refine zm387 ?_;refine mm ?_;refine mm ?_;refine zm5 ?_;refine aq (fw rfl rfl om om) rfl (l8 ?_);refine uo ?_;refine mm ?_;refine l8 ?_;refine uo ?_
  refine qM ?_
  refine aE (X:=[(b57,_),(b55,_),(b13,_),(b9,_),(b8,_)]) (bd:=bd) rfl (ab rfl rfl rfl rfl) (gq hd39) rfl (fun v107 H107 at107 hle107 hd107 hp107=>?_)
  obtain⟨eH107,k107,rfl,hk107⟩:=hp107
  replace eH107:=eH107.symm;subst eH107
  refine az (S1 (S1 (S1 (S1 (S1 SN))))) (Hp.le.refl _) (dZ ?_)
  refine aF rfl rfl rfl rfl (fun b109=>?_)
  refine dZ ?_
  refine aF rfl rfl rfl rfl (fun b111=>?_)
  refine aw rfl (TL.append (enc:=SPoint.cells) rfl rfl rfl hO58 (Src.own [⟨_,_,[⟨[],0,[],0⟩],(some ⟨b109,0,none⟩,1)⟩] (.here _) rfl rfl) sq rfl (.s7 (.skip _ .all)) rfl (fun a112 c112 ob112 hO112=>?_))
  refine az (S0 (S0 (S1 (S1 (S1 (S1 (S1 SN))))))) (Hp.le.refl _) (fu ?_);refine xD ?_;refine k7 ?_;refine gW ?_;refine qL ?_;refine TL.run (bE rfl rfl hO112) rfl (mu ?_);refine qL ?_
  refine TL.run (aY rfl rfl hO112 sq sq) rfl (zm6 ?_)
  refine TL.run (PR.to (bG rfl hO112 (.s7 (.skip _ .all)) rfl rfl) (rfl:_=Value.slice (some ⟨b55,0,none⟩) 2 2)) rfl (un ?_);refine mn ?_
  refine um ?_;refine TC.rounds 1 (AN ?_);refine fU rfl (qK ?_);refine qL ?_;refine dw ?_
  refine aD rfl rfl rfl rfl (fun b170=>?_)
  refine TL.append (enc:=SPoint.cells) rfl rfl rfl hO112 (Src.own [eB] (.here _) rfl rfl) sq rfl (.s8 (.skip _ .all)) rfl (fun a171 c171 ob171 hO171=>?_)
  refine zm6 ?_;refine bB rfl rfl rfl (.h6) rfl rfl (gF ?_)
  refine TL.run (a7 rfl (.h6) rfl) rfl (cH rfl rfl rfl rfl rfl (.h7) rfl rfl (TL.nil (af ?_)))
  refine TC.ret (xz ?_)
  refine cB (by simp [keys]) (fun H_b55 le_b55 rd_b55=>?_)
  replace hrs:=hrs.le le_b55
  replace hle:=hle.trans le_b55
  replace hd107:=hd107.le le_b55
  obtain⟨l_b55,n_b55,hA_b55,z_b55,w_b55⟩:=jb rd_b55 (by first | simp | (have:=hc82.len htn;omega)) (by first | simp | (have:=hc82.len htn;omega))
  refine o3 ?_
  refine cB (by simp [keys]) (fun H_b109 le_b109 rd_b109=>?_)
  replace hrs:=hrs.le le_b109
  replace hle:=hle.trans le_b109
  replace hd107:=hd107.le le_b109
  replace hA_b55:=hA_b55.le le_b109
  obtain⟨l_b109,n_b109,hA_b109,z_b109,w_b109⟩:=di rd_b109 (by first | simp | (have:=hc82.len htn;omega))
  refine dX (X:=[(b170,_),(b111,_),(b57,_),(b13,_),(b9,_),(b8,_),(bd,_)]) hO171 rfl (by simp [keys]) (fun H2 hle2 hP=>?_)
  replace hrs:=hrs.le hle2
  replace hle:=hle.trans hle2
  replace hd107:=hd107.le hle2
  replace hA_b55:=hA_b55.le hle2
  replace hA_b109:=hA_b109.le hle2
  have hP2:=hP.recell (l':=[⟨[97],[98],l_b55,(some ⟨b55,0,none⟩,2)⟩,⟨[98],[97],l_b109,(some ⟨b109,0,none⟩,1)⟩,eB]) (by simp only [List.nil_append,List.cons_append,List.map_cons,List.map_nil,SPoint.cells,n_b55,n_b109];rfl)
  have hPK:∀x∈([⟨[97],[98],l_b55,(some ⟨b55,0,none⟩,2)⟩,⟨[98],[97],l_b109,(some ⟨b109,0,none⟩,1)⟩,eB]:List SPoint),PointOk H2 x:=by
   intro x hx;simp only [List.mem_cons,List.not_mem_nil,or_false] at hx
   rcases hx with rfl | rfl | rfl
   · exact⟨by show RdSl H2 4 SArm.cells (.slice (some ⟨b55,0,none⟩) l_b55.length _) l_b55;rw [n_b55];exact hA_b55,z_b55⟩
   · exact⟨by show RdSl H2 4 SArm.cells (.slice (some ⟨b109,0,none⟩) l_b109.length _) l_b109;rw [n_b109];exact hA_b109,z_b109⟩
   · exact jM
  have hLb:kH ⟨name,(rolesL.take (2:Int).toNat),(a22,c22),[⟨[97],[98],l_b55,(some ⟨b55,0,none⟩,2)⟩,⟨[98],[97],l_b109,(some ⟨b109,0,none⟩,1)⟩,eB],(a171,c171)⟩:=by
   refine⟨[q.a,q.b,[111,107]],by simp,fun x hx=>?_⟩
   simp only [List.mem_cons,List.not_mem_nil,or_false] at hx
   rcases hx with rfl | rfl | rfl
   · intro a ha;have h:=w_b55 a ha;revert h;simp only [List.mem_cons,List.not_mem_nil,or_false];intro h;rcases h with h | h<;>rw [h]<;>simp
   · intro a ha;have h:=w_b109 a ha;revert h;simp only [List.mem_cons,List.not_mem_nil,or_false];intro h;rw [h];simp
   · intro a ha;cases ha
  exact aZ (.inr rfl) (ad rfl (RVal.cellA rfl (.h5) rfl)) (fun w hw=>hw.drop.drop.drop.drop.drop.drop) ⟨_,[],rfl,hd107,rfl,hle,⟨name,(rolesL.take (2:Int).toNat),(a22,c22),[⟨[97],[98],l_b55,(some ⟨b55,0,none⟩,2)⟩,⟨[98],[97],l_b109,(some ⟨b109,0,none⟩,1)⟩,eB],(a171,c171)⟩,rfl,⟨hrs,hP2,hPK⟩,rfl,rfl,hLb⟩
 refine gW ?_;refine mj ?_;refine TL.run (bE rfl rfl hO58) rfl (TL.run (fw rfl rfl sq sq) rfl (zm1 ?_));refine TC.region (zm6 ?_);refine mj ?_;refine zm0 ?_
 refine TL.run (aY rfl rfl hO58 sq sq) rfl (zm6 ?_);refine zm345 ?_;refine AM ?_;refine jY ?_;refine xy ?_;refine mj ?_;refine TL.run (bE rfl rfl hO58) rfl (mu ?_);refine mj ?_
 refine TL.run (aY rfl rfl hO58 sq sq) rfl (zm6 ?_);refine zm345 ?_;refine un ?_;refine jY ?_;refine um ?_;refine TC.rounds 1 (AN ?_);refine fU rfl (qK ?_);refine mj ?_
 refine dw ?_
 refine aD rfl rfl rfl rfl (fun b170=>?_)
 refine TL.append (enc:=SPoint.cells) rfl rfl rfl hO58 (Src.own [eB] (.here _) rfl rfl) sq rfl (.s6 (.skip _ .all)) rfl (fun a171 c171 ob171 hO171=>?_)
 refine zm6 ?_;refine bB rfl rfl rfl (.h4) rfl rfl (gF ?_);refine TL.run (a7 rfl (.h4) rfl) rfl (mi ?_)
 refine o3 ?_
 refine cB (by simp [keys]) (fun H_b55 le_b55 rd_b55=>?_)
 replace hrs:=hrs.le le_b55
 replace hle:=hle.trans le_b55
 replace hd39:=hd39.le le_b55
 obtain⟨l_b55,n_b55,hA_b55,z_b55,w_b55⟩:=jb rd_b55 (by first | simp | (have:=hc82.len htn;omega)) (by first | simp | (have:=hc82.len htn;omega))
 refine dX (X:=[(b170,_),(b57,_),(b13,_),(b9,_),(b8,_),(bd,_)]) hO171 rfl (by simp [keys]) (fun H2 hle2 hP=>?_)
 replace hrs:=hrs.le hle2
 replace hle:=hle.trans hle2
 replace hd39:=hd39.le hle2
 replace hA_b55:=hA_b55.le hle2
 have hP2:=hP.recell (l':=[⟨[97],[98],l_b55,(some ⟨b55,0,none⟩,2)⟩,eB]) (by simp only [List.nil_append,List.cons_append,List.map_cons,List.map_nil,SPoint.cells,n_b55];rfl)
 have hPK:∀x∈([⟨[97],[98],l_b55,(some ⟨b55,0,none⟩,2)⟩,eB]:List SPoint),PointOk H2 x:=by
  intro x hx;simp only [List.mem_cons,List.not_mem_nil,or_false] at hx
  rcases hx with rfl | rfl
  · exact⟨by show RdSl H2 4 SArm.cells (.slice (some ⟨b55,0,none⟩) l_b55.length _) l_b55;rw [n_b55];exact hA_b55,z_b55⟩
  · exact jM
 have hLb:kH ⟨name,(rolesL.take (2:Int).toNat),(a22,c22),[⟨[97],[98],l_b55,(some ⟨b55,0,none⟩,2)⟩,eB],(a171,c171)⟩:=by
  refine⟨[q.a,q.b,[111,107]],by simp,fun x hx=>?_⟩
  simp only [List.mem_cons,List.not_mem_nil,or_false] at hx
  rcases hx with rfl | rfl
  · intro a ha;have h:=w_b55 a ha;revert h;simp only [List.mem_cons,List.not_mem_nil,or_false];intro h;rcases h with h | h<;>rw [h]<;>simp
  · intro a ha;cases ha
 exact aZ (.inr rfl) (ad rfl (RVal.cellA rfl (.h4) rfl)) (fun w hw=>hw.drop.drop.drop.drop.drop) ⟨_,[],rfl,hd39,rfl,hle,⟨name,(rolesL.take (2:Int).toNat),(a22,c22),[⟨[97],[98],l_b55,(some ⟨b55,0,none⟩,2)⟩,eB],(a171,c171)⟩,rfl,⟨hrs,hP2,hPK⟩,rfl,rfl,hLb⟩
theorem ym {H:Hp}{bd:Nat}{dl:Value}{at_:Int}(hd:DiceOk H dl at_){tv:Value}{types:List Str}(hty:RdSl H 1 Str.cells tv types)(htn:∀s∈types,TyNm s)(htl:types.length≤100)(name:Str):
  DFn Tryz.prog bd dl at_ 168 [gs name,.int .i64 3,tv] H (fun v H1 ob=>ob=[]∧(H.le H1∧∃p:SProto,v= .agg p.cells.toArray∧ProtoOk H1 p∧p.name=name∧p.roles=rolesL.take 3∧kH p)):=by
 have hrl:(rolesL.take (3:Int).toNat).length=3:=rfl
 refine FnX.enter Tryz.func168 Tryz.ntmps168 rfl rfl (fun w0=>?_)
 refine zm2 ?_
 refine TL.alloc rfl (fun b8=>?_)
 refine iu ?_
 refine TL.call (ab rfl rfl rfl rfl) (jI) rfl (fun v19 H19 hle19 hp19=>?_)
 replace hd:=hd.le hle19
 replace hty:=hty.le hle19
 have hro19:=hp19
 obtain⟨ra19,rc19,rfl⟩:=hro19.len
 have hcp:5≤rc19:=hro19.room _ _ _ rfl
 have hsl:=hro19.sliced (i:=0) (j:=(3:Int).toNat) om dq
 have hle0:=hle19
 refine zm0 ?_;refine xF ?_
 refine TL.append (enc:=Str.cells) rfl rfl rfl (OwnSl.nil (enc:=Str.cells)) (Src.sl hsl) (by simp only [List.length_drop,List.length_nil];omega) rfl (.new _ rfl) rfl (fun a22 c22 ob22 hO22=>?_)
 refine dw ?_
 refine TL.alloc rfl (fun b9=>?_)
 refine xE ?_
 refine dX (X:=[(b9,_),(b8,_),(bd,_)]) hO22 rfl (by simp [keys]) (fun HR leR hR=>?_)
 replace hd:=hd.le leR
 replace hty:=hty.le leR
 replace hle0:=hle0.trans leR
 have hrs0:RdSl HR 1 Str.cells (.slice a22 (rolesL.take (3:Int).toNat).length c22) (rolesL.take (3:Int).toNat):=hR
 have hty1:=hty
 have hleR:=hle0
 refine af (tf (V:=fun(q:Q4)=>[(10,gs q.a),(11,gs q.b)]) (K:=[(0,_),(2,_),(3,_),(8,_),(9,_)]) ky (L:=fun(q:Q4)=>St (keys [(bd,[dl,.int .i64 at_])]) w0 H q.h [(b9,[gs name,.slice a22 (rolesL.take (3:Int).toNat).length c22,.slice none 0 0]),(b8,[gs [],.slice none 0 0,.slice none 0 0]),(bd,[dl,.int .i64 q.at_])]) (I:=fun(q:Q4)=>DiceOk q.h dl q.at_∧HR.le q.h) ?_ ?_)
 · exact C2
 intro q hI
 obtain⟨hI1,hI2⟩:=hI
 have hty:=hty1.le hI2
 have hrs:=hrs0.le hI2
 have hle:=hleR.trans hI2
 refine dM ?_
 refine aE (X:=[(b9,_),(b8,_)]) (bd:=bd) rfl (ab rfl rfl rfl rfl) (bq 2 om hI1) rfl (fun v36 H36 at36 hle36 hd36 hp36=>?_)
 obtain⟨eH36,r36,rfl,hr36⟩:=hp36
 replace eH36:=eH36.symm;subst eH36
 have hra36:=hr36.1
 have hrb36:=hr36.2.1 om
 refine lW ?_;refine dM ?_
 refine aE (X:=[(b9,_),(b8,_)]) (bd:=bd) rfl (ab rfl rfl rfl rfl) (gq hd36) rfl (fun v39 H39 at39 hle39 hd39 hp39=>?_)
 obtain⟨eH39,k39,rfl,hk39⟩:=hp39
 replace eH39:=eH39.symm;subst eH39
 refine TL.alloc rfl (fun b13=>?_)
 refine qN ?_;refine Dx ?_;refine AO ?_;refine ur ?_;refine ur ?_;refine zm5 ?_;refine A8 ?_;refine dZ ?_;refine uq ?_
 refine aF rfl rfl rfl rfl (fun b55=>?_)
 refine dZ ?_
 refine aF rfl rfl rfl rfl (fun b57=>?_)
 refine aw rfl (TL.append (enc:=SPoint.cells) rfl rfl rfl (OwnSl.nil (enc:=SPoint.cells)) (Src.own [⟨_,_,[⟨[],0,[],0⟩,⟨[],0,[],0⟩],(some ⟨b55,0,none⟩,2)⟩] (.here _) rfl rfl) sq rfl (.new _ rfl) rfl (fun a58 c58 ob58 hO58=>?_))
 refine az (S0 (S0 (S1 (S1 (S1 (S1 SN)))))) (Hp.le.refl _) (fu ?_);refine mn ?_;refine k7 ?_;refine j5 ?_;refine TC.rounds 2 (ul ?_);refine zm346 ?_;refine mm ?_;refine mm ?_;refine mh ?_
 refine uo ?_;refine mm ?_;refine mg ?_;refine uo ?_;refine gg ?_;refine lZ ?_;refine Dh ?_
 refine aq (bE rfl rfl hO58) rfl (aq (fz rfl rfl sq sq) rfl (aw rfl (aE (X:=[(b57,_),(b55,_),(b13,_),(b9,_),(b8,_)]) (bd:=bd) rfl (ab rfl rfl rfl rfl) (fI hd39 hty htn htl) rfl (fun v82_0 H82_0 at82_0 hle82_0 hd82_0 hp82_0=>?_))))
 obtain⟨eH82_0,k82_0,nm82_0,rfl,hc82_0⟩:=hp82_0
 replace eH82_0:=eH82_0.symm;subst eH82_0
 refine az (S1 (S1 (S1 (S1 (S1 SN))))) (Hp.le.refl _) (dZ ?_)
 refine aF rfl rfl rfl rfl (fun b88=>?_)
 refine dZ ?_
 refine aF rfl rfl rfl rfl (fun b90=>?_)
 refine aw rfl (TL.append (enc:=SPoint.cells) rfl rfl rfl hO58 (Src.own [⟨_,_,[⟨[],0,[],0⟩],(some ⟨b88,0,none⟩,1)⟩] (.here _) rfl rfl) sq rfl (.s7 (.skip _ .all)) rfl (fun a91_0 c91_0 ob91_0 hO91_0=>?_))
 refine az (S0 (S0 (S1 (S1 (S1 (S1 (S1 SN))))))) (Hp.le.refl _) (fu ?_);refine xD ?_;refine uk ?_;refine gh ?_;refine k4 ?_
 refine ag rfl ?_ ?_<;>intro c93
 ·
  refine eH ?_;refine zm388 ?_;refine uj ?_;refine uj ?_;refine zm5 ?_;refine aq (fw rfl rfl om om) rfl (l8 ?_);refine A7 ?_;refine uj ?_;refine l8 ?_;refine A7 ?_
  refine qM ?_
  refine aE (X:=[(b90,_),(b88,_),(b57,_),(b55,_),(b13,_),(b9,_),(b8,_)]) (bd:=bd) rfl (ab rfl rfl rfl rfl) (gq hd82_0) rfl (fun v107 H107 at107 hle107 hd107 hp107=>?_)
  obtain⟨eH107,k107,rfl,hk107⟩:=hp107
  replace eH107:=eH107.symm;subst eH107
  refine az (S1 (S1 (S1 (S1 (S1 (S1 (S1 SN))))))) (Hp.le.refl _) (dZ ?_)
  refine aF rfl rfl rfl rfl (fun b109=>?_)
  refine dZ ?_
  refine aF rfl rfl rfl rfl (fun b111=>?_)
  refine aw rfl (TL.append (enc:=SPoint.cells) rfl rfl rfl hO91_0 (Src.own [⟨_,_,[⟨[],0,[],0⟩],(some ⟨b109,0,none⟩,1)⟩] (.here _) rfl rfl) sq rfl (.s9 (.skip _ .all)) rfl (fun a112 c112 ob112 hO112=>?_))
  refine az (S0 (S0 (S1 (S1 (S1 (S1 (S1 (S1 (S1 SN))))))))) (Hp.le.refl _) (fu ?_);refine A6 ?_;refine k7 ?_;refine gW ?_;refine qJ ?_;refine TL.run (bE rfl rfl hO112) rfl (mu ?_);refine qJ ?_
  refine TL.run (aY rfl rfl hO112 sq sq) rfl (zm6 ?_)
  refine TL.run (PR.to (bG rfl hO112 (.s9 (.skip _ .all)) rfl rfl) (rfl:_=Value.slice (some ⟨b55,0,none⟩) 2 2)) rfl (un ?_)
  refine xD ?_;refine um ?_;refine TC.rounds 2 (ul ?_);refine zm348 ?_;refine ui ?_;refine ui ?_;refine mh ?_;refine A5 ?_;refine ui ?_;refine mg ?_;refine A5 ?_;refine lZ ?_
  refine Dg ?_;refine aq (bE rfl rfl hO112) rfl (uh ?_)
  refine aF rfl rfl rfl rfl (fun b162=>?_)
  refine dZ ?_
  refine aF rfl rfl rfl rfl (fun b164=>?_)
  refine aw rfl (TL.append (enc:=SPoint.cells) rfl rfl rfl hO112 (Src.own [⟨_,_,[⟨[],0,[],0⟩],(some ⟨b162,0,none⟩,1)⟩] (.here _) rfl rfl) sq rfl (.s11 (.skip _ .all)) rfl (fun a165_0 c165_0 ob165_0 hO165_0=>?_))
  refine az (S0 (S0 (S1 (S1 (S1 (S1 (S1 (S1 (S1 (S1 (S1 (S1 SN)))))))))))) (Hp.le.refl _) (fu ?_);refine Dw ?_;refine uk ?_;refine qK ?_;refine Dv ?_;refine dw ?_
  refine aD rfl rfl rfl rfl (fun b170=>?_)
  refine TL.append (enc:=SPoint.cells) rfl rfl rfl hO165_0 (Src.own [eB] (.here _) rfl rfl) sq rfl (.s12 (.skip _ .all)) rfl (fun a171 c171 ob171 hO171=>?_)
  refine zm6 ?_;refine bB rfl rfl rfl (.h10) rfl rfl (gF ?_)
  refine TL.run (a7 rfl (.h10) rfl) rfl (cH rfl rfl rfl rfl rfl (.h11) rfl rfl (TL.nil (af ?_)))
  refine TC.ret (Du ?_)
  refine cB (by simp [keys]) (fun H_b55 le_b55 rd_b55=>?_)
  replace hrs:=hrs.le le_b55
  replace hle:=hle.trans le_b55
  replace hd107:=hd107.le le_b55
  obtain⟨l_b55,n_b55,hA_b55,z_b55,w_b55⟩:=jb rd_b55 (by first | simp | (have:=hc82.len htn;omega)) (by first | simp | (have:=hc82.len htn;omega))
  refine A4 ?_
  refine cB (by simp [keys]) (fun H_b88 le_b88 rd_b88=>?_)
  replace hrs:=hrs.le le_b88
  replace hle:=hle.trans le_b88
  replace hd107:=hd107.le le_b88
  replace hA_b55:=hA_b55.le le_b88
  obtain⟨l_b88,n_b88,hA_b88,z_b88,w_b88⟩:=di rd_b88 (by first | simp | (have:=hc82_0.len htn;omega))
  refine xz ?_
  refine cB (by simp [keys]) (fun H_b109 le_b109 rd_b109=>?_)
  replace hrs:=hrs.le le_b109
  replace hle:=hle.trans le_b109
  replace hd107:=hd107.le le_b109
  replace hA_b55:=hA_b55.le le_b109
  replace hA_b88:=hA_b88.le le_b109
  obtain⟨l_b109,n_b109,hA_b109,z_b109,w_b109⟩:=di rd_b109 (by first | simp | (have:=hc82.len htn;omega))
  refine o3 ?_
  refine cB (by simp [keys]) (fun H_b162 le_b162 rd_b162=>?_)
  replace hrs:=hrs.le le_b162
  replace hle:=hle.trans le_b162
  replace hd107:=hd107.le le_b162
  replace hA_b55:=hA_b55.le le_b162
  replace hA_b88:=hA_b88.le le_b162
  replace hA_b109:=hA_b109.le le_b162
  obtain⟨l_b162,n_b162,hA_b162,z_b162,w_b162⟩:=di rd_b162 (by first | simp | (have:=hc82_0.len htn;omega))
  refine dX (X:=[(b170,_),(b164,_),(b111,_),(b90,_),(b57,_),(b13,_),(b9,_),(b8,_),(bd,_)]) hO171 rfl (by simp [keys]) (fun H2 hle2 hP=>?_)
  replace hrs:=hrs.le hle2
  replace hle:=hle.trans hle2
  replace hd107:=hd107.le hle2
  replace hA_b55:=hA_b55.le hle2
  replace hA_b88:=hA_b88.le hle2
  replace hA_b109:=hA_b109.le hle2
  replace hA_b162:=hA_b162.le hle2
  have hP2:=hP.recell (l':=[⟨[97],[98],l_b55,(some ⟨b55,0,none⟩,2)⟩,⟨[98],[99],l_b88,(some ⟨b88,0,none⟩,1)⟩,⟨[99],[97],l_b109,(some ⟨b109,0,none⟩,1)⟩,⟨[98],[99],l_b162,(some ⟨b162,0,none⟩,1)⟩,eB]) (by simp only [List.nil_append,List.cons_append,List.map_cons,List.map_nil,SPoint.cells,n_b55,n_b88,n_b109,n_b162];rfl)
  have hPK:∀x∈([⟨[97],[98],l_b55,(some ⟨b55,0,none⟩,2)⟩,⟨[98],[99],l_b88,(some ⟨b88,0,none⟩,1)⟩,⟨[99],[97],l_b109,(some ⟨b109,0,none⟩,1)⟩,⟨[98],[99],l_b162,(some ⟨b162,0,none⟩,1)⟩,eB]:List SPoint),PointOk H2 x:=by
   intro x hx;simp only [List.mem_cons,List.not_mem_nil,or_false] at hx
   rcases hx with rfl | rfl | rfl | rfl | rfl
   · exact⟨by show RdSl H2 4 SArm.cells (.slice (some ⟨b55,0,none⟩) l_b55.length _) l_b55;rw [n_b55];exact hA_b55,z_b55⟩
   · exact⟨by show RdSl H2 4 SArm.cells (.slice (some ⟨b88,0,none⟩) l_b88.length _) l_b88;rw [n_b88];exact hA_b88,z_b88⟩
   · exact⟨by show RdSl H2 4 SArm.cells (.slice (some ⟨b109,0,none⟩) l_b109.length _) l_b109;rw [n_b109];exact hA_b109,z_b109⟩
   · exact⟨by show RdSl H2 4 SArm.cells (.slice (some ⟨b162,0,none⟩) l_b162.length _) l_b162;rw [n_b162];exact hA_b162,z_b162⟩
   · exact jM
  have hLb:kH ⟨name,(rolesL.take (3:Int).toNat),(a22,c22),[⟨[97],[98],l_b55,(some ⟨b55,0,none⟩,2)⟩,⟨[98],[99],l_b88,(some ⟨b88,0,none⟩,1)⟩,⟨[99],[97],l_b109,(some ⟨b109,0,none⟩,1)⟩,⟨[98],[99],l_b162,(some ⟨b162,0,none⟩,1)⟩,eB],(a171,c171)⟩:=by
   refine⟨[q.a,q.b,[111,107]],by simp,fun x hx=>?_⟩
   simp only [List.mem_cons,List.not_mem_nil,or_false] at hx
   rcases hx with rfl | rfl | rfl | rfl | rfl
   · intro a ha;have h:=w_b55 a ha;revert h;simp only [List.mem_cons,List.not_mem_nil,or_false];intro h;rcases h with h | h<;>rw [h]<;>simp
   · intro a ha;have h:=w_b88 a ha;revert h;simp only [List.mem_cons,List.not_mem_nil,or_false];intro h;rw [h];simp
   · intro a ha;have h:=w_b109 a ha;revert h;simp only [List.mem_cons,List.not_mem_nil,or_false];intro h;rw [h];simp
   · intro a ha;have h:=w_b162 a ha;revert h;simp only [List.mem_cons,List.not_mem_nil,or_false];intro h;rw [h];simp
   · intro a ha;cases ha
  exact aZ (.inr rfl) (ad rfl (RVal.cellA rfl (.h7) rfl)) (fun w hw=>hw.drop.drop.drop.drop.drop.drop.drop.drop) ⟨_,[],rfl,hd107,rfl,hle,⟨name,(rolesL.take (3:Int).toNat),(a22,c22),[⟨[97],[98],l_b55,(some ⟨b55,0,none⟩,2)⟩,⟨[98],[99],l_b88,(some ⟨b88,0,none⟩,1)⟩,⟨[99],[97],l_b109,(some ⟨b109,0,none⟩,1)⟩,⟨[98],[99],l_b162,(some ⟨b162,0,none⟩,1)⟩,eB],(a171,c171)⟩,rfl,⟨hrs,hP2,hPK⟩,rfl,rfl,hLb⟩
 refine gW ?_;refine qL ?_;refine TL.run (bE rfl rfl hO91_0) rfl (TL.run (fw rfl rfl sq sq) rfl (zm1 ?_));refine TC.region (zm6 ?_);refine qL ?_;refine zm0 ?_
 refine TL.run (aY rfl rfl hO91_0 sq sq) rfl (zm6 ?_)
 refine TL.run (PR.to (bG rfl hO91_0 (.s7 (.skip _ .all)) rfl rfl) (rfl:_=Value.slice (some ⟨b88,0,none⟩) 1 1)) rfl (AM ?_);refine jY ?_
 refine xy ?_;refine qL ?_;refine TL.run (bE rfl rfl hO91_0) rfl (mu ?_);refine qL ?_;refine TL.run (aY rfl rfl hO91_0 sq sq) rfl (zm6 ?_)
 refine TL.run (PR.to (bG rfl hO91_0 (.s7 (.skip _ .all)) rfl rfl) (rfl:_=Value.slice (some ⟨b55,0,none⟩) 2 2)) rfl (un ?_);refine mn ?_
 refine um ?_;refine TC.rounds 2 (ul ?_);refine zm389 ?_;refine zm4 ?_;refine A3 ?_;refine zm4 ?_;refine A3 ?_;refine mh ?_
 refine aN (S1 (S1 (S1 (S1 (S1 (S1 (S1 (S1 SN)))))))) (Hp.le.refl _) (fun _ _=>aQ hrs rfl rfl rfl) rfl (zm4 ?_);refine A3 ?_;refine mg ?_
 refine aN (S1 (S1 (S1 (S1 (S1 (S1 (S1 (S1 SN)))))))) (Hp.le.refl _) (fun _ _=>aQ hrs rfl rfl rfl) rfl (lZ ?_);refine A3 ?_;refine aq (bE rfl rfl hO91_0) rfl (uh ?_)
 refine aF rfl rfl rfl rfl (fun b162=>?_)
 refine dZ ?_
 refine aF rfl rfl rfl rfl (fun b164=>?_)
 refine aw rfl (TL.append (enc:=SPoint.cells) rfl rfl rfl hO91_0 (Src.own [⟨_,_,[⟨[],0,[],0⟩],(some ⟨b162,0,none⟩,1)⟩] (.here _) rfl rfl) sq rfl (.s9 (.skip _ .all)) rfl (fun a165_0 c165_0 ob165_0 hO165_0=>?_))
 refine az (S0 (S0 (S1 (S1 (S1 (S1 (S1 (S1 (S1 (S1 SN)))))))))) (Hp.le.refl _) (fu ?_);refine A6 ?_;refine uk ?_;refine qK ?_;refine qJ ?_;refine dw ?_
 refine aD rfl rfl rfl rfl (fun b170=>?_)
 refine TL.append (enc:=SPoint.cells) rfl rfl rfl hO165_0 (Src.own [eB] (.here _) rfl rfl) sq rfl (.s10 (.skip _ .all)) rfl (fun a171 c171 ob171 hO171=>?_)
 refine zm6 ?_;refine bB rfl rfl rfl (.h8) rfl rfl (gF ?_)
 refine TL.run (a7 rfl (.h8) rfl) rfl (cH rfl rfl rfl rfl rfl (.h9) rfl rfl (TL.nil (af ?_)))
 refine TC.ret (A4 ?_)
 refine cB (by simp [keys]) (fun H_b55 le_b55 rd_b55=>?_)
 replace hrs:=hrs.le le_b55
 replace hle:=hle.trans le_b55
 replace hd82_0:=hd82_0.le le_b55
 obtain⟨l_b55,n_b55,hA_b55,z_b55,w_b55⟩:=jb rd_b55 (by first | simp | (have:=hc82.len htn;omega)) (by first | simp | (have:=hc82.len htn;omega))
 refine xz ?_
 refine cB (by simp [keys]) (fun H_b88 le_b88 rd_b88=>?_)
 replace hrs:=hrs.le le_b88
 replace hle:=hle.trans le_b88
 replace hd82_0:=hd82_0.le le_b88
 replace hA_b55:=hA_b55.le le_b88
 obtain⟨l_b88,n_b88,hA_b88,z_b88,w_b88⟩:=di rd_b88 (by first | simp | (have:=hc82_0.len htn;omega))
 refine o3 ?_
 refine cB (by simp [keys]) (fun H_b162 le_b162 rd_b162=>?_)
 replace hrs:=hrs.le le_b162
 replace hle:=hle.trans le_b162
 replace hd82_0:=hd82_0.le le_b162
 replace hA_b55:=hA_b55.le le_b162
 replace hA_b88:=hA_b88.le le_b162
 obtain⟨l_b162,n_b162,hA_b162,z_b162,w_b162⟩:=di rd_b162 (by first | simp | (have:=hc82_0.len htn;omega))
 refine dX (X:=[(b170,_),(b164,_),(b90,_),(b57,_),(b13,_),(b9,_),(b8,_),(bd,_)]) hO171 rfl (by simp [keys]) (fun H2 hle2 hP=>?_)
 replace hrs:=hrs.le hle2
 replace hle:=hle.trans hle2
 replace hd82_0:=hd82_0.le hle2
 replace hA_b55:=hA_b55.le hle2
 replace hA_b88:=hA_b88.le hle2
 replace hA_b162:=hA_b162.le hle2
 have hP2:=hP.recell (l':=[⟨[97],[98],l_b55,(some ⟨b55,0,none⟩,2)⟩,⟨[98],[99],l_b88,(some ⟨b88,0,none⟩,1)⟩,⟨[98],[99],l_b162,(some ⟨b162,0,none⟩,1)⟩,eB]) (by simp only [List.nil_append,List.cons_append,List.map_cons,List.map_nil,SPoint.cells,n_b55,n_b88,n_b162];rfl)
 have hPK:∀x∈([⟨[97],[98],l_b55,(some ⟨b55,0,none⟩,2)⟩,⟨[98],[99],l_b88,(some ⟨b88,0,none⟩,1)⟩,⟨[98],[99],l_b162,(some ⟨b162,0,none⟩,1)⟩,eB]:List SPoint),PointOk H2 x:=by
  intro x hx;simp only [List.mem_cons,List.not_mem_nil,or_false] at hx
  rcases hx with rfl | rfl | rfl | rfl
  · exact⟨by show RdSl H2 4 SArm.cells (.slice (some ⟨b55,0,none⟩) l_b55.length _) l_b55;rw [n_b55];exact hA_b55,z_b55⟩
  · exact⟨by show RdSl H2 4 SArm.cells (.slice (some ⟨b88,0,none⟩) l_b88.length _) l_b88;rw [n_b88];exact hA_b88,z_b88⟩
  · exact⟨by show RdSl H2 4 SArm.cells (.slice (some ⟨b162,0,none⟩) l_b162.length _) l_b162;rw [n_b162];exact hA_b162,z_b162⟩
  · exact jM
 have hLb:kH ⟨name,(rolesL.take (3:Int).toNat),(a22,c22),[⟨[97],[98],l_b55,(some ⟨b55,0,none⟩,2)⟩,⟨[98],[99],l_b88,(some ⟨b88,0,none⟩,1)⟩,⟨[98],[99],l_b162,(some ⟨b162,0,none⟩,1)⟩,eB],(a171,c171)⟩:=by
  refine⟨[q.a,q.b,[111,107]],by simp,fun x hx=>?_⟩
  simp only [List.mem_cons,List.not_mem_nil,or_false] at hx
  rcases hx with rfl | rfl | rfl | rfl
  · intro a ha;have h:=w_b55 a ha;revert h;simp only [List.mem_cons,List.not_mem_nil,or_false];intro h;rcases h with h | h<;>rw [h]<;>simp
  · intro a ha;have h:=w_b88 a ha;revert h;simp only [List.mem_cons,List.not_mem_nil,or_false];intro h;rw [h];simp
  · intro a ha;have h:=w_b162 a ha;revert h;simp only [List.mem_cons,List.not_mem_nil,or_false];intro h;rw [h];simp
  · intro a ha;cases ha
 exact aZ (.inr rfl) (ad rfl (RVal.cellA rfl (.h6) rfl)) (fun w hw=>hw.drop.drop.drop.drop.drop.drop.drop) ⟨_,[],rfl,hd82_0,rfl,hle,⟨name,(rolesL.take (3:Int).toNat),(a22,c22),[⟨[97],[98],l_b55,(some ⟨b55,0,none⟩,2)⟩,⟨[98],[99],l_b88,(some ⟨b88,0,none⟩,1)⟩,⟨[98],[99],l_b162,(some ⟨b162,0,none⟩,1)⟩,eB],(a171,c171)⟩,rfl,⟨hrs,hP2,hPK⟩,rfl,rfl,hLb⟩
theorem yl {H:Hp}{bd:Nat}{dl:Value}{at_:Int}(hd:DiceOk H dl at_){tv:Value}{types:List Str}(hty:RdSl H 1 Str.cells tv types)(htn:∀s∈types,TyNm s)(htl:types.length≤100)(name:Str):
  DFn Tryz.prog bd dl at_ 168 [gs name,.int .i64 4,tv] H (fun v H1 ob=>ob=[]∧(H.le H1∧∃p:SProto,v= .agg p.cells.toArray∧ProtoOk H1 p∧p.name=name∧p.roles=rolesL.take 4∧kH p)):=by
 have hrl:(rolesL.take (4:Int).toNat).length=4:=rfl
 refine FnX.enter Tryz.func168 Tryz.ntmps168 rfl rfl (fun w0=>?_)
 refine zm2 ?_
 refine TL.alloc rfl (fun b8=>?_)
 refine iu ?_
 refine TL.call (ab rfl rfl rfl rfl) (jI) rfl (fun v19 H19 hle19 hp19=>?_)
 replace hd:=hd.le hle19
 replace hty:=hty.le hle19
 have hro19:=hp19
 obtain⟨ra19,rc19,rfl⟩:=hro19.len
 have hcp:5≤rc19:=hro19.room _ _ _ rfl
 have hsl:=hro19.sliced (i:=0) (j:=(4:Int).toNat) om dq
 have hle0:=hle19
 refine zm0 ?_;refine xF ?_
 refine TL.append (enc:=Str.cells) rfl rfl rfl (OwnSl.nil (enc:=Str.cells)) (Src.sl hsl) (by simp only [List.length_drop,List.length_nil];omega) rfl (.new _ rfl) rfl (fun a22 c22 ob22 hO22=>?_)
 refine dw ?_
 refine TL.alloc rfl (fun b9=>?_)
 refine xE ?_
 refine dX (X:=[(b9,_),(b8,_),(bd,_)]) hO22 rfl (by simp [keys]) (fun HR leR hR=>?_)
 replace hd:=hd.le leR
 replace hty:=hty.le leR
 replace hle0:=hle0.trans leR
 have hrs0:RdSl HR 1 Str.cells (.slice a22 (rolesL.take (4:Int).toNat).length c22) (rolesL.take (4:Int).toNat):=hR
 have hty1:=hty
 have hleR:=hle0
 refine af (tf (V:=fun(q:Q4)=>[(10,gs q.a),(11,gs q.b)]) (K:=[(0,_),(2,_),(3,_),(8,_),(9,_)]) ky (L:=fun(q:Q4)=>St (keys [(bd,[dl,.int .i64 at_])]) w0 H q.h [(b9,[gs name,.slice a22 (rolesL.take (4:Int).toNat).length c22,.slice none 0 0]),(b8,[gs [],.slice none 0 0,.slice none 0 0]),(bd,[dl,.int .i64 q.at_])]) (I:=fun(q:Q4)=>DiceOk q.h dl q.at_∧HR.le q.h) ?_ ?_)
 · exact C2
 intro q hI
 obtain⟨hI1,hI2⟩:=hI
 have hty:=hty1.le hI2
 have hrs:=hrs0.le hI2
 have hle:=hleR.trans hI2
 refine dM ?_
 refine aE (X:=[(b9,_),(b8,_)]) (bd:=bd) rfl (ab rfl rfl rfl rfl) (bq 2 om hI1) rfl (fun v36 H36 at36 hle36 hd36 hp36=>?_)
 obtain⟨eH36,r36,rfl,hr36⟩:=hp36
 replace eH36:=eH36.symm;subst eH36
 have hra36:=hr36.1
 have hrb36:=hr36.2.1 om
 refine lW ?_;refine dM ?_
 refine aE (X:=[(b9,_),(b8,_)]) (bd:=bd) rfl (ab rfl rfl rfl rfl) (gq hd36) rfl (fun v39 H39 at39 hle39 hd39 hp39=>?_)
 obtain⟨eH39,k39,rfl,hk39⟩:=hp39
 replace eH39:=eH39.symm;subst eH39
 refine TL.alloc rfl (fun b13=>?_)
 refine qN ?_;refine Dx ?_;refine AO ?_;refine ur ?_;refine ur ?_;refine zm5 ?_;refine A8 ?_;refine dZ ?_;refine uq ?_
 refine aF rfl rfl rfl rfl (fun b55=>?_)
 refine dZ ?_
 refine aF rfl rfl rfl rfl (fun b57=>?_)
 refine aw rfl (TL.append (enc:=SPoint.cells) rfl rfl rfl (OwnSl.nil (enc:=SPoint.cells)) (Src.own [⟨_,_,[⟨[],0,[],0⟩,⟨[],0,[],0⟩],(some ⟨b55,0,none⟩,2)⟩] (.here _) rfl rfl) sq rfl (.new _ rfl) rfl (fun a58 c58 ob58 hO58=>?_))
 refine az (S0 (S0 (S1 (S1 (S1 (S1 SN)))))) (Hp.le.refl _) (fu ?_);refine mn ?_;refine k7 ?_;refine j5 ?_;refine TC.rounds 3 (ul ?_);refine zm346 ?_;refine mm ?_;refine mm ?_;refine mh ?_
 refine uo ?_;refine mm ?_;refine mg ?_;refine uo ?_;refine gg ?_;refine lZ ?_;refine Dh ?_
 refine aq (bE rfl rfl hO58) rfl (aq (fz rfl rfl sq sq) rfl (aw rfl (aE (X:=[(b57,_),(b55,_),(b13,_),(b9,_),(b8,_)]) (bd:=bd) rfl (ab rfl rfl rfl rfl) (fI hd39 hty htn htl) rfl (fun v82_0 H82_0 at82_0 hle82_0 hd82_0 hp82_0=>?_))))
 obtain⟨eH82_0,k82_0,nm82_0,rfl,hc82_0⟩:=hp82_0
 replace eH82_0:=eH82_0.symm;subst eH82_0
 refine az (S1 (S1 (S1 (S1 (S1 SN))))) (Hp.le.refl _) (dZ ?_)
 refine aF rfl rfl rfl rfl (fun b88=>?_)
 refine dZ ?_
 refine aF rfl rfl rfl rfl (fun b90=>?_)
 refine aw rfl (TL.append (enc:=SPoint.cells) rfl rfl rfl hO58 (Src.own [⟨_,_,[⟨[],0,[],0⟩],(some ⟨b88,0,none⟩,1)⟩] (.here _) rfl rfl) sq rfl (.s7 (.skip _ .all)) rfl (fun a91_0 c91_0 ob91_0 hO91_0=>?_))
 refine az (S0 (S0 (S1 (S1 (S1 (S1 (S1 SN))))))) (Hp.le.refl _) (fu ?_);refine xD ?_;refine AL ?_;refine AK ?_;refine zm390 ?_;refine uj ?_;refine uj ?_;refine mh ?_;refine A7 ?_;refine uj ?_
 refine mg ?_;refine A7 ?_;refine gg ?_;refine lZ ?_
 refine aN (S1 (S1 (S1 (S1 (S1 (S1 (S1 SN))))))) (Hp.le.refl _) (fun _ _=>aB rfl (.h5) rfl) rfl (aq (bE rfl rfl hO91_0) rfl (aq (fz rfl rfl sq sq) rfl (aw rfl ?_)))
 refine aE (X:=[(b90,_),(b88,_),(b57,_),(b55,_),(b13,_),(b9,_),(b8,_)]) (bd:=bd) rfl (ab rfl rfl rfl rfl) (fI hd82_0 hty htn htl) rfl (fun v82_1 H82_1 at82_1 hle82_1 hd82_1 hp82_1=>?_)
 obtain⟨eH82_1,k82_1,nm82_1,rfl,hc82_1⟩:=hp82_1
 replace eH82_1:=eH82_1.symm;subst eH82_1
 refine az (S1 (S1 (S1 (S1 (S1 (S1 (S1 SN))))))) (Hp.le.refl _) (dZ ?_)
 refine aF rfl rfl rfl rfl (fun b88x=>?_)
 refine dZ ?_
 refine aF rfl rfl rfl rfl (fun b90x=>?_)
 refine aw rfl (TL.append (enc:=SPoint.cells) rfl rfl rfl hO91_0 (Src.own [⟨_,_,[⟨[],0,[],0⟩],(some ⟨b88x,0,none⟩,1)⟩] (.here _) rfl rfl) sq rfl (.s9 (.skip _ .all)) rfl (fun a91_1 c91_1 ob91_1 hO91_1=>?_))
 refine az (S0 (S0 (S1 (S1 (S1 (S1 (S1 (S1 (S1 SN))))))))) (Hp.le.refl _) (fu ?_);refine A6 ?_;refine uk ?_;refine gh ?_;refine k4 ?_
 refine ag rfl ?_ ?_<;>intro c93
 ·
  refine eH ?_;refine zm391 ?_;refine zm4 ?_;refine Dt ?_;refine zm4 ?_;refine Dt ?_;refine zm5 ?_;refine aq (fw rfl rfl om om) rfl (l8 ?_)
  refine aN (S1 (S1 (S1 (S1 (S1 (S1 (S1 (S1 (S1 SN))))))))) (Hp.le.refl _) (fun _ _=>aQ hrs rfl rfl rfl) rfl (zm4 ?_);refine Dt ?_;refine l8 ?_
  refine aN (S1 (S1 (S1 (S1 (S1 (S1 (S1 (S1 (S1 SN))))))))) (Hp.le.refl _) (fun _ _=>aQ hrs rfl rfl rfl) rfl (qM ?_)
  refine aE (X:=[(b90x,_),(b88x,_),(b90,_),(b88,_),(b57,_),(b55,_),(b13,_),(b9,_),(b8,_)]) (bd:=bd) rfl (ab rfl rfl rfl rfl) (gq hd82_1) rfl (fun v107 H107 at107 hle107 hd107 hp107=>?_)
  obtain⟨eH107,k107,rfl,hk107⟩:=hp107
  replace eH107:=eH107.symm;subst eH107
  refine az (S1 (S1 (S1 (S1 (S1 (S1 (S1 (S1 (S1 SN))))))))) (Hp.le.refl _) (dZ ?_)
  refine aF rfl rfl rfl rfl (fun b109=>?_)
  refine dZ ?_
  refine aF rfl rfl rfl rfl (fun b111=>?_)
  refine aw rfl (TL.append (enc:=SPoint.cells) rfl rfl rfl hO91_1 (Src.own [⟨_,_,[⟨[],0,[],0⟩],(some ⟨b109,0,none⟩,1)⟩] (.here _) rfl rfl) sq rfl (.s11 (.skip _ .all)) rfl (fun a112 c112 ob112 hO112=>?_))
  refine az (S0 (S0 (S1 (S1 (S1 (S1 (S1 (S1 (S1 (S1 (S1 SN))))))))))) (Hp.le.refl _) (fu ?_);refine Dw ?_;refine k7 ?_;refine gW ?_;refine Dv ?_;refine TL.run (bE rfl rfl hO112) rfl (mu ?_)
  refine Dv ?_;refine TL.run (aY rfl rfl hO112 sq sq) rfl (zm6 ?_);refine zm392 ?_;refine un ?_;refine A6 ?_;refine um ?_;refine TC.rounds 3 (ul ?_);refine zm350 ?_;refine ug ?_
  refine ug ?_;refine mh ?_;refine A2 ?_;refine ug ?_;refine mg ?_;refine A2 ?_;refine lZ ?_;refine Df ?_;refine aq (bE rfl rfl hO112) rfl (uh ?_)
  refine aF rfl rfl rfl rfl (fun b162=>?_)
  refine dZ ?_
  refine aF rfl rfl rfl rfl (fun b164=>?_)
  refine aw rfl (TL.append (enc:=SPoint.cells) rfl rfl rfl hO112 (Src.own [⟨_,_,[⟨[],0,[],0⟩],(some ⟨b162,0,none⟩,1)⟩] (.here _) rfl rfl) sq rfl (.s13 (.skip _ .all)) rfl (fun a165_0 c165_0 ob165_0 hO165_0=>?_))
  refine az (S0 (S0 (S1 (S1 (S1 (S1 (S1 (S1 (S1 (S1 (S1 (S1 (S1 (S1 SN)))))))))))))) (Hp.le.refl _) (fu ?_);refine zm352 ?_;refine AL ?_;refine AK ?_;refine zm393 ?_;refine zm4 ?_;refine A1 ?_;refine zm4 ?_
  refine A1 ?_;refine mh ?_;refine zm353 ?_;refine zm4 ?_;refine A1 ?_;refine mg ?_;refine zm353 ?_;refine lZ ?_;refine A1 ?_;refine aq (bE rfl rfl hO165_0) rfl (uh ?_)
  refine aF rfl rfl rfl rfl (fun b162x=>?_)
  refine dZ ?_
  refine aF rfl rfl rfl rfl (fun b164x=>?_)
  refine aw rfl (TL.append (enc:=SPoint.cells) rfl rfl rfl hO165_0 (Src.own [⟨_,_,[⟨[],0,[],0⟩],(some ⟨b162x,0,none⟩,1)⟩] (.here _) rfl rfl) sq rfl (.s15 (.skip _ .all)) rfl (fun a165_1 c165_1 ob165_1 hO165_1=>?_))
  refine az (S0 (S0 (S1 (S1 (S1 (S1 (S1 (S1 (S1 (S1 (S1 (S1 (S1 (S1 (S1 (S1 SN)))))))))))))))) (Hp.le.refl _) (fu ?_)
  refine bB rfl rfl rfl (.h13) rfl rfl (uk ?_);refine qK ?_
  refine TL.run (aB rfl (.h13) rfl) rfl (dw ?_)
  refine aD rfl rfl rfl rfl (fun b170=>?_)
  refine TL.append (enc:=SPoint.cells) rfl rfl rfl hO165_1 (Src.own [eB] (.here _) rfl rfl) sq rfl (.s16 (.skip _ .all)) rfl (fun a171 c171 ob171 hO171=>?_)
  refine zm6 ?_;refine bB rfl rfl rfl (.h14) rfl rfl (gF ?_)
  refine TL.run (a7 rfl (.h14) rfl) rfl (zm394 ?_)
  refine TL.nil (af (TC.ret (gt (.h12) ?_)))
  refine cB (by simp [keys]) (fun H_b55 le_b55 rd_b55=>?_)
  replace hrs:=hrs.le le_b55
  replace hle:=hle.trans le_b55
  replace hd107:=hd107.le le_b55
  obtain⟨l_b55,n_b55,hA_b55,z_b55,w_b55⟩:=jb rd_b55 (by first | simp | (have:=hc82.len htn;omega)) (by first | simp | (have:=hc82.len htn;omega))
  refine zm354 ?_
  refine cB (by simp [keys]) (fun H_b88 le_b88 rd_b88=>?_)
  replace hrs:=hrs.le le_b88
  replace hle:=hle.trans le_b88
  replace hd107:=hd107.le le_b88
  replace hA_b55:=hA_b55.le le_b88
  obtain⟨l_b88,n_b88,hA_b88,z_b88,w_b88⟩:=di rd_b88 (by first | simp | (have:=hc82_0.len htn;omega))
  refine Du ?_
  refine cB (by simp [keys]) (fun H_b88x le_b88x rd_b88x=>?_)
  replace hrs:=hrs.le le_b88x
  replace hle:=hle.trans le_b88x
  replace hd107:=hd107.le le_b88x
  replace hA_b55:=hA_b55.le le_b88x
  replace hA_b88:=hA_b88.le le_b88x
  obtain⟨l_b88x,n_b88x,hA_b88x,z_b88x,w_b88x⟩:=di rd_b88x (by first | simp | (have:=hc82_1.len htn;omega))
  refine A4 ?_
  refine cB (by simp [keys]) (fun H_b109 le_b109 rd_b109=>?_)
  replace hrs:=hrs.le le_b109
  replace hle:=hle.trans le_b109
  replace hd107:=hd107.le le_b109
  replace hA_b55:=hA_b55.le le_b109
  replace hA_b88:=hA_b88.le le_b109
  replace hA_b88x:=hA_b88x.le le_b109
  obtain⟨l_b109,n_b109,hA_b109,z_b109,w_b109⟩:=di rd_b109 (by first | simp | (have:=hc82.len htn;omega))
  refine xz ?_
  refine cB (by simp [keys]) (fun H_b162 le_b162 rd_b162=>?_)
  replace hrs:=hrs.le le_b162
  replace hle:=hle.trans le_b162
  replace hd107:=hd107.le le_b162
  replace hA_b55:=hA_b55.le le_b162
  replace hA_b88:=hA_b88.le le_b162
  replace hA_b88x:=hA_b88x.le le_b162
  replace hA_b109:=hA_b109.le le_b162
  obtain⟨l_b162,n_b162,hA_b162,z_b162,w_b162⟩:=di rd_b162 (by first | simp | (have:=hc82_0.len htn;omega))
  refine o3 ?_
  refine cB (by simp [keys]) (fun H_b162x le_b162x rd_b162x=>?_)
  replace hrs:=hrs.le le_b162x
  replace hle:=hle.trans le_b162x
  replace hd107:=hd107.le le_b162x
  replace hA_b55:=hA_b55.le le_b162x
  replace hA_b88:=hA_b88.le le_b162x
  replace hA_b88x:=hA_b88x.le le_b162x
  replace hA_b109:=hA_b109.le le_b162x
  replace hA_b162:=hA_b162.le le_b162x
  obtain⟨l_b162x,n_b162x,hA_b162x,z_b162x,w_b162x⟩:=di rd_b162x (by first | simp | (have:=hc82_1.len htn;omega))
  refine dX (X:=[(b170,_),(b164x,_),(b164,_),(b111,_),(b90x,_),(b90,_),(b57,_),(b13,_),(b9,_),(b8,_),(bd,_)]) hO171 rfl (by simp [keys]) (fun H2 hle2 hP=>?_)
  replace hrs:=hrs.le hle2
  replace hle:=hle.trans hle2
  replace hd107:=hd107.le hle2
  replace hA_b55:=hA_b55.le hle2
  replace hA_b88:=hA_b88.le hle2
  replace hA_b88x:=hA_b88x.le hle2
  replace hA_b109:=hA_b109.le hle2
  replace hA_b162:=hA_b162.le hle2
  replace hA_b162x:=hA_b162x.le hle2
  have hP2:=hP.recell (l':=[⟨[97],[98],l_b55,(some ⟨b55,0,none⟩,2)⟩,⟨[98],[99],l_b88,(some ⟨b88,0,none⟩,1)⟩,⟨[99],[100],l_b88x,(some ⟨b88x,0,none⟩,1)⟩,⟨[100],[97],l_b109,(some ⟨b109,0,none⟩,1)⟩,⟨[98],[99],l_b162,(some ⟨b162,0,none⟩,1)⟩,⟨[99],[100],l_b162x,(some ⟨b162x,0,none⟩,1)⟩,eB]) (by simp only [List.nil_append,List.cons_append,List.map_cons,List.map_nil,SPoint.cells,n_b55,n_b88,n_b88x,n_b109,n_b162,n_b162x];rfl)
  have hPK:∀x∈([⟨[97],[98],l_b55,(some ⟨b55,0,none⟩,2)⟩,⟨[98],[99],l_b88,(some ⟨b88,0,none⟩,1)⟩,⟨[99],[100],l_b88x,(some ⟨b88x,0,none⟩,1)⟩,⟨[100],[97],l_b109,(some ⟨b109,0,none⟩,1)⟩,⟨[98],[99],l_b162,(some ⟨b162,0,none⟩,1)⟩,⟨[99],[100],l_b162x,(some ⟨b162x,0,none⟩,1)⟩,eB]:List SPoint),PointOk H2 x:=by
   intro x hx;simp only [List.mem_cons,List.not_mem_nil,or_false] at hx
   rcases hx with rfl | rfl | rfl | rfl | rfl | rfl | rfl
   · exact⟨by show RdSl H2 4 SArm.cells (.slice (some ⟨b55,0,none⟩) l_b55.length _) l_b55;rw [n_b55];exact hA_b55,z_b55⟩
   · exact⟨by show RdSl H2 4 SArm.cells (.slice (some ⟨b88,0,none⟩) l_b88.length _) l_b88;rw [n_b88];exact hA_b88,z_b88⟩
   · exact⟨by show RdSl H2 4 SArm.cells (.slice (some ⟨b88x,0,none⟩) l_b88x.length _) l_b88x;rw [n_b88x];exact hA_b88x,z_b88x⟩
   · exact⟨by show RdSl H2 4 SArm.cells (.slice (some ⟨b109,0,none⟩) l_b109.length _) l_b109;rw [n_b109];exact hA_b109,z_b109⟩
   · exact⟨by show RdSl H2 4 SArm.cells (.slice (some ⟨b162,0,none⟩) l_b162.length _) l_b162;rw [n_b162];exact hA_b162,z_b162⟩
   · exact⟨by show RdSl H2 4 SArm.cells (.slice (some ⟨b162x,0,none⟩) l_b162x.length _) l_b162x;rw [n_b162x];exact hA_b162x,z_b162x⟩
   · exact jM
  have hLb:kH ⟨name,(rolesL.take (4:Int).toNat),(a22,c22),[⟨[97],[98],l_b55,(some ⟨b55,0,none⟩,2)⟩,⟨[98],[99],l_b88,(some ⟨b88,0,none⟩,1)⟩,⟨[99],[100],l_b88x,(some ⟨b88x,0,none⟩,1)⟩,⟨[100],[97],l_b109,(some ⟨b109,0,none⟩,1)⟩,⟨[98],[99],l_b162,(some ⟨b162,0,none⟩,1)⟩,⟨[99],[100],l_b162x,(some ⟨b162x,0,none⟩,1)⟩,eB],(a171,c171)⟩:=by
   refine⟨[q.a,q.b,[111,107]],by simp,fun x hx=>?_⟩
   simp only [List.mem_cons,List.not_mem_nil,or_false] at hx
   rcases hx with rfl | rfl | rfl | rfl | rfl | rfl | rfl
   · intro a ha;have h:=w_b55 a ha;revert h;simp only [List.mem_cons,List.not_mem_nil,or_false];intro h;rcases h with h | h<;>rw [h]<;>simp
   · intro a ha;have h:=w_b88 a ha;revert h;simp only [List.mem_cons,List.not_mem_nil,or_false];intro h;rw [h];simp
   · intro a ha;have h:=w_b88x a ha;revert h;simp only [List.mem_cons,List.not_mem_nil,or_false];intro h;rw [h];simp
   · intro a ha;have h:=w_b109 a ha;revert h;simp only [List.mem_cons,List.not_mem_nil,or_false];intro h;rw [h];simp
   · intro a ha;have h:=w_b162 a ha;revert h;simp only [List.mem_cons,List.not_mem_nil,or_false];intro h;rw [h];simp
   · intro a ha;have h:=w_b162x a ha;revert h;simp only [List.mem_cons,List.not_mem_nil,or_false];intro h;rw [h];simp
   · intro a ha;cases ha
  exact aZ (.inr rfl) (ad rfl (RVal.cellA rfl (.h9) rfl)) (fun w hw=>hw.drop.drop.drop.drop.drop.drop.drop.drop.drop.drop) ⟨_,[],rfl,hd107,rfl,hle,⟨name,(rolesL.take (4:Int).toNat),(a22,c22),[⟨[97],[98],l_b55,(some ⟨b55,0,none⟩,2)⟩,⟨[98],[99],l_b88,(some ⟨b88,0,none⟩,1)⟩,⟨[99],[100],l_b88x,(some ⟨b88x,0,none⟩,1)⟩,⟨[100],[97],l_b109,(some ⟨b109,0,none⟩,1)⟩,⟨[98],[99],l_b162,(some ⟨b162,0,none⟩,1)⟩,⟨[99],[100],l_b162x,(some ⟨b162x,0,none⟩,1)⟩,eB],(a171,c171)⟩,rfl,⟨hrs,hP2,hPK⟩,rfl,rfl,hLb⟩
 refine gW ?_;refine qJ ?_;refine TL.run (bE rfl rfl hO91_1) rfl (TL.run (fw rfl rfl sq sq) rfl (zm1 ?_));refine TC.region (zm6 ?_);refine qJ ?_;refine zm0 ?_
 refine TL.run (aY rfl rfl hO91_1 sq sq) rfl (zm6 ?_)
 refine TL.run (PR.to (bG rfl hO91_1 (.s9 (.skip _ .all)) rfl rfl) (rfl:_=Value.slice (some ⟨b88x,0,none⟩) 1 1)) rfl (AM ?_)
 refine jY ?_;refine xy ?_;refine qJ ?_;refine TL.run (bE rfl rfl hO91_1) rfl (mu ?_);refine qJ ?_;refine TL.run (aY rfl rfl hO91_1 sq sq) rfl (zm6 ?_)
 refine TL.run (PR.to (bG rfl hO91_1 (.s9 (.skip _ .all)) rfl rfl) (rfl:_=Value.slice (some ⟨b55,0,none⟩) 2 2)) rfl (un ?_)
 refine xD ?_;refine um ?_;refine TC.rounds 3 (ul ?_);refine zm348 ?_;refine ui ?_;refine ui ?_;refine mh ?_;refine A5 ?_;refine ui ?_;refine mg ?_;refine A5 ?_;refine lZ ?_
 refine Dg ?_;refine aq (bE rfl rfl hO91_1) rfl (uh ?_)
 refine aF rfl rfl rfl rfl (fun b162=>?_)
 refine dZ ?_
 refine aF rfl rfl rfl rfl (fun b164=>?_)
 refine aw rfl (TL.append (enc:=SPoint.cells) rfl rfl rfl hO91_1 (Src.own [⟨_,_,[⟨[],0,[],0⟩],(some ⟨b162,0,none⟩,1)⟩] (.here _) rfl rfl) sq rfl (.s11 (.skip _ .all)) rfl (fun a165_0 c165_0 ob165_0 hO165_0=>?_))
 refine az (S0 (S0 (S1 (S1 (S1 (S1 (S1 (S1 (S1 (S1 (S1 (S1 SN)))))))))))) (Hp.le.refl _) (fu ?_);refine Dw ?_;refine AL ?_;refine AK ?_;refine zm350 ?_;refine ug ?_;refine ug ?_;refine mh ?_
 refine A2 ?_;refine ug ?_;refine mg ?_;refine A2 ?_;refine lZ ?_;refine Df ?_;refine aq (bE rfl rfl hO165_0) rfl (uh ?_)
 refine aF rfl rfl rfl rfl (fun b162x=>?_)
 refine dZ ?_
 refine aF rfl rfl rfl rfl (fun b164x=>?_)
 refine aw rfl (TL.append (enc:=SPoint.cells) rfl rfl rfl hO165_0 (Src.own [⟨_,_,[⟨[],0,[],0⟩],(some ⟨b162x,0,none⟩,1)⟩] (.here _) rfl rfl) sq rfl (.s13 (.skip _ .all)) rfl (fun a165_1 c165_1 ob165_1 hO165_1=>?_))
 refine az (S0 (S0 (S1 (S1 (S1 (S1 (S1 (S1 (S1 (S1 (S1 (S1 (S1 (S1 SN)))))))))))))) (Hp.le.refl _) (fu ?_);refine zm352 ?_;refine uk ?_;refine qK ?_
 refine TL.run (aB rfl (.h11) rfl) rfl (dw ?_)
 refine aD rfl rfl rfl rfl (fun b170=>?_)
 refine TL.append (enc:=SPoint.cells) rfl rfl rfl hO165_1 (Src.own [eB] (.here _) rfl rfl) sq rfl (.s14 (.skip _ .all)) rfl (fun a171 c171 ob171 hO171=>?_)
 refine zm6 ?_;refine bB rfl rfl rfl (.h12) rfl rfl (gF ?_)
 refine TL.run (a7 rfl (.h12) rfl) rfl (cH rfl rfl rfl rfl rfl (.h13) rfl rfl (TL.nil (af ?_)))
 refine TC.ret (zm354 ?_)
 refine cB (by simp [keys]) (fun H_b55 le_b55 rd_b55=>?_)
 replace hrs:=hrs.le le_b55
 replace hle:=hle.trans le_b55
 replace hd82_1:=hd82_1.le le_b55
 obtain⟨l_b55,n_b55,hA_b55,z_b55,w_b55⟩:=jb rd_b55 (by first | simp | (have:=hc82.len htn;omega)) (by first | simp | (have:=hc82.len htn;omega))
 refine Du ?_
 refine cB (by simp [keys]) (fun H_b88 le_b88 rd_b88=>?_)
 replace hrs:=hrs.le le_b88
 replace hle:=hle.trans le_b88
 replace hd82_1:=hd82_1.le le_b88
 replace hA_b55:=hA_b55.le le_b88
 obtain⟨l_b88,n_b88,hA_b88,z_b88,w_b88⟩:=di rd_b88 (by first | simp | (have:=hc82_0.len htn;omega))
 refine A4 ?_
 refine cB (by simp [keys]) (fun H_b88x le_b88x rd_b88x=>?_)
 replace hrs:=hrs.le le_b88x
 replace hle:=hle.trans le_b88x
 replace hd82_1:=hd82_1.le le_b88x
 replace hA_b55:=hA_b55.le le_b88x
 replace hA_b88:=hA_b88.le le_b88x
 obtain⟨l_b88x,n_b88x,hA_b88x,z_b88x,w_b88x⟩:=di rd_b88x (by first | simp | (have:=hc82_1.len htn;omega))
 refine xz ?_
 refine cB (by simp [keys]) (fun H_b162 le_b162 rd_b162=>?_)
 replace hrs:=hrs.le le_b162
 replace hle:=hle.trans le_b162
 replace hd82_1:=hd82_1.le le_b162
 replace hA_b55:=hA_b55.le le_b162
 replace hA_b88:=hA_b88.le le_b162
 replace hA_b88x:=hA_b88x.le le_b162
 obtain⟨l_b162,n_b162,hA_b162,z_b162,w_b162⟩:=di rd_b162 (by first | simp | (have:=hc82_0.len htn;omega))
 refine o3 ?_
 refine cB (by simp [keys]) (fun H_b162x le_b162x rd_b162x=>?_)
 replace hrs:=hrs.le le_b162x
 replace hle:=hle.trans le_b162x
 replace hd82_1:=hd82_1.le le_b162x
 replace hA_b55:=hA_b55.le le_b162x
 replace hA_b88:=hA_b88.le le_b162x
 replace hA_b88x:=hA_b88x.le le_b162x
 replace hA_b162:=hA_b162.le le_b162x
 obtain⟨l_b162x,n_b162x,hA_b162x,z_b162x,w_b162x⟩:=di rd_b162x (by first | simp | (have:=hc82_1.len htn;omega))
 refine dX (X:=[(b170,_),(b164x,_),(b164,_),(b90x,_),(b90,_),(b57,_),(b13,_),(b9,_),(b8,_),(bd,_)]) hO171 rfl (by simp [keys]) (fun H2 hle2 hP=>?_)
 replace hrs:=hrs.le hle2
 replace hle:=hle.trans hle2
 replace hd82_1:=hd82_1.le hle2
 replace hA_b55:=hA_b55.le hle2
 replace hA_b88:=hA_b88.le hle2
 replace hA_b88x:=hA_b88x.le hle2
 replace hA_b162:=hA_b162.le hle2
 replace hA_b162x:=hA_b162x.le hle2
 have hP2:=hP.recell (l':=[⟨[97],[98],l_b55,(some ⟨b55,0,none⟩,2)⟩,⟨[98],[99],l_b88,(some ⟨b88,0,none⟩,1)⟩,⟨[99],[100],l_b88x,(some ⟨b88x,0,none⟩,1)⟩,⟨[98],[99],l_b162,(some ⟨b162,0,none⟩,1)⟩,⟨[99],[100],l_b162x,(some ⟨b162x,0,none⟩,1)⟩,eB]) (by simp only [List.nil_append,List.cons_append,List.map_cons,List.map_nil,SPoint.cells,n_b55,n_b88,n_b88x,n_b162,n_b162x];rfl)
 have hPK:∀x∈([⟨[97],[98],l_b55,(some ⟨b55,0,none⟩,2)⟩,⟨[98],[99],l_b88,(some ⟨b88,0,none⟩,1)⟩,⟨[99],[100],l_b88x,(some ⟨b88x,0,none⟩,1)⟩,⟨[98],[99],l_b162,(some ⟨b162,0,none⟩,1)⟩,⟨[99],[100],l_b162x,(some ⟨b162x,0,none⟩,1)⟩,eB]:List SPoint),PointOk H2 x:=by
  intro x hx;simp only [List.mem_cons,List.not_mem_nil,or_false] at hx
  rcases hx with rfl | rfl | rfl | rfl | rfl | rfl
  · exact⟨by show RdSl H2 4 SArm.cells (.slice (some ⟨b55,0,none⟩) l_b55.length _) l_b55;rw [n_b55];exact hA_b55,z_b55⟩
  · exact⟨by show RdSl H2 4 SArm.cells (.slice (some ⟨b88,0,none⟩) l_b88.length _) l_b88;rw [n_b88];exact hA_b88,z_b88⟩
  · exact⟨by show RdSl H2 4 SArm.cells (.slice (some ⟨b88x,0,none⟩) l_b88x.length _) l_b88x;rw [n_b88x];exact hA_b88x,z_b88x⟩
  · exact⟨by show RdSl H2 4 SArm.cells (.slice (some ⟨b162,0,none⟩) l_b162.length _) l_b162;rw [n_b162];exact hA_b162,z_b162⟩
  · exact⟨by show RdSl H2 4 SArm.cells (.slice (some ⟨b162x,0,none⟩) l_b162x.length _) l_b162x;rw [n_b162x];exact hA_b162x,z_b162x⟩
  · exact jM
 have hLb:kH ⟨name,(rolesL.take (4:Int).toNat),(a22,c22),[⟨[97],[98],l_b55,(some ⟨b55,0,none⟩,2)⟩,⟨[98],[99],l_b88,(some ⟨b88,0,none⟩,1)⟩,⟨[99],[100],l_b88x,(some ⟨b88x,0,none⟩,1)⟩,⟨[98],[99],l_b162,(some ⟨b162,0,none⟩,1)⟩,⟨[99],[100],l_b162x,(some ⟨b162x,0,none⟩,1)⟩,eB],(a171,c171)⟩:=by
  refine⟨[q.a,q.b,[111,107]],by simp,fun x hx=>?_⟩
  simp only [List.mem_cons,List.not_mem_nil,or_false] at hx
  rcases hx with rfl | rfl | rfl | rfl | rfl | rfl
  · intro a ha;have h:=w_b55 a ha;revert h;simp only [List.mem_cons,List.not_mem_nil,or_false];intro h;rcases h with h | h<;>rw [h]<;>simp
  · intro a ha;have h:=w_b88 a ha;revert h;simp only [List.mem_cons,List.not_mem_nil,or_false];intro h;rw [h];simp
  · intro a ha;have h:=w_b88x a ha;revert h;simp only [List.mem_cons,List.not_mem_nil,or_false];intro h;rw [h];simp
  · intro a ha;have h:=w_b162 a ha;revert h;simp only [List.mem_cons,List.not_mem_nil,or_false];intro h;rw [h];simp
  · intro a ha;have h:=w_b162x a ha;revert h;simp only [List.mem_cons,List.not_mem_nil,or_false];intro h;rw [h];simp
  · intro a ha;cases ha
 exact aZ (.inr rfl) (ad rfl (RVal.cellA rfl (.h8) rfl)) (fun w hw=>hw.drop.drop.drop.drop.drop.drop.drop.drop.drop) ⟨_,[],rfl,hd82_1,rfl,hle,⟨name,(rolesL.take (4:Int).toNat),(a22,c22),[⟨[97],[98],l_b55,(some ⟨b55,0,none⟩,2)⟩,⟨[98],[99],l_b88,(some ⟨b88,0,none⟩,1)⟩,⟨[99],[100],l_b88x,(some ⟨b88x,0,none⟩,1)⟩,⟨[98],[99],l_b162,(some ⟨b162,0,none⟩,1)⟩,⟨[99],[100],l_b162x,(some ⟨b162x,0,none⟩,1)⟩,eB],(a171,c171)⟩,rfl,⟨hrs,hP2,hPK⟩,rfl,rfl,hLb⟩
theorem rf {H:Hp}{bd:Nat}{dl:Value}{at_:Int}(hd:DiceOk H dl at_){tv:Value}{types:List Str}(hty:RdSl H 1 Str.cells tv types)(htn:∀s∈types,TyNm s)(htl:types.length≤100)(name:Str)(many:Int)(h2:2≤many)(h4:many≤4):
  DFn Tryz.prog bd dl at_ 168 [gs name,.int .i64 many,tv] H (fun v H1 ob=>ob=[]∧(H.le H1∧∃p:SProto,v= .agg p.cells.toArray∧ProtoOk H1 p∧p.name=name∧∃n,2≤n∧n≤5∧p.roles=rolesL.take n∧kH p)):=by
 have key:∀{n:Nat},2≤n→n≤5→DFn Tryz.prog bd dl at_ 168 [gs name,.int .i64 many,tv] H (fun v H1 ob=>ob=[]∧(H.le H1∧∃p:SProto,v= .agg p.cells.toArray∧ProtoOk H1 p∧p.name=name∧p.roles=rolesL.take n∧kH p))→DFn Tryz.prog bd dl at_ 168 [gs name,.int .i64 many,tv] H (fun v H1 ob=>ob=[]∧(H.le H1∧∃p:SProto,v= .agg p.cells.toArray∧ProtoOk H1 p∧p.name=name∧∃n,2≤n∧n≤5∧p.roles=rolesL.take n∧kH p)):=
  fun h1 h2 h=>FnX.mono h (by
   rintro v H' L' ⟨at',ob,e1,e2,e3,e4,p,e5,e6,e7,e8,e9⟩
   exact⟨at',ob,e1,e2,e3,e4,p,e5,e6,e7,_,h1,h2,e8,e9⟩)
 rcases(by omega:many=2∨many=3∨many=4) with rfl | rfl | rfl
 · exact key om om (yn hd hty htn htl name)
 · exact key om om (ym hd hty htn htl name)
 exact key om om (yl hd hty htn htl name)
end Go.Sx
