import Derived.Test.YtjnlogbbcceaoaaGreatE19
import Derived.Test.YtjnlogbbcceaoaaGreatRows
import Derived.ProofKit
import Derived.Shelf.Vars
import Derived.Deep.DeepHandedRow
import Derived.OpenShut
set_option linter.all false
set_option maxRecDepth 100000
set_option maxHeartbeats 32000000
namespace Go.Sx
open Go
theorem ib {α β:Type}{f:α→β}{a b:List α}{k:Int}{x:α}(h:a.map f=b.map f)(hx:a[k.toNat]? =some x):∃y,b[k.toNat]? =some y∧f x=f y:=by
 have h1:(b.map f)[k.toNat]? =some (f x):=by rw [← h,List.getElem?_map,hx];rfl
 rw [List.getElem?_map] at h1
 cases hb:b[k.toNat]? with
 | none=>rw [hb] at h1;simp at h1
 | some y=>rw [hb] at h1;simp at h1;exact⟨y,rfl,h1.symm⟩
theorem f7 {α β:Type}{f:α→β}{a b:List α}(h:a.map f=b.map f):(a.length:Int)=b.length:=by
 have:=congrArg List.length h;simp at this;omega
theorem cast_eq {x y:SCast}(h:x.bare=y.bare):x.role=y.role∧x.proc=y.proc∧x.args=y.args:=by
 unfold SCast.bare at h;simp at h;exact h
theorem step_eq {a b:SStep}(h:a.bare=b.bare):a.kind=b.kind∧a.name=b.name∧a.peer=b.peer∧a.label=b.label∧a.proc=b.proc∧a.term=b.term∧a.next=b.next∧a.args=b.args∧a.casts.map SCast.bare=b.casts.map SCast.bare∧a.ways=b.ways:=by
 unfold SStep.bare at h
 obtain⟨_,_,_,_,_,_,_,_,_,_,_,_,_⟩:=a
 obtain⟨_,_,_,_,_,_,_,_,_,_,_,_,_⟩:=b
 simp at h ⊢
 simp_all
theorem proc_eq {a b:SProc}(h:a.bare=b.bare):a.name=b.name∧a.params=b.params∧a.terms=b.terms∧a.steps.map SStep.bare=b.steps.map SStep.bare:=by
 unfold SProc.bare at h
 obtain⟨_,_,_,_,_,_,_⟩:=a
 obtain⟨_,_,_,_,_,_,_⟩:=b
 simp at h ⊢
 simp_all
theorem turn_eq {a b:STurn}(h:SArms.bare a=SArms.bare b):a.kind=b.kind∧a.peer=b.peer∧a.arms=b.arms:=by
 unfold SArms.bare at h
 obtain⟨_,_,_,_⟩:=a
 obtain⟨_,_,_,_⟩:=b
 simp at h ⊢
 simp_all
theorem I2 {a b:SLocal}(h:a.bare=b.bare):a.name=b.name∧a.turns.map SArms.bare=b.turns.map SArms.bare:=by
 unfold SLocal.bare at h
 obtain⟨_,_,_⟩:=a
 obtain⟨_,_,_⟩:=b
 simp at h ⊢
 simp_all
theorem FW {a b:SPoint}(h:a.bare=b.bare):a.frm=b.frm∧a.to=b.to∧a.arms=b.arms:=by
 unfold SPoint.bare at h
 obtain⟨_,_,_,_⟩:=a
 obtain⟨_,_,_,_⟩:=b
 simp at h ⊢
 simp_all
theorem Iy {a b:SProto}(h:a.bare=b.bare):a.name=b.name∧a.roles=b.roles∧a.points.map SPoint.bare=b.points.map SPoint.bare:=by
 unfold SProto.bare at h
 obtain⟨_,_,_,_,_⟩:=a
 obtain⟨_,_,_,_,_⟩:=b
 simp at h ⊢
 simp_all
theorem prog_eq {a b:SProg}(h:a.bare=b.bare):a.protos.map SProto.bare=b.protos.map SProto.bare∧a.locals.map SLocal.bare=b.locals.map SLocal.bare∧a.procs.map SProc.bare=b.procs.map SProc.bare:=by
 unfold SProg.bare at h
 obtain⟨_,_,_,_,_,_⟩:=a
 obtain⟨_,_,_,_,_,_⟩:=b
 simp at h ⊢
 simp_all
end Go.Sx
namespace Go.Sx
open Go Go.Proofs
theorem eqTerm (t:Term):jj Tryz.prog 4 45 t.cells t.cells=some true:=by
 have h:jj Tryz.prog 4 45 t.cells t.cells=some ((t.kind==t.kind)&&(((ByteArray.mk t.name.toArray).toList==(ByteArray.mk t.name.toArray).toList)&&((t.n==t.n)&&(((ByteArray.mk t.text.toArray).toList==(ByteArray.mk t.text.toArray).toList)&&((t.l==t.l)&&((t.r==t.r)&&true)))))):=by kernel_rfl
 rw [h];simp
theorem eqWay (t:SWay):jj Tryz.prog 4 66 t.cells t.cells=some true:=by
 have h:jj Tryz.prog 4 66 t.cells t.cells=some (((ByteArray.mk t.label.toArray).toList==(ByteArray.mk t.label.toArray).toList)&&(((ByteArray.mk t.name.toArray).toList==(ByteArray.mk t.name.toArray).toList)&&((t.next==t.next)&&true))):=by kernel_rfl
 rw [h];simp
theorem eqArm (t:SArm):jj Tryz.prog 4 175 t.cells t.cells=some true:=by
 have h:jj Tryz.prog 4 175 t.cells t.cells=some (((ByteArray.mk t.label.toArray).toList==(ByteArray.mk t.label.toArray).toList)&&(((t.ck==t.ck)&&(((ByteArray.mk t.cn.toArray).toList==(ByteArray.mk t.cn.toArray).toList)&&true))&&((t.next==t.next)&&true))):=by kernel_rfl
 rw [h];simp
theorem eqParam (t:SParam):jj Tryz.prog 4 42 t.cells t.cells=some true:=by
 have h:jj Tryz.prog 4 42 t.cells t.cells=some (((ByteArray.mk t.name.toArray).toList==(ByteArray.mk t.name.toArray).toList)&&(((t.ck==t.ck)&&(((ByteArray.mk t.cn.toArray).toList==(ByteArray.mk t.cn.toArray).toList)&&true))&&true)):=by kernel_rfl
 rw [h];simp
theorem nG {H:Hp}{l:List Int}{va vb:Value}(ha:RdSl H 1 I64.cells va l)(hb:RdSl H 1 I64.cells vb l):
  FnS Tryz.prog 144 [va,vb] H (.bool true):=by
 have hma:=ha.max
 obtain⟨aa,ac,rfl⟩:=ha.len
 obtain⟨ba,bc,rfl⟩:=hb.len
 refine FnS.enter Tryz.func144 Tryz.ntmps144 rfl rfl (fun w0=>?_)
 refine qU ?_
 refine aV rfl ?_ ?_<;>intro c10
 · exact absurd rfl c10
 refine jn ?_
 refine TC.loop (V:=fun k=>[(5,.int .i64 k)]) (K:=[(0,_),(1,_),(4,_)]) (L:=fun k=>_) (I:=fun k=>0≤k∧k≤l.length) (μ:=fun k=>(l.length - k).toNat) (i:=(0:Int)) ky o2q (fun w hw=>hw) (fun k hI=>?_)
 refine qT ?_
 refine af rfl ?_ ?_<;>intro c14
 ·
  obtain⟨x,hx⟩:=aj (l:=l) hI.1 c14
  refine qS ?_;refine TQ.run (aL ha hx rfl rfl) rfl (qR ?_);refine TQ.run (aL hb hx rfl rfl) rfl (k4 ?_)
  refine aV rfl ?_ ?_<;>intro c25
  · exact absurd rfl c25
  exact gS
 refine fD ?_
 exact ao (.inr rfl) (ad rfl (RVal.tmp rfl)) rfl
theorem si {H:Hp}{l:List Str}{va vb:Value}(ha:RdSl H 1 Str.cells va l)(hb:RdSl H 1 Str.cells vb l):
  FnS Tryz.prog 88 [va,vb] H (.bool true):=by
 have hma:=ha.max
 obtain⟨aa,ac,rfl⟩:=ha.len
 obtain⟨ba,bc,rfl⟩:=hb.len
 refine FnS.enter Tryz.func88 Tryz.ntmps88 rfl rfl (fun w0=>?_)
 refine qU ?_
 refine aV rfl ?_ ?_<;>intro c10
 · exact absurd rfl c10
 refine jn ?_
 refine TC.loop (V:=fun k=>[(5,.int .i64 k)]) (K:=[(0,_),(1,_),(4,_)]) (L:=fun k=>_) (I:=fun k=>0≤k∧k≤l.length) (μ:=fun k=>(l.length - k).toNat) (i:=(0:Int)) ky o2q (fun w hw=>hw) (fun k hI=>?_)
 refine qT ?_
 refine af rfl ?_ ?_<;>intro c14
 ·
  obtain⟨x,hx⟩:=aj (l:=l) hI.1 c14
  refine qS ?_;refine TQ.run (aL ha hx rfl rfl) rfl (qR ?_);refine TQ.run (aL hb hx rfl rfl) rfl (wF ?_)
  refine aV rfl ?_ ?_<;>intro c25
  · exact absurd rfl c25
  exact gS
 refine fD ?_
 exact ao (.inr rfl) (ad rfl (RVal.tmp rfl)) rfl
theorem lP {H:Hp}{l:List SArm}{va vb:Value}(ha:RdSl H 4 SArm.cells va l)(hb:RdSl H 4 SArm.cells vb l):
  FnS Tryz.prog 89 [va,vb] H (.bool true):=by
 have hma:=ha.max
 obtain⟨aa,ac,rfl⟩:=ha.len
 obtain⟨ba,bc,rfl⟩:=hb.len
 refine FnS.enter Tryz.func89 Tryz.ntmps89 rfl rfl (fun w0=>?_)
 refine qU ?_
 refine aV rfl ?_ ?_<;>intro c10
 · exact absurd rfl c10
 refine jn ?_
 refine TC.loop (V:=fun k=>[(5,.int .i64 k)]) (K:=[(0,_),(1,_),(4,_)]) (L:=fun k=>_) (I:=fun k=>0≤k∧k≤l.length) (μ:=fun k=>(l.length - k).toNat) (i:=(0:Int)) ky o2q (fun w hw=>hw) (fun k hI=>?_)
 refine qT ?_
 refine af rfl ?_ ?_<;>intro c14
 ·
  obtain⟨x,hx⟩:=aj (l:=l) hI.1 c14
  refine qS ?_;refine TQ.run (aY ha hx rfl rfl) rfl (qR ?_);refine TQ.run (aY hb hx rfl rfl) rfl (TQ.run (uw (r:=true) rfl rfl kr kr (eqArm x)) rfl (TQ.nil (ai ?_)))
  refine TC.cond rfl ?_ ?_<;>intro c25
  · exact absurd c25 dq
  exact gS
 refine fD ?_
 exact ao (.inr rfl) (ad rfl (RVal.tmp rfl)) rfl
theorem ve {H:Hp}{l:List Term}{va vb:Value}(ha:RdSl H 6 Term.cells va l)(hb:RdSl H 6 Term.cells vb l):
  FnS Tryz.prog 90 [va,vb] H (.bool true):=by
 have hma:=ha.max
 obtain⟨aa,ac,rfl⟩:=ha.len
 obtain⟨ba,bc,rfl⟩:=hb.len
 refine FnS.enter Tryz.func90 Tryz.ntmps90 rfl rfl (fun w0=>?_)
 refine qU ?_
 refine aV rfl ?_ ?_<;>intro c10
 · exact absurd rfl c10
 refine jn ?_
 refine TC.loop (V:=fun k=>[(5,.int .i64 k)]) (K:=[(0,_),(1,_),(4,_)]) (L:=fun k=>_) (I:=fun k=>0≤k∧k≤l.length) (μ:=fun k=>(l.length - k).toNat) (i:=(0:Int)) ky o2q (fun w hw=>hw) (fun k hI=>?_)
 refine qT ?_
 refine af rfl ?_ ?_<;>intro c14
 ·
  obtain⟨x,hx⟩:=aj (l:=l) hI.1 c14
  refine qS ?_;refine TQ.run (aY ha hx rfl rfl) rfl (qR ?_);refine TQ.run (aY hb hx rfl rfl) rfl (TQ.run (uw (r:=true) rfl rfl kr kr (eqTerm x)) rfl (TQ.nil (ai ?_)))
  refine TC.cond rfl ?_ ?_<;>intro c25
  · exact absurd c25 dq
  exact gS
 refine fD ?_
 exact ao (.inr rfl) (ad rfl (RVal.tmp rfl)) rfl
theorem vY {H:Hp}{l:List SWay}{va vb:Value}(ha:RdSl H 3 SWay.cells va l)(hb:RdSl H 3 SWay.cells vb l):
  FnS Tryz.prog 146 [va,vb] H (.bool true):=by
 have hma:=ha.max
 obtain⟨aa,ac,rfl⟩:=ha.len
 obtain⟨ba,bc,rfl⟩:=hb.len
 refine FnS.enter Tryz.func146 Tryz.ntmps146 rfl rfl (fun w0=>?_)
 refine qU ?_
 refine aV rfl ?_ ?_<;>intro c10
 · exact absurd rfl c10
 refine jn ?_
 refine TC.loop (V:=fun k=>[(5,.int .i64 k)]) (K:=[(0,_),(1,_),(4,_)]) (L:=fun k=>_) (I:=fun k=>0≤k∧k≤l.length) (μ:=fun k=>(l.length - k).toNat) (i:=(0:Int)) ky o2q (fun w hw=>hw) (fun k hI=>?_)
 refine qT ?_
 refine af rfl ?_ ?_<;>intro c14
 ·
  obtain⟨x,hx⟩:=aj (l:=l) hI.1 c14
  refine qS ?_;refine TQ.run (aY ha hx rfl rfl) rfl (qR ?_);refine TQ.run (aY hb hx rfl rfl) rfl (TQ.run (uw (r:=true) rfl rfl kr kr (eqWay x)) rfl (TQ.nil (ai ?_)))
  refine TC.cond rfl ?_ ?_<;>intro c25
  · exact absurd c25 dq
  exact gS
 refine fD ?_
 exact ao (.inr rfl) (ad rfl (RVal.tmp rfl)) rfl
theorem u7 {H:Hp}{a b:List SCast}{va vb:Value}(ha:RdSl H 3 SCast.cells va a)(hb:RdSl H 3 SCast.cells vb b)(hA:CsAll H a)(hB:CsAll H b)(he:a.map SCast.bare=b.map SCast.bare):
  FnS Tryz.prog 145 [va,vb] H (.bool true):=by
 have hma:=ha.max
 have hel:=f7 he
 obtain⟨aa,ac,rfl⟩:=ha.len
 obtain⟨ba,bc,rfl⟩:=hb.len
 refine FnS.enter Tryz.func145 Tryz.ntmps145 rfl rfl (fun w0=>?_)
 refine qU ?_
 refine aV rfl ?_ ?_<;>intro c10
 · exact absurd hel c10
 refine jn ?_
 refine TC.loop (V:=fun k=>[(5,.int .i64 k)]) (K:=[(0,_),(1,_),(4,_)]) (L:=fun k=>_) (I:=fun k=>0≤k∧k≤a.length) (μ:=fun k=>(a.length - k).toNat) (i:=(0:Int)) ky o2q (fun w hw=>hw) (fun k hI=>?_)
 refine qT ?_
 refine af rfl ?_ ?_<;>intro c14
 ·
  obtain⟨x,hx⟩:=aj (l:=a) hI.1 c14
  obtain⟨y,hy,hxy⟩:=ib he hx
  have hf:=cast_eq hxy
  have hlb:=eY hy
  have hax:=hA x (List.mem_of_getElem? hx)
  have hby:=(hB y (List.mem_of_getElem? hy)).cast hf.2.2.symm
  refine qS ?_;refine gl ?_;refine TQ.run (aT ha hx rfl rfl) rfl (qR ?_);refine gl ?_
  refine TQ.run (aT hb hy rfl rfl) rfl (TQ.run (cb rfl rfl rfl) rfl (TQ.run (aG rfl) rfl (fV (s:=28) rfl (fun g28=>?_) (fun g28=>?_))))
  ·
   have q28:=aQ g28
   exact absurd hf.1 q28
  have q28:=aM g28
  refine nk ?_;refine DX ?_;refine kf ?_;refine bz rfl rfl (aT ha hx rfl rfl) rfl (nk ?_);refine DW ?_;refine kf ?_
  refine bz rfl rfl (aT hb hy rfl rfl) rfl (bz rfl rfl (cb rfl rfl rfl) rfl (mV ?_))
  refine fV (s:=41) rfl ?_ ?_<;>intro g41
  ·
   have q41:=aQ g41
   exact absurd hf.2.1 q41
  have q41:=aM g41
  refine nk ?_;refine DX ?_;refine kf ?_;refine bz rfl rfl (aT ha hx rfl rfl) rfl (nk ?_);refine DW ?_;refine kf ?_
  refine bz rfl rfl (aT hb hy rfl rfl) rfl (mR rfl rfl (ab rfl rfl rfl rfl) (nG hax hby) rfl (Ak ?_))
  refine TC.cond rfl ?_ ?_<;>intro c54
  · exact absurd c54 dq
  exact gS
 refine fD ?_
 exact ao (.inr rfl) (ad rfl (RVal.tmp rfl)) rfl
theorem sh {H:Hp}{a b:List STurn}{va vb:Value}(ha:RdSl H 3 STurn.cells va a)(hb:RdSl H 3 STurn.cells vb b)(hA:TuAll H a)(hB:TuAll H b)(he:a.map SArms.bare=b.map SArms.bare):
  FnS Tryz.prog 44 [va,vb] H (.bool true):=by
 have hma:=ha.max
 have hel:=f7 he
 obtain⟨aa,ac,rfl⟩:=ha.len
 obtain⟨ba,bc,rfl⟩:=hb.len
 refine FnS.enter Tryz.func44 Tryz.ntmps44 rfl rfl (fun w0=>?_)
 refine qU ?_
 refine aV rfl ?_ ?_<;>intro c10
 · exact absurd hel c10
 refine jn ?_
 refine TC.loop (V:=fun k=>[(5,.int .i64 k)]) (K:=[(0,_),(1,_),(4,_)]) (L:=fun k=>_) (I:=fun k=>0≤k∧k≤a.length) (μ:=fun k=>(a.length - k).toNat) (i:=(0:Int)) ky o2q (fun w hw=>hw) (fun k hI=>?_)
 refine qT ?_
 refine af rfl ?_ ?_<;>intro c14
 ·
  obtain⟨x,hx⟩:=aj (l:=a) hI.1 c14
  obtain⟨y,hy,hxy⟩:=ib he hx
  have hf:=turn_eq hxy
  have hlb:=eY hy
  have hax:=(hA x (List.mem_of_getElem? hx)).a
  have hby:=((hB y (List.mem_of_getElem? hy)).a).cast hf.2.2.symm
  refine qS ?_;refine gl ?_;refine TQ.run (aT ha hx rfl rfl) rfl (qR ?_);refine gl ?_;refine TQ.run (aT hb hy rfl rfl) rfl (mV ?_)
  refine fV (s:=28) rfl ?_ ?_<;>intro g28
  ·
   have q28:=aQ g28
   exact absurd hf.1 q28
  have q28:=aM g28
  refine nk ?_;refine DX ?_;refine kf ?_;refine bz rfl rfl (aT ha hx rfl rfl) rfl (nk ?_);refine DW ?_;refine kf ?_
  refine bz rfl rfl (aT hb hy rfl rfl) rfl (bz rfl rfl (cb rfl rfl rfl) rfl (mV ?_))
  refine fV (s:=41) rfl ?_ ?_<;>intro g41
  ·
   have q41:=aQ g41
   exact absurd hf.2.1 q41
  have q41:=aM g41
  refine nk ?_;refine DX ?_;refine kf ?_;refine bz rfl rfl (aT ha hx rfl rfl) rfl (nk ?_);refine DW ?_;refine kf ?_
  refine bz rfl rfl (aT hb hy rfl rfl) rfl (mR rfl rfl (ab rfl rfl rfl rfl) (lP hax hby) rfl (Ak ?_))
  refine TC.cond rfl ?_ ?_<;>intro c54
  · exact absurd c54 dq
  exact gS
 refine fD ?_
 exact ao (.inr rfl) (ad rfl (RVal.tmp rfl)) rfl
theorem wb {H:Hp}{a b:SStep}(hA:StepOk H a)(hB:StepOk H b)(he:a.bare=b.bare):
  FnS Tryz.prog 91 [.agg a.cells.toArray,.agg b.cells.toArray] H (.bool true):=by
 have hf:=step_eq he
 refine FnS.enter Tryz.func91 Tryz.ntmps91 rfl rfl (fun w0=>?_)
 refine zm2 ?_
 refine TL.box rfl rfl (fun b2=>?_)
 refine TL.box rfl rfl (fun b3=>?_)
 refine zm1 ?_;refine jm ?_;refine fj ?_;refine zm3 ?_
 refine ag (s:=10) rfl ?_ ?_<;>intro g10
 ·
  have q10:=of_decide_eq_true g10
  refine fl ?_;refine kN ?_
  refine ag (s:=17) rfl ?_ ?_<;>intro g17
  ·
   have q17:=of_decide_eq_true g17
   refine fl ?_;refine kN ?_
   refine ag (s:=24) rfl ?_ ?_<;>intro g24
   ·
    have q24:=of_decide_eq_true g24
    refine fl ?_;refine kN ?_
    refine ag (s:=31) rfl ?_ ?_<;>intro g31
    ·
     have q31:=of_decide_eq_true g31
     refine fl ?_;refine kN ?_
     refine ag (s:=38) rfl ?_ ?_<;>intro g38
     ·
      have q38:=of_decide_eq_true g38
      refine fl ?_;refine m6 ?_
      refine ag (s:=45) rfl ?_ ?_<;>intro g45
      ·
       have q45:=of_decide_eq_true g45
       refine fl ?_;refine m6 ?_
       refine ag (s:=52) rfl ?_ ?_<;>intro g52
       ·
        have q52:=of_decide_eq_true g52
        refine ri ?_;refine aH rfl rfl (ab rfl rfl rfl rfl) (nG hA.a (hB.a.cast hf.2.2.2.2.2.2.2.1.symm)) rfl (zm3 ?_)
        refine ag (s:=59) rfl ?_ ?_<;>intro g59
        ·
         refine ri ?_;refine aH rfl rfl (ab rfl rfl rfl rfl) (u7 hA.c hB.c hA.cs hB.cs hf.2.2.2.2.2.2.2.2.1) rfl (zm3 ?_)
         refine ag (s:=66) rfl ?_ ?_<;>intro g66
         ·
          refine ri ?_;refine aH rfl rfl (ab rfl rfl rfl rfl) (vY hA.w (hB.w.cast hf.2.2.2.2.2.2.2.2.2.symm)) rfl (gm ?_)
          exact ao (.inr rfl) (ad rfl (RVal.tmp rfl)) rfl
         exact absurd g66 dq
        exact absurd g59 dq
       have q52:=of_decide_eq_false g52
       exact absurd hf.2.2.2.2.2.2.1 q52
      have q45:=of_decide_eq_false g45
      exact absurd hf.2.2.2.2.2.1 q45
     have q38:=of_decide_eq_false g38
     exact absurd hf.2.2.2.2.1 q38
    have q31:=of_decide_eq_false g31
    exact absurd hf.2.2.2.1 q31
   have q24:=of_decide_eq_false g24
   exact absurd hf.2.2.1 q24
  have q17:=of_decide_eq_false g17
  exact absurd hf.2.1 q17
 have q10:=of_decide_eq_false g10
 exact absurd hf.1 q10
theorem wd {H:Hp}{a b:SProc}(hA:ProcOk H a)(hB:ProcOk H b)(he:a.bare=b.bare):
  FnS Tryz.prog 45 [.agg a.cells.toArray,.agg b.cells.toArray] H (.bool true):=by
 have hf:=proc_eq he
 have hel:=f7 hf.2.2.2
 have hepl:(a.params.length:Int)=b.params.length:=by rw [hf.2.1]
 have hm1:=hA.pa.max
 have hm2:=hA.s.max
 refine FnS.enter Tryz.func45 Tryz.ntmps45 rfl rfl (fun w0=>?_)
 refine zm2 ?_
 refine TL.box rfl rfl (fun b2=>?_)
 refine TL.box rfl rfl (fun b3=>?_)
 refine tI ?_;refine fj ?_;refine ot ?_
 refine ag (s:=12) rfl ?_ ?_<;>intro g12
 ·
  have q12:=aQ g12
  exact absurd hf.1 q12
 have q12:=aM g12
 refine fl ?_;refine aw rfl rfl (ah rfl rfl hA.pa) rfl (zm8 ?_);refine aw rfl rfl (ah rfl rfl hB.pa) rfl (cM ?_)
 refine ag (s:=21) rfl ?_ ?_<;>intro g21
 ·
  have q21:=aQ g21
  exact absurd hepl q21
 have q21:=aM g21
 refine fl ?_;refine aw rfl rfl (ah rfl rfl hA.s) rfl (zm8 ?_);refine aw rfl rfl (ah rfl rfl hB.s) rfl (cM ?_)
 refine ag (s:=30) rfl ?_ ?_<;>intro g30
 ·
  have q30:=aQ g30
  exact absurd hel q30
 have q30:=aM g30
 refine ri ?_;refine aH rfl rfl (ab rfl rfl rfl rfl) (ve hA.t (hB.t.cast hf.2.2.1.symm)) rfl (fP ?_)
 refine TC.cond rfl ?_ ?_<;>intro c37
 · exact absurd c37 dq
 refine jn ?_
 refine TC.loop (V:=fun k=>[(5,.int .i64 k)]) (K:=[(2,_),(3,_),(4,_)]) (L:=fun k=>_) (I:=fun k=>0≤k∧k≤a.params.length) (μ:=fun k=>(a.params.length - k).toNat) (i:=(0:Int)) ky o2q (fun w hw=>hw) (fun k hI=>?_)
 refine kU ?_;refine TL.run (ah rfl rfl hA.pa) rfl (zm1 ?_)
 refine af rfl ?_ ?_<;>intro c42
 ·
  obtain⟨x,hx⟩:=aj (l:=a.params) hI.1 c42
  have hy:b.params[k.toNat]? =some x:=hf.2.1▸hx
  refine sW ?_;refine TQ.run (ae rfl hA.pa rfl om om) rfl (TQ.run (aY hA.pa hx rfl rfl) rfl (kL ?_))
  refine TQ.run (ae rfl hB.pa rfl om om) rfl (TQ.run (aY hB.pa hy rfl rfl) rfl (TQ.run (uw (r:=true) rfl rfl kr kr (eqParam x)) rfl (TQ.nil ?_)))
  refine ai (TC.cond rfl (fun c55=>?_) (fun c55=>?_))
  · exact absurd c55 dq
  exact gS
 refine tf ?_
 refine TC.loop (V:=fun k=>[(6,.int .i64 k)]) (K:=[(2,_),(3,_),(4,_)]) (L:=fun k=>_) (I:=fun k=>0≤k∧k≤a.steps.length) (μ:=fun k=>(a.steps.length - k).toNat) (i:=(0:Int)) ky o2q (fun w hw=>hw) (fun k hI=>?_)
 refine kU ?_;refine TL.run (ah rfl rfl hA.s) rfl (zm1 ?_)
 refine af rfl ?_ ?_<;>intro c60
 ·
  obtain⟨x,hx⟩:=aj (l:=a.steps) hI.1 c60
  obtain⟨y,hy,hxy⟩:=ib hf.2.2.2 hx
  refine sW ?_;refine TQ.run (ae rfl hA.s rfl om om) rfl (TQ.run (aY hA.s hx rfl rfl) rfl (kL ?_))
  refine TQ.run (ae rfl hB.s rfl om om) rfl (TQ.run (aY hB.s hy rfl rfl) rfl (gJ (ab rfl rfl rfl rfl) (wb (hA.ss x (List.mem_of_getElem? hx)) (hB.ss y (List.mem_of_getElem? hy)) hxy) rfl (k4 ?_)))
  refine TC.cond rfl ?_ ?_<;>intro c74
  · exact absurd c74 dq
  exact gS
 refine fD ?_
 exact ao (.inr rfl) (ad rfl (RVal.tmp rfl)) rfl
theorem vf {H:Hp}{a b:SProto}(hA:ProtoOk H a)(hB:ProtoOk H b)(he:a.bare=b.bare):
  FnS Tryz.prog 43 [.agg a.cells.toArray,.agg b.cells.toArray] H (.bool true):=by
 have hf:=Iy he
 have hel:=f7 hf.2.2
 have hm1:=hA.pt.max
 refine FnS.enter Tryz.func43 Tryz.ntmps43 rfl rfl (fun w0=>?_)
 refine zm2 ?_
 refine TL.box rfl rfl (fun b2=>?_)
 refine TL.box rfl rfl (fun b3=>?_)
 refine tI ?_;refine fj ?_;refine ot ?_
 refine ag (s:=11) rfl ?_ ?_<;>intro g11
 ·
  have q11:=aQ g11
  exact absurd hf.1 q11
 have q11:=aM g11
 refine ri ?_;refine aH rfl rfl (ab rfl rfl rfl rfl) (si hA.r (hB.r.cast hf.2.1.symm)) rfl (cM ?_)
 refine ag (s:=19) rfl ?_ ?_<;>intro g19
 · exact absurd g19 dq
 refine fl ?_;refine aw rfl rfl (ah rfl rfl hA.pt) rfl (zm8 ?_);refine aw rfl rfl (ah rfl rfl hB.pt) rfl (fP ?_)
 refine aV rfl ?_ ?_<;>intro c27
 · exact absurd hel c27
 refine jn ?_
 refine TC.loop (V:=fun k=>[(5,.int .i64 k)]) (K:=[(2,_),(3,_),(4,_)]) (L:=fun k=>_) (I:=fun k=>0≤k∧k≤a.points.length) (μ:=fun k=>(a.points.length - k).toNat) (i:=(0:Int)) ky o2q (fun w hw=>hw) (fun k hI=>?_)
 refine kU ?_;refine TL.run (ah rfl rfl hA.pt) rfl (zm1 ?_)
 refine af rfl ?_ ?_<;>intro c32
 ·
  obtain⟨x,hx⟩:=aj (l:=a.points) hI.1 c32
  obtain⟨y,hy,hxy⟩:=ib hf.2.2 hx
  have hg:=FW hxy
  have hxa:=(hA.ps x (List.mem_of_getElem? hx)).a
  have hya:=(hB.ps y (List.mem_of_getElem? hy)).a.cast hg.2.2.symm
  have hlb:=eY hy
  refine sW ?_;refine TQ.run (ae rfl hA.pt rfl om om) rfl (gl ?_);refine TQ.run (aT hA.pt hx rfl rfl) rfl (kL ?_);refine TQ.run (ae rfl hB.pt rfl om om) rfl (gl ?_)
  refine TQ.run (aT hB.pt hy rfl rfl) rfl (TQ.run (cb rfl rfl rfl) rfl (TQ.run (aG rfl) rfl (fV (s:=48) rfl (fun g48=>?_) (fun g48=>?_))))
  ·
   have q48:=aQ g48
   exact absurd hg.1 q48
  have q48:=aM g48
  refine kf ?_;refine bz rfl rfl (aE rfl (.h1) rfl) rfl (bz rfl rfl (aG rfl) rfl (bz rfl rfl (ae rfl hA.pt rfl om om) rfl (kf ?_)))
  refine bz rfl rfl (aT hA.pt hx rfl rfl) rfl (wU ?_);refine bz rfl rfl (aG rfl) rfl (bz rfl rfl (ae rfl hB.pt rfl om om) rfl (kf ?_))
  refine bz rfl rfl (aT hB.pt hy rfl rfl) rfl (bz rfl rfl (cb rfl rfl rfl) rfl (mV ?_))
  refine fV (s:=63) rfl ?_ ?_<;>intro g63
  ·
   have q63:=aQ g63
   exact absurd hg.2.1 q63
  have q63:=aM g63
  refine kf ?_;refine bz rfl rfl (aE rfl (.h1) rfl) rfl (bz rfl rfl (aG rfl) rfl (bz rfl rfl (ae rfl hA.pt rfl om om) rfl (kf ?_)))
  refine bz rfl rfl (aT hA.pt hx rfl rfl) rfl (wU ?_);refine bz rfl rfl (aG rfl) rfl (bz rfl rfl (ae rfl hB.pt rfl om om) rfl (kf ?_))
  refine bz rfl rfl (aT hB.pt hy rfl rfl) rfl (mR rfl rfl (ab rfl rfl rfl rfl) (lP hxa hya) rfl (Ak ?_))
  refine TC.cond rfl ?_ ?_<;>intro c78
  · exact absurd c78 dq
  exact gS
 refine fD ?_
 exact ao (.inr rfl) (ad rfl (RVal.tmp rfl)) rfl
theorem qx {H:Hp}{a b:SProg}(hA:ProgOk H a)(hB:ProgOk H b)(he:a.bare=b.bare):
  FnS Tryz.prog 14 [.agg a.cells.toArray,.agg b.cells.toArray] H (.bool true):=by
 have hf:=prog_eq he
 have hl1:=f7 hf.1
 have hl2:=f7 hf.2.1
 have hl3:=f7 hf.2.2
 have hm1:=hA.r.max
 have hm2:=hA.l.max
 have hm3:=hA.q.max
 refine FnS.enter Tryz.func14 Tryz.ntmps14 rfl rfl (fun w0=>?_)
 refine zm2 ?_
 refine TL.box rfl rfl (fun b2=>?_)
 refine TL.box rfl rfl (fun b3=>?_)
 refine tI ?_;refine TL.run (ah rfl rfl hA.r) rfl (fj ?_);refine TL.run (ah rfl rfl hB.r) rfl (zm3 ?_)
 refine ag (s:=15) rfl ?_ ?_<;>intro g15
 ·
  have q15:=aQ g15
  exact absurd hl1 q15
 have q15:=aM g15
 refine fl ?_;refine aw rfl rfl (ah rfl rfl hA.l) rfl (zm8 ?_);refine aw rfl rfl (ah rfl rfl hB.l) rfl (cM ?_)
 refine ag (s:=24) rfl ?_ ?_<;>intro g24
 ·
  have q24:=aQ g24
  exact absurd hl2 q24
 have q24:=aM g24
 refine fl ?_;refine aw rfl rfl (ah rfl rfl hA.q) rfl (zm8 ?_);refine aw rfl rfl (ah rfl rfl hB.q) rfl (fP ?_)
 refine aV rfl ?_ ?_<;>intro c32
 · exact absurd hl3 c32
 refine jn ?_
 refine TC.loop (V:=fun k=>[(5,.int .i64 k)]) (K:=[(2,_),(3,_),(4,_)]) (L:=fun k=>_) (I:=fun k=>0≤k∧k≤a.protos.length) (μ:=fun k=>(a.protos.length - k).toNat) (i:=(0:Int)) ky o2q (fun w hw=>hw) (fun k hI=>?_)
 refine kU ?_;refine TL.run (ah rfl rfl hA.r) rfl (zm1 ?_)
 refine af rfl ?_ ?_<;>intro c37
 ·
  obtain⟨x,hx⟩:=aj (l:=a.protos) hI.1 c37
  obtain⟨y,hy,hxy⟩:=ib hf.1 hx
  have hlb:=eY hy
  refine sW ?_;refine TQ.run (ae rfl hA.r rfl om om) rfl (TQ.run (aY hA.r hx rfl rfl) rfl (kL ?_))
  refine TQ.run (ae rfl hB.r rfl om om) rfl (TQ.run (aY hB.r hy rfl rfl) rfl (gJ (ab rfl rfl rfl rfl) (vf (hA.rs x (List.mem_of_getElem? hx)) (hB.rs y (List.mem_of_getElem? hy)) hxy) rfl (k4 ?_)))
  refine TC.cond rfl ?_ ?_<;>intro c51
  · exact absurd c51 dq
  exact gS
 refine tf ?_
 refine TC.loop (V:=fun k=>[(6,.int .i64 k)]) (K:=[(2,_),(3,_),(4,_)]) (L:=fun k=>_) (I:=fun k=>0≤k∧k≤a.locals.length) (μ:=fun k=>(a.locals.length - k).toNat) (i:=(0:Int)) ky o2q (fun w hw=>hw) (fun k hI=>?_)
 refine kU ?_;refine TL.run (ah rfl rfl hA.l) rfl (zm1 ?_)
 refine af rfl ?_ ?_<;>intro c56
 ·
  obtain⟨x,hx⟩:=aj (l:=a.locals) hI.1 c56
  obtain⟨y,hy,hxy⟩:=ib hf.2.1 hx
  have hg:=I2 hxy
  have hlb:=eY hy
  refine sW ?_;refine TQ.run (ae rfl hA.l rfl om om) rfl (gl ?_);refine TQ.run (aT hA.l hx rfl rfl) rfl (kL ?_);refine TQ.run (ae rfl hB.l rfl om om) rfl (gl ?_)
  refine TQ.run (aT hB.l hy rfl rfl) rfl (TQ.run (cb rfl rfl rfl) rfl (TQ.run (aG rfl) rfl (fV (s:=72) rfl (fun g72=>?_) (fun g72=>?_))))
  ·
   have q72:=aQ g72
   exact absurd hg.1 q72
  have q72:=aM g72
  refine kf ?_;refine bz rfl rfl (aE rfl (.h1) rfl) rfl (bz rfl rfl (aG rfl) rfl (bz rfl rfl (ae rfl hA.l rfl om om) rfl (kf ?_)))
  refine bz rfl rfl (aT hA.l hx rfl rfl) rfl (wU ?_);refine bz rfl rfl (aG rfl) rfl (bz rfl rfl (ae rfl hB.l rfl om om) rfl (kf ?_))
  refine bz rfl rfl (aT hB.l hy rfl rfl) rfl (zm464 ?_);refine Ak ?_
  refine TC.cond rfl ?_ ?_<;>intro c87
  · exact absurd c87 dq
  exact gS
 refine tf ?_
 refine TC.loop (V:=fun k=>[(7,.int .i64 k)]) (K:=[(2,_),(3,_),(4,_)]) (L:=fun k=>_) (I:=fun k=>0≤k∧k≤a.procs.length) (μ:=fun k=>(a.procs.length - k).toNat) (i:=(0:Int)) ky o2q (fun w hw=>hw) (fun k hI=>?_)
 refine kU ?_;refine TL.run (ah rfl rfl hA.q) rfl (zm1 ?_)
 refine af rfl ?_ ?_<;>intro c92
 ·
  obtain⟨x,hx⟩:=aj (l:=a.procs) hI.1 c92
  obtain⟨y,hy,hxy⟩:=ib hf.2.2 hx
  have hlb:=eY hy
  refine sW ?_;refine TQ.run (ae rfl hA.q rfl om om) rfl (TQ.run (aY hA.q hx rfl rfl) rfl (kL ?_))
  refine TQ.run (ae rfl hB.q rfl om om) rfl (TQ.run (aY hB.q hy rfl rfl) rfl (gJ (ab rfl rfl rfl rfl) (wd (hA.qs x (List.mem_of_getElem? hx)) (hB.qs y (List.mem_of_getElem? hy)) hxy) rfl (k4 ?_)))
  refine TC.cond rfl ?_ ?_<;>intro c106
  · exact absurd c106 dq
  exact gS
 refine fD ?_
 exact ao (.inr rfl) (ad rfl (RVal.tmp rfl)) rfl
theorem eqFa {f g:SFault}{r:Bool}(h:((f.e==g.e)&&((f.part==g.part)&&((f.at_==g.at_)&&true)))=r):jj Tryz.prog 4 35 f.cells g.cells=some r:=by
 rw [← h]
 obtain⟨a,b,c⟩:=f
 obtain⟨a',b',c'⟩:=g
 exact(show jj Tryz.prog 4 35 [.int .i64 a,.int .i64 b,.int .i64 c] [.int .i64 a',.int .i64 b',.int .i64 c']=some ((a==a')&&((b==b')&&((c==c')&&true))) by kernel_rfl)
theorem Gs (f:SFault):jj Tryz.prog 4 35 f.cells f.cells=some true:=eqFa sq
theorem wk {H:Hp}{pg:SProg}(hP:ProgOk H pg)(hz:∀q∈pg.procs,se q){lv:Value}{l:List Int}(hl:RdSl H 1 I64.cells lv l)(hm:l.length≤1000000000000)(wh what:Int)(name:Str)(left:Bool)(hM:MaxG H):
  Fn Tryz.prog 5 [.agg pg.cells.toArray,lv,.int .i64 wh,.int .i64 what,gs name,.bool left] H (fun v H1=>v= .bool true):=by
 refine Fn.enter Tryz.func5 Tryz.ntmps5 rfl rfl (fun w0=>?_)
 refine zm2 ?_
 refine TL.box rfl rfl (fun b6=>?_)
 refine oP ?_
 refine TL.call (ab rfl rfl rfl rfl) (Dw hM) rfl (fun v14 H14 hle14 hp14=>?_)
 replace hM:=hM.le hle14
 replace hP:=hP.le hle14
 replace hl:=hl.le hle14
 subst hp14
 refine zm1 ?_
 refine TC.cond rfl ?_ ?_<;>intro c15
 · exact absurd c15 dq
 refine gp ?_;refine il ?_
 refine TL.call (ab rfl rfl rfl rfl) (few_ok hP) rfl (fun v17 H17 hle17 hp17=>?_)
 obtain⟨b17,rfl⟩:=hp17
 replace hM:=hM.le hle17
 replace hP:=hP.le hle17
 replace hl:=hl.le hle17
 refine zm1 ?_
 refine TC.cond rfl ?_ ?_<;>intro c18
 ·
  refine gq ?_
  exact aR (.inr rfl) (ad rfl (RVal.tmp rfl)) rfl
 refine AD ?_
 refine TL.alloc rfl (fun b13=>?_)
 refine ik ?_;refine nK ?_
 refine TC.cond rfl ?_ ?_<;>intro c21
 ·
  refine jN ?_
  refine TL.call (ab rfl rfl rfl rfl) (Do hl hm wh what) rfl (fun v25 H25 hle25 hp25=>?_)
  obtain⟨pg25,rfl,hP25,hg25⟩:=hp25
  replace hM:=hM.le hle25
  replace hP:=hP.le hle25
  have hz25:=hg25.sz
  refine qX ?_
  refine TD.part 2 1 rfl rfl rfl ?_ ?_
  ·
   refine TD.part 17 16 rfl rfl rfl ?_ ?_
   ·
    refine zm442 ?_;refine kG ?_;refine nn ?_
    refine TL.call (ab rfl rfl rfl rfl) (fz hP25 hM) rfl (fun v27 H27 hle27 hp27=>?_)
    replace hM:=hM.le hle27
    replace hP:=hP.le hle27
    replace hP25:=hP25.le hle27
    subst hp27
    exact TF.back (GY)
   refine zm443 ?_;refine kG ?_;refine nn ?_
   refine TL.call (ab rfl rfl rfl rfl) (fz hP25 hM) rfl (fun v27 H27 hle27 hp27=>?_)
   replace hM:=hM.le hle27
   replace hP:=hP.le hle27
   replace hP25:=hP25.le hle27
   subst hp27
   exact TF.back (GZ)
  refine TD.part 17 16 rfl rfl rfl ?_ ?_
  ·
   refine zm444 ?_;refine nn ?_
   refine TL.call (ab rfl rfl rfl rfl) (fz hP25 hM) rfl (fun v27 H27 hle27 hp27=>?_)
   replace hM:=hM.le hle27
   replace hP:=hP.le hle27
   replace hP25:=hP25.le hle27
   subst hp27
   refine TF.back (kG ?_)
   exact GY
  refine zm445 ?_;refine nn ?_
  refine TL.call (ab rfl rfl rfl rfl) (fz hP25 hM) rfl (fun v27 H27 hle27 hp27=>?_)
  replace hM:=hM.le hle27
  replace hP:=hP.le hle27
  replace hP25:=hP25.le hle27
  subst hp27
  refine TF.back (kG ?_)
  exact GZ
 refine gp ?_;refine dO ?_
 refine TD.part 2 1 rfl rfl rfl ?_ ?_
 ·
  refine TD.part 17 16 rfl rfl rfl ?_ ?_
  ·
   refine zm442 ?_;refine kG ?_;refine nn ?_
   refine TL.call (ab rfl rfl rfl rfl) (fz hP hM) rfl (fun v27 H27 hle27 hp27=>?_)
   replace hM:=hM.le hle27
   replace hP:=hP.le hle27
   subst hp27
   exact TF.back (GX)
  refine zm443 ?_;refine kG ?_;refine nn ?_
  refine TL.call (ab rfl rfl rfl rfl) (fz hP hM) rfl (fun v27 H27 hle27 hp27=>?_)
  replace hM:=hM.le hle27
  replace hP:=hP.le hle27
  subst hp27
  exact TF.back (G0)
 refine TD.part 17 16 rfl rfl rfl ?_ ?_
 ·
  refine zm444 ?_;refine nn ?_
  refine TL.call (ab rfl rfl rfl rfl) (fz hP hM) rfl (fun v27 H27 hle27 hp27=>?_)
  replace hM:=hM.le hle27
  replace hP:=hP.le hle27
  subst hp27
  refine TF.back (kG ?_)
  exact GX
 refine zm445 ?_;refine nn ?_
 refine TL.call (ab rfl rfl rfl rfl) (fz hP hM) rfl (fun v27 H27 hle27 hp27=>?_)
 replace hM:=hM.le hle27
 replace hP:=hP.le hle27
 subst hp27
 refine TF.back (kG ?_)
 exact G0
end Go.Sx
namespace Go.Proofs.YtjnlogbbcceaoaaGreat.ScopeTellsUpto
open Go Go.Sx Go.ChangeShapes Go.WideShapes Go.ChangeAt Go.RowKit
theorem own:ownKnob Tryz.prog.godebug=none:=by kernel_rfl
theorem laidOut:laidOutB Tryz.prog=true:=by kernel_rfl
theorem hread:∀t∈Tryz.f5.params.toList,Tryz.prog.readableRec t=true∧t<Tryz.prog.types.size:=by
 intro t ht
 have:=List.all_eq_true.1 (show(Tryz.f5.params.toList.all fun t=>Tryz.prog.readableRec t&&decide (t<Tryz.prog.types.size))=true by kernel_rfl) t ht
 simp only [Bool.and_eq_true,decide_eq_true_eq] at this
 exact this
theorem contract (H:Type)(enc:TypeId×Value→H)(W:World)(base:Nat)(args:Array Value)(ds gs0:List (DataW H))(before:List MemPlace)
  (hval0:∀(j:Nat) t v,Tryz.f5.params[j]? =some t→args[j]? =some v→Value.okWide Tryz.prog W .any base t v)
  (hW:DataW.Whole enc Tryz.prog Tryz.f5.params.toList Rows.scopeTellsSpec.vars false W args.toList ds gs0 before) (hsh:W.ShapedOpen Tryz.prog) (hk:Rows.uptoSmall H (ds++gs0)=true):
  Calls Tryz.prog 5 args W fun e W'=>∃v,e= .returned v∧Rows.scopeTellsSpec.post enc Tryz.prog Tryz.f5 false true false false W args v W':=by
 have hMx:MaxG (Ca W):=Go.Proofs.cell_of_shapedOpen_int (zero:= #[.int .i64 0]) (t:=3) hsh (of_decide_eq_true (by kernel_rfl)) (by kernel_rfl) rfl (by kernel_rfl) (by kernel_rfl) Tryz.underlying3
 have hval:∀(j:Nat) t v,Tryz.f5.params[j]? =some t→args[j]? =some v→Value.okWide Tryz.prog W .any base t v:=hval0
 have hW':=hW
 obtain⟨p,q,hA0,hV,hpq,hfz,hnd⟩:=hW
 have hA:DataW.TrodAll enc Tryz.prog W 0 (fun _=>true) true Tryz.f5.params.toList args.toList ds p:=hA0
 rw [Tryz.params5] at hA hval
 obtain⟨v0,vs0,d0,ds0,p0,q0,hargs,rfl,rfl,h0,r0⟩:=trodAll_cons hA
 obtain⟨v1,vs1,d1,ds1,p1,q1,rfl,rfl,rfl,h1,r1⟩:=trodAll_cons r0
 obtain⟨v2,vs2,d2,ds2,p2,q2,rfl,rfl,rfl,h2,r2⟩:=trodAll_cons r1
 obtain⟨v3,vs3,d3,ds3,p3,q3,rfl,rfl,rfl,h3,r3⟩:=trodAll_cons r2
 obtain⟨v4,vs4,d4,ds4,p4,q4,rfl,rfl,rfl,h4,r4⟩:=trodAll_cons r3
 obtain⟨v5,vs5,d5,ds5,p5,q5,rfl,rfl,rfl,h5,r5⟩:=trodAll_cons r4
 obtain⟨rfl,rfl,rfl⟩:=trodAll_nil r5
 obtain rfl:args= #[v0,v1,v2,v3,v4,v5]:=by cases args;simp_all
 obtain⟨rfl,rfl⟩:=trodVars_none hV
 obtain⟨cs_pg,ev_pg,_⟩:=okWide_struct Tryz.underlying28 (hval 0 28 v0 rfl rfl)
 obtain⟨pg,e_pg,R_pg⟩:=opensB_Program.one h0 (E8 (i:=0) hk rfl)
 obtain rfl:v0= .agg pg.cells.toArray:=by rw [ev_pg] at e_pg ⊢;exact congrArg Value.agg (by rw [← show cs_pg.toList=pg.cells from e_pg])
 obtain⟨a_l,len_l,cap_l,ev_l⟩:=okWide_slice Tryz.underlying22 (hval 1 22 v1 rfl rfl)
 obtain⟨⟨u_l,l⟩,e_l,R_l,K_l⟩:=(bN Tryz.underlying22 (k:=1) (by kernel_rfl) (by decide) (dj (qq Tryz.underlying3))).one h1 (E8 (i:=1) hk rfl)
 obtain rfl:v1= .slice u_l.1 l.length u_l.2:=by rw [ev_l] at e_l ⊢;simpa [Value.cells] using e_l
 simp only at R_l K_l
 obtain⟨wh,rfl,rfl,rfl,w_wh⟩:=open_int Tryz.underlying3 (hval 2 3 v2 rfl rfl) h2
 have R_wh:BZ wh:=by simpa [BZ,Lit.wf,IntKind.min,IntKind.max,IntKind.signed,IntKind.bits] using w_wh
 obtain⟨what,rfl,rfl,rfl,w_what⟩:=open_int Tryz.underlying3 (hval 3 3 v3 rfl rfl) h3
 have R_what:BZ what:=by simpa [BZ,Lit.wf,IntKind.min,IntKind.max,IntKind.signed,IntKind.bits] using w_what
 obtain⟨s_name,rfl⟩:=okWide_string Tryz.underlying9 (hval 4 9 v4 rfl rfl)
 obtain⟨name,e_name,R_name⟩:=(F0 Tryz.underlying9).one h4
 obtain rfl:s_name=⟨name.toArray⟩:=Value.string.inj (show Value.string s_name=gs name by simpa [Value.cells] using e_name)
 obtain⟨left,rfl,rfl,rfl⟩:=open_bool Tryz.underlying4 (hval 5 4 v5 rfl rfl) h5
 refine(Fn.callsT (W:=W) (wk R_pg.1 R_pg.way R_l (Nat.le_trans K_l.1 (by decide)) wh what name left hMx)).mono ?_
 rintro e W1 ⟨rfl,hB⟩
 have done:Rows.scopeTellsSpec.post enc Tryz.prog Tryz.f5 false true false false W #[.agg pg.cells.toArray,.slice u_l.1 l.length u_l.2,.int .i64 wh,.int .i64 what,gs name,.bool left] (.bool true) W1:=I3 (P:=Tryz.prog) (tb:=4) hW' rfl rfl rfl rfl (by kernel_rfl) (by kernel_rfl) laidOut hread hB
 exact⟨_,rfl,done⟩
noncomputable def laidWorld (os:Os):World:=World.holding Tryz.prog os ⟨#[], #[],[]⟩
theorem laid_met (os:Os):laidMet Tryz.prog Rows.scopeTellsUptoRow.laid ((laidWorld os).forCall (fun _ _=>0) ⟨#[], #[.agg #[.slice none 0 0,.slice none 0 0,.slice none 0 0],.slice none 0 0,.int .i64 0,.int .i64 0,.string ByteArray.empty,.bool false],[]⟩).memory:=
 laidMet_of_run' 8 (by kernel_rfl) (by kernel_rfl)
theorem reads (os:Os){H:Type}(enc:TypeId×Value→H):∃places,DataW.whole enc Tryz.prog ((laidWorld os).forCall (fun _ _=>0) ⟨#[], #[.agg #[.slice none 0 0,.slice none 0 0,.slice none 0 0],.slice none 0 0,.int .i64 0,.int .i64 0,.string ByteArray.empty,.bool false],[]⟩).memory Tryz.f5.params.toList Rows.scopeTellsSpec.vars false #[(.agg #[.slice none 0 0,.slice none 0 0,.slice none 0 0]:Value),(.slice none 0 0:Value),(.int .i64 0:Value),(.int .i64 0:Value),(.string ByteArray.empty:Value),(.bool false:Value)].toList 8=some ([.agg [.nil,.nil,.nil],.nil,.lit (.int .i64 0),.lit (.int .i64 0),.lit (.string []),.lit (.bool false)],[],places):=
 ⟨[],by kernel_rfl⟩
theorem lifted (os:Os)(started:os.Started)(H:Type)(enc:TypeId×Value→H)(F:Stop.Interp):
  ReturnsInHanded {} Tryz.checked os 5 .any ((Rows.OpenSpec.upto Rows.scopeTellsSpec).preRow enc Tryz.prog Tryz.f5 Rows.scopeTellsUptoRow.domain false Rows.scopeTellsUptoRow.laid) (((Rows.OpenSpec.upto Rows.scopeTellsSpec).at F).post enc Tryz.prog Tryz.f5 false true false false):=by
 obtain⟨places,hx⟩:=reads os enc
 refine returnsInHanded_of_row (C:=Tryz.checked) (s:=(Rows.OpenSpec.upto Rows.scopeTellsSpec)) own started (by kernel_rfl) Tryz.func5
  (witness_row_at (enc:=enc) (C:=Tryz.checked) false (laidWorld os) #[.agg #[.slice none 0 0,.slice none 0 0,.slice none 0 0],.slice none 0 0,.int .i64 0,.int .i64 0,.string ByteArray.empty,.bool false] rfl (by kernel_rfl) (by kernel_rfl) (by kernel_rfl)
   (OpenSpec.preRow_of_cond 8 hx (by kernel_rfl) (fun k hk=>by cases hk;kernel_rfl) (by kernel_rfl) (laid_met os))) ?_
 intro W base args ds gs before hval hW _ hcond _ _ hsh _
 exact contract H enc W base args ds gs before hval hW hsh (hcond _ rfl)
theorem holds:Rows.ScopeTellsUptoSaid:=
 OpenClaim.holds_of_cond 5 Tryz.f5 rfl rfl rfl rfl rfl rfl rfl ⟨rfl,rfl,rfl,rfl,rfl⟩ rfl rfl rfl rfl rfl (by kernel_rfl) Tryz.func5 (by kernel_rfl)
  (of_decide_eq_true (by kernel_rfl)) (by unfold Func.isWrapper;first | (rw [if_pos (by decide+kernel)];kernel_rfl) | (rw [if_neg (by decide+kernel)];exact⟨rfl,rfl⟩))
  (fun os started H enc _ F=>by rw [OpenClaim.pre_eq_preRow];exact lifted os started H enc F)
end Go.Proofs.YtjnlogbbcceaoaaGreat.ScopeTellsUpto
