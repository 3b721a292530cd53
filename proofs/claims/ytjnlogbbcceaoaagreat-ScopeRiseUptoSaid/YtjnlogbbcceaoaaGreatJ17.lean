import Derived.Test.YtjnlogbbcceaoaaGreatJ16
import Derived.Test.YtjnlogbbcceaoaaGreatRows
import Derived.ProofKit
import Derived.Shelf.Vars
import Derived.Deep.DeepHandedRow
import Derived.OpenShut
set_option linter.all false
set_option maxRecDepth 100000
set_option maxHeartbeats 32000000
namespace Go.Sx
open Go Go.Proofs
theorem sE {H:Hp}{a b:SStep}(hA:StepOk H a)(hB:StepOk H b)(he:a.bare=b.bare):
  FnS Tryz.prog 91 [.agg a.cells.toArray,.agg b.cells.toArray] H (.bool true):=by
 have hf:=step_eq he
 refine FnS.enter Tryz.func91 Tryz.ntmps91 rfl rfl (fun w0=>?_)
 refine zm2 ?_
 refine TL.box rfl rfl (fun b2=>?_)
 refine TL.box rfl rfl (fun b3=>?_)
 refine zm1 ?_;refine iD ?_;refine fD ?_;refine zm3 ?_
 refine aj (s:=10) rfl ?_ ?_<;>intro g10
 ·
  have q10:=of_decide_eq_true g10
  refine fR ?_;refine pT ?_
  refine aj (s:=17) rfl ?_ ?_<;>intro g17
  ·
   have q17:=of_decide_eq_true g17
   refine fR ?_;refine pT ?_
   refine aj (s:=24) rfl ?_ ?_<;>intro g24
   ·
    have q24:=of_decide_eq_true g24
    refine fR ?_;refine pT ?_
    refine aj (s:=31) rfl ?_ ?_<;>intro g31
    ·
     have q31:=of_decide_eq_true g31
     refine fR ?_;refine pT ?_
     refine aj (s:=38) rfl ?_ ?_<;>intro g38
     ·
      have q38:=of_decide_eq_true g38
      refine li ?_;refine dg ?_
      refine aj (s:=45) rfl ?_ ?_<;>intro g45
      ·
       have q45:=of_decide_eq_true g45
       refine li ?_;refine dg ?_
       refine aj (s:=52) rfl ?_ ?_<;>intro g52
       ·
        have q52:=of_decide_eq_true g52
        refine li ?_;refine aM rfl rfl (ab rfl rfl rfl rfl) (lq hA.a (hB.a.cast hf.2.2.2.2.2.2.2.1.symm)) rfl (zm3 ?_)
        refine aj (s:=59) rfl ?_ ?_<;>intro g59
        ·
         refine li ?_;refine aM rfl rfl (ab rfl rfl rfl rfl) (rz hA.c hB.c hA.cs hB.cs hf.2.2.2.2.2.2.2.2.1) rfl (zm3 ?_)
         refine aj (s:=66) rfl ?_ ?_<;>intro g66
         ·
          refine li ?_;refine aM rfl rfl (ab rfl rfl rfl rfl) (sD hA.w (hB.w.cast hf.2.2.2.2.2.2.2.2.2.symm)) rfl (fQ ?_)
          exact ar (.inr rfl) (ad rfl (RVal.tmp rfl)) rfl
         exact absurd g66 dq
        exact absurd g59 dq
       have q52:=of_decide_eq_false g52
       exact absurd hf.2.2.2.2.2.2.1 q52
      have q45:=of_decide_eq_false g45
      exact absurd hf.2.2.2.2.2.1 q45
     have q38:=of_decide_eq_false g38
     exact absurd hf.2.2.2.2.1 q38
    have q31:=of_decide_eq_false g31
    exact absurd hf.2.2.2.1 q31
   have q24:=of_decide_eq_false g24
   exact absurd hf.2.2.1 q24
  have q17:=of_decide_eq_false g17
  exact absurd hf.2.1 q17
 have q10:=of_decide_eq_false g10
 exact absurd hf.1 q10
theorem sF {H:Hp}{a b:SProc}(hA:ProcOk H a)(hB:ProcOk H b)(he:a.bare=b.bare):
  FnS Tryz.prog 45 [.agg a.cells.toArray,.agg b.cells.toArray] H (.bool true):=by
 have hf:=proc_eq he
 have hel:=fl hf.2.2.2
 have hepl:(a.params.length:Int)=b.params.length:=by rw [hf.2.1]
 have hm1:=hA.pa.max
 have hm2:=hA.s.max
 refine FnS.enter Tryz.func45 Tryz.ntmps45 rfl rfl (fun w0=>?_)
 refine zm2 ?_
 refine TL.box rfl rfl (fun b2=>?_)
 refine TL.box rfl rfl (fun b3=>?_)
 refine qk ?_;refine fD ?_;refine l3 ?_
 refine aj (s:=12) rfl ?_ ?_<;>intro g12
 ·
  have q12:=aO g12
  exact absurd hf.1 q12
 have q12:=aK g12
 refine fR ?_;refine az rfl rfl (ai rfl rfl hA.pa) rfl (zm9 ?_);refine az rfl rfl (ai rfl rfl hB.pa) rfl (dg ?_)
 refine aj (s:=21) rfl ?_ ?_<;>intro g21
 ·
  have q21:=aO g21
  exact absurd hepl q21
 have q21:=aK g21
 refine fR ?_;refine az rfl rfl (ai rfl rfl hA.s) rfl (zm9 ?_);refine az rfl rfl (ai rfl rfl hB.s) rfl (dg ?_)
 refine aj (s:=30) rfl ?_ ?_<;>intro g30
 ·
  have q30:=aO g30
  exact absurd hel q30
 have q30:=aK g30
 refine li ?_;refine aM rfl rfl (ab rfl rfl rfl rfl) (rA hA.t (hB.t.cast hf.2.2.1.symm)) rfl (gb ?_)
 refine TC.cond rfl ?_ ?_<;>intro c37
 · exact absurd c37 dq
 refine m9 ?_
 refine TC.loop (V:=fun k=>[(5,.int .i64 k)]) (K:=[(2,_),(3,_),(4,_)]) (L:=fun k=>_) (I:=fun k=>0≤k∧k≤a.params.length) (μ:=fun k=>(a.params.length - k).toNat) (i:=(0:Int)) ky o2q (fun w hw=>hw) (fun k hI=>?_)
 refine oe ?_;refine TL.run (ai rfl rfl hA.pa) rfl (zm1 ?_)
 refine af rfl ?_ ?_<;>intro c42
 ·
  obtain⟨x,hx⟩:=al (l:=a.params) hI.1 c42
  have hy:b.params[k.toNat]? =some x:=hf.2.1▸hx
  refine sN ?_;refine TQ.run (ae rfl hA.pa rfl omq omq) rfl (TQ.run (bg hA.pa hx rfl rfl) rfl (ov ?_))
  refine TQ.run (ae rfl hB.pa rfl omq omq) rfl (TQ.run (bg hB.pa hy rfl rfl) rfl (TQ.run (lL (r:=true) rfl rfl kr kr (eqParam x)) rfl (TQ.nil ?_)))
  refine ag (TC.cond rfl (fun c55=>?_) (fun c55=>?_))
  · exact absurd c55 dq
  exact io
 refine wq ?_
 refine TC.loop (V:=fun k=>[(6,.int .i64 k)]) (K:=[(2,_),(3,_),(4,_)]) (L:=fun k=>_) (I:=fun k=>0≤k∧k≤a.steps.length) (μ:=fun k=>(a.steps.length - k).toNat) (i:=(0:Int)) ky o2q (fun w hw=>hw) (fun k hI=>?_)
 refine oe ?_;refine TL.run (ai rfl rfl hA.s) rfl (zm1 ?_)
 refine af rfl ?_ ?_<;>intro c60
 ·
  obtain⟨x,hx⟩:=al (l:=a.steps) hI.1 c60
  obtain⟨y,hy,hxy⟩:=fY hf.2.2.2 hx
  refine sN ?_;refine TQ.run (ae rfl hA.s rfl omq omq) rfl (TQ.run (bg hA.s hx rfl rfl) rfl (ov ?_))
  refine TQ.run (ae rfl hB.s rfl omq omq) rfl (TQ.run (bg hB.s hy rfl rfl) rfl (il (ab rfl rfl rfl rfl) (sE (hA.ss x (List.mem_of_getElem? hx)) (hB.ss y (List.mem_of_getElem? hy)) hxy) rfl (kV ?_)))
  refine TC.cond rfl ?_ ?_<;>intro c74
  · exact absurd c74 dq
  exact io
 refine ga ?_
 exact ar (.inr rfl) (ad rfl (RVal.tmp rfl)) rfl
theorem rB {H:Hp}{a b:SProto}(hA:ProtoOk H a)(hB:ProtoOk H b)(he:a.bare=b.bare):
  FnS Tryz.prog 43 [.agg a.cells.toArray,.agg b.cells.toArray] H (.bool true):=by
 have hf:=DY he
 have hel:=fl hf.2.2
 have hm1:=hA.pt.max
 refine FnS.enter Tryz.func43 Tryz.ntmps43 rfl rfl (fun w0=>?_)
 refine zm2 ?_
 refine TL.box rfl rfl (fun b2=>?_)
 refine TL.box rfl rfl (fun b3=>?_)
 refine qk ?_;refine fD ?_;refine l3 ?_
 refine aj (s:=11) rfl ?_ ?_<;>intro g11
 ·
  have q11:=aO g11
  exact absurd hf.1 q11
 have q11:=aK g11
 refine li ?_;refine aM rfl rfl (ab rfl rfl rfl rfl) (ph hA.r (hB.r.cast hf.2.1.symm)) rfl (dg ?_)
 refine aj (s:=19) rfl ?_ ?_<;>intro g19
 · exact absurd g19 dq
 refine fR ?_;refine az rfl rfl (ai rfl rfl hA.pt) rfl (zm9 ?_);refine az rfl rfl (ai rfl rfl hB.pt) rfl (gb ?_)
 refine aP rfl ?_ ?_<;>intro c27
 · exact absurd hel c27
 refine m9 ?_
 refine TC.loop (V:=fun k=>[(5,.int .i64 k)]) (K:=[(2,_),(3,_),(4,_)]) (L:=fun k=>_) (I:=fun k=>0≤k∧k≤a.points.length) (μ:=fun k=>(a.points.length - k).toNat) (i:=(0:Int)) ky o2q (fun w hw=>hw) (fun k hI=>?_)
 refine oe ?_;refine TL.run (ai rfl rfl hA.pt) rfl (zm1 ?_)
 refine af rfl ?_ ?_<;>intro c32
 ·
  obtain⟨x,hx⟩:=al (l:=a.points) hI.1 c32
  obtain⟨y,hy,hxy⟩:=fY hf.2.2 hx
  have hg:=BN hxy
  have hxa:=(hA.ps x (List.mem_of_getElem? hx)).a
  have hya:=(hB.ps y (List.mem_of_getElem? hy)).a.cast hg.2.2.symm
  have hlb:=iK hy
  refine sN ?_;refine TQ.run (ae rfl hA.pt rfl omq omq) rfl (fP ?_);refine TQ.run (bh hA.pt hx rfl rfl) rfl (ov ?_);refine TQ.run (ae rfl hB.pt rfl omq omq) rfl (fP ?_)
  refine TQ.run (bh hB.pt hy rfl rfl) rfl (TQ.run (bW rfl rfl rfl) rfl (TQ.run (aF rfl) rfl (eK (s:=48) rfl (fun g48=>?_) (fun g48=>?_))))
  ·
   have q48:=aO g48
   exact absurd hg.1 q48
  have q48:=aK g48
  refine vW ?_;refine bi rfl rfl (ae rfl hA.pt rfl omq omq) rfl (iC ?_);refine bi rfl rfl (bh hA.pt hx rfl rfl) rfl (wE ?_)
  refine bi rfl rfl (aF rfl) rfl (bi rfl rfl (ae rfl hB.pt rfl omq omq) rfl (iC ?_));refine bi rfl rfl (bh hB.pt hy rfl rfl) rfl (bi rfl rfl (bW rfl rfl rfl) rfl (lV ?_))
  refine eK (s:=63) rfl ?_ ?_<;>intro g63
  ·
   have q63:=aO g63
   exact absurd hg.2.1 q63
  have q63:=aK g63
  refine vW ?_;refine bi rfl rfl (ae rfl hA.pt rfl omq omq) rfl (iC ?_);refine bi rfl rfl (bh hA.pt hx rfl rfl) rfl (wE ?_)
  refine bi rfl rfl (aF rfl) rfl (bi rfl rfl (ae rfl hB.pt rfl omq omq) rfl (iC ?_))
  refine bi rfl rfl (bh hB.pt hy rfl rfl) rfl (jf rfl rfl (ab rfl rfl rfl rfl) (j6 hxa hya) rfl (wD ?_))
  refine TC.cond rfl ?_ ?_<;>intro c78
  · exact absurd c78 dq
  exact io
 refine ga ?_
 exact ar (.inr rfl) (ad rfl (RVal.tmp rfl)) rfl
theorem nK {H:Hp}{a b:SProg}(hA:ProgOk H a)(hB:ProgOk H b)(he:a.bare=b.bare):
  FnS Tryz.prog 14 [.agg a.cells.toArray,.agg b.cells.toArray] H (.bool true):=by
 have hf:=prog_eq he
 have hl1:=fl hf.1
 have hl2:=fl hf.2.1
 have hl3:=fl hf.2.2
 have hm1:=hA.r.max
 have hm2:=hA.l.max
 have hm3:=hA.q.max
 refine FnS.enter Tryz.func14 Tryz.ntmps14 rfl rfl (fun w0=>?_)
 refine zm2 ?_
 refine TL.box rfl rfl (fun b2=>?_)
 refine TL.box rfl rfl (fun b3=>?_)
 refine qk ?_;refine TL.run (ai rfl rfl hA.r) rfl (fD ?_);refine TL.run (ai rfl rfl hB.r) rfl (zm3 ?_)
 refine aj (s:=15) rfl ?_ ?_<;>intro g15
 ·
  have q15:=aO g15
  exact absurd hl1 q15
 have q15:=aK g15
 refine fR ?_;refine az rfl rfl (ai rfl rfl hA.l) rfl (zm9 ?_);refine az rfl rfl (ai rfl rfl hB.l) rfl (dg ?_)
 refine aj (s:=24) rfl ?_ ?_<;>intro g24
 ·
  have q24:=aO g24
  exact absurd hl2 q24
 have q24:=aK g24
 refine fR ?_;refine az rfl rfl (ai rfl rfl hA.q) rfl (zm9 ?_);refine az rfl rfl (ai rfl rfl hB.q) rfl (gb ?_)
 refine aP rfl ?_ ?_<;>intro c32
 · exact absurd hl3 c32
 refine m9 ?_
 refine TC.loop (V:=fun k=>[(5,.int .i64 k)]) (K:=[(2,_),(3,_),(4,_)]) (L:=fun k=>_) (I:=fun k=>0≤k∧k≤a.protos.length) (μ:=fun k=>(a.protos.length - k).toNat) (i:=(0:Int)) ky o2q (fun w hw=>hw) (fun k hI=>?_)
 refine oe ?_;refine TL.run (ai rfl rfl hA.r) rfl (zm1 ?_)
 refine af rfl ?_ ?_<;>intro c37
 ·
  obtain⟨x,hx⟩:=al (l:=a.protos) hI.1 c37
  obtain⟨y,hy,hxy⟩:=fY hf.1 hx
  have hlb:=iK hy
  refine sN ?_;refine TQ.run (ae rfl hA.r rfl omq omq) rfl (TQ.run (bg hA.r hx rfl rfl) rfl (ov ?_))
  refine TQ.run (ae rfl hB.r rfl omq omq) rfl (TQ.run (bg hB.r hy rfl rfl) rfl (il (ab rfl rfl rfl rfl) (rB (hA.rs x (List.mem_of_getElem? hx)) (hB.rs y (List.mem_of_getElem? hy)) hxy) rfl (kV ?_)))
  refine TC.cond rfl ?_ ?_<;>intro c51
  · exact absurd c51 dq
  exact io
 refine wq ?_
 refine TC.loop (V:=fun k=>[(6,.int .i64 k)]) (K:=[(2,_),(3,_),(4,_)]) (L:=fun k=>_) (I:=fun k=>0≤k∧k≤a.locals.length) (μ:=fun k=>(a.locals.length - k).toNat) (i:=(0:Int)) ky o2q (fun w hw=>hw) (fun k hI=>?_)
 refine oe ?_;refine TL.run (ai rfl rfl hA.l) rfl (zm1 ?_)
 refine af rfl ?_ ?_<;>intro c56
 ·
  obtain⟨x,hx⟩:=al (l:=a.locals) hI.1 c56
  obtain⟨y,hy,hxy⟩:=fY hf.2.1 hx
  have hg:=Eu hxy
  have hlb:=iK hy
  refine sN ?_;refine TQ.run (ae rfl hA.l rfl omq omq) rfl (fP ?_);refine TQ.run (bh hA.l hx rfl rfl) rfl (ov ?_);refine TQ.run (ae rfl hB.l rfl omq omq) rfl (fP ?_)
  refine TQ.run (bh hB.l hy rfl rfl) rfl (TQ.run (bW rfl rfl rfl) rfl (TQ.run (aF rfl) rfl (eK (s:=72) rfl (fun g72=>?_) (fun g72=>?_))))
  ·
   have q72:=aO g72
   exact absurd hg.1 q72
  have q72:=aK g72
  refine vW ?_;refine bi rfl rfl (ae rfl hA.l rfl omq omq) rfl (iC ?_);refine bi rfl rfl (bh hA.l hx rfl rfl) rfl (wE ?_)
  refine bi rfl rfl (aF rfl) rfl (bi rfl rfl (ae rfl hB.l rfl omq omq) rfl (iC ?_));refine bi rfl rfl (bh hB.l hy rfl rfl) rfl (zm380 ?_);refine wD ?_
  refine TC.cond rfl ?_ ?_<;>intro c87
  · exact absurd c87 dq
  exact io
 refine wq ?_
 refine TC.loop (V:=fun k=>[(7,.int .i64 k)]) (K:=[(2,_),(3,_),(4,_)]) (L:=fun k=>_) (I:=fun k=>0≤k∧k≤a.procs.length) (μ:=fun k=>(a.procs.length - k).toNat) (i:=(0:Int)) ky o2q (fun w hw=>hw) (fun k hI=>?_)
 refine oe ?_;refine TL.run (ai rfl rfl hA.q) rfl (zm1 ?_)
 refine af rfl ?_ ?_<;>intro c92
 ·
  obtain⟨x,hx⟩:=al (l:=a.procs) hI.1 c92
  obtain⟨y,hy,hxy⟩:=fY hf.2.2 hx
  have hlb:=iK hy
  refine sN ?_;refine TQ.run (ae rfl hA.q rfl omq omq) rfl (TQ.run (bg hA.q hx rfl rfl) rfl (ov ?_))
  refine TQ.run (ae rfl hB.q rfl omq omq) rfl (TQ.run (bg hB.q hy rfl rfl) rfl (il (ab rfl rfl rfl rfl) (sF (hA.qs x (List.mem_of_getElem? hx)) (hB.qs y (List.mem_of_getElem? hy)) hxy) rfl (kV ?_)))
  refine TC.cond rfl ?_ ?_<;>intro c106
  · exact absurd c106 dq
  exact io
 refine ga ?_
 exact ar (.inr rfl) (ad rfl (RVal.tmp rfl)) rfl
end Go.Sx
namespace Go.Sx
open Go Go.Proofs
theorem eqFa {f g:SFault}{r:Bool}(h:((f.e==g.e)&&((f.part==g.part)&&((f.at_==g.at_)&&true)))=r):ie Tryz.prog 4 35 f.cells g.cells=some r:=by
 rw [← h]
 obtain⟨a,b,c⟩:=f
 obtain⟨a',b',c'⟩:=g
 exact(show ie Tryz.prog 4 35 [.int .i64 a,.int .i64 b,.int .i64 c] [.int .i64 a',.int .i64 b',.int .i64 c']=some ((a==a')&&((b==b')&&((c==c')&&true))) by kernel_rfl)
theorem uC (f:SFault):ie Tryz.prog 4 35 f.cells f.cells=some true:=eqFa sq
theorem vL {H:Hp}{lv:Value}{l:List Int}(hl:RdSl H 1 I64.cells lv l)(hm:l.length≤1000000000000)(wh what:Int)(hM:MaxG H):
  Fn Tryz.prog 6 [lv,.int .i64 wh,.int .i64 what] H (fun v H1=>v= .bool true):=by
 refine Fn.enter Tryz.func6 Tryz.ntmps6 rfl rfl (fun w0=>?_)
 refine zm6 ?_;refine zm2 ?_
 refine TL.call (ab rfl rfl rfl rfl) (zy hM) rfl (fun v10 H10 hle10 hp10=>?_)
 replace hM:=hM.le hle10
 replace hl:=hl.le hle10
 subst hp10
 refine zm1 ?_
 refine TC.cond rfl ?_ ?_<;>intro c11
 · exact absurd c11 dq
 refine w7 ?_
 refine TL.call (ab rfl rfl rfl rfl) (zp hl hm wh what) rfl (fun v15 H15 hle15 hp15=>?_)
 obtain⟨pg15,rfl,hP15,hg15⟩:=hp15
 replace hM:=hM.le hle15
 refine TL.alloc rfl (fun b7=>?_)
 refine fC ?_;refine gq ?_
 refine TL.call (ab rfl rfl rfl rfl) (pm hP15 hM) rfl (fun v17 H17 hle17 hp17=>?_)
 obtain⟨pg17,rfl,hP17,hB17⟩:=hp17
 replace hM:=hM.le hle17
 replace hP15:=hP15.le hle17
 refine TL.alloc rfl (fun b8=>?_)
 refine pb ?_;refine mg ?_
 refine TL.call (ab rfl rfl rfl rfl) (jd hP15 hM) rfl (fun v19 H19 hle19 hp19=>?_)
 replace hM:=hM.le hle19
 replace hP15:=hP15.le hle19
 replace hP17:=hP17.le hle19
 subst hp19
 refine TL.run (nz (off:=0) rfl kr rfl) rfl (zm1 ?_)
 refine aP rfl ?_ ?_<;>intro c21
 ·
  have hnl:=DN hB17 (by simpa using c21)
  refine fE ?_;refine TL.run (ai rfl rfl hP17.q) rfl (zm3 ?_)
  refine aj (s:=26) rfl ?_ ?_<;>intro g26
  ·
   have q26:=of_decide_eq_true g26
   refine zm9 ?_;refine az rfl rfl (ai rfl rfl hP17.r) rfl (wV ?_);exact aD (aR (.inr rfl) (ad rfl (RVal.tmp rfl)) (congrArg Value.bool (decide_eq_true omq)))
  have q26:=of_decide_eq_false g26
  exact(show False by omega).elim
 have hck:(bJ pg15).e=0:=by simpa using c21
 have hok:=yB hB17 hck
 have hpl:=BC hB17 hck
 refine iQ ?_;refine lz ?_
 refine TD.part 7 6 rfl rfl rfl ?_ ?_
 ·
  refine cI [(0,2),(2,1),(1,0),(3,1),(4,1),(5,2),(7,2),(6,0),(8,0),(9,1),(10,1),(11,1),(12,1),(13,2),(14,1),(15,1),(16,2),(17,1),(18,1),(19,1)] kr kr (aW (a7 rfl (.here _) rfl) rfl (dQ ?_))
  refine bz (TL.call (ab rfl rfl rfl rfl) (jd hP17 hM) rfl (fun v33 H33 hle33 hp33=>?_))
  replace hM:=hM.le hle33
  replace hP15:=hP15.le hle33
  replace hP17:=hP17.le hle33
  subst hp33
  refine TF.back (aw (lL (r:=true) rfl rfl kr kr (by rw [hok];exact uC okF)) rfl (zm7 ?_))
  refine rW (s:=36) rfl ?_ ?_<;>intro g36
  · exact absurd g36 dq
  refine gO rfl rfl (a7 rfl (.here _) rfl) rfl (gO rfl rfl (a7 rfl (.here _) rfl) rfl (bz (gm rfl rfl (ab rfl rfl rfl rfl) (pm hP17 hM) rfl (fun v38 H38 hle38 hp38=>?_))))
  obtain⟨pg38,rfl,hP38,hB38⟩:=hp38
  replace hP15:=hP15.le hle38
  replace hP17:=hP17.le hle38
  have hown:=qP hB17 hB38 hck
  exact TF.back (zq970)
 refine cI [(0,2),(2,1),(1,0),(3,1),(4,1),(5,2),(6,0),(7,2),(8,0),(9,1),(10,1),(11,1),(12,1),(13,2),(14,1),(15,1),(16,2),(17,1),(18,1),(19,1)] kr kr (aW (a7 rfl (.here _) rfl) rfl (dQ ?_))
 refine bz (TL.call (ab rfl rfl rfl rfl) (jd hP17 hM) rfl (fun v33 H33 hle33 hp33=>?_))
 replace hM:=hM.le hle33
 replace hP15:=hP15.le hle33
 replace hP17:=hP17.le hle33
 subst hp33
 refine TF.back (aw (lL (r:=true) rfl rfl kr kr (by rw [hok];exact uC okF)) rfl (zm7 ?_))
 refine rW (s:=36) rfl ?_ ?_<;>intro g36
 · exact absurd g36 dq
 refine gO rfl rfl (a7 rfl (.here _) rfl) rfl (bz (gm rfl rfl (ab rfl rfl rfl rfl) (pm hP17 hM) rfl (fun v38 H38 hle38 hp38=>?_)))
 obtain⟨pg38,rfl,hP38,hB38⟩:=hp38
 replace hP15:=hP15.le hle38
 replace hP17:=hP17.le hle38
 have hown:=qP hB17 hB38 hck
 exact TF.back (gO rfl rfl (a7 rfl (.here _) rfl) rfl (zq970))
end Go.Sx
namespace Go.Proofs.YtjnlogbbcceaoaaGreat.ScopeRiseUpto
open Go Go.Sx Go.ChangeShapes Go.WideShapes Go.ChangeAt Go.RowKit
theorem own:ownKnob Tryz.prog.godebug=none:=by kernel_rfl
theorem laidOut:laidOutB Tryz.prog=true:=by kernel_rfl
theorem hread:∀t∈Tryz.f6.params.toList,Tryz.prog.readableRec t=true∧t<Tryz.prog.types.size:=by
 intro t ht
 have:=List.all_eq_true.1 (show(Tryz.f6.params.toList.all fun t=>Tryz.prog.readableRec t&&decide (t<Tryz.prog.types.size))=true by kernel_rfl) t ht
 simp only [Bool.and_eq_true,decide_eq_true_eq] at this
 exact this
theorem contract (H:Type)(enc:TypeId×Value→H)(W:World)(base:Nat)(args:Array Value)(ds gs0:List (DataW H))(before:List MemPlace)
  (hval0:∀(j:Nat) t v,Tryz.f6.params[j]? =some t→args[j]? =some v→Value.okWide Tryz.prog W .any base t v)
  (hW:DataW.Whole enc Tryz.prog Tryz.f6.params.toList Rows.scopeRiseSpec.vars false W args.toList ds gs0 before) (hsh:W.ShapedOpen Tryz.prog) (hk:Rows.uptoSmall H (ds++gs0)=true):
  Calls Tryz.prog 6 args W fun e W'=>∃v,e= .returned v∧Rows.scopeRiseSpec.post enc Tryz.prog Tryz.f6 false true false false W args v W':=by
 have hMx:MaxG (zq W):=Go.Proofs.cell_of_shapedOpen_int (zero:= #[.int .i64 0]) (t:=3) hsh (of_decide_eq_true (by kernel_rfl)) (by kernel_rfl) rfl (by kernel_rfl) (by kernel_rfl) Tryz.underlying3
 have hval:∀(j:Nat) t v,Tryz.f6.params[j]? =some t→args[j]? =some v→Value.okWide Tryz.prog W .any base t v:=hval0
 have hW':=hW
 obtain⟨p,q,hA0,hV,hpq,hfz,hnd⟩:=hW
 have hA:DataW.TrodAll enc Tryz.prog W 0 (fun _=>true) true Tryz.f6.params.toList args.toList ds p:=hA0
 rw [Tryz.params6] at hA hval
 obtain⟨v0,vs0,d0,ds0,p0,q0,hargs,rfl,rfl,h0,r0⟩:=trodAll_cons hA
 obtain⟨v1,vs1,d1,ds1,p1,q1,rfl,rfl,rfl,h1,r1⟩:=trodAll_cons r0
 obtain⟨v2,vs2,d2,ds2,p2,q2,rfl,rfl,rfl,h2,r2⟩:=trodAll_cons r1
 obtain⟨rfl,rfl,rfl⟩:=trodAll_nil r2
 obtain rfl:args= #[v0,v1,v2]:=by cases args;simp_all
 obtain⟨rfl,rfl⟩:=trodVars_none hV
 obtain⟨a_l,len_l,cap_l,ev_l⟩:=okWide_slice Tryz.underlying22 (hval 0 22 v0 rfl rfl)
 obtain⟨⟨u_l,l⟩,e_l,R_l,K_l⟩:=(vi Tryz.underlying22 (k:=1) (by kernel_rfl) (by decide) (BS (BR Tryz.underlying3))).one h0 (bulk_of (i:=0) hk rfl)
 obtain rfl:v0= .slice u_l.1 l.length u_l.2:=by rw [ev_l] at e_l ⊢;simpa [Value.cells] using e_l
 simp only at R_l K_l
 obtain⟨wh,rfl,rfl,rfl,w_wh⟩:=open_int Tryz.underlying3 (hval 1 3 v1 rfl rfl) h1
 have R_wh:yp wh:=by simpa [yp,Lit.wf,IntKind.min,IntKind.max,IntKind.signed,IntKind.bits] using w_wh
 obtain⟨what,rfl,rfl,rfl,w_what⟩:=open_int Tryz.underlying3 (hval 2 3 v2 rfl rfl) h2
 have R_what:yp what:=by simpa [yp,Lit.wf,IntKind.min,IntKind.max,IntKind.signed,IntKind.bits] using w_what
 refine(Fn.callsT (W:=W) (vL R_l (Nat.le_trans K_l.1 (by decide)) wh what hMx)).mono ?_
 rintro e W1 ⟨rfl,hB⟩
 have done:Rows.scopeRiseSpec.post enc Tryz.prog Tryz.f6 false true false false W #[.slice u_l.1 l.length u_l.2,.int .i64 wh,.int .i64 what] (.bool true) W1:=Ev (P:=Tryz.prog) (tb:=4) hW' rfl rfl rfl rfl (by kernel_rfl) (by kernel_rfl) laidOut hread hB
 exact⟨_,rfl,done⟩
noncomputable def laidWorld (os:Os):World:=World.holding Tryz.prog os ⟨#[], #[],[]⟩
theorem laid_met (os:Os):laidMet Tryz.prog Rows.scopeRiseUptoRow.laid ((laidWorld os).forCall (fun _ _=>0) ⟨#[], #[.slice none 0 0,.int .i64 0,.int .i64 0],[]⟩).memory:=
 laidMet_of_run' 8 (by kernel_rfl) (by kernel_rfl)
theorem reads (os:Os){H:Type}(enc:TypeId×Value→H):∃places,DataW.whole enc Tryz.prog ((laidWorld os).forCall (fun _ _=>0) ⟨#[], #[.slice none 0 0,.int .i64 0,.int .i64 0],[]⟩).memory Tryz.f6.params.toList Rows.scopeRiseSpec.vars false #[(.slice none 0 0:Value),(.int .i64 0:Value),(.int .i64 0:Value)].toList 8=some ([.nil,.lit (.int .i64 0),.lit (.int .i64 0)],[],places):=
 ⟨[],by kernel_rfl⟩
theorem lifted (os:Os)(started:os.Started)(H:Type)(enc:TypeId×Value→H)(F:Stop.Interp):
  ReturnsInHanded {} Tryz.checked os 6 .any ((Rows.OpenSpec.upto Rows.scopeRiseSpec).preRow enc Tryz.prog Tryz.f6 Rows.scopeRiseUptoRow.domain false Rows.scopeRiseUptoRow.laid) (((Rows.OpenSpec.upto Rows.scopeRiseSpec).at F).post enc Tryz.prog Tryz.f6 false true false false):=by
 obtain⟨places,hx⟩:=reads os enc
 refine returnsInHanded_of_row (C:=Tryz.checked) (s:=(Rows.OpenSpec.upto Rows.scopeRiseSpec)) own started (by kernel_rfl) Tryz.func6
  (witness_row_at (enc:=enc) (C:=Tryz.checked) false (laidWorld os) #[.slice none 0 0,.int .i64 0,.int .i64 0] rfl (by kernel_rfl) (by kernel_rfl) (by kernel_rfl)
   (OpenSpec.preRow_of_cond 8 hx (by kernel_rfl) (fun k hk=>by cases hk;kernel_rfl) (by kernel_rfl) (laid_met os))) ?_
 intro W base args ds gs before hval hW _ hcond _ _ hsh _
 exact contract H enc W base args ds gs before hval hW hsh (hcond _ rfl)
theorem holds:Rows.ScopeRiseUptoSaid:=
 OpenClaim.holds_of_cond 6 Tryz.f6 rfl rfl rfl rfl rfl rfl rfl ⟨rfl,rfl,rfl,rfl,rfl⟩ rfl rfl rfl rfl rfl (by kernel_rfl) Tryz.func6 (by kernel_rfl)
  (of_decide_eq_true (by kernel_rfl)) (by unfold Func.isWrapper;first | (rw [if_pos (by decide+kernel)];kernel_rfl) | (rw [if_neg (by decide+kernel)];exact⟨rfl,rfl⟩))
  (fun os started H enc _ F=>by rw [OpenClaim.pre_eq_preRow];exact lifted os started H enc F)
end Go.Proofs.YtjnlogbbcceaoaaGreat.ScopeRiseUpto
