import Derived.Test.YtjnlogbbcceaoaaGreatO11
set_option linter.all false
set_option maxRecDepth 100000
set_option maxHeartbeats 32000000
namespace Go.Sx
open Go Go.Proofs
theorem step_ok {H:Hp}{pg:SProg}{vb:Value}{q:SProc}{bound:List Str}(s:SStep)(hP:ProgOk H pg)(hQ:ProcOk H q)(hs:StepOk H s)(hB:RdSl H 1 Str.cells vb bound)(hl:s.args.length≤6∧s.casts.length≤4∧∀c∈s.casts,c.args.length≤6)(hw7:s.ways.length≤1000):
  FnS Tryz.prog 86 [.agg pg.cells.toArray,.agg q.cells.toArray,.agg s.cells.toArray,vb] H (.int .i64 (dJ pg q.terms s bound)):=by
 have oneB:=hB.isOne
 have hTl:=wO hl
 refine FnS.enter Tryz.func86 Tryz.ntmps86 rfl rfl (fun w0=>?_)
 refine zm2 ?_
 refine TL.box rfl rfl (fun b4=>?_)
 refine TL.box rfl rfl (fun b5=>?_)
 refine TL.box rfl rfl (fun b6=>?_)
 refine zm1 ?_;refine zm5 ?_;refine eS ?_
 refine cv (ab rfl rfl rfl rfl) (sP s hs hl) rfl (fun v19 H19 ob19 hle19 hp19=>?_)
 obtain⟨eH19,hO19⟩:=hp19
 subst H19
 obtain⟨a19,c19,rfl⟩:=hO19.form
 refine TL.pubO hO19 (.s2 (.skip _ .all)) sq (fun HP19 leP19 hR19=>?_)
 replace hP:=hP.le leP19
 replace hQ:=hQ.le leP19
 replace hs:=hs.le leP19
 replace hB:=hB.le leP19
 refine TL.run (ai rfl rfl hR19) rfl (zm7 ?_)
 refine aR (V:=fun k v ob H1=>[(9,v),(21,.int .i64 k)]) (K:=[(3,_),(4,_),(5,_),(6,_),(8,_),(19,_),(20,_)]) (L:=fun k v ob H1=>St [] w0 H H1 ((b6,_)::(b5,_)::(b4,_)::ob)) (I:=fun k v ob H1=>(0≤k∧k≤(cq s).length)∧HP19.le H1∧OwnSl 1 Str.cells v (((cq s).take k.toNat).flatMap (gk q.terms)) ob) (μ:=fun k=>((cq s).length - k).toNat) 0 (.slice none 0 0) [] HP19 ky ⟨o2q,Hp.le.refl _,OwnSl.nil⟩ (fun w hw=>hw) (fun k v ob H1 hI=>?_)
 obtain⟨⟨k0,k1⟩,hle,hO⟩:=hI
 obtain⟨va,vc,rfl⟩:=hO.form
 have hfl:=vW (ts:=q.terms) ((cq s).take k.toNat)
 rw [List.length_take] at hfl
 replace hP:=hP.le hle
 replace hQ:=hQ.le hle
 replace hs:=hs.le hle
 replace hB:=hB.le hle
 replace hR19:=hR19.le hle
 refine zm5 ?_
 refine ag rfl ?_ ?_<;>intro c22
 ·
  obtain⟨x,hx⟩:=ao (l:=cq s) k0 c22
  refine cQ ?_;refine TL.run (af rfl hR19 rfl om om) rfl (TL.run (aJ hR19 hx rfl rfl) rfl (zm1 ?_));refine jN ?_;refine f7 ?_;refine zm0 ?_
  refine TL.call (ab rfl rfl rfl rfl) (Vars_ok x hQ.t hQ.tn) rfl (fun v29 H29 hle29 hp29=>?_)
  replace hle:=hle.trans hle29
  have hV29:RdSl H29 1 Str.cells v29 (gk q.terms x):=hp29
  have hvl29:=pM q.terms x
  obtain⟨la29,lc29,rfl⟩:=hV29.len
  refine TL.append (enc:=Str.cells) rfl rfl rfl hO (Src.sl hV29) (by first | omega | (simp only [List.length_append];omega)) rfl (.s2 (.skip _ .all)) rfl (fun a30 c30 ob30 hO30=>?_)
  refine jV ?_
  exact aE (k+1) _ ob30 H29 ⟨o2q,hle,hO30.cast (by rw [bB k0 hx,List.flatMap_append];simp)⟩ ky (fun w hw=>hw) om
 refine gG ?_
 refine bJ (decide (s.kind=4)||(decide (s.kind=5)||decide (s.kind=9))) 44 [(3,_),(4,_),(6,_),(8,_),(9,_)] ky ?_ ?_
 ·
  refine jg ?_;refine zm4 ?_
  refine ah (s:=35) rfl ?_ ?_<;>intro g35
  ·
   have q35:=of_decide_eq_true g35
   refine gI ?_;refine jO ?_
   exact aS rfl (by simp_all) ky
  have q35:=of_decide_eq_false g35
  refine nk ?_
  refine ah (s:=40) rfl ?_ ?_<;>intro g40
  ·
   have q40:=of_decide_eq_true g40
   refine jO ?_
   exact aS rfl (by simp_all) ky
  have q40:=of_decide_eq_false g40
  refine co ?_;refine ga ?_
  exact aS rfl (by simp_all) ky
 refine TC.cond rfl ?_ ?_<;>intro c44
 ·
  have h44:s.kind=4∨s.kind=5∨s.kind=9:=by simp_all
  refine jh ?_
  refine ax rfl rfl rfl rfl (fun b48=>?_)
  refine TL.append (enc:=Str.cells) rfl rfl rfl hO (Src.own [s.name] (.here _) rfl rfl) (by simp only [List.length_append,List.length_cons,List.length_nil];omega) rfl (.s3 (.skip _ .all)) rfl (fun a49 c49 ob49 hO49=>?_)
  refine rL ?_
  refine TL.pubO hO49 (.s3 (.skip _ .all)) sq (fun HA leA hA=>?_)
  replace hP:=hP.le leA
  replace hs:=hs.le leA
  replace hB:=hB.le leA
  have hA2:=hA.cast (show _=cI q.terms s by unfold cI;rw [if_pos (by first | exact h44 | omega),bh c22 k0])
  clear hA
  have hAm:=hA2.max
  refine TL.run (ai rfl rfl hA2) rfl (zm7 ?_)
  refine TC.loop (V:=fun k=>[(52,.int .i64 k)]) (K:=[(3,_),(4,_),(6,_),(8,_),(50,_),(51,_)]) (L:=fun k=>_) (I:=fun k=>(0≤k∧k≤(cI q.terms s).length)∧(cI q.terms s).all (fun n=>bX bound n)=((cI q.terms s).drop k.toNat).all (fun n=>bX bound n)) (μ:=fun k=>((cI q.terms s).length - k).toNat) (i:=(0:Int)) ky ⟨o2q,rfl⟩ (fun w hw=>hw) (fun k hI=>?_)
  obtain⟨⟨k0,k1⟩,hal⟩:=hI
  refine zm5 ?_
  refine ag rfl ?_ ?_<;>intro c53
  ·
   obtain⟨xA,hxA⟩:=ao (l:=cI q.terms s) k0 c53
   refine cQ ?_;refine TL.run (af rfl hA2 rfl om om) rfl (TL.run (aJ hA2 hxA rfl rfl) rfl (zm1 ?_));refine dS ?_;refine aq (ab rfl rfl rfl rfl) (gt xA hB) rfl (zm1 ?_)
   refine TC.cond rfl ?_ ?_<;>intro c59
   ·
    have h1:=cN (p:=(fun n=>bX bound n)) k0 hxA (by simpa using c59) hal
    exact rf
   refine jP ?_
   exact aM (k+1) ⟨o2q,bM (p:=(fun n=>bX bound n)) k0 hxA (by simpa using c59) hal⟩ ky (fun w hw=>hw) om
  have h1:=cz (p:=(fun n=>bX bound n)) k0 c53 hal
  refine rN ?_;refine kS ?_
  refine cv (ab rfl rfl rfl rfl) (ou s hs hw7) rfl (fun v62 H62 ob62 hle62 hp62=>?_)
  obtain⟨eH62,hO62⟩:=hp62
  subst H62
  obtain⟨a62,c62,rfl⟩:=hO62.form
  refine TL.pubO hO62 (.s3 (.skip _ .all)) sq (fun HP62 leP62 hR62=>?_)
  replace hP:=hP.le leP62
  replace hs:=hs.le leP62
  replace hB:=hB.le leP62
  have hBm:=RdSl.max hR62
  have hCm:=hs.c.max
  refine TL.run (ai rfl rfl hR62) rfl (zm7 ?_)
  refine TC.loop (V:=fun k=>[(64,.int .i64 k)]) (K:=[(3,_),(4,_),(6,_),(8,_),(62,_),(63,_)]) (L:=fun k=>_) (I:=fun k=>(0≤k∧k≤(ce s).length)∧(ce s).all (fun n=>!(!decide (n=[])&&bX bound n))=((ce s).drop k.toNat).all (fun n=>!(!decide (n=[])&&bX bound n))) (μ:=fun k=>((ce s).length - k).toNat) (i:=(0:Int)) ky ⟨o2q,rfl⟩ (fun w hw=>hw) (fun k hI=>?_)
  obtain⟨⟨k0,k1⟩,hal⟩:=hI
  refine zm5 ?_
  refine ag rfl ?_ ?_<;>intro c65
  · exact zq950
  have h2:=cz (p:=(fun n=>!(!decide (n=[])&&bX bound n))) k0 c65 hal
  refine gG ?_
  refine bJ (!decide (s.proc=[])&& !bD pg.procs s.proc s.args.length) 88 [(4,_),(6,_),(8,_)] ky ?_ ?_
  ·
   refine mY ?_;refine mR ?_
   refine ah (s:=79) rfl ?_ ?_<;>intro g79
   ·
    have q79:=bi g79
    refine aB rfl rfl (aU rfl (.h3) rfl) rfl (f9 ?_);refine f9 ?_
    refine aB rfl rfl (ai rfl rfl hs.a) rfl (aL rfl rfl (ab rfl rfl rfl rfl) (kL s.proc s.args.length hP) rfl (ga ?_))
    exact aS rfl (by simp_all) ky
   have q79:=a7 g79
   refine dB ?_;refine kR ?_
   exact aS rfl (by simp_all) ky
  refine TC.cond rfl ?_ ?_<;>intro c88
  ·
   refine gh ?_
   exact re
  refine f8 ?_;refine fJ ?_;refine TL.run (ai rfl rfl hs.c) rfl (zm7 ?_)
  refine TC.loop (V:=fun k=>[(92,.int .i64 k)]) (K:=[(4,_),(6,_),(8,_),(90,_),(91,_)]) (L:=fun k=>_) (I:=fun k=>(0≤k∧k≤s.casts.length)∧s.casts.all (fun c=>bD pg.procs c.proc (c.args.length+1))=(s.casts.drop k.toNat).all (fun c=>bD pg.procs c.proc (c.args.length+1))) (μ:=fun k=>(s.casts.length - k).toNat) (i:=(0:Int)) ky ⟨o2q,rfl⟩ (fun w hw=>hw) (fun k hI=>?_)
  obtain⟨⟨k0,k1⟩,hal⟩:=hI
  refine zm5 ?_
  refine ag rfl ?_ ?_<;>intro c93
  ·
   obtain⟨xC,hxC⟩:=ao (l:=s.casts) k0 c93
   have hxl:=hl.2.2 xC (List.mem_of_getElem? hxC)
   refine cQ ?_;refine TL.run (af rfl hs.c rfl om om) rfl (TL.run (bg hs.c hxC rfl rfl) rfl (TL.alloc rfl (fun b17=>?_)))
   refine lK ?_;refine TL.run (aU rfl (.h4) rfl) rfl (fw ?_);refine fw ?_;refine TL.run (ai rfl rfl (hs.cs xC (List.mem_of_getElem? hxC))) rfl (jq ?_)
   refine aq (ab rfl rfl rfl rfl) (kL xC.proc (xC.args.length+1) hP) rfl (zm1 ?_)
   refine TC.cond rfl ?_ ?_<;>intro c104
   ·
    have h4:=cN (p:=(fun c=>bD pg.procs c.proc (c.args.length+1))) k0 hxC (by simpa using c104) hal
    exact rf
   refine jP ?_
   exact aM (k+1) ⟨o2q,bM (p:=(fun c=>bD pg.procs c.proc (c.args.length+1))) k0 hxC (by simpa using c104) hal⟩ ky (fun w hw=>hw.drop) om
  have h4:=cz (p:=(fun c=>bD pg.procs c.proc (c.args.length+1))) k0 c93 hal
  refine gG ?_
  refine bJ (decide (s.kind=8)&& !dC pg s) 114 [(8,_)] ⟨rfl,trivial⟩ ?_ ?_
  ·
   refine mY ?_;refine zm4 ?_
   refine ah (s:=109) rfl ?_ ?_<;>intro g109
   ·
    have q109:=of_decide_eq_true g109
    refine aB rfl rfl (aU rfl (.h3) rfl) rfl (aB rfl rfl (aU rfl (.h1) rfl) rfl (aL rfl rfl (ab rfl rfl rfl rfl) (tx s hP hs hl.2.1) rfl (ga ?_)))
    exact aS rfl (by simp_all) ⟨rfl,trivial⟩
   have q109:=of_decide_eq_false g109
   refine kR ?_
   exact aS rfl (by simp_all) ⟨rfl,trivial⟩
  refine TC.cond rfl ?_ ?_<;>intro c114
  ·
   refine gh ?_
   exact re
  refine cW ?_;refine gh ?_
  exact xP
 have h44:¬(s.kind=4∨s.kind=5∨s.kind=9):=by simp_all
 refine f8 ?_;refine cZ ?_
 refine TL.pubO hO (.s2 (.skip _ .all)) sq (fun HA leA hA=>?_)
 replace hP:=hP.le leA
 replace hs:=hs.le leA
 replace hB:=hB.le leA
 have hA2:=hA.cast (show _=cI q.terms s by unfold cI;rw [if_neg (by first | exact h44 | omega),bh c22 k0,List.append_nil])
 clear hA
 have hAm:=hA2.max
 refine TL.run (ai rfl rfl hA2) rfl (zm7 ?_)
 refine TC.loop (V:=fun k=>[(52,.int .i64 k)]) (K:=[(3,_),(4,_),(6,_),(8,_),(50,_),(51,_)]) (L:=fun k=>_) (I:=fun k=>(0≤k∧k≤(cI q.terms s).length)∧(cI q.terms s).all (fun n=>bX bound n)=((cI q.terms s).drop k.toNat).all (fun n=>bX bound n)) (μ:=fun k=>((cI q.terms s).length - k).toNat) (i:=(0:Int)) ky ⟨o2q,rfl⟩ (fun w hw=>hw) (fun k hI=>?_)
 obtain⟨⟨k0,k1⟩,hal⟩:=hI
 refine zm5 ?_
 refine ag rfl ?_ ?_<;>intro c53
 ·
  obtain⟨xA,hxA⟩:=ao (l:=cI q.terms s) k0 c53
  refine cQ ?_;refine TL.run (af rfl hA2 rfl om om) rfl (TL.run (aJ hA2 hxA rfl rfl) rfl (zm1 ?_));refine dS ?_;refine aq (ab rfl rfl rfl rfl) (gt xA hB) rfl (zm1 ?_)
  refine TC.cond rfl ?_ ?_<;>intro c59
  ·
   have h1:=cN (p:=(fun n=>bX bound n)) k0 hxA (by simpa using c59) hal
   exact rf
  refine jP ?_
  exact aM (k+1) ⟨o2q,bM (p:=(fun n=>bX bound n)) k0 hxA (by simpa using c59) hal⟩ ky (fun w hw=>hw) om
 have h1:=cz (p:=(fun n=>bX bound n)) k0 c53 hal
 refine gG ?_;refine eS ?_
 refine cv (ab rfl rfl rfl rfl) (ou s hs hw7) rfl (fun v62 H62 ob62 hle62 hp62=>?_)
 obtain⟨eH62,hO62⟩:=hp62
 subst H62
 obtain⟨a62,c62,rfl⟩:=hO62.form
 refine TL.pubO hO62 (.s2 (.skip _ .all)) sq (fun HP62 leP62 hR62=>?_)
 replace hP:=hP.le leP62
 replace hs:=hs.le leP62
 replace hB:=hB.le leP62
 have hBm:=RdSl.max hR62
 have hCm:=hs.c.max
 refine TL.run (ai rfl rfl hR62) rfl (zm7 ?_)
 refine TC.loop (V:=fun k=>[(64,.int .i64 k)]) (K:=[(3,_),(4,_),(6,_),(8,_),(62,_),(63,_)]) (L:=fun k=>_) (I:=fun k=>(0≤k∧k≤(ce s).length)∧(ce s).all (fun n=>!(!decide (n=[])&&bX bound n))=((ce s).drop k.toNat).all (fun n=>!(!decide (n=[])&&bX bound n))) (μ:=fun k=>((ce s).length - k).toNat) (i:=(0:Int)) ky ⟨o2q,rfl⟩ (fun w hw=>hw) (fun k hI=>?_)
 obtain⟨⟨k0,k1⟩,hal⟩:=hI
 refine zm5 ?_
 refine ag rfl ?_ ?_<;>intro c65
 · exact zq950
 have h2:=cz (p:=(fun n=>!(!decide (n=[])&&bX bound n))) k0 c65 hal
 refine gG ?_
 refine bJ (!decide (s.proc=[])&& !bD pg.procs s.proc s.args.length) 88 [(4,_),(6,_),(8,_)] ky ?_ ?_
 ·
  refine rI ?_
  refine ah (s:=79) rfl ?_ ?_<;>intro g79
  ·
   have q79:=bi g79
   refine aB rfl rfl (aU rfl (.h2) rfl) rfl (co ?_);refine co ?_
   refine aB rfl rfl (ai rfl rfl hs.a) rfl (aL rfl rfl (ab rfl rfl rfl rfl) (kL s.proc s.args.length hP) rfl (ga ?_))
   exact aS rfl (by simp_all) ky
  have q79:=a7 g79
  refine dB ?_;refine kR ?_
  exact aS rfl (by simp_all) ky
 refine TC.cond rfl ?_ ?_<;>intro c88
 ·
  refine gh ?_
  exact re
 refine f8 ?_;refine eQ ?_;refine TL.run (ai rfl rfl hs.c) rfl (zm7 ?_)
 refine TC.loop (V:=fun k=>[(92,.int .i64 k)]) (K:=[(4,_),(6,_),(8,_),(90,_),(91,_)]) (L:=fun k=>_) (I:=fun k=>(0≤k∧k≤s.casts.length)∧s.casts.all (fun c=>bD pg.procs c.proc (c.args.length+1))=(s.casts.drop k.toNat).all (fun c=>bD pg.procs c.proc (c.args.length+1))) (μ:=fun k=>(s.casts.length - k).toNat) (i:=(0:Int)) ky ⟨o2q,rfl⟩ (fun w hw=>hw) (fun k hI=>?_)
 obtain⟨⟨k0,k1⟩,hal⟩:=hI
 refine zm5 ?_
 refine ag rfl ?_ ?_<;>intro c93
 ·
  obtain⟨xC,hxC⟩:=ao (l:=s.casts) k0 c93
  have hxl:=hl.2.2 xC (List.mem_of_getElem? hxC)
  refine cQ ?_;refine TL.run (af rfl hs.c rfl om om) rfl (TL.run (bg hs.c hxC rfl rfl) rfl (TL.alloc rfl (fun b17=>?_)))
  refine lK ?_;refine TL.run (aU rfl (.h3) rfl) rfl (fw ?_);refine fw ?_;refine TL.run (ai rfl rfl (hs.cs xC (List.mem_of_getElem? hxC))) rfl (jq ?_)
  refine aq (ab rfl rfl rfl rfl) (kL xC.proc (xC.args.length+1) hP) rfl (zm1 ?_)
  refine TC.cond rfl ?_ ?_<;>intro c104
  ·
   have h4:=cN (p:=(fun c=>bD pg.procs c.proc (c.args.length+1))) k0 hxC (by simpa using c104) hal
   exact rf
  refine jP ?_
  exact aM (k+1) ⟨o2q,bM (p:=(fun c=>bD pg.procs c.proc (c.args.length+1))) k0 hxC (by simpa using c104) hal⟩ ky (fun w hw=>hw.drop) om
 have h4:=cz (p:=(fun c=>bD pg.procs c.proc (c.args.length+1))) k0 c93 hal
 refine gG ?_
 refine bJ (decide (s.kind=8)&& !dC pg s) 114 [(8,_)] ⟨rfl,trivial⟩ ?_ ?_
 ·
  refine jg ?_;refine zm4 ?_
  refine ah (s:=109) rfl ?_ ?_<;>intro g109
  ·
   have q109:=of_decide_eq_true g109
   refine aB rfl rfl (aU rfl (.h2) rfl) rfl (aB rfl rfl (aU rfl (.here _) rfl) rfl (aL rfl rfl (ab rfl rfl rfl rfl) (tx s hP hs hl.2.1) rfl (ga ?_)))
   exact aS rfl (by simp_all) ⟨rfl,trivial⟩
  have q109:=of_decide_eq_false g109
  refine kR ?_
  exact aS rfl (by simp_all) ⟨rfl,trivial⟩
 refine TC.cond rfl ?_ ?_<;>intro c114
 ·
  refine gh ?_
  exact re
 refine cW ?_;refine gh ?_
 exact xP
end Go.Sx
namespace Go.Sx
open Go Go.Proofs
theorem head_ok {H:Hp}{pg:SProg}{q:SProc}(i:Int)(hP:ProgOk H pg)(hM:MaxG H)(h0:0≤i)(hq:pg.procs[i.toNat]? =some q):
  FnS Tryz.prog 38 [.agg pg.cells.toArray,.int .i64 i] H (.agg (dc pg.procs i q).cells.toArray):=by
 have hPq:=hP.q
 have hmax:=hPq.max
 have hlt:=qY hq
 have hQ:=hP.qs q (List.mem_of_getElem? hq)
 have hpa:=hQ.pa
 have ht:=hQ.t
 have hst:=hQ.s
 have hpm:=hpa.max
 have htm:=ht.max
 have hsm:=hst.max
 refine FnS.enter Tryz.func38 Tryz.ntmps38 rfl rfl (fun w0=>?_)
 refine zm2 ?_
 refine TL.box rfl rfl (fun b2=>?_)
 refine TL.alloc rfl (fun b4=>?_)
 refine TL.nil (ae (fJ ?_));refine zm0 ?_;refine TL.run (af rfl hPq rfl om om) rfl (TL.run (bg hPq hq rfl rfl) rfl (TL.alloc rfl (fun b5=>?_)))
 refine fl ?_
 refine bJ (bQ q) 6 [(1,_),(2,_),(4,_),(5,_)] ky ?_ ?_
 ·
  refine jg ?_;refine aq (ab rfl rfl rfl rfl) (bv q.name) rfl (zm0 ?_)
  refine ah (s:=18) rfl ?_ ?_<;>intro g18
  ·
   refine co ?_;refine aB rfl rfl (ai rfl rfl hpa) rfl (da ?_)
   refine ah (s:=24) rfl ?_ ?_<;>intro g24
   ·
    have q24:=of_decide_eq_true g24
    refine co ?_;refine aB rfl rfl (ai rfl rfl hst) rfl (da ?_)
    refine ah (s:=30) rfl ?_ ?_<;>intro g30
    ·
     have q30:=of_decide_eq_true g30
     refine co ?_;refine aB rfl rfl (ai rfl rfl hst) rfl (da ?_)
     refine ah (s:=36) rfl ?_ ?_<;>intro g36
     ·
      have q36:=of_decide_eq_true g36
      refine co ?_;refine aB rfl rfl (ai rfl rfl ht) rfl (da ?_);exact TL.nil (aS rfl (by unfold bQ;first | (simp_all;done) | (simp [*];done) | (simp_all;omega)) ky)
     have q36:=of_decide_eq_false g36
     refine dB ?_;refine jX ?_
     exact aS rfl (by unfold bQ;first | (simp_all;done) | (simp [*];done) | (simp_all;omega)) ky
    have q30:=of_decide_eq_false g30
    refine lD ?_;refine jX ?_
    exact aS rfl (by unfold bQ;first | (simp_all;done) | (simp [*];done) | (simp_all;omega)) ky
   have q24:=of_decide_eq_false g24
   refine ri ?_;refine jX ?_
   exact aS rfl (by unfold bQ;first | (simp_all;done) | (simp [*];done) | (simp_all;omega)) ky
  refine rJ ?_;refine jX ?_
  exact aS rfl (by unfold bQ;first | (simp_all;done) | (simp [*];done) | (simp_all;omega)) ky
 refine rv ?_;refine TL.run (ai rfl rfl hpa) rfl (zm7 ?_)
 refine aR (V:=fun(p:Int×Bool) v ob H1=>[(6,.bool p.2),(7,v),(45,.int .i64 p.1)]) (K:=[(1,_),(2,_),(4,_),(5,_),(43,_),(44,_)]) (L:=fun(p:Int×Bool) v ob H1=>St [] w0 H H ((b5,_)::(b4,_)::(b2,_)::ob)) (I:=fun(p:Int×Bool) v ob H1=>(0≤p.1∧p.1≤q.params.length)∧OwnSl 1 Str.cells v ((q.params.take p.1.toNat).map (·.name)) ob∧p.2=(bQ q&&(q.params.take p.1.toNat).all el)) (μ:=fun(p:Int×Bool)=>(q.params.length - p.1).toNat) ((0:Int),bQ q) (.slice none 0 0) [] H ky ⟨o2q,OwnSl.nil,by simp⟩ (fun w hw=>hw) (fun p v ob H1 hI=>?_)
 obtain⟨⟨k0,k1⟩,hO,hg⟩:=hI
 obtain⟨va,vc,rfl⟩:=hO.form
 have hpl:=hQ.pl
 refine zm5 ?_
 refine ag rfl ?_ ?_<;>intro c46
 ·
  obtain⟨x,hx⟩:=ao (l:=q.params) k0 c46
  refine cQ ?_;refine TL.run (af rfl hpa rfl om om) rfl (TL.run (bg hpa hx rfl rfl) rfl (TL.alloc rfl (fun b9=>?_)))
  refine fl ?_
  refine bJ (p.2&&el x) 6 [(1,_),(2,_),(4,_),(5,_),(7,_),(9,_),(43,_),(44,_),(45,_),(46,_),(47,_),(48,_)] ky ?_ ?_
  ·
   refine jf ?_
   refine ah (s:=50) rfl ?_ ?_<;>intro g50
   ·
    refine co ?_;refine aL rfl rfl (ab rfl rfl rfl rfl) (bv x.name) rfl (zm4 ?_)
    refine ah (s:=55) rfl ?_ ?_<;>intro g55
    ·
     refine ia ?_;refine aB rfl rfl (gL rfl (.here _) rfl) rfl (aL rfl rfl (ab rfl rfl rfl rfl) (sT x.ck x.cn (hQ.pz x (List.mem_of_getElem? hx)) hM) rfl (jX ?_))
     exact aS rfl (by unfold el;simp_all) ky
    refine gI ?_;exact TL.nil (aS rfl (by unfold el;simp_all) ky)
   refine gI ?_;refine gI ?_;exact TL.nil (aS rfl (by unfold el;simp_all) ky)
  refine jh ?_
  refine ax rfl rfl rfl rfl (fun b63=>?_)
  refine TL.append (enc:=Str.cells) rfl rfl rfl hO (Src.own [x.name] (.here _) rfl rfl) (by simp;omega) rfl (.s4 (.skip _ .all)) rfl (fun a64 c64 ob64 hO64=>?_)
  refine jV ?_
  exact aE (p.1+1,_) _ ob64 H ⟨o2q,hO64.cast (by rw [bF k0 hx]),zl k0 hx hg rfl⟩ ky (fun w hw=>hw.drop.drop) om
 have hg2:=hg
 rw [bh c46 k0] at hg2
 refine gG ?_;refine TC.block (sr ?_)
 refine TC.cond rfl ?_ ?_<;>intro c66
 ·
  refine cZ ?_;refine aq (ab rfl rfl rfl rfl) (de 1500 i (-1)) rfl (mj ?_)
  exact aY (aC (aw (.inr rfl) (ad rfl (RVal.cellA rfl (.h1) rfl)) (by first | (rw [uX (by rw [← hg2];simpa using c66)];rfl) | (rw [uW (by rw [← hg2];simpa using c66) c71];rfl) | (rw [uV (by rw [← hg2];simpa using c66) c71];rfl))))
 refine TC.pubO hO (.s2 (.skip _ .all)) sq (fun HJ leJ hJ=>?_)
 replace hP:=hP.le leJ
 have hJ2:=hJ.cast (show _=q.params.map (·.name) by rw [bh c46 k0])
 refine bJ (decide (cb pg.procs q.name<i)|| !cU (q.params.map (·.name))) 71 [(1,_),(4,_)] ⟨rfl,rfl,trivial⟩ ?_ ?_
 ·
  refine TC.region (TL.run (aU rfl (.h2) rfl) rfl (fw ?_));refine aq (ab rfl rfl rfl rfl) (fb q.name hP) rfl (zm4 ?_);refine zm0 ?_
  refine ah (s:=78) rfl ?_ ?_<;>intro g78
  ·
   have q78:=of_decide_eq_true g78
   refine gI ?_;exact TL.nil (aS rfl (by first | (simp_all;done) | (simp_all;omega)) ⟨rfl,rfl,trivial⟩)
  have q78:=of_decide_eq_false g78
  refine cg ?_;refine aL rfl rfl (ab rfl rfl rfl rfl) (iY hJ2) rfl (da ?_);exact TL.nil (aS rfl (by first | (simp_all;done) | (simp_all;omega)) ⟨rfl,rfl,trivial⟩)
 refine TC.cond rfl ?_ ?_<;>intro c71
 ·
  refine cZ ?_;refine aq (ab rfl rfl rfl rfl) (de 1501 i (-1)) rfl (mj ?_)
  exact aY (aC (aw (.inr rfl) (ad rfl (RVal.cellA rfl (.h1) rfl)) (by first | (rw [uX (by rw [← hg2];simpa using c66)];rfl) | (rw [uW (by rw [← hg2];simpa using c66) c71];rfl) | (rw [uV (by rw [← hg2];simpa using c66) c71];rfl))))
 refine TC.skip (a8 (ae (im ?_)));refine mj ?_
 exact aw (.inr rfl) (ad rfl (RVal.cellA rfl (.h1) rfl)) (by first | (rw [uX (by rw [← hg2];simpa using c66)];rfl) | (rw [uW (by rw [← hg2];simpa using c66) c71];rfl) | (rw [uV (by rw [← hg2];simpa using c66) c71];rfl))
theorem all_ok {H:Hp}{pg:SProg}(hP:ProgOk H pg)(hM:MaxG H):
  FnS Tryz.prog 37 [.agg pg.cells.toArray] H (.agg (fk pg).cells.toArray):=by
 have hr:=hP.r
 have hl:=hP.l
 have hq:=hP.q
 have hrm:=hr.max
 have hlm:=hl.max
 have hqm:=hq.max
 refine FnS.enter Tryz.func37 Tryz.ntmps37 rfl rfl (fun w0=>?_)
 refine zm2 ?_
 refine TL.box rfl rfl (fun b1=>?_)
 refine TL.alloc rfl (fun b2=>?_)
 refine TL.nil (ae (TC.seq (bJ (decide (6<(pg.protos.length:Int))||(decide (12<(pg.locals.length:Int))||decide (24<(pg.procs.length:Int)))) 22 [(1,_),(2,_)] ⟨rfl,rfl,trivial⟩ ?_ ?_)))
 ·
  refine mY ?_;refine TL.run (ai rfl rfl hr) rfl (zm4 ?_)
  refine ah (s:=11) rfl ?_ ?_<;>intro g11
  ·
   have q11:=of_decide_eq_true g11
   refine lD ?_;refine dk ?_
   exact aS rfl (by first | (simp [*];done) | (simp_all;done) | (simp_all;omega)) ⟨rfl,rfl,trivial⟩
  have q11:=of_decide_eq_false g11
  refine f9 ?_;refine aB rfl rfl (ai rfl rfl hl) rfl (da ?_)
  refine ah (s:=17) rfl ?_ ?_<;>intro g17
  ·
   have q17:=of_decide_eq_true g17
   refine kR ?_
   exact aS rfl (by first | (simp [*];done) | (simp_all;done) | (simp_all;omega)) ⟨rfl,rfl,trivial⟩
  have q17:=of_decide_eq_false g17
  refine f9 ?_;refine aB rfl rfl (ai rfl rfl hq) rfl (ga ?_)
  exact aS rfl (by first | (simp [*];done) | (simp_all;done) | (simp_all;omega)) ⟨rfl,rfl,trivial⟩
 refine TC.cond rfl ?_ ?_<;>intro c22
 ·
  refine zm2 ?_;refine aq (ab rfl rfl rfl rfl) (de 1500 (-1) (-1)) rfl (gH ?_)
  exact aC (aw (.inr rfl) (ad rfl (RVal.cellA rfl (.here _) rfl)) (by first | (rw [wG c22];rfl) | (rw [wF c22 hr1];rfl) | (rw [wE c22 hr1 hl1];rfl) | (rw [wD c22 hr1 hl1];rfl)))
 refine f8 ?_;refine fJ ?_;refine TL.run (ai rfl rfl hr) rfl (zm7 ?_)
 refine TC.loop (V:=fun k=>[(27,.int .i64 k)]) (K:=[(1,_),(2,_),(25,_),(26,_)]) (L:=fun k=>_) (I:=fun k=>(0≤k∧k≤pg.protos.length)∧pg.protos.all cO=(pg.protos.drop k.toNat).all cO) (μ:=fun k=>(pg.protos.length - k).toNat) (i:=(0:Int)) ky ⟨o2q,rfl⟩ (fun w hw=>hw) (fun k hI=>?_)
 obtain⟨⟨k0,k1⟩,hal⟩:=hI
 refine zm5 ?_
 refine ag rfl ?_ ?_<;>intro c28
 ·
  obtain⟨x,hx⟩:=ao (l:=pg.protos) k0 c28
  refine cQ ?_;refine TL.run (af rfl hr rfl om om) rfl (TL.run (bg hr hx rfl rfl) rfl (TL.alloc rfl (fun b4=>?_)))
  refine fl ?_;refine eS ?_;refine aq (ab rfl rfl rfl rfl) (gMay_ok x (hP.rs x (List.mem_of_getElem? hx)) hM) rfl (zm1 ?_)
  refine TC.cond rfl ?_ ?_<;>intro c33
  ·
   have hr1:=cN (p:=cO) k0 hx (by simpa using c33) hal
   refine zm2 ?_;refine aq (ab rfl rfl rfl rfl) (de 1500 (-1) (-1)) rfl (mj ?_);refine gi ?_
   exact aw (.inr rfl) (ad rfl (RVal.cellA rfl (.h1) rfl)) (by first | (rw [wG c22];rfl) | (rw [wF c22 hr1];rfl) | (rw [wE c22 hr1 hl1];rfl) | (rw [wD c22 hr1 hl1];rfl))
  refine jP ?_
  exact aM (k+1) ⟨o2q,bM (p:=cO) k0 hx (by simpa using c33) hal⟩ ky (fun w hw=>hw.drop) om
 have hr1:=cz (p:=cO) k0 c28 hal
 refine gG ?_;refine fJ ?_;refine TL.run (ai rfl rfl hl) rfl (zm7 ?_)
 refine TC.loop (V:=fun k=>[(39,.int .i64 k)]) (K:=[(2,_),(37,_),(38,_)]) (L:=fun k=>_) (I:=fun k=>(0≤k∧k≤pg.locals.length)∧pg.locals.all (fun l=>cH l&&aG l.name)=(pg.locals.drop k.toNat).all (fun l=>cH l&&aG l.name)) (μ:=fun k=>(pg.locals.length - k).toNat) (i:=(0:Int)) ky ⟨o2q,rfl⟩ (fun w hw=>hw) (fun k hI=>?_)
 obtain⟨⟨k0,k1⟩,hal⟩:=hI
 refine zm5 ?_
 refine ag rfl ?_ ?_<;>intro c40
 ·
  obtain⟨y,hy⟩:=ao (l:=pg.locals) k0 c40
  refine cQ ?_;refine TL.run (af rfl hl rfl om om) rfl (TL.run (bg hl hy rfl rfl) rfl (TL.alloc rfl (fun b6=>?_)))
  refine fl ?_
  refine bJ (!(cH y&&aG y.name)) 51 [(2,_),(6,_),(37,_),(38,_),(39,_),(40,_),(41,_),(42,_)] ky ?_ ?_
  ·
   refine TC.region (eE ?_);refine aq (ab rfl rfl rfl rfl) (qv y (hP.ls y (List.mem_of_getElem? hy)) hM) rfl (zm4 ?_)
   refine ah (s:=46) rfl ?_ ?_<;>intro g46
   ·
    refine kR ?_
    exact aS rfl (by simp_all) ky
   refine co ?_;refine aL rfl rfl (ab rfl rfl rfl rfl) (bv y.name) rfl (ga ?_)
   exact aS rfl (by simp_all) ky
  refine TC.cond rfl ?_ ?_<;>intro c51
  ·
   have hl1:=cN (p:=fun l=>cH l&&aG l.name) k0 hy (xb c51) hal
   refine zm2 ?_;refine aq (ab rfl rfl rfl rfl) (de 1500 (-1) (-1)) rfl (mj ?_);refine gi ?_
   exact aw (.inr rfl) (ad rfl (RVal.cellA rfl (.h1) rfl)) (by first | (rw [wG c22];rfl) | (rw [wF c22 hr1];rfl) | (rw [wE c22 hr1 hl1];rfl) | (rw [wD c22 hr1 hl1];rfl))
  refine jP ?_
  exact aM (k+1) ⟨o2q,bM (p:=(fun l=>cH l&&aG l.name)) k0 hy (nb_F c51) hal⟩ ky (fun w hw=>hw.drop) om
 have hl1:=cz (p:=fun l=>cH l&&aG l.name) k0 c40 hal
 refine oW ?_;refine gH ?_
 exact aw (.inr rfl) (ad rfl (RVal.cellA rfl (.here _) rfl)) (by first | (rw [wG c22];rfl) | (rw [wF c22 hr1];rfl) | (rw [wE c22 hr1 hl1];rfl) | (rw [wD c22 hr1 hl1];rfl))
end Go.Sx
namespace Go.Sx
open Go Go.Proofs
theorem yJ {H:Hp}{pg:SProg}{q:SProc}(i:Int)(hP:ProgOk H pg)(h0:0≤i)(hq:pg.procs[i.toNat]? =some q)(hz1:q.steps.length≤80)(hz2:q.terms.length≤160):
  FnS Tryz.prog 39 [.agg pg.cells.toArray,.int .i64 i] H (.agg (gc i q).cells.toArray):=by
 have hPq:=hP.q
 have hmax:=hPq.max
 have hlt:=qY hq
 have hQ:=hP.qs q (List.mem_of_getElem? hq)
 have hst0:=hQ.s
 have ht0:=hQ.t
 refine FnS.enter Tryz.func39 Tryz.ntmps39 rfl rfl (fun w0=>?_)
 refine zm2 ?_
 refine TL.box rfl rfl (fun b2=>?_)
 refine TL.alloc rfl (fun b4=>?_)
 refine TL.nil (ae (fJ ?_));refine zm0 ?_;refine TL.run (af rfl hPq rfl om om) rfl (TL.run (bg hPq hq rfl rfl) rfl (TL.alloc rfl (fun b5=>?_)))
 refine ni ?_;refine TL.run (ai rfl rfl hst0) rfl (fD rfl rfl (by first | omega | decide) (by first | omega | decide) (by first | omega | decide) rfl (fun b25=>?_))
 refine zm1 ?_;refine fJ ?_;refine TL.run (ai rfl rfl hst0) rfl (fD rfl rfl (by first | omega | decide) (by first | omega | decide) (by first | omega | decide) rfl (fun b29=>?_))
 refine qu ?_;refine jT ?_;refine TL.run (ai rfl rfl ht0) rfl (fD rfl rfl (by first | omega | decide) (by first | omega | decide) (by first | omega | decide) rfl (fun b33=>?_))
 refine eX ?_;refine fm ?_;refine oI ?_;refine TL.run (ai rfl rfl hst0) rfl (zm7 ?_)
 refine aR (V:=fun(p:Int×List Int×List Int×List Bool) v ob H1=>[(37,.int .i64 p.1)]) (K:=[(1,_),(4,_),(5,_),(6,_),(7,_),(8,_),(35,_),(36,_)]) (L:=fun(p:Int×List Int×List Int×List Bool) v ob H1=>St [] w0 H H1 ((b33,(p.2.2.2).map Value.bool)::(b29,(p.2.2.1).map (Value.int .i64))::(b25,(p.2.1).map (Value.int .i64))::(b5,q.cells)::(b4,[.int .i64 0,.int .i64 0,.int .i64 0])::(b2,pg.cells)::[])) (I:=fun(p:Int×List Int×List Int×List Bool) v ob H1=>(0≤p.1∧p.1≤q.steps.length)∧H.le H1∧(p.2.1.length=q.steps.length∧p.2.2.1.length=q.steps.length∧p.2.2.2.length=q.terms.length)∧gc i q=bH q i (q.steps.drop p.1.toNat) p.1 p.2.1 p.2.2.1 p.2.2.2) (μ:=fun(p:Int×List Int×List Int×List Bool)=>(q.steps.length - p.1).toNat) ((0:Int),List.replicate q.steps.length (0:Int),List.replicate q.steps.length (0:Int),List.replicate q.terms.length false) .nilFunc [] H ky ⟨o2q,Hp.le.refl _,⟨by simp,by simp,by simp⟩,rfl⟩ (fun w hw=>by simp only [mo,wg] at hw;exact hw) (fun p v ob H1 hI=>?_)
 obtain⟨⟨k0,k1⟩,hle,⟨hc1,hd1,hu1⟩,hS⟩:=hI
 obtain⟨k,c,d,u⟩:=p
 dsimp only at *
 replace hQ:=hQ.le hle
 refine zm5 ?_
 refine ag rfl ?_ ?_<;>intro c38
 ·
  obtain⟨s,hx⟩:=ao (l:=q.steps) k0 c38
  have hs:=hQ.ss s (List.mem_of_getElem? hx)
  refine qr ?_;refine TL.run (af rfl hQ.s rfl om om) rfl (TL.run (bg hQ.s hx rfl rfl) rfl (TL.alloc rfl (fun b10=>?_)))
  refine zm0 ?_;refine kQ ?_;refine eS ?_;refine aq (ab rfl rfl rfl rfl) (may_ok s hs) rfl (zm1 ?_)
  refine TC.cond rfl ?_ ?_<;>intro c44
  ·
   refine dS ?_;refine aq (ab rfl rfl rfl rfl) (de 1500 i k) rfl (j4 ?_);refine jc ?_
   exact aw (.inr rfl) (ad rfl (RVal.cellA rfl (.h5) rfl)) (by rw [sh_form k0 hx (by simpa using c44) hS];rfl)
  have hm:gv s=true:=by simpa using c44
  have hsz:=fF hm
  refine f8 ?_
  refine bJ (decide (0<k)&& !decide (bS c k=1)) 56 [(1,_),(4,_),(5,_),(6,_),(7,_),(8,_),(9,_),(10,_),(35,_),(36,_),(37,_),(38,_),(39,_),(40,_),(41,_),(42,_),(43,_),(44,_)] ky ?_ ?_
  ·
   refine mL ?_
   refine ah (s:=50) rfl ?_ ?_<;>intro g50
   ·
    have q50:=of_decide_eq_true g50
    refine ef ?_;refine aB rfl rfl (fe rfl rfl om om) rfl (aB rfl rfl (ay rfl (.h3) (fT om)) rfl (ga ?_))
    exact aS rfl (by first | (simp_all;done) | (simp [*];done) | (simp_all;omega)) ky
   have q50:=of_decide_eq_false g50
   refine oH ?_;refine dk ?_
   exact aS rfl (by first | (simp_all;done) | (simp [*];done) | (simp_all;omega)) ky
  refine TC.cond rfl ?_ ?_<;>intro c56
  ·
   refine dS ?_;refine aq (ab rfl rfl rfl rfl) (de 1502 i k) rfl (j4 ?_);refine jc ?_
   exact aw (.inr rfl) (ad rfl (RVal.cellA rfl (.h5) rfl)) (by rw [sh_tree k0 hx hm c56 hS];rfl)
  refine cW ?_
  refine oD (V:=fun dd=>[]) (K:=[(1,_),(4,_),(5,_),(6,_),(7,_),(8,_),(9,_),(10,_),(35,_),(36,_),(37,_),(38,_),(39,_),(40,_),(41,_),(42,_),(43,_),(44,_),(56,_)]) ky (L:=fun dd=>St [] w0 H H1 ((b10,s.cells)::(b33,(u).map Value.bool)::(b29,(dd).map (Value.int .i64))::(b25,(c).map (Value.int .i64))::(b5,q.cells)::(b4,[.int .i64 0,.int .i64 0,.int .i64 0])::(b2,pg.cells)::[])) (I:=fun dd=>dd=eU s k d) ?_ ?_
  ·
   refine bJ (decide (s.kind=3)||decide (s.kind=5)) 67 [(1,_),(4,_),(5,_),(6,_),(7,_),(8,_),(9,_),(10,_),(35,_),(36,_),(37,_),(38,_),(39,_),(40,_),(41,_),(42,_),(43,_),(44,_),(56,_)] ky ?_ ?_
   ·
    refine jg ?_;refine zm4 ?_
    refine ah (s:=63) rfl ?_ ?_<;>intro g63
    ·
     have q63:=of_decide_eq_true g63
     refine jO ?_
     exact aS rfl (by simp_all) ky
    have q63:=of_decide_eq_false g63
    refine co ?_;refine ga ?_
    exact aS rfl (by simp_all) ky
   refine TC.cond rfl ?_ ?_<;>intro c67
   ·
    refine jf ?_;refine ec ?_;refine TL.run (ay rfl (.h2) (fT om)) rfl (jq ?_);refine ec ?_;refine vy ?_
    exact TL.nil (gU (n8 d k) (deep_T c67) ky (fun w hw=>by rw [qZ] at hw;exact hw))
   exact TC.skip (gU d (deep_F c67) ky (fun w hw=>hw))
  intro dd hI
  have hdd:dd.length=q.steps.length:=by rw [hI,dp_len];exact hd1
  refine TC.seq (eS ?_)
  refine cv (ab rfl rfl rfl rfl) (kA s hs om) rfl (fun v75 H75 ob75 hle75 hp75=>?_)
  obtain⟨eH75,hO75⟩:=hp75
  subst H75
  obtain⟨a75,c75,rfl⟩:=hO75.form
  refine TL.pubO hO75 (.s6 (.skip _ .all)) sq (fun HP75 leP75 hR75=>?_)
  replace hQ:=hQ.le leP75
  replace hle:=hle.trans leP75
  replace hs:=hs.le leP75
  have hR75m:=hR75.max
  refine TL.run (ai rfl rfl hR75) rfl (zm7 ?_)
  refine TC.loop (V:=fun(e:Int×List Int×List Int)=>[(77,.int .i64 e.1)]) (K:=[(1,_),(4,_),(5,_),(6,_),(7,_),(8,_),(9,_),(10,_),(35,_),(36,_),(37,_),(38,_),(39,_),(40,_),(41,_),(42,_),(43,_),(44,_),(56,_),(74,_),(75,_),(76,_)]) (L:=fun(e:Int×List Int×List Int)=>St [] w0 H HP75 ((b10,s.cells)::(b33,(u).map Value.bool)::(b29,(e.2.2).map (Value.int .i64))::(b25,(e.2.1).map (Value.int .i64))::(b5,q.cells)::(b4,[.int .i64 0,.int .i64 0,.int .i64 0])::(b2,pg.cells)::[])) (I:=fun(e:Int×List Int×List Int)=>(0≤e.1∧e.1≤(aT s).length)∧(e.2.1.length=q.steps.length∧e.2.2.length=q.steps.length)∧cG q.steps.length k (aT s) c (eU s k d)=cG q.steps.length k ((aT s).drop e.1.toNat) e.2.1 e.2.2) (μ:=fun(e:Int×List Int×List Int)=>((aT s).length - e.1).toNat) (i:=((0:Int),c,dd)) ky ⟨o2q,⟨hc1,hdd⟩,by rw [hI];rfl⟩ (fun w hw=>hw) (fun(e:Int×List Int×List Int) hI=>?_)
  obtain⟨⟨j0,j1⟩,⟨hc3,hd3⟩,hN⟩:=hI
  refine zm5 ?_
  refine ag rfl ?_ ?_<;>intro c78
  ·
   obtain⟨y,hy⟩:=ao (l:=aT s) j0 c78
   refine cQ ?_;refine TL.run (af rfl hR75 rfl om om) rfl (TL.run (aJ hR75 hy rfl rfl) rfl (eX ?_))
   refine bJ (decide (y≤k)||decide ((q.steps.length:Int)≤y)) 90 [(1,_),(4,_),(5,_),(6,_),(7,_),(8,_),(9,_),(10,_),(12,_),(35,_),(36,_),(37,_),(38,_),(39,_),(40,_),(41,_),(42,_),(43,_),(44,_),(56,_),(74,_),(75,_),(76,_),(77,_),(78,_),(79,_),(80,_)] ky ?_ ?_
   ·
    refine jf ?_;refine zm4 ?_
    refine ah (s:=84) rfl ?_ ?_<;>intro g84
    ·
     have q84:=of_decide_eq_true g84
     refine oH ?_;refine dk ?_
     exact aS rfl (by first | (simp_all;done) | (simp [*];done) | (simp_all;omega)) ky
    have q84:=of_decide_eq_false g84
    refine cg ?_;refine ia ?_;refine aB rfl rfl (ay rfl (.h4) rfl) rfl (aB rfl rfl (ai rfl rfl hQ.s) rfl (ga ?_))
    exact aS rfl (by first | (simp_all;done) | (simp [*];done) | (simp_all;omega)) ky
   refine TC.cond rfl ?_ ?_<;>intro c90
   ·
    refine dS ?_;refine aq (ab rfl rfl rfl rfl) (de 1502 i k) rfl (j4 ?_);refine jc ?_;refine gi ?_
    exact aw (.inr rfl) (ad rfl (RVal.cellA rfl (.h5) rfl)) (by rw [sh_n k0 hx hm c56 (ng_bad j0 hy c90 hN) hS];rfl)
   have hyb:k<y∧y<q.steps.length:=by simp at c90;omega
   refine rM ?_;refine ec ?_;refine ye ?_;refine jq ?_;refine ec ?_;refine aZ rfl rfl rfl (.h3) (by simp;omega) rfl (TL.nil (ae (jf ?_)));refine zm4 ?_
   refine ec ?_;refine TL.run (ay rfl (.h2) (fT om)) rfl (ec ?_);refine vy ?_;refine mJ ?_
   exact aM (e.1+1,n8 e.2.1 y,e.2.2.set y.toNat (bS e.2.2 k)) ⟨o2q,⟨by rw [q3];exact hc3,by rw [List.length_set];exact hd3⟩,ng_next j0 hy c90 hN⟩ ky (fun w hw=>by have hw2:=hw;simp only [qZ] at hw2;exact hw2) om
  have hng:=ng_end j0 c78 hN
  obtain⟨j,c2,d2⟩:=e
  dsimp only at *
  have hc2:=hc3
  have hd2:=hd3
  refine fX ?_;refine eZ ?_;refine ec ?_;refine TL.run (ay rfl (.h2) (fT om)) rfl (zm1 ?_)
  refine ag rfl ?_ ?_<;>intro c112
  ·
   refine dS ?_;refine aq (ab rfl rfl rfl rfl) (de 1502 i k) rfl (j4 ?_);refine jc ?_
   exact aw (.inr rfl) (ad rfl (RVal.cellA rfl (.h5) rfl)) (by rw [sh_d k0 hx hm c56 hng c112 hS];rfl)
  refine cW ?_;refine eS ?_
  refine cv (ab rfl rfl rfl rfl) (sP s hs hsz.2) rfl (fun v117 H117 ob117 hle117 hp117=>?_)
  obtain⟨eH117,hO117⟩:=hp117
  subst H117
  obtain⟨a117,c117,rfl⟩:=hO117.form
  refine TL.pubO hO117 (.s6 (.skip _ .all)) sq (fun HP117 leP117 hR117=>?_)
  replace hQ:=hQ.le leP117
  replace hle:=hle.trans leP117
  have hR117m:=hR117.max
  refine TL.run (ai rfl rfl hR117) rfl (zm7 ?_)
  refine aR (V:=fun(f:Int×List Bool) v2 ob2 H2=>[(119,.int .i64 f.1)]) (K:=[(1,_),(4,_),(5,_),(6,_),(7,_),(8,_),(9,_),(10,_),(35,_),(36,_),(37,_),(38,_),(39,_),(40,_),(41,_),(42,_),(43,_),(44,_),(56,_),(74,_),(75,_),(76,_),(77,_),(78,_),(108,_),(109,_),(110,_),(111,_),(112,_),(116,_),(117,_),(118,_)]) (L:=fun(f:Int×List Bool) v2 ob2 H2=>St [] w0 H H2 ((b10,s.cells)::(b33,(f.2).map Value.bool)::(b29,(d2).map (Value.int .i64))::(b25,(c2).map (Value.int .i64))::(b5,q.cells)::(b4,[.int .i64 0,.int .i64 0,.int .i64 0])::(b2,pg.cells)::[])) (I:=fun(f:Int×List Bool) v2 ob2 H2=>(0≤f.1∧f.1≤(cq s).length)∧HP117.le H2∧f.2.length=q.terms.length∧cY q.terms (cq s) u=cY q.terms ((cq s).drop f.1.toNat) f.2) (μ:=fun(f:Int×List Bool)=>((cq s).length - f.1).toNat) ((0:Int),u) .nilFunc [] HP117 ky ⟨o2q,Hp.le.refl _,hu1,rfl⟩ (fun w hw=>hw) (fun f v2 ob2 H2 hI=>?_)
  obtain⟨⟨f0,f1⟩,hle2,hu4,hR⟩:=hI
  replace hQ:=hQ.le hle2
  replace hle:=hle.trans hle2
  replace hR117:=hR117.le hle2
  refine zm5 ?_
  refine ag rfl ?_ ?_<;>intro c120
  ·
   obtain⟨r,hr⟩:=ao (l:=cq s) f0 c120
   refine cQ ?_;refine TL.run (af rfl hR117 rfl om om) rfl (TL.run (aJ hR117 hr rfl rfl) rfl (eX ?_));refine fm ?_
   refine TL.run (ay rfl (.h4) rfl) rfl (zm0 ?_);refine aq (ab rfl rfl rfl rfl) (zP r hQ.t hQ.tn) rfl (zm1 ?_)
   refine TC.cond rfl ?_ ?_<;>intro c127
   ·
    refine dS ?_;refine aq (ab rfl rfl rfl rfl) (de 1503 i k) rfl (j4 ?_);refine aC (aY (aC (aC ?_)));refine aY (gi ?_)
    exact aw (.inr rfl) (ad rfl (RVal.cellA rfl (.h5) rfl)) (by rw [sh_t k0 hx hm c56 hng c112 (rg_may f0 hr (by simpa using c127) hR) hS];rfl)
   have hmr:dH q.terms r=true:=by simpa using c127
   refine cW ?_;refine fm ?_;refine TL.run (ay rfl (.h4) rfl) rfl (zm0 ?_)
   refine cv (ab rfl rfl rfl rfl) (sS r hQ.t hmr) rfl (fun v134 H134 ob134 hle134 hp134=>?_)
   have hO134:OwnSl 1 I64.cells v134 (eJ q.terms r) ob134:=hp134
   obtain⟨a134,c134,rfl⟩:=hO134.form
   replace hle2:=hle2.trans hle134
   refine TL.pubO hO134 (.s6 (.skip _ .all)) sq (fun HP134 leP134 hR134=>?_)
   replace hle2:=hle2.trans leP134
   have hR134m:=hR134.max
   refine TL.run (ai rfl rfl hR134) rfl (zm7 ?_)
   refine TC.loop (V:=fun(e:Int×List Bool)=>[(136,.int .i64 e.1)]) (K:=[(1,_),(4,_),(5,_),(6,_),(7,_),(8,_),(9,_),(10,_),(14,_),(35,_),(36,_),(37,_),(38,_),(39,_),(40,_),(41,_),(42,_),(43,_),(44,_),(56,_),(74,_),(75,_),(76,_),(77,_),(78,_),(108,_),(109,_),(110,_),(111,_),(112,_),(116,_),(117,_),(118,_),(119,_),(120,_),(121,_),(122,_),(123,_),(124,_),(125,_),(126,_),(127,_),(131,_),(132,_),(133,_),(134,_),(135,_)]) (L:=fun(e:Int×List Bool)=>St [] w0 H HP134 ((b10,s.cells)::(b33,(e.2).map Value.bool)::(b29,(d2).map (Value.int .i64))::(b25,(c2).map (Value.int .i64))::(b5,q.cells)::(b4,[.int .i64 0,.int .i64 0,.int .i64 0])::(b2,pg.cells)::[])) (I:=fun(e:Int×List Bool)=>(0≤e.1∧e.1≤(eJ q.terms r).length)∧e.2.length=q.terms.length∧gX (eJ q.terms r) f.2=gX ((eJ q.terms r).drop e.1.toNat) e.2) (μ:=fun(e:Int×List Bool)=>((eJ q.terms r).length - e.1).toNat) (i:=((0:Int),f.2)) ky ⟨o2q,hu4,rfl⟩ (fun w hw=>hw) (fun(e:Int×List Bool) hI=>?_)
   obtain⟨⟨e0,e1⟩,hu5,hU⟩:=hI
   refine zm5 ?_
   refine ag rfl ?_ ?_<;>intro c137
   ·
    obtain⟨z,hz⟩:=ao (l:=eJ q.terms r) e0 c137
    have hzb:=qG _ _ z (List.mem_of_getElem? hz)
    refine cQ ?_;refine TL.run (af rfl hR134 rfl om om) rfl (TL.run (aJ hR134 hz rfl rfl) rfl (eX ?_));refine dS ?_;refine ec ?_
    refine TL.run (ay rfl (.h1) (bs_get om)) rfl (TL.nil (ae (TC.cond rfl (fun c143=>?_) (fun c143=>?_))))
    ·
     refine dS ?_;refine aq (ab rfl rfl rfl rfl) (de 1503 i k) rfl (j4 ?_);refine aC (aY (aC (aC ?_)));refine aY (rA ?_)
     exact aw (.inr rfl) (ad rfl (RVal.cellA rfl (.h5) rfl)) (by rw [sh_t k0 hx hm c56 hng c112 (rg_bad f0 hr hmr (ug_bad e0 hz c143 hU) hR) hS];rfl)
    refine rO ?_;refine yc ?_;refine mJ ?_
    exact aM (e.1+1,e.2.set z.toNat true) ⟨o2q,by rw [List.length_set];exact hu5,ug_next e0 hz c143 hU⟩ ky (fun w hw=>by have hw2:=hw;simp only [bs_set] at hw2;exact hw2) om
   have hug:=ug_end e0 c137 hU
   refine rk ?_
   exact aE (f.1+1,e.2) .nilFunc [] HP134 ⟨o2q,hle2,hu5,rg_next f0 hr hmr hug hR⟩ ky (fun w hw=>hw) om
  have hrg:=rg_end f0 c120 hR
  refine rk ?_
  exact aE (i:=(k,c,d,u)) (k+1,c2,d2,f.2) .nilFunc [] H2 ⟨o2q,hle,⟨hc2,hd2,hu4⟩,sh_next k0 hx hm c56 hng c112 hrg hS⟩ ky (fun w hw=>hw.drop) om
 refine oW ?_;refine cf rfl rfl rfl rfl rfl (.h4) rfl rfl (TL.nil (ae (TC.ret ?_)))
 exact aw (.inr rfl) (ad rfl (RVal.cellA rfl (.h4) rfl)) (by rw [sh_end k0 c38 hS];rfl)
end Go.Sx
namespace Go.Sx
open Go Go.Proofs
theorem yO {H:Hp}{pg:SProg}{q:SProc}(i:Int)(hP:ProgOk H pg)(h0:0≤i)(hq:pg.procs[i.toNat]? =some q)(hsh:cj q)(hz0:1≤q.steps.length)(hz1:q.steps.length≤80)(hz2:q.terms.length≤160):
  FnS Tryz.prog 42 [.agg pg.cells.toArray,.int .i64 i] H (.agg (dV pg i q).cells.toArray):=by
 have hPq:=hP.q
 have hmax:=hPq.max
 have hlt:=qY hq
 have hQ:=hP.qs q (List.mem_of_getElem? hq)
 have hst0:=hQ.s
 have hpa0:=hQ.pa
 have hpl:=hQ.pl
 refine FnS.enter Tryz.func42 Tryz.ntmps42 rfl rfl (fun w0=>?_)
 refine zm2 ?_
 refine TL.box rfl rfl (fun b2=>?_)
 refine TL.alloc rfl (fun b4=>?_)
 refine TL.nil (ae (fJ ?_));refine zm0 ?_;refine TL.run (af rfl hPq rfl om om) rfl (TL.run (bg hPq hq rfl rfl) rfl (TL.alloc rfl (fun b5=>?_)))
 refine ni ?_;refine TL.run (ai rfl rfl hst0) rfl (fD rfl rfl (by first | omega | decide) (by first | omega | decide) (by first | omega | decide) rfl (fun b23=>?_))
 refine eX ?_;refine fJ ?_;refine TL.run (ai rfl rfl hpa0) rfl (zm7 ?_)
 refine aR (V:=fun k v ob H1=>[(27,.int .i64 k)]) (K:=[(1,_),(2,_),(4,_),(5,_),(6,_),(25,_),(26,_)]) (L:=fun k v ob H1=>St [] w0 H H ((b23,(List.replicate q.steps.length nilV).set 0 v)::(b5,q.cells)::(b4,[.int .i64 0,.int .i64 0,.int .i64 0])::(b2,pg.cells)::ob)) (I:=fun k v ob H1=>(0≤k∧k≤q.params.length)∧OwnSl 1 Str.cells v ((q.params.take k.toNat).map (·.name)) ob) (μ:=fun k=>(q.params.length - k).toNat) 0 nilV [] H ky ⟨o2q,OwnSl.nil⟩ (fun w hw=>by rw [yT];rw [sY] at hw;exact hw) (fun k v ob H1 hI=>?_)
 obtain⟨⟨k0,k1⟩,hO⟩:=hI
 obtain⟨va,vc,rfl⟩:=hO.form
 refine zm5 ?_
 refine ag rfl ?_ ?_<;>intro c28
 ·
  obtain⟨x,hx⟩:=ao (l:=q.params) k0 c28
  refine cQ ?_;refine TL.run (af rfl hpa0 rfl om om) rfl (TL.run (bg hpa0 hx rfl rfl) rfl (TL.alloc rfl (fun b8=>?_)))
  refine fl ?_;refine d3 ?_;refine cJ [(0,1),(1,1),(2,1),(3,2),(4,1),(5,2),(6,3),(7,0),(8,1),(9,0)] kr kr (ic ?_);refine oX ?_
  refine aQ (ay rfl (.h1) (yN (by simp;omega))) rfl (mT ?_)
  refine aA rfl rfl rfl rfl (fun b37=>?_)
  refine bn (TL.append (enc:=Str.cells) rfl rfl rfl hO (Src.own [x.name] (.here _) rfl rfl) (by simp;omega) rfl (.s5 (.skip _ .all)) rfl (fun a38 c38 ob38 hO38=>?_))
  refine TF.back (oX ?_);refine bn (vy ?_);refine jU ?_
  exact aE (k+1) _ ob38 H ⟨o2q,hO38.cast (by rw [bF k0 hx])⟩ ky (fun w hw=>by have hw2:=hw.drop.drop;rw [yL] at hw2;rw [← List.set_set];exact hw2) om
 refine rN ?_
 refine TL.pubO hO (.s3 (.skip _ .all)) sq (fun HJ leJ hJ=>?_)
 replace hP:=hP.le leJ
 replace hQ:=hQ.le leJ
 have hJ2:=hJ.cast (show _=q.params.map (·.name) by rw [bh c28 k0])
 refine f7 ?_;refine TL.run (ai rfl rfl hQ.s) rfl (zm7 ?_)
 refine aR (V:=fun(p:ul) v ob H1=>[(44,.int .i64 p.1)]) (K:=[(1,_),(2,_),(4,_),(5,_),(6,_),(42,_),(43,_)]) (L:=fun(p:ul) v ob H1=>St [] w0 H H1 ((b23,p.2.1)::(b5,q.cells)::(b4,[.int .i64 0,.int .i64 0,.int .i64 0])::(b2,pg.cells)::[])) (I:=fun(p:ul) v ob H1=>(0≤p.1∧p.1≤q.steps.length)∧HJ.le H1∧BRow H1 p.2.1 p.2.2∧p.2.2.length=q.steps.length∧dV pg i q=cR pg q i (q.steps.drop p.1.toNat) p.1 p.2.2) (μ:=fun(p:ul)=>(q.steps.length - p.1).toNat) ((0:Int),(List.replicate q.steps.length nilV).set 0 _,lw q) .nilFunc [] HJ ky ⟨o2q,Hp.le.refl _,brow0 hJ2 hpl,vd q,rfl⟩ (fun w hw=>hw) (fun p v ob H1 hI=>?_)
 obtain⟨⟨k0,k1⟩,hle,hB,hbl,hS⟩:=hI
 obtain⟨k,vs,b⟩:=p
 dsimp only at *
 replace hP:=hP.le hle
 replace hQ:=hQ.le hle
 refine zm5 ?_
 refine ag rfl ?_ ?_<;>intro c45
 ·
  obtain⟨s,hx⟩:=ao (l:=q.steps) k0 c45
  have hs:=hQ.ss s (List.mem_of_getElem? hx)
  obtain⟨hm0,hin⟩:=hsh k.toNat s hx
  have hsz:=fF hm0
  obtain⟨vk,bk,hvk,hbk,hBk⟩:=hB.at_ (k:=k) om
  have hvl:=hB.1
  refine qr ?_;refine TL.run (af rfl hQ.s rfl om om) rfl (TL.run (bg hQ.s hx rfl rfl) rfl (TL.alloc rfl (fun b10=>?_)))
  refine zm0 ?_;refine kQ ?_
  refine TC.seq (eP kr kr (TQ.run (aU rfl (.h4) rfl) rfl (TQ.run (aU rfl (.h2) rfl) rfl ?_)))
  refine TQ.run (aU rfl (.here _) rfl) rfl (mI ?_)
  refine TQ.run (fe rfl rfl om om) rfl (TQ.run (ay rfl (.h1) (get_k hvk)) rfl (kN (ab rfl rfl rfl rfl) (step_ok s hP hQ hs hBk hsz.2 om) rfl (mM ?_)));refine dZ ?_
  refine aW rfl ?_ ?_<;>intro c58
  ·
   refine fo ?_;refine aq (ab rfl rfl rfl rfl) (de _ i k) rfl (yd ?_);refine TL.nil (ae (TC.ret (jc ?_)))
   exact aw (.inr rfl) (ad rfl (RVal.cellA rfl (.h3) rfl)) (by rw [sn_bad k0 hx hbk c58 hS];rfl)
  have he0:=c58
  refine cW ?_;refine eS ?_
  refine cv (ab rfl rfl rfl rfl) (ou s hs om) rfl (fun v64 H64 ob64 hle64 hp64=>?_)
  obtain⟨eH64,hO64⟩:=hp64
  subst H64
  obtain⟨a64,c64,rfl⟩:=hO64.form
  refine TL.pubO hO64 (.s4 (.skip _ .all)) sq (fun HP64 leP64 hR64=>?_)
  replace hle:=hle.trans leP64
  replace hs:=hs.le leP64
  replace hB:=hB.le leP64
  have hR64m:=hR64.max
  refine zm1 ?_;refine eS ?_
  refine cv (ab rfl rfl rfl rfl) (kA s hs om) rfl (fun v66 H66 ob66 hle66 hp66=>?_)
  obtain⟨eH66,hO66⟩:=hp66
  subst H66
  obtain⟨a66,c66,rfl⟩:=hO66.form
  refine TL.pubO hO66 (.s4 (.skip _ .all)) sq (fun HP66 leP66 hR66=>?_)
  replace hle:=hle.trans leP66
  replace hB:=hB.le leP66
  replace hR64:=hR64.le leP66
  have hR66m:=hR66.max
  refine TL.run (ai rfl rfl hR66) rfl (zm7 ?_)
  refine aR (V:=fun(e:ul) v2 ob2 H2=>[(68,.int .i64 e.1)]) (K:=[(1,_),(2,_),(4,_),(5,_),(6,_),(9,_),(10,_),(11,_),(12,_),(42,_),(43,_),(44,_),(45,_),(46,_),(47,_),(48,_),(49,_),(50,_),(51,_),(52,_),(53,_),(54,_),(55,_),(56,_),(57,_),(58,_),(63,_),(64,_),(65,_),(66,_),(67,_)]) (L:=fun(e:ul) v2 ob2 H2=>St [] w0 H H2 ((b10,s.cells)::(b23,e.2.1)::(b5,q.cells)::(b4,[.int .i64 0,.int .i64 0,.int .i64 0])::(b2,pg.cells)::[])) (I:=fun(e:ul) v2 ob2 H2=>(0≤e.1∧e.1≤(aT s).length)∧HP66.le H2∧BRow H2 e.2.1 e.2.2∧e.2.2.length=q.steps.length∧(e.2.1[k.toNat]? =some vk∧e.2.2[k.toNat]? =some bk)∧fC k (aT s) (ce s) b=fC k ((aT s).drop e.1.toNat) ((ce s).drop e.1.toNat) e.2.2) (μ:=fun(e:ul)=>((aT s).length - e.1).toNat) ((0:Int),vs,b) .nilFunc [] HP66 ky ⟨o2q,Hp.le.refl _,hB,hbl,⟨hvk,hbk⟩,rfl⟩ (fun w hw=>hw) (fun e v2 ob2 H2 hI=>?_)
  obtain⟨⟨j0,j1⟩,hle2,hB2,hbl2,⟨hvk2,hbk2⟩,hG⟩:=hI
  replace hle:=hle.trans hle2
  replace hR64:=hR64.le hle2
  replace hR66:=hR66.le hle2
  have hBk2:=hB2.2.1 _ _ _ hvk2 hbk2
  have hBk2m:=hB2.2.2 _ _ hbk2
  have hvl2:=hB2.1
  refine zm5 ?_
  refine ag rfl ?_ ?_<;>intro c69
  ·
   obtain⟨t,ht⟩:=ao (l:=aT s) j0 c69
   obtain⟨m,hm⟩:=zF j0 c69
   have htb:=hin t (List.mem_of_getElem? ht)
   have hbn:=qm s
   have hk3:((k.toNat:Nat):Int)=k:=by omega
   refine qr ?_;refine TL.run (af rfl hR66 rfl om om) rfl (TL.run (aJ hR66 ht rfl rfl) rfl (jr ?_));refine dS ?_
   refine ax rfl rfl rfl rfl (fun b75=>?_)
   refine zm4 ?_;refine ec ?_
   refine TL.run (ay rfl (.h2) (get_k hvk2)) rfl (TL.append (enc:=Str.cells) rfl rfl rfl (OwnSl.blk (enc:=Str.cells) [] rfl rfl dq) (Src.sl hBk2) (by simp;omega) rfl (.take (.here _) rfl) rfl (fun a80 c80 ob80 hO80=>?_))
   refine ro ?_;refine dS ?_;refine TL.run (af rfl hR64 rfl om om) rfl (TL.run (aJ hR64 hm rfl rfl) rfl (TL.run (cd rfl rfl rfl) rfl (TL.nil ?_)))
   refine ae (aW rfl (fun c86=>?_) (fun c86=>?_))
   ·
    refine d3 ?_;refine cJ [(0,1),(1,1),(2,1),(3,1),(4,1),(5,2),(6,1),(7,1),(8,1),(9,2),(10,3),(11,0),(12,1),(13,0)] kr kr (sd ?_);refine oX ?_
    refine aQ (ay rfl (.h1) (yM om)) rfl (ic ?_)
    refine ar (af rfl hR64 rfl om om) rfl (aQ (aJ hR64 hm rfl rfl) rfl (aA rfl rfl rfl rfl (fun b97=>?_)))
    refine bn (TL.append (enc:=Str.cells) rfl rfl rfl hO80 (Src.own [m] (.here _) rfl rfl) (by simp;omega) rfl (.s5 (.skip _ .all)) rfl (fun a98 c98 ob98 hO98=>?_))
    refine TF.back (oX ?_);refine bn (vy ?_);refine TF.back (TF.nil (a8 (ae ?_)))
    refine TC.region (TL.pubO hO98 (.s5 (.skip _ .all)) sq (fun HPb lePb hPb=>?_))
    replace hle2:=hle2.trans lePb
    replace hB2:=hB2.le lePb
    refine TL.run ((by first | exact ej rfl rfl om om | exact aD rfl)) rfl (TL.run (aD rfl) rfl (TL.nil (aE (e.1+1,e.2.1.set t.toNat _,e.2.2.set t.toNat (bk++[m])) .nilFunc [] HPb ⟨o2q,hle2,(hB2.set hPb (by first | omega | (simp;omega))),by rw [List.length_set];exact hbl2,⟨by rw [List.getElem?_set,if_neg om];exact hvk2,by rw [List.getElem?_set,if_neg om];exact hbk2⟩,by rw [← putAt_T hbk2 c86];exact wB j0 ht hm hG⟩ ky (fun w hw=>by have hw2:=hw.drop;simp only [yL,List.set_set] at hw2;exact hw2) om)))
   refine TC.skip (a8 (ae (TC.region ?_)))
   refine TL.pubO hO80 (.s4 (.skip _ .all)) sq (fun HPb lePb hPb=>?_)
   replace hle2:=hle2.trans lePb
   replace hB2:=hB2.le lePb
   refine TL.run ((by first | exact ej rfl rfl om om | exact aD rfl)) rfl (TL.run (aD rfl) rfl (TL.nil (aE (e.1+1,e.2.1.set t.toNat _,e.2.2.set t.toNat bk) .nilFunc [] HPb ⟨o2q,hle2,(hB2.set hPb (by first | omega | (simp;omega))),by rw [List.length_set];exact hbl2,⟨by rw [List.getElem?_set,if_neg om];exact hvk2,by rw [List.getElem?_set,if_neg om];exact hbk2⟩,by rw [← putAt_F hbk2 c86];exact wB j0 ht hm hG⟩ ky (fun w hw=>by have hw2:=hw;simp only [yL,List.set_set] at hw2;exact hw2) om)))
  refine rk ?_
  exact aE (i:=(k,vs,b)) (k+1,e.2.1,e.2.2) .nilFunc [] H2 ⟨o2q,hle,hB2,hbl2,(bg_end j0 c69 hG)▸sn_next k0 hx hbk he0 hS⟩ ky (fun w hw=>hw.drop) om
 refine oW ?_;refine r3 ?_
 exact aw (.inr rfl) (ad rfl (RVal.cellA rfl (.h2) rfl)) (by rw [sn_end k0 c45 hS];rfl)
end Go.Sx
namespace Go.Sx
open Go Go.Proofs
theorem chk2_ok {H:Hp}{pg:SProg}{b1:Nat}(hP:ProgOk H pg)(hM:MaxG H)(hb:PgAt H b1 pg):
  FnS Tryz.prog 36 [.pointer (some ⟨b1,0,none⟩)] H (.agg (fk pg).cells.toArray):=by
 refine FnS.enter Tryz.func36 Tryz.ntmps36 rfl rfl (fun w0=>?_)
 refine zm2 ?_
 refine TL.alloc rfl (fun b1=>?_)
 refine fz ?_;refine TL.run (iz rfl rfl hb.add) rfl (aq (ab rfl rfl rfl rfl) (all_ok hP hM) rfl (gH ?_))
 exact aw (.inr rfl) (ad rfl (RVal.cellA rfl (.here _) rfl)) rfl
theorem chk3_ok {H:Hp}{pg:SProg}{b1:Nat}(hP:ProgOk H pg)(hb:PgAt H b1 pg):
  FnS Tryz.prog 40 [.pointer (some ⟨b1,0,none⟩)] H (.agg (fh pg.procs).cells.toArray):=by
 have hq:=hP.q
 have hmax:=hq.max
 refine FnS.enter Tryz.func40 Tryz.ntmps40 rfl rfl (fun w0=>?_)
 refine zm2 ?_
 refine TL.alloc rfl (fun b1=>?_)
 refine TL.nil (ae (TC.seq (zm2 ?_)));refine TL.run (iz rfl rfl hb.add) rfl (aq (ab rfl rfl rfl rfl) (fb bT hP) rfl (zm1 ?_))
 refine bJ (decide (cb pg.procs bT<0)||decide (0<((kF pg.procs (cb pg.procs bT)).params.length:Int))) 16 [(1,_)] ⟨rfl,trivial⟩ ?_ ?_
 ·
  refine mL ?_
  refine ah (s:=7) rfl ?_ ?_<;>intro g7
  ·
   have q7:=of_decide_eq_true g7
   refine dB ?_;refine kR ?_
   exact aS rfl (by first | (rw [hgp];simp_all;done) | (simp_all;done) | (simp [*];done) | (simp_all;omega)) ⟨rfl,trivial⟩
  have q7:=of_decide_eq_false g7
  have hfr:=fU pg.procs bT
  obtain⟨x,hx⟩:=ao (l:=pg.procs) (i:=cb pg.procs bT) om om
  have hxp:=(hP.qs x (List.mem_of_getElem? hx)).pa.max
  have hgp:kF pg.procs (cb pg.procs bT)=x:=by unfold kF;rw [hx];rfl
  refine ia ?_;refine aB rfl rfl (bq rfl (hb 2 _ rfl)) rfl (cg ?_);refine aB rfl rfl (af rfl hq rfl om om) rfl (ia ?_)
  refine aB rfl rfl (bL hq hx rfl rfl) rfl (aB rfl rfl (ai rfl rfl (hP.qs x (List.mem_of_getElem? hx)).pa) rfl (ga ?_))
  exact aS rfl (by first | (rw [hgp];simp_all;done) | (simp_all;done) | (simp [*];done) | (simp_all;omega)) ⟨rfl,trivial⟩
 refine TC.cond rfl ?_ ?_<;>intro c16
 ·
  refine zm2 ?_;refine aq (ab rfl rfl rfl rfl) (de 1504 (-1) (-1)) rfl (gH ?_)
  exact aC (aw (.inr rfl) (ad rfl (RVal.cellA rfl (.here _) rfl)) (by first | (rw [ze c16];rfl) | (rw [zd c16];rfl)))
 refine cW ?_;refine im ?_;refine gH ?_
 exact aw (.inr rfl) (ad rfl (RVal.cellA rfl (.here _) rfl)) (by first | (rw [ze c16];rfl) | (rw [zd c16];rfl))
theorem wz {H:Hp}{b1:Nat}{a:Option Addr}{n c:Nat}:
  Fn Tryz.prog 34 [.slice a n c,.pointer (some ⟨b1,0,none⟩)] H (fun v H1=>∃b2,v= .func (.func 35) #[] #[.pointer (some ⟨b1,0,none⟩),.pointer (some ⟨b2,0,none⟩)]∧CellAt H1 b2 (.slice a n c)):=by
 refine Fn.enter Tryz.func34 Tryz.ntmps34 rfl rfl (fun w0=>?_)
 refine zm2 ?_
 refine mE rfl rfl (fun b2=>?_)
 refine rz ?_
 refine cT sq (fun H_b2 le_b2 rd_b2=>?_)
 refine eD ?_
 exact aN (.inr rfl) (ad rfl (RVal.tmp rfl)) ⟨b2,rfl,rd_b2 0 _ rfl⟩
end Go.Sx
namespace Go.Sx
open Go Go.Proofs
theorem zr {H:Hp}{pg:SProg}{b1 b2:Nat}{lv:Value}(hP:ProgOk H pg)(hM:MaxG H)(hb:PgAt H b1 pg)(hc:CellAt H b2 lv)(hL:RdSl H 1 Fc.cells lv [38,39]):
  FnS Tryz.prog 35 [.pointer (some ⟨b1,0,none⟩),.pointer (some ⟨b2,0,none⟩)] H (.agg (br (aK pg.procs) pg.procs 0).cells.toArray):=by
 have hq:=hP.q
 have hmax:=hq.max
 have one0:=hL.isOne
 obtain⟨va,vc,rfl⟩:=hL.len
 refine FnS.enter Tryz.func35 Tryz.ntmps35 rfl rfl (fun w0=>?_)
 refine zm2 ?_
 refine TL.alloc rfl (fun b2=>?_)
 refine TL.nil (ae (TC.seq (fm ?_)));refine TL.run (bq rfl (hb 2 _ rfl)) rfl (TL.run (ai rfl rfl hq) rfl (zm7 ?_))
 refine TC.loop (V:=fun k=>[(10,.int .i64 k)]) (K:=[(0,_),(1,_),(2,_),(9,_)]) (L:=fun k=>_) (I:=fun k=>(0≤k∧k≤pg.procs.length)∧br (aK pg.procs) pg.procs 0=br (aK pg.procs) (pg.procs.drop k.toNat) k) (μ:=fun k=>(pg.procs.length - k).toNat) (i:=(0:Int)) ky ⟨o2q,rfl⟩ (fun w hw=>hw) (fun k hI=>?_)
 obtain⟨⟨k0,k1⟩,hE⟩:=hI
 refine zm5 ?_
 refine ag rfl ?_ ?_<;>intro c11
 ·
  obtain⟨q,hx⟩:=ao (l:=pg.procs) k0 c11
  refine lI ?_;refine zm2 ?_;refine TL.run (bq rfl hc) rfl (TL.run (ai rfl rfl hL) rfl (zm7 ?_));refine TC.rounds 3 (eO (zm5 ?_))
  refine ag rfl ?_ ?_<;>intro c16_0
  ·
   refine cQ ?_;refine lU ?_;refine TL.run (aJ hL (show([38,39]:List FuncId)[0]? =some _ from rfl) rfl rfl) rfl (ju ?_);refine TL.run (iz rfl rfl hb.add) rfl (zm0 ?_)
   refine aq (ab rfl rfl rfl rfl) (head_ok k hP hM k0 hx) rfl (TL.alloc rfl (fun b6=>?_))
   refine lG ?_
   refine aW rfl ?_ ?_<;>intro c25_0
   ·
    refine eS ?_;refine mj ?_;refine rA ?_
    exact aw (.inr rfl) (ad rfl (RVal.cellA rfl (.h1) rfl)) (by rw [oo (f:=(aK pg.procs)) k0 hx (by rw [hs_1 c25_0];exact c25_0) hE,hs_1 c25_0];rfl)
   have hz:=jF c25_0
   refine mV ?_
   refine ag rfl ?_ ?_<;>intro c16_1
   ·
    refine cQ ?_;refine lU ?_;refine TL.run (aJ hL (show([38,39]:List FuncId)[1]? =some _ from rfl) rfl rfl) rfl (ju ?_);refine TL.run (iz rfl rfl hb.add) rfl (zm0 ?_)
    refine aq (ab rfl rfl rfl rfl) (yJ k hP k0 hx hz.2.1 hz.2.2) rfl (TL.alloc rfl (fun b6x=>?_))
    refine lG ?_
    refine aW rfl ?_ ?_<;>intro c25_1
    ·
     refine eS ?_;refine r3 ?_;refine rA ?_
     exact aw (.inr rfl) (ad rfl (RVal.cellA rfl (.h2) rfl)) (by rw [oo (f:=(aK pg.procs)) k0 hx (by rw [hs_2 c25_0];exact c25_1) hE,hs_2 c25_0];rfl)
    refine mV ?_
    refine ag rfl ?_ ?_<;>intro c16_2
    · exact absurd c16_2 dq
    refine rk ?_
    exact aM (k+1) ⟨o2q,qi k0 hx (by rw [hs_2 c25_0];exact c25_1) hE⟩ ky (fun w hw=>hw.drop.drop) om
   exact absurd dq c16_1
  exact absurd dq c16_0
 refine oW ?_;refine gH ?_
 exact aw (.inr rfl) (ad rfl (RVal.cellA rfl (.here _) rfl)) (by rw [tY k0 c11 hE];rfl)
theorem zt {H:Hp}{pg:SProg}{b1 b2:Nat}{lv:Value}(hP:ProgOk H pg)(hM:MaxG H)(hb:PgAt H b1 pg)(hc:CellAt H b2 lv)(hL:RdSl H 1 Fc.cells lv [42])(hgood:∀q∈pg.procs,um q):
  FnS Tryz.prog 35 [.pointer (some ⟨b1,0,none⟩),.pointer (some ⟨b2,0,none⟩)] H (.agg (br (dV pg) pg.procs 0).cells.toArray):=by
 have hq:=hP.q
 have hmax:=hq.max
 have one0:=hL.isOne
 obtain⟨va,vc,rfl⟩:=hL.len
 refine FnS.enter Tryz.func35 Tryz.ntmps35 rfl rfl (fun w0=>?_)
 refine zm2 ?_
 refine TL.alloc rfl (fun b2=>?_)
 refine TL.nil (ae (TC.seq (fm ?_)));refine TL.run (bq rfl (hb 2 _ rfl)) rfl (TL.run (ai rfl rfl hq) rfl (zm7 ?_))
 refine TC.loop (V:=fun k=>[(10,.int .i64 k)]) (K:=[(0,_),(1,_),(2,_),(9,_)]) (L:=fun k=>_) (I:=fun k=>(0≤k∧k≤pg.procs.length)∧br (dV pg) pg.procs 0=br (dV pg) (pg.procs.drop k.toNat) k) (μ:=fun k=>(pg.procs.length - k).toNat) (i:=(0:Int)) ky ⟨o2q,rfl⟩ (fun w hw=>hw) (fun k hI=>?_)
 obtain⟨⟨k0,k1⟩,hE⟩:=hI
 refine zm5 ?_
 refine ag rfl ?_ ?_<;>intro c11
 ·
  obtain⟨q,hx⟩:=ao (l:=pg.procs) k0 c11
  have hg:=hgood q (List.mem_of_getElem? hx)
  refine lI ?_;refine zm2 ?_;refine TL.run (bq rfl hc) rfl (TL.run (ai rfl rfl hL) rfl (zm7 ?_));refine TC.rounds 2 (eO (zm5 ?_))
  refine ag rfl ?_ ?_<;>intro c16_0
  ·
   refine cQ ?_;refine lU ?_;refine TL.run (aJ hL (show([42]:List FuncId)[0]? =some _ from rfl) rfl rfl) rfl (ju ?_);refine TL.run (iz rfl rfl hb.add) rfl (zm0 ?_)
   refine aq (ab rfl rfl rfl rfl) (yO k hP k0 hx hg.1 hg.2.1 hg.2.2.1 hg.2.2.2) rfl (TL.alloc rfl (fun b6=>?_))
   refine lG ?_
   refine aW rfl ?_ ?_<;>intro c25_0
   ·
    refine eS ?_;refine mj ?_;refine rA ?_
    exact aw (.inr rfl) (ad rfl (RVal.cellA rfl (.h1) rfl)) (by rw [oo (f:=(dV pg)) k0 hx c25_0 hE];rfl)
   refine mV ?_
   refine ag rfl ?_ ?_<;>intro c16_1
   · exact absurd c16_1 dq
   refine rk ?_
   exact aM (k+1) ⟨o2q,qi k0 hx c25_0 hE⟩ ky (fun w hw=>hw.drop) om
  exact absurd dq c16_0
 refine oW ?_;refine gH ?_
 exact aw (.inr rfl) (ad rfl (RVal.cellA rfl (.here _) rfl)) (by rw [tY k0 c11 hE];rfl)
end Go.Sx
namespace Go.Sx
open Go Go.Proofs
theorem fj {H:Hp}{pg:SProg}(hP:ProgOk H pg)(hM:MaxG H):
  Fn Tryz.prog 13 [.agg pg.cells.toArray] H (fun v H1=>v= .agg (bU pg).cells.toArray):=by
 refine Fn.enter Tryz.func13 Tryz.ntmps13 rfl rfl (fun w0=>?_)
 refine zm2 ?_
 refine TL.box rfl rfl (fun b1=>?_)
 refine TL.alloc rfl (fun b2=>?_)
 refine fz ?_;refine dQ (.h1) (cT sq (fun H_b1 le_b1 rd_b1=>?_))
 replace hP:=hP.le le_b1
 replace hM:=hM.le le_b1
 have hb:PgAt H_b1 b1 pg:=rd_b1
 refine jr ?_;refine dS ?_
 refine ax rfl rfl rfl rfl (fun b11=>?_)
 refine cT sq (fun H_b11 le_b11 rd_b11=>?_)
 replace hP:=hP.le le_b11
 replace hM:=hM.le le_b11
 replace hb:=hb.le le_b11
 have hL11:RdSl H_b11 1 Fc.cells _ ([38,39]):=RdSl.blk (cap:=2) rd_b11 (by intro x hx;rfl) kr (by show 2≤9223372036854775807;decide)
 refine TL.call (ab rfl rfl rfl rfl) (wz) rfl (fun v12 H12 hle12 hp12=>?_)
 obtain⟨bx12,rfl,hC12⟩:=hp12
 replace hP:=hP.le hle12
 replace hM:=hM.le hle12
 replace hb:=hb.le hle12
 replace hL11:=hL11.le hle12
 refine zm4 ?_
 refine ax rfl rfl rfl rfl (fun b15=>?_)
 refine cT sq (fun H_b15 le_b15 rd_b15=>?_)
 replace hP:=hP.le le_b15
 replace hM:=hM.le le_b15
 replace hb:=hb.le le_b15
 replace hL11:=hL11.le le_b15
 replace hC12:=hC12.le le_b15
 have hL15:RdSl H_b15 1 Fc.cells _ ([42]):=RdSl.blk (cap:=1) rd_b15 (by intro x hx;rfl) kr (by show 1≤9223372036854775807;decide)
 refine TL.call (ab rfl rfl rfl rfl) (wz) rfl (fun v16 H16 hle16 hp16=>?_)
 obtain⟨bx16,rfl,hC16⟩:=hp16
 replace hP:=hP.le hle16
 replace hM:=hM.le hle16
 replace hb:=hb.le hle16
 replace hL11:=hL11.le hle16
 replace hC12:=hC12.le hle16
 replace hL15:=hL15.le hle16
 refine ax rfl rfl rfl rfl (fun b17=>?_)
 refine rL ?_;refine TL.run (dp rfl rfl) rfl (zm7 ?_);refine TC.rounds 5 (eO (zm5 ?_));refine cD rfl (cQ ?_);refine ec ?_;refine jb ?_;refine ju ?_
 refine aq (ab rfl rfl rfl rfl) (chk2_ok hP hM hb) rfl (TL.alloc rfl (fun b7=>?_))
 refine lG ?_
 refine aW rfl ?_ ?_<;>intro c28_0
 ·
  refine eS ?_;refine r3 ?_;refine gi ?_
  exact aN (.inr rfl) (ad rfl (RVal.cellA rfl (.h2) rfl)) (by rw [chk_0 c28_0];rfl)
 refine mV ?_;refine cD rfl (cQ ?_);refine ec ?_;refine TL.run (ay rfl (.h1) rfl) rfl (ju ?_)
 refine aq (ab rfl rfl rfl rfl) (zr hP hM hb hC12 hL11) rfl (TL.alloc rfl (fun b7x=>?_))
 refine lG ?_
 refine aW rfl ?_ ?_<;>intro c28_1
 ·
  refine eS ?_;refine yd ?_;refine TL.nil (ae (TC.ret (gi ?_)))
  exact aN (.inr rfl) (ad rfl (RVal.cellA rfl (.h3) rfl)) (by rw [chk_1 c28_0 c28_1];rfl)
 refine mV ?_;refine cD rfl (cQ ?_);refine ec ?_;refine jT ?_;refine ju ?_;refine aq (ab rfl rfl rfl rfl) (chk3_ok hP hb) rfl (TL.alloc rfl (fun b7xx=>?_))
 refine lG ?_
 refine aW rfl ?_ ?_<;>intro c28_2
 ·
  refine eS ?_;refine cf rfl rfl rfl rfl rfl (.h4) rfl rfl (TL.nil (ae (TC.ret ?_)));refine gi ?_
  exact aN (.inr rfl) (ad rfl (RVal.cellA rfl (.h4) rfl)) (by rw [chk_2 c28_0 c28_1 c28_2];rfl)
 refine mV ?_;refine cD rfl (cQ ?_);refine ec ?_;refine oI ?_;refine ju ?_;refine aq (ab rfl rfl rfl rfl) (zt hP hM hb hC16 hL15 (qj _ _ c28_1)) rfl (TL.alloc rfl (fun b7xxx=>?_))
 refine lG ?_
 refine aW rfl ?_ ?_<;>intro c28_3
 ·
  refine eS ?_;refine j4 ?_;refine gi ?_
  exact aN (.inr rfl) (ad rfl (RVal.cellA rfl (.h5) rfl)) (by rw [chk_3 c28_0 c28_1 c28_2];rfl)
 refine mV ?_;refine dR rfl (oW ?_);refine j4 ?_
 exact aN (.inr rfl) (ad rfl (RVal.cellA rfl (.h5) rfl)) (by rw [zy c28_3 c28_0 c28_1 c28_2];rfl)
end Go.Sx
