import Derived.Test.YtjnlogbbcceaoaaGreatR15
set_option linter.all false
set_option maxRecDepth 100000
set_option maxHeartbeats 32000000
namespace Go.Sx
open Go Go.Proofs
theorem step_ok {H:Hp}{pg:SProg}{vb:Value}{q:SProc}{bound:List Str}(s:SStep)(hP:ProgOk H pg)(hQ:ProcOk H q)(hs:StepOk H s)(hB:RdSl H 1 Str.cells vb bound)(hl:s.args.length≤6∧s.casts.length≤4∧∀c∈s.casts,c.args.length≤6)(hw7:s.ways.length≤1000):
  FnS Tryz.prog 86 [.agg pg.cells.toArray,.agg q.cells.toArray,.agg s.cells.toArray,vb] H (.int .i64 (d5 pg q.terms s bound)):=by
 have oneB:=hB.isOne
 have hTl:=B3 hl
 refine FnS.enter Tryz.func86 Tryz.ntmps86 rfl rfl (fun w0=>?_)
 refine zm2 ?_
 refine TL.box rfl rfl (fun b4=>?_)
 refine TL.box rfl rfl (fun b5=>?_)
 refine TL.box rfl rfl (fun b6=>?_)
 refine zm1 ?_;refine zm7 ?_;refine gu ?_
 refine da (ab rfl rfl rfl rfl) (yC s hs hl) rfl (fun v19 H19 ob19 hle19 hp19=>?_)
 obtain⟨eH19,hO19⟩:=hp19
 subst H19
 obtain⟨a19,c19,rfl⟩:=hO19.form
 refine TL.pubO hO19 (.s2 (.skip _ .all)) sq (fun HP19 leP19 hR19=>?_)
 replace hP:=hP.le leP19
 replace hQ:=hQ.le leP19
 replace hs:=hs.le leP19
 replace hB:=hB.le leP19
 refine TL.run (ah rfl rfl hR19) rfl (zm8 ?_)
 refine aW (V:=fun k v ob H1=>[(9,v),(21,.int .i64 k)]) (K:=[(3,_),(4,_),(5,_),(6,_),(8,_),(19,_),(20,_)]) (L:=fun k v ob H1=>St [] w0 H H1 ((b6,_)::(b5,_)::(b4,_)::ob)) (I:=fun k v ob H1=>(0≤k∧k≤(a8 s).length)∧HP19.le H1∧OwnSl 1 Str.cells v (((a8 s).take k.toNat).flatMap (j7 q.terms)) ob) (μ:=fun k=>((a8 s).length - k).toNat) 0 (.slice none 0 0) [] HP19 ky ⟨o2q,Hp.le.refl _,OwnSl.nil⟩ (fun w hw=>hw) (fun k v ob H1 hI=>?_)
 obtain⟨⟨k0,k1⟩,hle,hO⟩:=hI
 obtain⟨va,vc,rfl⟩:=hO.form
 have hfl:=Bh (ts:=q.terms) ((a8 s).take k.toNat)
 rw [List.length_take] at hfl
 replace hP:=hP.le hle
 replace hQ:=hQ.le hle
 replace hs:=hs.le hle
 replace hB:=hB.le hle
 replace hR19:=hR19.le hle
 refine zm7 ?_
 refine ag rfl ?_ ?_<;>intro c22
 ·
  obtain⟨x,hx⟩:=ao (l:=a8 s) k0 c22
  refine dz ?_;refine TL.run (ae rfl hR19 rfl om om) rfl (TL.run (aQ hR19 hx rfl rfl) rfl (zm1 ?_));refine iX ?_;refine iN ?_;refine zm0 ?_
  refine TL.call (ab rfl rfl rfl rfl) (Vars_ok x hQ.t hQ.tn) rfl (fun v29 H29 hle29 hp29=>?_)
  replace hle:=hle.trans hle29
  have hV29:RdSl H29 1 Str.cells v29 (j7 q.terms x):=hp29
  have hvl29:=uM q.terms x
  obtain⟨la29,lc29,rfl⟩:=hV29.len
  refine TL.append (enc:=Str.cells) rfl rfl rfl hO (Src.sl hV29) (by first | omega | (simp only [List.length_append];omega)) rfl (.s2 (.skip _ .all)) rfl (fun a30 c30 ob30 hO30=>?_)
  refine mq ?_
  exact aH (k+1) _ ob30 H29 ⟨o2q,hle,hO30.cast (by rw [bT k0 hx,List.flatMap_append];simp)⟩ ky (fun w hw=>hw) om
 refine gh ?_
 refine bO (decide (s.kind=4)||(decide (s.kind=5)||decide (s.kind=9))) 44 [(3,_),(4,_),(6,_),(8,_),(9,_)] ky ?_ ?_
 ·
  refine ql ?_;refine zm3 ?_
  refine ai (s:=35) rfl ?_ ?_<;>intro g35
  ·
   have q35:=of_decide_eq_true g35
   refine jr ?_;refine ny ?_
   exact aV rfl (by simp_all) ky
  have q35:=of_decide_eq_false g35
  refine qZ ?_
  refine ai (s:=40) rfl ?_ ?_<;>intro g40
  ·
   have q40:=of_decide_eq_true g40
   refine ny ?_
   exact aV rfl (by simp_all) ky
  have q40:=of_decide_eq_false g40
  refine zm9 ?_;refine gH ?_
  exact aV rfl (by simp_all) ky
 refine TC.cond rfl ?_ ?_<;>intro c44
 ·
  have h44:s.kind=4∨s.kind=5∨s.kind=9:=by simp_all
  refine pN ?_
  refine aD rfl rfl rfl rfl (fun b48=>?_)
  refine TL.append (enc:=Str.cells) rfl rfl rfl hO (Src.own [s.name] (.here _) rfl rfl) (by simp only [List.length_append,List.length_cons,List.length_nil];omega) rfl (.s3 (.skip _ .all)) rfl (fun a49 c49 ob49 hO49=>?_)
  refine xS ?_
  refine TL.pubO hO49 (.s3 (.skip _ .all)) sq (fun HA leA hA=>?_)
  replace hP:=hP.le leA
  replace hs:=hs.le leA
  replace hB:=hB.le leA
  have hA2:=hA.cast (show _=dr q.terms s by unfold dr;rw [if_pos (by first | exact h44 | omega),bC c22 k0])
  clear hA
  have hAm:=hA2.max
  refine TL.run (ah rfl rfl hA2) rfl (zm8 ?_)
  refine TC.loop (V:=fun k=>[(52,.int .i64 k)]) (K:=[(3,_),(4,_),(6,_),(8,_),(50,_),(51,_)]) (L:=fun k=>_) (I:=fun k=>(0≤k∧k≤(dr q.terms s).length)∧(dr q.terms s).all (fun n=>cj bound n)=((dr q.terms s).drop k.toNat).all (fun n=>cj bound n)) (μ:=fun k=>((dr q.terms s).length - k).toNat) (i:=(0:Int)) ky ⟨o2q,rfl⟩ (fun w hw=>hw) (fun k hI=>?_)
  obtain⟨⟨k0,k1⟩,hal⟩:=hI
  refine zm7 ?_
  refine ag rfl ?_ ?_<;>intro c53
  ·
   obtain⟨xA,hxA⟩:=ao (l:=dr q.terms s) k0 c53
   refine dz ?_;refine TL.run (ae rfl hA2 rfl om om) rfl (TL.run (aQ hA2 hxA rfl rfl) rfl (zm1 ?_));refine eh ?_;refine ay (ab rfl rfl rfl rfl) (je xA hB) rfl (zm1 ?_)
   refine TC.cond rfl ?_ ?_<;>intro c59
   ·
    have h1:=du (p:=(fun n=>cj bound n)) k0 hxA (by simpa using c59) hal
    exact qk
   refine l6 ?_
   exact aS (k+1) ⟨o2q,cg (p:=(fun n=>cj bound n)) k0 hxA (by simpa using c59) hal⟩ ky (fun w hw=>hw) om
  have h1:=cU (p:=(fun n=>cj bound n)) k0 c53 hal
  refine gh ?_;refine mp ?_
  refine da (ab rfl rfl rfl rfl) (sU s hs hw7) rfl (fun v62 H62 ob62 hle62 hp62=>?_)
  obtain⟨eH62,hO62⟩:=hp62
  subst H62
  obtain⟨a62,c62,rfl⟩:=hO62.form
  refine TL.pubO hO62 (.s3 (.skip _ .all)) sq (fun HP62 leP62 hR62=>?_)
  replace hP:=hP.le leP62
  replace hs:=hs.le leP62
  replace hB:=hB.le leP62
  have hBm:=RdSl.max hR62
  have hCm:=hs.c.max
  refine TL.run (ah rfl rfl hR62) rfl (zm8 ?_)
  refine TC.loop (V:=fun k=>[(64,.int .i64 k)]) (K:=[(3,_),(4,_),(6,_),(8,_),(62,_),(63,_)]) (L:=fun k=>_) (I:=fun k=>(0≤k∧k≤(bz s).length)∧(bz s).all (fun n=>!(!decide (n=[])&&cj bound n))=((bz s).drop k.toNat).all (fun n=>!(!decide (n=[])&&cj bound n))) (μ:=fun k=>((bz s).length - k).toNat) (i:=(0:Int)) ky ⟨o2q,rfl⟩ (fun w hw=>hw) (fun k hI=>?_)
  obtain⟨⟨k0,k1⟩,hal⟩:=hI
  refine zm7 ?_
  refine ag rfl ?_ ?_<;>intro c65
  · exact C9
  have h2:=cU (p:=(fun n=>!(!decide (n=[])&&cj bound n))) k0 c65 hal
  refine gh ?_
  refine bO (!decide (s.proc=[])&& !ct pg.procs s.proc s.args.length) 88 [(4,_),(6,_),(8,_)] ky ?_ ?_
  ·
   refine qF ?_;refine ma ?_
   refine ai (s:=79) rfl ?_ ?_<;>intro g79
   ·
    have q79:=aU g79
    refine aC rfl rfl (a7 rfl (.h3) rfl) rfl (fM ?_);refine fM ?_
    refine aC rfl rfl (ah rfl rfl hs.a) rfl (aO rfl rfl (ab rfl rfl rfl rfl) (nr s.proc s.args.length hP) rfl (gH ?_))
    exact aV rfl (by simp_all) ky
   have q79:=aP g79
   refine eg ?_;refine nD ?_
   exact aV rfl (by simp_all) ky
  refine TC.cond rfl ?_ ?_<;>intro c88
  ·
   refine iV ?_
   exact qj
  refine jo ?_;refine gX ?_;refine TL.run (ah rfl rfl hs.c) rfl (zm8 ?_)
  refine TC.loop (V:=fun k=>[(92,.int .i64 k)]) (K:=[(4,_),(6,_),(8,_),(90,_),(91,_)]) (L:=fun k=>_) (I:=fun k=>(0≤k∧k≤s.casts.length)∧s.casts.all (fun c=>ct pg.procs c.proc (c.args.length+1))=(s.casts.drop k.toNat).all (fun c=>ct pg.procs c.proc (c.args.length+1))) (μ:=fun k=>(s.casts.length - k).toNat) (i:=(0:Int)) ky ⟨o2q,rfl⟩ (fun w hw=>hw) (fun k hI=>?_)
  obtain⟨⟨k0,k1⟩,hal⟩:=hI
  refine zm7 ?_
  refine ag rfl ?_ ?_<;>intro c93
  ·
   obtain⟨xC,hxC⟩:=ao (l:=s.casts) k0 c93
   have hxl:=hl.2.2 xC (List.mem_of_getElem? hxC)
   refine dz ?_;refine TL.run (ae rfl hs.c rfl om om) rfl (TL.run (bg hs.c hxC rfl rfl) rfl (TL.alloc rfl (fun b17=>?_)))
   refine xf ?_;refine TL.run (a7 rfl (.h4) rfl) rfl (fV ?_);refine fV ?_;refine TL.run (ah rfl rfl (hs.cs xC (List.mem_of_getElem? hxC))) rfl (jX ?_)
   refine ay (ab rfl rfl rfl rfl) (nr xC.proc (xC.args.length+1) hP) rfl (zm1 ?_)
   refine TC.cond rfl ?_ ?_<;>intro c104
   ·
    have h4:=du (p:=(fun c=>ct pg.procs c.proc (c.args.length+1))) k0 hxC (by simpa using c104) hal
    exact qk
   refine l6 ?_
   exact aS (k+1) ⟨o2q,cg (p:=(fun c=>ct pg.procs c.proc (c.args.length+1))) k0 hxC (by simpa using c104) hal⟩ ky (fun w hw=>hw.drop) om
  have h4:=cU (p:=(fun c=>ct pg.procs c.proc (c.args.length+1))) k0 c93 hal
  refine gh ?_
  refine bO (decide (s.kind=8)&& !dk pg s) 114 [(8,_)] ⟨rfl,trivial⟩ ?_ ?_
  ·
   refine qF ?_;refine zm3 ?_
   refine ai (s:=109) rfl ?_ ?_<;>intro g109
   ·
    have q109:=of_decide_eq_true g109
    refine aC rfl rfl (a7 rfl (.h3) rfl) rfl (aC rfl rfl (a7 rfl (.h1) rfl) rfl (aO rfl rfl (ab rfl rfl rfl rfl) (y4 s hP hs hl.2.1) rfl (gH ?_)))
    exact aV rfl (by simp_all) ⟨rfl,trivial⟩
   have q109:=of_decide_eq_false g109
   refine nD ?_
   exact aV rfl (by simp_all) ⟨rfl,trivial⟩
  refine TC.cond rfl ?_ ?_<;>intro c114
  ·
   refine iV ?_
   exact qj
  refine cV ?_;refine iV ?_
  exact zJ
 have h44:¬(s.kind=4∨s.kind=5∨s.kind=9):=by simp_all
 refine jo ?_;refine dM ?_
 refine TL.pubO hO (.s2 (.skip _ .all)) sq (fun HA leA hA=>?_)
 replace hP:=hP.le leA
 replace hs:=hs.le leA
 replace hB:=hB.le leA
 have hA2:=hA.cast (show _=dr q.terms s by unfold dr;rw [if_neg (by first | exact h44 | omega),bC c22 k0,List.append_nil])
 clear hA
 have hAm:=hA2.max
 refine TL.run (ah rfl rfl hA2) rfl (zm8 ?_)
 refine TC.loop (V:=fun k=>[(52,.int .i64 k)]) (K:=[(3,_),(4,_),(6,_),(8,_),(50,_),(51,_)]) (L:=fun k=>_) (I:=fun k=>(0≤k∧k≤(dr q.terms s).length)∧(dr q.terms s).all (fun n=>cj bound n)=((dr q.terms s).drop k.toNat).all (fun n=>cj bound n)) (μ:=fun k=>((dr q.terms s).length - k).toNat) (i:=(0:Int)) ky ⟨o2q,rfl⟩ (fun w hw=>hw) (fun k hI=>?_)
 obtain⟨⟨k0,k1⟩,hal⟩:=hI
 refine zm7 ?_
 refine ag rfl ?_ ?_<;>intro c53
 ·
  obtain⟨xA,hxA⟩:=ao (l:=dr q.terms s) k0 c53
  refine dz ?_;refine TL.run (ae rfl hA2 rfl om om) rfl (TL.run (aQ hA2 hxA rfl rfl) rfl (zm1 ?_));refine eh ?_;refine ay (ab rfl rfl rfl rfl) (je xA hB) rfl (zm1 ?_)
  refine TC.cond rfl ?_ ?_<;>intro c59
  ·
   have h1:=du (p:=(fun n=>cj bound n)) k0 hxA (by simpa using c59) hal
   exact qk
  refine l6 ?_
  exact aS (k+1) ⟨o2q,cg (p:=(fun n=>cj bound n)) k0 hxA (by simpa using c59) hal⟩ ky (fun w hw=>hw) om
 have h1:=cU (p:=(fun n=>cj bound n)) k0 c53 hal
 refine gh ?_;refine gu ?_
 refine da (ab rfl rfl rfl rfl) (sU s hs hw7) rfl (fun v62 H62 ob62 hle62 hp62=>?_)
 obtain⟨eH62,hO62⟩:=hp62
 subst H62
 obtain⟨a62,c62,rfl⟩:=hO62.form
 refine TL.pubO hO62 (.s2 (.skip _ .all)) sq (fun HP62 leP62 hR62=>?_)
 replace hP:=hP.le leP62
 replace hs:=hs.le leP62
 replace hB:=hB.le leP62
 have hBm:=RdSl.max hR62
 have hCm:=hs.c.max
 refine TL.run (ah rfl rfl hR62) rfl (zm8 ?_)
 refine TC.loop (V:=fun k=>[(64,.int .i64 k)]) (K:=[(3,_),(4,_),(6,_),(8,_),(62,_),(63,_)]) (L:=fun k=>_) (I:=fun k=>(0≤k∧k≤(bz s).length)∧(bz s).all (fun n=>!(!decide (n=[])&&cj bound n))=((bz s).drop k.toNat).all (fun n=>!(!decide (n=[])&&cj bound n))) (μ:=fun k=>((bz s).length - k).toNat) (i:=(0:Int)) ky ⟨o2q,rfl⟩ (fun w hw=>hw) (fun k hI=>?_)
 obtain⟨⟨k0,k1⟩,hal⟩:=hI
 refine zm7 ?_
 refine ag rfl ?_ ?_<;>intro c65
 · exact C9
 have h2:=cU (p:=(fun n=>!(!decide (n=[])&&cj bound n))) k0 c65 hal
 refine gh ?_
 refine bO (!decide (s.proc=[])&& !ct pg.procs s.proc s.args.length) 88 [(4,_),(6,_),(8,_)] ky ?_ ?_
 ·
  refine xV ?_
  refine ai (s:=79) rfl ?_ ?_<;>intro g79
  ·
   have q79:=aU g79
   refine aC rfl rfl (a7 rfl (.h2) rfl) rfl (zm9 ?_);refine zm9 ?_
   refine aC rfl rfl (ah rfl rfl hs.a) rfl (aO rfl rfl (ab rfl rfl rfl rfl) (nr s.proc s.args.length hP) rfl (gH ?_))
   exact aV rfl (by simp_all) ky
  have q79:=aP g79
  refine eg ?_;refine nD ?_
  exact aV rfl (by simp_all) ky
 refine TC.cond rfl ?_ ?_<;>intro c88
 ·
  refine iV ?_
  exact qj
 refine jo ?_;refine fL ?_;refine TL.run (ah rfl rfl hs.c) rfl (zm8 ?_)
 refine TC.loop (V:=fun k=>[(92,.int .i64 k)]) (K:=[(4,_),(6,_),(8,_),(90,_),(91,_)]) (L:=fun k=>_) (I:=fun k=>(0≤k∧k≤s.casts.length)∧s.casts.all (fun c=>ct pg.procs c.proc (c.args.length+1))=(s.casts.drop k.toNat).all (fun c=>ct pg.procs c.proc (c.args.length+1))) (μ:=fun k=>(s.casts.length - k).toNat) (i:=(0:Int)) ky ⟨o2q,rfl⟩ (fun w hw=>hw) (fun k hI=>?_)
 obtain⟨⟨k0,k1⟩,hal⟩:=hI
 refine zm7 ?_
 refine ag rfl ?_ ?_<;>intro c93
 ·
  obtain⟨xC,hxC⟩:=ao (l:=s.casts) k0 c93
  have hxl:=hl.2.2 xC (List.mem_of_getElem? hxC)
  refine dz ?_;refine TL.run (ae rfl hs.c rfl om om) rfl (TL.run (bg hs.c hxC rfl rfl) rfl (TL.alloc rfl (fun b17=>?_)))
  refine xf ?_;refine TL.run (a7 rfl (.h3) rfl) rfl (fV ?_);refine fV ?_;refine TL.run (ah rfl rfl (hs.cs xC (List.mem_of_getElem? hxC))) rfl (jX ?_)
  refine ay (ab rfl rfl rfl rfl) (nr xC.proc (xC.args.length+1) hP) rfl (zm1 ?_)
  refine TC.cond rfl ?_ ?_<;>intro c104
  ·
   have h4:=du (p:=(fun c=>ct pg.procs c.proc (c.args.length+1))) k0 hxC (by simpa using c104) hal
   exact qk
  refine l6 ?_
  exact aS (k+1) ⟨o2q,cg (p:=(fun c=>ct pg.procs c.proc (c.args.length+1))) k0 hxC (by simpa using c104) hal⟩ ky (fun w hw=>hw.drop) om
 have h4:=cU (p:=(fun c=>ct pg.procs c.proc (c.args.length+1))) k0 c93 hal
 refine gh ?_
 refine bO (decide (s.kind=8)&& !dk pg s) 114 [(8,_)] ⟨rfl,trivial⟩ ?_ ?_
 ·
  refine ql ?_;refine zm3 ?_
  refine ai (s:=109) rfl ?_ ?_<;>intro g109
  ·
   have q109:=of_decide_eq_true g109
   refine aC rfl rfl (a7 rfl (.h2) rfl) rfl (aC rfl rfl (a7 rfl (.here _) rfl) rfl (aO rfl rfl (ab rfl rfl rfl rfl) (y4 s hP hs hl.2.1) rfl (gH ?_)))
   exact aV rfl (by simp_all) ⟨rfl,trivial⟩
  have q109:=of_decide_eq_false g109
  refine nD ?_
  exact aV rfl (by simp_all) ⟨rfl,trivial⟩
 refine TC.cond rfl ?_ ?_<;>intro c114
 ·
  refine iV ?_
  exact qj
 refine cV ?_;refine iV ?_
 exact zJ
end Go.Sx
namespace Go.Sx
open Go Go.Proofs
theorem head_ok {H:Hp}{pg:SProg}{q:SProc}(i:Int)(hP:ProgOk H pg)(hM:MaxG H)(h0:0≤i)(hq:pg.procs[i.toNat]? =some q):
  FnS Tryz.prog 38 [.agg pg.cells.toArray,.int .i64 i] H (.agg (eX pg.procs i q).cells.toArray):=by
 have hPq:=hP.q
 have hmax:=hPq.max
 have hlt:=iS hq
 have hQ:=hP.qs q (List.mem_of_getElem? hq)
 have hpa:=hQ.pa
 have ht:=hQ.t
 have hst:=hQ.s
 have hpm:=hpa.max
 have htm:=ht.max
 have hsm:=hst.max
 refine FnS.enter Tryz.func38 Tryz.ntmps38 rfl rfl (fun w0=>?_)
 refine zm2 ?_
 refine TL.box rfl rfl (fun b2=>?_)
 refine TL.alloc rfl (fun b4=>?_)
 refine TL.nil (af (gX ?_));refine zm0 ?_;refine TL.run (ae rfl hPq rfl om om) rfl (TL.run (bg hPq hq rfl rfl) rfl (TL.alloc rfl (fun b5=>?_)))
 refine fb ?_
 refine bO (bP q) 6 [(1,_),(2,_),(4,_),(5,_)] ky ?_ ?_
 ·
  refine ql ?_;refine ay (ab rfl rfl rfl rfl) (bL q.name) rfl (zm0 ?_)
  refine ai (s:=18) rfl ?_ ?_<;>intro g18
  ·
   refine zm9 ?_;refine aC rfl rfl (ah rfl rfl hpa) rfl (db ?_)
   refine ai (s:=24) rfl ?_ ?_<;>intro g24
   ·
    have q24:=of_decide_eq_true g24
    refine zm9 ?_;refine aC rfl rfl (ah rfl rfl hst) rfl (db ?_)
    refine ai (s:=30) rfl ?_ ?_<;>intro g30
    ·
     have q30:=of_decide_eq_true g30
     refine zm9 ?_;refine aC rfl rfl (ah rfl rfl hst) rfl (db ?_)
     refine ai (s:=36) rfl ?_ ?_<;>intro g36
     ·
      have q36:=of_decide_eq_true g36
      refine zm9 ?_;refine aC rfl rfl (ah rfl rfl ht) rfl (db ?_);exact TL.nil (aV rfl (by unfold bP;first | (simp_all;done) | (simp [*];done) | (simp_all;omega)) ky)
     have q36:=of_decide_eq_false g36
     refine eg ?_;refine nB ?_
     exact aV rfl (by unfold bP;first | (simp_all;done) | (simp [*];done) | (simp_all;omega)) ky
    have q30:=of_decide_eq_false g30
    refine oK ?_;refine nB ?_
    exact aV rfl (by unfold bP;first | (simp_all;done) | (simp [*];done) | (simp_all;omega)) ky
   have q24:=of_decide_eq_false g24
   refine w6 ?_;refine nB ?_
   exact aV rfl (by unfold bP;first | (simp_all;done) | (simp [*];done) | (simp_all;omega)) ky
  refine xU ?_;refine nB ?_
  exact aV rfl (by unfold bP;first | (simp_all;done) | (simp [*];done) | (simp_all;omega)) ky
 refine xW ?_;refine TL.run (ah rfl rfl hpa) rfl (zm8 ?_)
 refine aW (V:=fun(p:Int×Bool) v ob H1=>[(6,.bool p.2),(7,v),(45,.int .i64 p.1)]) (K:=[(1,_),(2,_),(4,_),(5,_),(43,_),(44,_)]) (L:=fun(p:Int×Bool) v ob H1=>St [] w0 H H ((b5,_)::(b4,_)::(b2,_)::ob)) (I:=fun(p:Int×Bool) v ob H1=>(0≤p.1∧p.1≤q.params.length)∧OwnSl 1 Str.cells v ((q.params.take p.1.toNat).map (·.name)) ob∧p.2=(bP q&&(q.params.take p.1.toNat).all dJ)) (μ:=fun(p:Int×Bool)=>(q.params.length - p.1).toNat) ((0:Int),bP q) (.slice none 0 0) [] H ky ⟨o2q,OwnSl.nil,by simp⟩ (fun w hw=>hw) (fun p v ob H1 hI=>?_)
 obtain⟨⟨k0,k1⟩,hO,hg⟩:=hI
 obtain⟨va,vc,rfl⟩:=hO.form
 have hpl:=hQ.pl
 refine zm7 ?_
 refine ag rfl ?_ ?_<;>intro c46
 ·
  obtain⟨x,hx⟩:=ao (l:=q.params) k0 c46
  refine dz ?_;refine TL.run (ae rfl hpa rfl om om) rfl (TL.run (bg hpa hx rfl rfl) rfl (TL.alloc rfl (fun b9=>?_)))
  refine fb ?_
  refine bO (p.2&&dJ x) 6 [(1,_),(2,_),(4,_),(5,_),(7,_),(9,_),(43,_),(44,_),(45,_),(46,_),(47,_),(48,_)] ky ?_ ?_
  ·
   refine jZ ?_
   refine ai (s:=50) rfl ?_ ?_<;>intro g50
   ·
    refine zm9 ?_;refine aO rfl rfl (ab rfl rfl rfl rfl) (bL x.name) rfl (zm3 ?_)
    refine ai (s:=55) rfl ?_ ?_<;>intro g55
    ·
     refine it ?_;refine aC rfl rfl (jD rfl (.here _) rfl) rfl (aO rfl rfl (ab rfl rfl rfl rfl) (yL x.ck x.cn (hQ.pz x (List.mem_of_getElem? hx)) hM) rfl (nB ?_))
     exact aV rfl (by unfold dJ;simp_all) ky
    refine jr ?_;exact TL.nil (aV rfl (by unfold dJ;simp_all) ky)
   refine jr ?_;refine jr ?_;exact TL.nil (aV rfl (by unfold dJ;simp_all) ky)
  refine pN ?_
  refine aD rfl rfl rfl rfl (fun b63=>?_)
  refine TL.append (enc:=Str.cells) rfl rfl rfl hO (Src.own [x.name] (.here _) rfl rfl) (by simp;omega) rfl (.s4 (.skip _ .all)) rfl (fun a64 c64 ob64 hO64=>?_)
  refine mq ?_
  exact aH (p.1+1,_) _ ob64 H ⟨o2q,hO64.cast (by rw [bQ k0 hx]),E2 k0 hx hg rfl⟩ ky (fun w hw=>hw.drop.drop) om
 have hg2:=hg
 rw [bC c46 k0] at hg2
 refine gh ?_;refine TC.block (eh ?_);refine zm1 ?_
 refine TC.cond rfl ?_ ?_<;>intro c66
 ·
  refine dM ?_;refine ay (ab rfl rfl rfl rfl) (dV 1500 i (-1)) rfl (mb ?_)
  exact bv (aI (ax (.inr rfl) (ad rfl (RVal.cellA rfl (.h1) rfl)) (by first | (rw [As (by rw [← hg2];simpa using c66)];rfl) | (rw [Ar (by rw [← hg2];simpa using c66) c71];rfl) | (rw [sH (by rw [← hg2];simpa using c66) c71];rfl))))
 refine TC.pubO hO (.s2 (.skip _ .all)) sq (fun HJ leJ hJ=>?_)
 replace hP:=hP.le leJ
 have hJ2:=hJ.cast (show _=q.params.map (·.name) by rw [bC c46 k0])
 refine bO (decide (dm pg.procs q.name<i)|| !de (q.params.map (·.name))) 71 [(1,_),(4,_)] ⟨rfl,rfl,trivial⟩ ?_ ?_
 ·
  refine TC.region (TL.run (a7 rfl (.h2) rfl) rfl (fV ?_));refine ay (ab rfl rfl rfl rfl) (kf q.name hP) rfl (xm ?_)
  refine ai (s:=78) rfl ?_ ?_<;>intro g78
  ·
   have q78:=of_decide_eq_true g78
   refine jr ?_;exact TL.nil (aV rfl (by first | (simp_all;done) | (simp_all;omega)) ⟨rfl,rfl,trivial⟩)
  have q78:=of_decide_eq_false g78
  refine cK ?_;refine aO rfl rfl (ab rfl rfl rfl rfl) (kU hJ2) rfl (db ?_);exact TL.nil (aV rfl (by first | (simp_all;done) | (simp_all;omega)) ⟨rfl,rfl,trivial⟩)
 refine TC.cond rfl ?_ ?_<;>intro c71
 ·
  refine dM ?_;refine ay (ab rfl rfl rfl rfl) (dV 1501 i (-1)) rfl (mb ?_)
  exact bv (aI (ax (.inr rfl) (ad rfl (RVal.cellA rfl (.h1) rfl)) (by first | (rw [As (by rw [← hg2];simpa using c66)];rfl) | (rw [Ar (by rw [← hg2];simpa using c66) c71];rfl) | (rw [sH (by rw [← hg2];simpa using c66) c71];rfl))))
 refine TC.skip (bu (af (lh ?_)));refine mb ?_
 exact ax (.inr rfl) (ad rfl (RVal.cellA rfl (.h1) rfl)) (by first | (rw [As (by rw [← hg2];simpa using c66)];rfl) | (rw [Ar (by rw [← hg2];simpa using c66) c71];rfl) | (rw [sH (by rw [← hg2];simpa using c66) c71];rfl))
theorem all_ok {H:Hp}{pg:SProg}(hP:ProgOk H pg)(hM:MaxG H):
  FnS Tryz.prog 37 [.agg pg.cells.toArray] H (.agg (iv pg).cells.toArray):=by
 have hr:=hP.r
 have hl:=hP.l
 have hq:=hP.q
 have hrm:=hr.max
 have hlm:=hl.max
 have hqm:=hq.max
 refine FnS.enter Tryz.func37 Tryz.ntmps37 rfl rfl (fun w0=>?_)
 refine zm2 ?_
 refine TL.box rfl rfl (fun b1=>?_)
 refine TL.alloc rfl (fun b2=>?_)
 refine TL.nil (af (TC.seq (bO (decide (6<(pg.protos.length:Int))||(decide (12<(pg.locals.length:Int))||decide (24<(pg.procs.length:Int)))) 22 [(1,_),(2,_)] ⟨rfl,rfl,trivial⟩ ?_ ?_)))
 ·
  refine qF ?_;refine TL.run (ah rfl rfl hr) rfl (zm3 ?_)
  refine ai (s:=11) rfl ?_ ?_<;>intro g11
  ·
   have q11:=of_decide_eq_true g11
   refine oK ?_;refine dN ?_
   exact aV rfl (by first | (simp [*];done) | (simp_all;done) | (simp_all;omega)) ⟨rfl,rfl,trivial⟩
  have q11:=of_decide_eq_false g11
  refine fM ?_;refine aC rfl rfl (ah rfl rfl hl) rfl (db ?_)
  refine ai (s:=17) rfl ?_ ?_<;>intro g17
  ·
   have q17:=of_decide_eq_true g17
   refine nD ?_
   exact aV rfl (by first | (simp [*];done) | (simp_all;done) | (simp_all;omega)) ⟨rfl,rfl,trivial⟩
  have q17:=of_decide_eq_false g17
  refine fM ?_;refine aC rfl rfl (ah rfl rfl hq) rfl (gH ?_)
  exact aV rfl (by first | (simp [*];done) | (simp_all;done) | (simp_all;omega)) ⟨rfl,rfl,trivial⟩
 refine TC.cond rfl ?_ ?_<;>intro c22
 ·
  refine zm2 ?_;refine ay (ab rfl rfl rfl rfl) (dV 1500 (-1) (-1)) rfl (jq ?_)
  exact aI (ax (.inr rfl) (ad rfl (RVal.cellA rfl (.here _) rfl)) (by first | (rw [BR c22];rfl) | (rw [BQ c22 hr1];rfl) | (rw [BP c22 hr1 hl1];rfl) | (rw [zB c22 hr1 hl1];rfl)))
 refine jo ?_;refine gX ?_;refine TL.run (ah rfl rfl hr) rfl (zm8 ?_)
 refine TC.loop (V:=fun k=>[(27,.int .i64 k)]) (K:=[(1,_),(2,_),(25,_),(26,_)]) (L:=fun k=>_) (I:=fun k=>(0≤k∧k≤pg.protos.length)∧pg.protos.all cW=(pg.protos.drop k.toNat).all cW) (μ:=fun k=>(pg.protos.length - k).toNat) (i:=(0:Int)) ky ⟨o2q,rfl⟩ (fun w hw=>hw) (fun k hI=>?_)
 obtain⟨⟨k0,k1⟩,hal⟩:=hI
 refine zm7 ?_
 refine ag rfl ?_ ?_<;>intro c28
 ·
  obtain⟨x,hx⟩:=ao (l:=pg.protos) k0 c28
  refine dz ?_;refine TL.run (ae rfl hr rfl om om) rfl (TL.run (bg hr hx rfl rfl) rfl (TL.alloc rfl (fun b4=>?_)))
  refine fb ?_;refine gu ?_;refine ay (ab rfl rfl rfl rfl) (gMay_ok x (hP.rs x (List.mem_of_getElem? hx)) hM) rfl (zm1 ?_)
  refine TC.cond rfl ?_ ?_<;>intro c33
  ·
   have hr1:=du (p:=cW) k0 hx (by simpa using c33) hal
   refine zm2 ?_;refine ay (ab rfl rfl rfl rfl) (dV 1500 (-1) (-1)) rfl (mb ?_);refine iM ?_
   exact ax (.inr rfl) (ad rfl (RVal.cellA rfl (.h1) rfl)) (by first | (rw [BR c22];rfl) | (rw [BQ c22 hr1];rfl) | (rw [BP c22 hr1 hl1];rfl) | (rw [zB c22 hr1 hl1];rfl))
  refine l6 ?_
  exact aS (k+1) ⟨o2q,cg (p:=cW) k0 hx (by simpa using c33) hal⟩ ky (fun w hw=>hw.drop) om
 have hr1:=cU (p:=cW) k0 c28 hal
 refine gh ?_;refine gX ?_;refine TL.run (ah rfl rfl hl) rfl (zm8 ?_)
 refine TC.loop (V:=fun k=>[(39,.int .i64 k)]) (K:=[(2,_),(37,_),(38,_)]) (L:=fun k=>_) (I:=fun k=>(0≤k∧k≤pg.locals.length)∧pg.locals.all (fun l=>cX l&&au l.name)=(pg.locals.drop k.toNat).all (fun l=>cX l&&au l.name)) (μ:=fun k=>(pg.locals.length - k).toNat) (i:=(0:Int)) ky ⟨o2q,rfl⟩ (fun w hw=>hw) (fun k hI=>?_)
 obtain⟨⟨k0,k1⟩,hal⟩:=hI
 refine zm7 ?_
 refine ag rfl ?_ ?_<;>intro c40
 ·
  obtain⟨y,hy⟩:=ao (l:=pg.locals) k0 c40
  refine dz ?_;refine TL.run (ae rfl hl rfl om om) rfl (TL.run (bg hl hy rfl rfl) rfl (TL.alloc rfl (fun b6=>?_)))
  refine fb ?_
  refine bO (!(cX y&&au y.name)) 51 [(2,_),(6,_),(37,_),(38,_),(39,_),(40,_),(41,_),(42,_)] ky ?_ ?_
  ·
   refine TC.region (fo ?_);refine ay (ab rfl rfl rfl rfl) (wm y (hP.ls y (List.mem_of_getElem? hy)) hM) rfl (zm3 ?_)
   refine ai (s:=46) rfl ?_ ?_<;>intro g46
   ·
    refine nD ?_
    exact aV rfl (by simp_all) ky
   refine zm9 ?_;refine aO rfl rfl (ab rfl rfl rfl rfl) (bL y.name) rfl (gH ?_)
   exact aV rfl (by simp_all) ky
  refine TC.cond rfl ?_ ?_<;>intro c51
  ·
   have hl1:=du (p:=fun l=>cX l&&au l.name) k0 hy (Ak c51) hal
   refine zm2 ?_;refine ay (ab rfl rfl rfl rfl) (dV 1500 (-1) (-1)) rfl (mb ?_);refine iM ?_
   exact ax (.inr rfl) (ad rfl (RVal.cellA rfl (.h1) rfl)) (by first | (rw [BR c22];rfl) | (rw [BQ c22 hr1];rfl) | (rw [BP c22 hr1 hl1];rfl) | (rw [zB c22 hr1 hl1];rfl))
  refine l6 ?_
  exact aS (k+1) ⟨o2q,cg (p:=(fun l=>cX l&&au l.name)) k0 hy (EK c51) hal⟩ ky (fun w hw=>hw.drop) om
 have hl1:=cU (p:=fun l=>cX l&&au l.name) k0 c40 hal
 refine tS ?_;refine jq ?_
 exact ax (.inr rfl) (ad rfl (RVal.cellA rfl (.here _) rfl)) (by first | (rw [BR c22];rfl) | (rw [BQ c22 hr1];rfl) | (rw [BP c22 hr1 hl1];rfl) | (rw [zB c22 hr1 hl1];rfl))
end Go.Sx
namespace Go.Sx
open Go Go.Proofs
theorem D3 {H:Hp}{pg:SProg}{q:SProc}(i:Int)(hP:ProgOk H pg)(h0:0≤i)(hq:pg.procs[i.toNat]? =some q)(hz1:q.steps.length≤80)(hz2:q.terms.length≤160):
  FnS Tryz.prog 39 [.agg pg.cells.toArray,.int .i64 i] H (.agg (eZ i q).cells.toArray):=by
 have hPq:=hP.q
 have hmax:=hPq.max
 have hlt:=iS hq
 have hQ:=hP.qs q (List.mem_of_getElem? hq)
 have hst0:=hQ.s
 have ht0:=hQ.t
 refine FnS.enter Tryz.func39 Tryz.ntmps39 rfl rfl (fun w0=>?_)
 refine zm2 ?_
 refine TL.box rfl rfl (fun b2=>?_)
 refine TL.alloc rfl (fun b4=>?_)
 refine TL.nil (af (gX ?_));refine zm0 ?_;refine TL.run (ae rfl hPq rfl om om) rfl (TL.run (bg hPq hq rfl rfl) rfl (TL.alloc rfl (fun b5=>?_)))
 refine qY ?_;refine TL.run (ah rfl rfl hst0) rfl (gQ rfl rfl (by first | omega | decide) (by first | omega | decide) (by first | omega | decide) rfl (fun b25=>?_))
 refine zm1 ?_;refine gX ?_;refine TL.run (ah rfl rfl hst0) rfl (gQ rfl rfl (by first | omega | decide) (by first | omega | decide) (by first | omega | decide) rfl (fun b29=>?_))
 refine mu ?_;refine qA ?_;refine TL.run (ah rfl rfl ht0) rfl (gQ rfl rfl (by first | omega | decide) (by first | omega | decide) (by first | omega | decide) rfl (fun b33=>?_))
 refine iW ?_;refine gW ?_;refine mj ?_;refine TL.run (ah rfl rfl hst0) rfl (zm8 ?_)
 refine aW (V:=fun(p:Int×List Int×List Int×List Bool) v ob H1=>[(37,.int .i64 p.1)]) (K:=[(1,_),(4,_),(5,_),(6,_),(7,_),(8,_),(35,_),(36,_)]) (L:=fun(p:Int×List Int×List Int×List Bool) v ob H1=>St [] w0 H H1 ((b33,(p.2.2.2).map Value.bool)::(b29,(p.2.2.1).map (Value.int .i64))::(b25,(p.2.1).map (Value.int .i64))::(b5,q.cells)::(b4,[.int .i64 0,.int .i64 0,.int .i64 0])::(b2,pg.cells)::[])) (I:=fun(p:Int×List Int×List Int×List Bool) v ob H1=>(0≤p.1∧p.1≤q.steps.length)∧H.le H1∧(p.2.1.length=q.steps.length∧p.2.2.1.length=q.steps.length∧p.2.2.2.length=q.terms.length)∧eZ i q=bN q i (q.steps.drop p.1.toNat) p.1 p.2.1 p.2.2.1 p.2.2.2) (μ:=fun(p:Int×List Int×List Int×List Bool)=>(q.steps.length - p.1).toNat) ((0:Int),List.replicate q.steps.length (0:Int),List.replicate q.steps.length (0:Int),List.replicate q.terms.length false) .nilFunc [] H ky ⟨o2q,Hp.le.refl _,⟨by simp,by simp,by simp⟩,rfl⟩ (fun w hw=>by simp only [pU,Bq] at hw;exact hw) (fun p v ob H1 hI=>?_)
 obtain⟨⟨k0,k1⟩,hle,⟨hc1,hd1,hu1⟩,hS⟩:=hI
 obtain⟨k,c,d,u⟩:=p
 dsimp only at *
 replace hQ:=hQ.le hle
 refine zm7 ?_
 refine ag rfl ?_ ?_<;>intro c38
 ·
  obtain⟨s,hx⟩:=ao (l:=q.steps) k0 c38
  have hs:=hQ.ss s (List.mem_of_getElem? hx)
  refine mt ?_;refine xK ?_;refine TL.run (bg hQ.s hx rfl rfl) rfl (TL.alloc rfl (fun b10=>?_))
  refine zm0 ?_;refine qt ?_;refine gu ?_;refine ay (ab rfl rfl rfl rfl) (may_ok s hs) rfl (zm1 ?_)
  refine TC.cond rfl ?_ ?_<;>intro c44
  ·
   refine eh ?_;refine ay (ab rfl rfl rfl rfl) (dV 1500 i k) rfl (mi ?_);refine k5 ?_
   exact ax (.inr rfl) (ad rfl (RVal.cellA rfl (.h5) rfl)) (by rw [sh_form k0 hx (by simpa using c44) hS];rfl)
  have hm:dg s=true:=by simpa using c44
  have hsz:=fH hm
  refine jo ?_
  refine bO (decide (0<k)&& !decide (aL c k=1)) 56 [(1,_),(4,_),(5,_),(6,_),(7,_),(8,_),(9,_),(10,_),(35,_),(36,_),(37,_),(38,_),(39,_),(40,_),(41,_),(42,_),(43,_),(44,_)] ky ?_ ?_
  ·
   refine pO ?_
   refine ai (s:=50) rfl ?_ ?_<;>intro g50
   ·
    have q50:=of_decide_eq_true g50
    refine fc ?_;refine aC rfl rfl (ie rfl rfl om om) rfl (aC rfl rfl (aB rfl (.h3) (il om)) rfl (gH ?_))
    exact aV rfl (by first | (simp_all;done) | (simp [*];done) | (simp_all;omega)) ky
   have q50:=of_decide_eq_false g50
   refine pQ ?_;refine dN ?_
   exact aV rfl (by first | (simp_all;done) | (simp [*];done) | (simp_all;omega)) ky
  refine TC.cond rfl ?_ ?_<;>intro c56
  ·
   refine eh ?_;refine ay (ab rfl rfl rfl rfl) (dV 1502 i k) rfl (mi ?_);refine k5 ?_
   exact ax (.inr rfl) (ad rfl (RVal.cellA rfl (.h5) rfl)) (by rw [sh_tree k0 hx hm c56 hS];rfl)
  refine cV ?_
  refine tf (V:=fun dd=>[]) (K:=[(1,_),(4,_),(5,_),(6,_),(7,_),(8,_),(9,_),(10,_),(35,_),(36,_),(37,_),(38,_),(39,_),(40,_),(41,_),(42,_),(43,_),(44,_),(56,_)]) ky (L:=fun dd=>St [] w0 H H1 ((b10,s.cells)::(b33,(u).map Value.bool)::(b29,(dd).map (Value.int .i64))::(b25,(c).map (Value.int .i64))::(b5,q.cells)::(b4,[.int .i64 0,.int .i64 0,.int .i64 0])::(b2,pg.cells)::[])) (I:=fun dd=>dd=dn s k d) ?_ ?_
  ·
   refine bO (decide (s.kind=3)||decide (s.kind=5)) 67 [(1,_),(4,_),(5,_),(6,_),(7,_),(8,_),(9,_),(10,_),(35,_),(36,_),(37,_),(38,_),(39,_),(40,_),(41,_),(42,_),(43,_),(44,_),(56,_)] ky ?_ ?_
   ·
    refine ql ?_;refine zm3 ?_
    refine ai (s:=63) rfl ?_ ?_<;>intro g63
    ·
     have q63:=of_decide_eq_true g63
     refine ny ?_
     exact aV rfl (by simp_all) ky
    have q63:=of_decide_eq_false g63
    refine zm9 ?_;refine gH ?_
    exact aV rfl (by simp_all) ky
   refine TC.cond rfl ?_ ?_<;>intro c67
   ·
    refine jZ ?_;refine fp ?_;refine TL.run (aB rfl (.h2) (il om)) rfl (jX ?_);refine fp ?_;refine AT ?_
    exact TL.nil (jP (f9 d k) (deep_T c67) ky (fun w hw=>by rw [wO] at hw;exact hw))
   exact TC.skip (jP d (deep_F c67) ky (fun w hw=>hw))
  intro dd hI
  have hdd:dd.length=q.steps.length:=by rw [hI,wS];exact hd1
  refine TC.seq (gu ?_)
  refine da (ab rfl rfl rfl rfl) (mV s hs om) rfl (fun v75 H75 ob75 hle75 hp75=>?_)
  obtain⟨eH75,hO75⟩:=hp75
  subst H75
  obtain⟨a75,c75,rfl⟩:=hO75.form
  refine TL.pubO hO75 (.s6 (.skip _ .all)) sq (fun HP75 leP75 hR75=>?_)
  replace hQ:=hQ.le leP75
  replace hle:=hle.trans leP75
  replace hs:=hs.le leP75
  have hR75m:=hR75.max
  refine TL.run (ah rfl rfl hR75) rfl (zm8 ?_)
  refine TC.loop (V:=fun(e:Int×List Int×List Int)=>[(77,.int .i64 e.1)]) (K:=[(1,_),(4,_),(5,_),(6,_),(7,_),(8,_),(9,_),(10,_),(35,_),(36,_),(37,_),(38,_),(39,_),(40,_),(41,_),(42,_),(43,_),(44,_),(56,_),(74,_),(75,_),(76,_)]) (L:=fun(e:Int×List Int×List Int)=>St [] w0 H HP75 ((b10,s.cells)::(b33,(u).map Value.bool)::(b29,(e.2.2).map (Value.int .i64))::(b25,(e.2.1).map (Value.int .i64))::(b5,q.cells)::(b4,[.int .i64 0,.int .i64 0,.int .i64 0])::(b2,pg.cells)::[])) (I:=fun(e:Int×List Int×List Int)=>(0≤e.1∧e.1≤(aG s).length)∧(e.2.1.length=q.steps.length∧e.2.2.length=q.steps.length)∧bU q.steps.length k (aG s) c (dn s k d)=bU q.steps.length k ((aG s).drop e.1.toNat) e.2.1 e.2.2) (μ:=fun(e:Int×List Int×List Int)=>((aG s).length - e.1).toNat) (i:=((0:Int),c,dd)) ky ⟨o2q,⟨hc1,hdd⟩,by rw [hI];rfl⟩ (fun w hw=>hw) (fun(e:Int×List Int×List Int) hI=>?_)
  obtain⟨⟨j0,j1⟩,⟨hc3,hd3⟩,hN⟩:=hI
  refine zm7 ?_
  refine ag rfl ?_ ?_<;>intro c78
  ·
   obtain⟨y,hy⟩:=ao (l:=aG s) j0 c78
   refine dz ?_;refine TL.run (ae rfl hR75 rfl om om) rfl (TL.run (aQ hR75 hy rfl rfl) rfl (iW ?_))
   refine bO (decide (y≤k)||decide ((q.steps.length:Int)≤y)) 90 [(1,_),(4,_),(5,_),(6,_),(7,_),(8,_),(9,_),(10,_),(12,_),(35,_),(36,_),(37,_),(38,_),(39,_),(40,_),(41,_),(42,_),(43,_),(44,_),(56,_),(74,_),(75,_),(76,_),(77,_),(78,_),(79,_),(80,_)] ky ?_ ?_
   ·
    refine jZ ?_;refine zm3 ?_
    refine ai (s:=84) rfl ?_ ?_<;>intro g84
    ·
     have q84:=of_decide_eq_true g84
     refine pQ ?_;refine dN ?_
     exact aV rfl (by first | (simp_all;done) | (simp [*];done) | (simp_all;omega)) ky
    have q84:=of_decide_eq_false g84
    refine cK ?_;refine it ?_;refine aC rfl rfl (aB rfl (.h4) rfl) rfl (aC rfl rfl (ah rfl rfl hQ.s) rfl (gH ?_))
    exact aV rfl (by first | (simp_all;done) | (simp [*];done) | (simp_all;omega)) ky
   refine TC.cond rfl ?_ ?_<;>intro c90
   ·
    refine eh ?_;refine ay (ab rfl rfl rfl rfl) (dV 1502 i k) rfl (mi ?_);refine k5 ?_;refine iM ?_
    exact ax (.inr rfl) (ad rfl (RVal.cellA rfl (.h5) rfl)) (by rw [sh_n k0 hx hm c56 (ng_bad j0 hy c90 hN) hS];rfl)
   have hyb:k<y∧y<q.steps.length:=by simp at c90;omega
   refine xo ?_;refine fp ?_;refine Dm ?_;refine jX ?_;refine fp ?_;refine bB rfl rfl rfl (.h3) (by simp;omega) rfl (TL.nil (af (jZ ?_)));refine zm3 ?_
   refine fp ?_;refine TL.run (aB rfl (.h2) (il om)) rfl (fp ?_);refine AT ?_;refine qr ?_
   exact aS (e.1+1,f9 e.2.1 y,e.2.2.set y.toNat (aL e.2.2 k)) ⟨o2q,⟨by rw [na];exact hc3,by rw [List.length_set];exact hd3⟩,ng_next j0 hy c90 hN⟩ ky (fun w hw=>by have hw2:=hw;simp only [wO] at hw2;exact hw2) om
  have hng:=ng_end j0 c78 hN
  obtain⟨j,c2,d2⟩:=e
  dsimp only at *
  have hc2:=hc3
  have hd2:=hd3
  refine ir ?_;refine f3 ?_;refine fp ?_;refine TL.run (aB rfl (.h2) (il om)) rfl (zm1 ?_)
  refine ag rfl ?_ ?_<;>intro c112
  ·
   refine eh ?_;refine ay (ab rfl rfl rfl rfl) (dV 1502 i k) rfl (mi ?_);refine k5 ?_
   exact ax (.inr rfl) (ad rfl (RVal.cellA rfl (.h5) rfl)) (by rw [sh_d k0 hx hm c56 hng c112 hS];rfl)
  refine cV ?_;refine gu ?_
  refine da (ab rfl rfl rfl rfl) (yC s hs hsz.2) rfl (fun v117 H117 ob117 hle117 hp117=>?_)
  obtain⟨eH117,hO117⟩:=hp117
  subst H117
  obtain⟨a117,c117,rfl⟩:=hO117.form
  refine TL.pubO hO117 (.s6 (.skip _ .all)) sq (fun HP117 leP117 hR117=>?_)
  replace hQ:=hQ.le leP117
  replace hle:=hle.trans leP117
  have hR117m:=hR117.max
  refine TL.run (ah rfl rfl hR117) rfl (zm8 ?_)
  refine aW (V:=fun(f:Int×List Bool) v2 ob2 H2=>[(119,.int .i64 f.1)]) (K:=[(1,_),(4,_),(5,_),(6,_),(7,_),(8,_),(9,_),(10,_),(35,_),(36,_),(37,_),(38,_),(39,_),(40,_),(41,_),(42,_),(43,_),(44,_),(56,_),(74,_),(75,_),(76,_),(77,_),(78,_),(108,_),(109,_),(110,_),(111,_),(112,_),(116,_),(117,_),(118,_)]) (L:=fun(f:Int×List Bool) v2 ob2 H2=>St [] w0 H H2 ((b10,s.cells)::(b33,(f.2).map Value.bool)::(b29,(d2).map (Value.int .i64))::(b25,(c2).map (Value.int .i64))::(b5,q.cells)::(b4,[.int .i64 0,.int .i64 0,.int .i64 0])::(b2,pg.cells)::[])) (I:=fun(f:Int×List Bool) v2 ob2 H2=>(0≤f.1∧f.1≤(a8 s).length)∧HP117.le H2∧f.2.length=q.terms.length∧bV q.terms (a8 s) u=bV q.terms ((a8 s).drop f.1.toNat) f.2) (μ:=fun(f:Int×List Bool)=>((a8 s).length - f.1).toNat) ((0:Int),u) .nilFunc [] HP117 ky ⟨o2q,Hp.le.refl _,hu1,rfl⟩ (fun w hw=>hw) (fun f v2 ob2 H2 hI=>?_)
  obtain⟨⟨f0,f1⟩,hle2,hu4,hR⟩:=hI
  replace hQ:=hQ.le hle2
  replace hle:=hle.trans hle2
  replace hR117:=hR117.le hle2
  refine zm7 ?_
  refine ag rfl ?_ ?_<;>intro c120
  ·
   obtain⟨r,hr⟩:=ao (l:=a8 s) f0 c120
   refine dz ?_;refine TL.run (ae rfl hR117 rfl om om) rfl (TL.run (aQ hR117 hr rfl rfl) rfl (iW ?_));refine gW ?_
   refine TL.run (aB rfl (.h4) rfl) rfl (zm0 ?_);refine ay (ab rfl rfl rfl rfl) (Fv r hQ.t hQ.tn) rfl (zm1 ?_)
   refine TC.cond rfl ?_ ?_<;>intro c127
   ·
    refine eh ?_;refine ay (ab rfl rfl rfl rfl) (dV 1503 i k) rfl (mi ?_);refine aI (bv (aI (aI ?_)));refine bv (iM ?_)
    exact ax (.inr rfl) (ad rfl (RVal.cellA rfl (.h5) rfl)) (by rw [sh_t k0 hx hm c56 hng c112 (rg_may f0 hr (by simpa using c127) hR) hS];rfl)
   have hmr:cF q.terms r=true:=by simpa using c127
   refine cV ?_;refine gW ?_;refine TL.run (aB rfl (.h4) rfl) rfl (zm0 ?_)
   refine da (ab rfl rfl rfl rfl) (yK r hQ.t hmr) rfl (fun v134 H134 ob134 hle134 hp134=>?_)
   have hO134:OwnSl 1 I64.cells v134 (bi q.terms r) ob134:=hp134
   obtain⟨a134,c134,rfl⟩:=hO134.form
   replace hle2:=hle2.trans hle134
   refine TL.pubO hO134 (.s6 (.skip _ .all)) sq (fun HP134 leP134 hR134=>?_)
   replace hle2:=hle2.trans leP134
   have hR134m:=hR134.max
   refine TL.run (ah rfl rfl hR134) rfl (zm8 ?_)
   refine TC.loop (V:=fun(e:Int×List Bool)=>[(136,.int .i64 e.1)]) (K:=[(1,_),(4,_),(5,_),(6,_),(7,_),(8,_),(9,_),(10,_),(14,_),(35,_),(36,_),(37,_),(38,_),(39,_),(40,_),(41,_),(42,_),(43,_),(44,_),(56,_),(74,_),(75,_),(76,_),(77,_),(78,_),(108,_),(109,_),(110,_),(111,_),(112,_),(116,_),(117,_),(118,_),(119,_),(120,_),(121,_),(122,_),(123,_),(124,_),(125,_),(126,_),(127,_),(131,_),(132,_),(133,_),(134,_),(135,_)]) (L:=fun(e:Int×List Bool)=>St [] w0 H HP134 ((b10,s.cells)::(b33,(e.2).map Value.bool)::(b29,(d2).map (Value.int .i64))::(b25,(c2).map (Value.int .i64))::(b5,q.cells)::(b4,[.int .i64 0,.int .i64 0,.int .i64 0])::(b2,pg.cells)::[])) (I:=fun(e:Int×List Bool)=>(0≤e.1∧e.1≤(bi q.terms r).length)∧e.2.length=q.terms.length∧eV (bi q.terms r) f.2=eV ((bi q.terms r).drop e.1.toNat) e.2) (μ:=fun(e:Int×List Bool)=>((bi q.terms r).length - e.1).toNat) (i:=((0:Int),f.2)) ky ⟨o2q,hu4,rfl⟩ (fun w hw=>hw) (fun(e:Int×List Bool) hI=>?_)
   obtain⟨⟨e0,e1⟩,hu5,hU⟩:=hI
   refine zm7 ?_
   refine ag rfl ?_ ?_<;>intro c137
   ·
    obtain⟨z,hz⟩:=ao (l:=bi q.terms r) e0 c137
    have hzb:=gL _ _ z (List.mem_of_getElem? hz)
    refine dz ?_;refine TL.run (ae rfl hR134 rfl om om) rfl (TL.run (aQ hR134 hz rfl rfl) rfl (iW ?_));refine eh ?_;refine fp ?_
    refine TL.run (aB rfl (.h1) (bs_get om)) rfl (TL.nil (af (TC.cond rfl (fun c143=>?_) (fun c143=>?_))))
    ·
     refine eh ?_;refine ay (ab rfl rfl rfl rfl) (dV 1503 i k) rfl (mi ?_);refine aI (bv (aI (aI ?_)));refine bv (xh ?_)
     exact ax (.inr rfl) (ad rfl (RVal.cellA rfl (.h5) rfl)) (by rw [sh_t k0 hx hm c56 hng c112 (rg_bad f0 hr hmr (ug_bad e0 hz c143 hU) hR) hS];rfl)
    refine xp ?_;refine Dj ?_;refine qr ?_
    exact aS (e.1+1,e.2.set z.toNat true) ⟨o2q,by rw [List.length_set];exact hu5,ug_next e0 hz c143 hU⟩ ky (fun w hw=>by have hw2:=hw;simp only [bs_set] at hw2;exact hw2) om
   have hug:=ug_end e0 c137 hU
   refine w8 ?_
   exact aH (f.1+1,e.2) .nilFunc [] HP134 ⟨o2q,hle2,hu5,rg_next f0 hr hmr hug hR⟩ ky (fun w hw=>hw) om
  have hrg:=rg_end f0 c120 hR
  refine w8 ?_
  exact aH (i:=(k,c,d,u)) (k+1,c2,d2,f.2) .nilFunc [] H2 ⟨o2q,hle,⟨hc2,hd2,hu4⟩,sh_next k0 hx hm c56 hng c112 hrg hS⟩ ky (fun w hw=>hw.drop) om
 refine tS ?_;refine cH rfl rfl rfl rfl rfl (.h4) rfl rfl (TL.nil (af (TC.ret ?_)))
 exact ax (.inr rfl) (ad rfl (RVal.cellA rfl (.h4) rfl)) (by rw [sh_end k0 c38 hS];rfl)
end Go.Sx
namespace Go.Sx
open Go Go.Proofs
theorem Ec {H:Hp}{pg:SProg}{q:SProc}(i:Int)(hP:ProgOk H pg)(h0:0≤i)(hq:pg.procs[i.toNat]? =some q)(hsh:bK q)(hz0:1≤q.steps.length)(hz1:q.steps.length≤80)(hz2:q.terms.length≤160):
  FnS Tryz.prog 42 [.agg pg.cells.toArray,.int .i64 i] H (.agg (gy pg i q).cells.toArray):=by
 have hPq:=hP.q
 have hmax:=hPq.max
 have hlt:=iS hq
 have hQ:=hP.qs q (List.mem_of_getElem? hq)
 have hst0:=hQ.s
 have hpa0:=hQ.pa
 have hpl:=hQ.pl
 refine FnS.enter Tryz.func42 Tryz.ntmps42 rfl rfl (fun w0=>?_)
 refine zm2 ?_
 refine TL.box rfl rfl (fun b2=>?_)
 refine TL.alloc rfl (fun b4=>?_)
 refine TL.nil (af (gX ?_));refine zm0 ?_;refine TL.run (ae rfl hPq rfl om om) rfl (TL.run (bg hPq hq rfl rfl) rfl (TL.alloc rfl (fun b5=>?_)))
 refine qY ?_;refine TL.run (ah rfl rfl hst0) rfl (gQ rfl rfl (by first | omega | decide) (by first | omega | decide) (by first | omega | decide) rfl (fun b23=>?_))
 refine qU ?_;refine TL.run (ah rfl rfl hpa0) rfl (zm8 ?_)
 refine aW (V:=fun k v ob H1=>[(27,.int .i64 k)]) (K:=[(1,_),(2,_),(4,_),(5,_),(6,_),(25,_),(26,_)]) (L:=fun k v ob H1=>St [] w0 H H ((b23,(List.replicate q.steps.length nilV).set 0 v)::(b5,q.cells)::(b4,[.int .i64 0,.int .i64 0,.int .i64 0])::(b2,pg.cells)::ob)) (I:=fun k v ob H1=>(0≤k∧k≤q.params.length)∧OwnSl 1 Str.cells v ((q.params.take k.toNat).map (·.name)) ob) (μ:=fun k=>(q.params.length - k).toNat) 0 nilV [] H ky ⟨o2q,OwnSl.nil⟩ (fun w hw=>by rw [Ek];rw [yP] at hw;exact hw) (fun k v ob H1 hI=>?_)
 obtain⟨⟨k0,k1⟩,hO⟩:=hI
 obtain⟨va,vc,rfl⟩:=hO.form
 refine zm7 ?_
 refine ag rfl ?_ ?_<;>intro c28
 ·
  obtain⟨x,hx⟩:=ao (l:=q.params) k0 c28
  refine dz ?_;refine TL.run (ae rfl hpa0 rfl om om) rfl (TL.run (bg hpa0 hx rfl rfl) rfl (TL.alloc rfl (fun b8=>?_)))
  refine fb ?_;refine eH ?_;refine TD.leaf [(0,1),(1,1),(2,1),(3,2),(4,1),(5,2),(6,3),(7,0),(8,1),(9,0)] kr kr (gg ?_);refine tT ?_
  refine aK (aB rfl (.h1) (Eb (by simp;omega))) rfl (qB ?_)
  refine aF rfl rfl rfl rfl (fun b37=>?_)
  refine bf (TL.append (enc:=Str.cells) rfl rfl rfl hO (Src.own [x.name] (.here _) rfl rfl) (by simp;omega) rfl (.s5 (.skip _ .all)) rfl (fun a38 c38 ob38 hO38=>?_))
  refine bj (tT ?_);refine bf (AT ?_);refine mc ?_
  exact aH (k+1) _ ob38 H ⟨o2q,hO38.cast (by rw [bQ k0 hx])⟩ ky (fun w hw=>by have hw2:=hw.drop.drop;rw [D8] at hw2;rw [← List.set_set];exact hw2) om
 refine gh ?_;refine zm2 ?_
 refine TL.pubO hO (.s3 (.skip _ .all)) sq (fun HJ leJ hJ=>?_)
 replace hP:=hP.le leJ
 replace hQ:=hQ.le leJ
 have hJ2:=hJ.cast (show _=q.params.map (·.name) by rw [bC c28 k0])
 refine iN ?_;refine TL.run (ah rfl rfl hQ.s) rfl (zm8 ?_)
 refine aW (V:=fun(p:zG) v ob H1=>[(44,.int .i64 p.1)]) (K:=[(1,_),(2,_),(4,_),(5,_),(6,_),(42,_),(43,_)]) (L:=fun(p:zG) v ob H1=>St [] w0 H H1 ((b23,p.2.1)::(b5,q.cells)::(b4,[.int .i64 0,.int .i64 0,.int .i64 0])::(b2,pg.cells)::[])) (I:=fun(p:zG) v ob H1=>(0≤p.1∧p.1≤q.steps.length)∧HJ.le H1∧BRow H1 p.2.1 p.2.2∧p.2.2.length=q.steps.length∧gy pg i q=dO pg q i (q.steps.drop p.1.toNat) p.1 p.2.2) (μ:=fun(p:zG)=>(q.steps.length - p.1).toNat) ((0:Int),(List.replicate q.steps.length nilV).set 0 _,kF q) .nilFunc [] HJ ky ⟨o2q,Hp.le.refl _,brow0 hJ2 hpl,lU q,rfl⟩ (fun w hw=>hw) (fun p v ob H1 hI=>?_)
 obtain⟨⟨k0,k1⟩,hle,hB,hbl,hS⟩:=hI
 obtain⟨k,vs,b⟩:=p
 dsimp only at *
 replace hP:=hP.le hle
 replace hQ:=hQ.le hle
 refine zm7 ?_
 refine ag rfl ?_ ?_<;>intro c45
 ·
  obtain⟨s,hx⟩:=ao (l:=q.steps) k0 c45
  have hs:=hQ.ss s (List.mem_of_getElem? hx)
  obtain⟨hm0,hin⟩:=hsh k.toNat s hx
  have hsz:=fH hm0
  obtain⟨vk,bk,hvk,hbk,hBk⟩:=hB.at_ (k:=k) om
  have hvl:=hB.1
  refine mt ?_;refine xK ?_;refine TL.run (bg hQ.s hx rfl rfl) rfl (TL.alloc rfl (fun b10=>?_))
  refine zm0 ?_;refine qt ?_;refine oJ ?_
  refine TQ.run (a7 rfl (.h4) rfl) rfl (TQ.run (a7 rfl (.h2) rfl) rfl (TQ.run (a7 rfl (.here _) rfl) rfl (iZ ?_)))
  refine TQ.run (ie rfl rfl om om) rfl (TQ.run (aB rfl (.h1) (get_k hvk)) rfl (ip (ab rfl rfl rfl rfl) (step_ok s hP hQ hs hBk hsz.2 om) rfl (lE ?_)));refine f4 ?_
  refine aX rfl ?_ ?_<;>intro c58
  ·
   refine gw ?_;refine ay (ab rfl rfl rfl rfl) (dV _ i k) rfl (Dl ?_);refine TL.nil (af (TC.ret (k5 ?_)))
   exact ax (.inr rfl) (ad rfl (RVal.cellA rfl (.h3) rfl)) (by rw [sn_bad k0 hx hbk c58 hS];rfl)
  have he0:=c58
  refine cV ?_;refine gu ?_
  refine da (ab rfl rfl rfl rfl) (sU s hs om) rfl (fun v64 H64 ob64 hle64 hp64=>?_)
  obtain⟨eH64,hO64⟩:=hp64
  subst H64
  obtain⟨a64,c64,rfl⟩:=hO64.form
  refine TL.pubO hO64 (.s4 (.skip _ .all)) sq (fun HP64 leP64 hR64=>?_)
  replace hle:=hle.trans leP64
  replace hs:=hs.le leP64
  replace hB:=hB.le leP64
  have hR64m:=hR64.max
  refine zm1 ?_;refine gu ?_
  refine da (ab rfl rfl rfl rfl) (mV s hs om) rfl (fun v66 H66 ob66 hle66 hp66=>?_)
  obtain⟨eH66,hO66⟩:=hp66
  subst H66
  obtain⟨a66,c66,rfl⟩:=hO66.form
  refine TL.pubO hO66 (.s4 (.skip _ .all)) sq (fun HP66 leP66 hR66=>?_)
  replace hle:=hle.trans leP66
  replace hB:=hB.le leP66
  replace hR64:=hR64.le leP66
  have hR66m:=hR66.max
  refine TL.run (ah rfl rfl hR66) rfl (zm8 ?_)
  refine aW (V:=fun(e:zG) v2 ob2 H2=>[(68,.int .i64 e.1)]) (K:=[(1,_),(2,_),(4,_),(5,_),(6,_),(9,_),(10,_),(11,_),(12,_),(42,_),(43,_),(44,_),(45,_),(46,_),(47,_),(48,_),(49,_),(50,_),(51,_),(52,_),(53,_),(54,_),(55,_),(56,_),(57,_),(58,_),(63,_),(64,_),(65,_),(66,_),(67,_)]) (L:=fun(e:zG) v2 ob2 H2=>St [] w0 H H2 ((b10,s.cells)::(b23,e.2.1)::(b5,q.cells)::(b4,[.int .i64 0,.int .i64 0,.int .i64 0])::(b2,pg.cells)::[])) (I:=fun(e:zG) v2 ob2 H2=>(0≤e.1∧e.1≤(aG s).length)∧HP66.le H2∧BRow H2 e.2.1 e.2.2∧e.2.2.length=q.steps.length∧(e.2.1[k.toNat]? =some vk∧e.2.2[k.toNat]? =some bk)∧dP k (aG s) (bz s) b=dP k ((aG s).drop e.1.toNat) ((bz s).drop e.1.toNat) e.2.2) (μ:=fun(e:zG)=>((aG s).length - e.1).toNat) ((0:Int),vs,b) .nilFunc [] HP66 ky ⟨o2q,Hp.le.refl _,hB,hbl,⟨hvk,hbk⟩,rfl⟩ (fun w hw=>hw) (fun e v2 ob2 H2 hI=>?_)
  obtain⟨⟨j0,j1⟩,hle2,hB2,hbl2,⟨hvk2,hbk2⟩,hG⟩:=hI
  replace hle:=hle.trans hle2
  replace hR64:=hR64.le hle2
  replace hR66:=hR66.le hle2
  have hBk2:=hB2.2.1 _ _ _ hvk2 hbk2
  have hBk2m:=hB2.2.2 _ _ hbk2
  have hvl2:=hB2.1
  refine zm7 ?_
  refine ag rfl ?_ ?_<;>intro c69
  ·
   obtain⟨t,ht⟩:=ao (l:=aG s) j0 c69
   obtain⟨m,hm⟩:=Fj j0 c69
   have htb:=hin t (List.mem_of_getElem? ht)
   have hbn:=gU s
   have hk3:((k.toNat:Nat):Int)=k:=by omega
   refine mt ?_;refine TL.run (ae rfl hR66 rfl om om) rfl (TL.run (aQ hR66 ht rfl rfl) rfl (lW ?_));refine eh ?_
   refine aD rfl rfl rfl rfl (fun b75=>?_)
   refine zm3 ?_;refine fp ?_
   refine TL.run (aB rfl (.h2) (get_k hvk2)) rfl (TL.append (enc:=Str.cells) rfl rfl rfl (OwnSl.blk (enc:=Str.cells) [] rfl rfl dq) (Src.sl hBk2) (by simp;omega) rfl (.take (.here _) rfl) rfl (fun a80 c80 ob80 hO80=>?_))
   refine xc ?_;refine eh ?_;refine TL.run (ae rfl hR64 rfl om om) rfl (TL.run (aQ hR64 hm rfl rfl) rfl (TL.run (bW rfl rfl rfl) rfl (TL.nil ?_)))
   refine af (aX rfl (fun c86=>?_) (fun c86=>?_))
   ·
    refine eH ?_;refine TD.leaf [(0,1),(1,1),(2,1),(3,1),(4,1),(5,2),(6,1),(7,1),(8,1),(9,2),(10,3),(11,0),(12,1),(13,0)] kr kr (xG ?_);refine tT ?_
    refine aK (aB rfl (.h1) (Ea om)) rfl (gg ?_)
    refine aq (ae rfl hR64 rfl om om) rfl (aK (aQ hR64 hm rfl rfl) rfl (aF rfl rfl rfl rfl (fun b97=>?_)))
    refine bf (TL.append (enc:=Str.cells) rfl rfl rfl hO80 (Src.own [m] (.here _) rfl rfl) (by simp;omega) rfl (.s5 (.skip _ .all)) rfl (fun a98 c98 ob98 hO98=>?_))
    refine bj (tT ?_);refine bf (AT ?_);refine bj (TF.nil (bu (af ?_)))
    refine TC.region (TL.pubO hO98 (.s5 (.skip _ .all)) sq (fun HPb lePb hPb=>?_))
    replace hle2:=hle2.trans lePb
    replace hB2:=hB2.le lePb
    refine TL.run ((by first | exact fz rfl rfl om om | exact aJ rfl)) rfl (TL.run (aJ rfl) rfl (TL.nil (aH (e.1+1,e.2.1.set t.toNat _,e.2.2.set t.toNat (bk++[m])) .nilFunc [] HPb ⟨o2q,hle2,(hB2.set hPb (by first | omega | (simp;omega))),by rw [List.length_set];exact hbl2,⟨by rw [List.getElem?_set,if_neg om];exact hvk2,by rw [List.getElem?_set,if_neg om];exact hbk2⟩,by rw [← putAt_T hbk2 c86];exact BN j0 ht hm hG⟩ ky (fun w hw=>by have hw2:=hw.drop;simp only [D8,List.set_set] at hw2;exact hw2) om)))
   refine TC.skip (bu (af (TC.region ?_)))
   refine TL.pubO hO80 (.s4 (.skip _ .all)) sq (fun HPb lePb hPb=>?_)
   replace hle2:=hle2.trans lePb
   replace hB2:=hB2.le lePb
   refine TL.run ((by first | exact fz rfl rfl om om | exact aJ rfl)) rfl (TL.run (aJ rfl) rfl (TL.nil (aH (e.1+1,e.2.1.set t.toNat _,e.2.2.set t.toNat bk) .nilFunc [] HPb ⟨o2q,hle2,(hB2.set hPb (by first | omega | (simp;omega))),by rw [List.length_set];exact hbl2,⟨by rw [List.getElem?_set,if_neg om];exact hvk2,by rw [List.getElem?_set,if_neg om];exact hbk2⟩,by rw [← putAt_F hbk2 c86];exact BN j0 ht hm hG⟩ ky (fun w hw=>by have hw2:=hw;simp only [D8,List.set_set] at hw2;exact hw2) om)))
  refine w8 ?_
  exact aH (i:=(k,vs,b)) (k+1,e.2.1,e.2.2) .nilFunc [] H2 ⟨o2q,hle,hB2,hbl2,(bg_end j0 c69 hG)▸sn_next k0 hx hbk he0 hS⟩ ky (fun w hw=>hw.drop) om
 refine tS ?_;refine xx ?_
 exact ax (.inr rfl) (ad rfl (RVal.cellA rfl (.h2) rfl)) (by rw [sn_end k0 c45 hS];rfl)
end Go.Sx
namespace Go.Sx
open Go Go.Proofs
theorem chk2_ok {H:Hp}{pg:SProg}{b1:Nat}(hP:ProgOk H pg)(hM:MaxG H)(hb:PgAt H b1 pg):
  FnS Tryz.prog 36 [.pointer (some ⟨b1,0,none⟩)] H (.agg (iv pg).cells.toArray):=by
 refine FnS.enter Tryz.func36 Tryz.ntmps36 rfl rfl (fun w0=>?_)
 refine zm2 ?_
 refine TL.alloc rfl (fun b1=>?_)
 refine gF ?_;refine TL.run (kn rfl rfl hb.add) rfl (ay (ab rfl rfl rfl rfl) (all_ok hP hM) rfl (jq ?_))
 exact ax (.inr rfl) (ad rfl (RVal.cellA rfl (.here _) rfl)) rfl
theorem chk3_ok {H:Hp}{pg:SProg}{b1:Nat}(hP:ProgOk H pg)(hb:PgAt H b1 pg):
  FnS Tryz.prog 40 [.pointer (some ⟨b1,0,none⟩)] H (.agg (iJ pg.procs).cells.toArray):=by
 have hq:=hP.q
 have hmax:=hq.max
 refine FnS.enter Tryz.func40 Tryz.ntmps40 rfl rfl (fun w0=>?_)
 refine zm2 ?_
 refine TL.alloc rfl (fun b1=>?_)
 refine TL.nil (af (TC.seq (zm2 ?_)));refine TL.run (kn rfl rfl hb.add) rfl (ay (ab rfl rfl rfl rfl) (kf cy hP) rfl (zm1 ?_))
 refine bO (decide (dm pg.procs cy<0)||decide (0<((nc pg.procs (dm pg.procs cy)).params.length:Int))) 16 [(1,_)] ⟨rfl,trivial⟩ ?_ ?_
 ·
  refine pO ?_
  refine ai (s:=7) rfl ?_ ?_<;>intro g7
  ·
   have q7:=of_decide_eq_true g7
   refine eg ?_;refine nD ?_
   exact aV rfl (by first | (rw [hgp];simp_all;done) | (simp_all;done) | (simp [*];done) | (simp_all;omega)) ⟨rfl,trivial⟩
  have q7:=of_decide_eq_false g7
  have hfr:=sL pg.procs cy
  obtain⟨x,hx⟩:=ao (l:=pg.procs) (i:=dm pg.procs cy) om om
  have hxp:=(hP.qs x (List.mem_of_getElem? hx)).pa.max
  have hgp:nc pg.procs (dm pg.procs cy)=x:=by unfold nc;rw [hx];rfl
  refine it ?_;refine aC rfl rfl (bI rfl (hb 2 _ rfl)) rfl (cK ?_);refine aC rfl rfl (ae rfl hq rfl om om) rfl (it ?_)
  refine aC rfl rfl (br hq hx rfl rfl) rfl (aC rfl rfl (ah rfl rfl (hP.qs x (List.mem_of_getElem? hx)).pa) rfl (gH ?_))
  exact aV rfl (by first | (rw [hgp];simp_all;done) | (simp_all;done) | (simp [*];done) | (simp_all;omega)) ⟨rfl,trivial⟩
 refine TC.cond rfl ?_ ?_<;>intro c16
 ·
  refine zm2 ?_;refine ay (ab rfl rfl rfl rfl) (dV 1504 (-1) (-1)) rfl (jq ?_)
  exact aI (ax (.inr rfl) (ad rfl (RVal.cellA rfl (.here _) rfl)) (by first | (rw [ER c16];rfl) | (rw [An c16];rfl)))
 refine cV ?_;refine lh ?_;refine jq ?_
 exact ax (.inr rfl) (ad rfl (RVal.cellA rfl (.here _) rfl)) (by first | (rw [ER c16];rfl) | (rw [An c16];rfl))
theorem BK {H:Hp}{b1:Nat}{a:Option Addr}{n c:Nat}:
  Fn Tryz.prog 34 [.slice a n c,.pointer (some ⟨b1,0,none⟩)] H (fun v H1=>∃b2,v= .func (.func 35) #[] #[.pointer (some ⟨b1,0,none⟩),.pointer (some ⟨b2,0,none⟩)]∧CellAt H1 b2 (.slice a n c)):=by
 refine Fn.enter Tryz.func34 Tryz.ntmps34 rfl rfl (fun w0=>?_)
 refine zm2 ?_
 refine qg rfl rfl (fun b2=>?_)
 refine xP ?_
 refine TL.pub sq (fun H_b2 le_b2 rd_b2=>?_)
 refine fq ?_
 exact aR (.inr rfl) (ad rfl (RVal.tmp rfl)) ⟨b2,rfl,rd_b2 0 _ rfl⟩
end Go.Sx
namespace Go.Sx
open Go Go.Proofs
theorem E5 {H:Hp}{pg:SProg}{b1 b2:Nat}{lv:Value}(hP:ProgOk H pg)(hM:MaxG H)(hb:PgAt H b1 pg)(hc:CellAt H b2 lv)(hL:RdSl H 1 Fc.cells lv [38,39]):
  FnS Tryz.prog 35 [.pointer (some ⟨b1,0,none⟩),.pointer (some ⟨b2,0,none⟩)] H (.agg (cJ (bh pg.procs) pg.procs 0).cells.toArray):=by
 have hq:=hP.q
 have hmax:=hq.max
 have one0:=hL.isOne
 obtain⟨va,vc,rfl⟩:=hL.len
 refine FnS.enter Tryz.func35 Tryz.ntmps35 rfl rfl (fun w0=>?_)
 refine zm2 ?_
 refine TL.alloc rfl (fun b2=>?_)
 refine TL.nil (af (TC.seq (gW ?_)));refine TL.run (bI rfl (hb 2 _ rfl)) rfl (TL.run (ah rfl rfl hq) rfl (zm8 ?_))
 refine TC.loop (V:=fun k=>[(10,.int .i64 k)]) (K:=[(0,_),(1,_),(2,_),(9,_)]) (L:=fun k=>_) (I:=fun k=>(0≤k∧k≤pg.procs.length)∧cJ (bh pg.procs) pg.procs 0=cJ (bh pg.procs) (pg.procs.drop k.toNat) k) (μ:=fun k=>(pg.procs.length - k).toNat) (i:=(0:Int)) ky ⟨o2q,rfl⟩ (fun w hw=>hw) (fun k hI=>?_)
 obtain⟨⟨k0,k1⟩,hE⟩:=hI
 refine zm7 ?_
 refine ag rfl ?_ ?_<;>intro c11
 ·
  obtain⟨q,hx⟩:=ao (l:=pg.procs) k0 c11
  refine pb ?_;refine zm2 ?_;refine TL.run (bI rfl hc) rfl (TL.run (ah rfl rfl hL) rfl (zm8 ?_));refine TC.rounds 3 (fS (zm7 ?_))
  refine ag rfl ?_ ?_<;>intro c16_0
  ·
   refine dz ?_;refine pc ?_;refine TL.run (aQ hL (show([38,39]:List FuncId)[0]? =some _ from rfl) rfl rfl) rfl (k6 ?_);refine TL.run (kn rfl rfl hb.add) rfl (zm0 ?_)
   refine ay (ab rfl rfl rfl rfl) (head_ok k hP hM k0 hx) rfl (TL.alloc rfl (fun b6=>?_))
   refine oP ?_
   refine aX rfl ?_ ?_<;>intro c25_0
   ·
    refine qP ?_;refine xh ?_
    exact ax (.inr rfl) (ad rfl (RVal.cellA rfl (.h1) rfl)) (by rw [sN (f:=(bh pg.procs)) k0 hx (by rw [hs_1 c25_0];exact c25_0) hE,hs_1 c25_0];rfl)
   have hz:=lQ c25_0
   refine qC ?_
   refine ag rfl ?_ ?_<;>intro c16_1
   ·
    refine dz ?_;refine pc ?_;refine TL.run (aQ hL (show([38,39]:List FuncId)[1]? =some _ from rfl) rfl rfl) rfl (k6 ?_);refine TL.run (kn rfl rfl hb.add) rfl (zm0 ?_)
    refine ay (ab rfl rfl rfl rfl) (D3 k hP k0 hx hz.2.1 hz.2.2) rfl (TL.alloc rfl (fun b6x=>?_))
    refine oP ?_
    refine aX rfl ?_ ?_<;>intro c25_1
    ·
     refine gu ?_;refine xx ?_;refine xh ?_
     exact ax (.inr rfl) (ad rfl (RVal.cellA rfl (.h2) rfl)) (by rw [sN (f:=(bh pg.procs)) k0 hx (by rw [hs_2 c25_0];exact c25_1) hE,hs_2 c25_0];rfl)
    refine qC ?_
    refine ag rfl ?_ ?_<;>intro c16_2
    · exact absurd c16_2 dq
    refine w8 ?_
    exact aS (k+1) ⟨o2q,vL k0 hx (by rw [hs_2 c25_0];exact c25_1) hE⟩ ky (fun w hw=>hw.drop.drop) om
   exact absurd dq c16_1
  exact absurd dq c16_0
 refine tS ?_;refine jq ?_
 exact ax (.inr rfl) (ad rfl (RVal.cellA rfl (.here _) rfl)) (by rw [zp k0 c11 hE];rfl)
theorem E6 {H:Hp}{pg:SProg}{b1 b2:Nat}{lv:Value}(hP:ProgOk H pg)(hM:MaxG H)(hb:PgAt H b1 pg)(hc:CellAt H b2 lv)(hL:RdSl H 1 Fc.cells lv [42])(hgood:∀q∈pg.procs,zH q):
  FnS Tryz.prog 35 [.pointer (some ⟨b1,0,none⟩),.pointer (some ⟨b2,0,none⟩)] H (.agg (cJ (gy pg) pg.procs 0).cells.toArray):=by
 have hq:=hP.q
 have hmax:=hq.max
 have one0:=hL.isOne
 obtain⟨va,vc,rfl⟩:=hL.len
 refine FnS.enter Tryz.func35 Tryz.ntmps35 rfl rfl (fun w0=>?_)
 refine zm2 ?_
 refine TL.alloc rfl (fun b2=>?_)
 refine TL.nil (af (TC.seq (gW ?_)));refine TL.run (bI rfl (hb 2 _ rfl)) rfl (TL.run (ah rfl rfl hq) rfl (zm8 ?_))
 refine TC.loop (V:=fun k=>[(10,.int .i64 k)]) (K:=[(0,_),(1,_),(2,_),(9,_)]) (L:=fun k=>_) (I:=fun k=>(0≤k∧k≤pg.procs.length)∧cJ (gy pg) pg.procs 0=cJ (gy pg) (pg.procs.drop k.toNat) k) (μ:=fun k=>(pg.procs.length - k).toNat) (i:=(0:Int)) ky ⟨o2q,rfl⟩ (fun w hw=>hw) (fun k hI=>?_)
 obtain⟨⟨k0,k1⟩,hE⟩:=hI
 refine zm7 ?_
 refine ag rfl ?_ ?_<;>intro c11
 ·
  obtain⟨q,hx⟩:=ao (l:=pg.procs) k0 c11
  have hg:=hgood q (List.mem_of_getElem? hx)
  refine pb ?_;refine zm2 ?_;refine TL.run (bI rfl hc) rfl (TL.run (ah rfl rfl hL) rfl (zm8 ?_));refine TC.rounds 2 (fS (zm7 ?_))
  refine ag rfl ?_ ?_<;>intro c16_0
  ·
   refine dz ?_;refine pc ?_;refine TL.run (aQ hL (show([42]:List FuncId)[0]? =some _ from rfl) rfl rfl) rfl (k6 ?_);refine TL.run (kn rfl rfl hb.add) rfl (zm0 ?_)
   refine ay (ab rfl rfl rfl rfl) (Ec k hP k0 hx hg.1 hg.2.1 hg.2.2.1 hg.2.2.2) rfl (TL.alloc rfl (fun b6=>?_))
   refine oP ?_
   refine aX rfl ?_ ?_<;>intro c25_0
   ·
    refine qP ?_;refine xh ?_
    exact ax (.inr rfl) (ad rfl (RVal.cellA rfl (.h1) rfl)) (by rw [sN (f:=(gy pg)) k0 hx c25_0 hE];rfl)
   refine qC ?_
   refine ag rfl ?_ ?_<;>intro c16_1
   · exact absurd c16_1 dq
   refine w8 ?_
   exact aS (k+1) ⟨o2q,vL k0 hx c25_0 hE⟩ ky (fun w hw=>hw.drop) om
  exact absurd dq c16_0
 refine tS ?_;refine jq ?_
 exact ax (.inr rfl) (ad rfl (RVal.cellA rfl (.here _) rfl)) (by rw [zp k0 c11 hE];rfl)
end Go.Sx
namespace Go.Sx
open Go Go.Proofs
theorem eP {H:Hp}{pg:SProg}(hP:ProgOk H pg)(hM:MaxG H):
  Fn Tryz.prog 13 [.agg pg.cells.toArray] H (fun v H1=>v= .agg (bZ pg).cells.toArray):=by
 refine Fn.enter Tryz.func13 Tryz.ntmps13 rfl rfl (fun w0=>?_)
 refine zm2 ?_
 refine TL.box rfl rfl (fun b1=>?_)
 refine TL.alloc rfl (fun b2=>?_)
 refine gF ?_;refine eQ (.h1) (TL.pub sq (fun H_b1 le_b1 rd_b1=>?_))
 replace hP:=hP.le le_b1
 replace hM:=hM.le le_b1
 have hb:PgAt H_b1 b1 pg:=rd_b1
 refine lW ?_;refine eh ?_
 refine aD rfl rfl rfl rfl (fun b11=>?_)
 refine TL.pub sq (fun H_b11 le_b11 rd_b11=>?_)
 replace hP:=hP.le le_b11
 replace hM:=hM.le le_b11
 replace hb:=hb.le le_b11
 have hL11:RdSl H_b11 1 Fc.cells _ ([38,39]):=RdSl.blk (cap:=2) rd_b11 (by intro x hx;rfl) kr (by show 2≤9223372036854775807;decide)
 refine TL.call (ab rfl rfl rfl rfl) (BK) rfl (fun v12 H12 hle12 hp12=>?_)
 obtain⟨bx12,rfl,hC12⟩:=hp12
 replace hP:=hP.le hle12
 replace hM:=hM.le hle12
 replace hb:=hb.le hle12
 replace hL11:=hL11.le hle12
 refine zm3 ?_
 refine aD rfl rfl rfl rfl (fun b15=>?_)
 refine TL.pub sq (fun H_b15 le_b15 rd_b15=>?_)
 replace hP:=hP.le le_b15
 replace hM:=hM.le le_b15
 replace hb:=hb.le le_b15
 replace hL11:=hL11.le le_b15
 replace hC12:=hC12.le le_b15
 have hL15:RdSl H_b15 1 Fc.cells _ ([42]):=RdSl.blk (cap:=1) rd_b15 (by intro x hx;rfl) kr (by show 1≤9223372036854775807;decide)
 refine TL.call (ab rfl rfl rfl rfl) (BK) rfl (fun v16 H16 hle16 hp16=>?_)
 obtain⟨bx16,rfl,hC16⟩:=hp16
 replace hP:=hP.le hle16
 replace hM:=hM.le hle16
 replace hb:=hb.le hle16
 replace hL11:=hL11.le hle16
 replace hC12:=hC12.le hle16
 replace hL15:=hL15.le hle16
 refine aD rfl rfl rfl rfl (fun b17=>?_)
 refine xS ?_;refine TL.run (ec rfl rfl) rfl (zm8 ?_);refine TC.rounds 5 (fS (zm7 ?_));refine dt rfl (dz ?_);refine fp ?_;refine lD ?_;refine k6 ?_
 refine ay (ab rfl rfl rfl rfl) (chk2_ok hP hM hb) rfl (TL.alloc rfl (fun b7=>?_))
 refine oP ?_
 refine aX rfl ?_ ?_<;>intro c28_0
 ·
  refine gu ?_;refine xx ?_;refine iM ?_
  exact aR (.inr rfl) (ad rfl (RVal.cellA rfl (.h2) rfl)) (by rw [chk_0 c28_0];rfl)
 refine qC ?_;refine dt rfl (dz ?_);refine fp ?_;refine TL.run (aB rfl (.h1) rfl) rfl (k6 ?_)
 refine ay (ab rfl rfl rfl rfl) (E5 hP hM hb hC12 hL11) rfl (TL.alloc rfl (fun b7x=>?_))
 refine oP ?_
 refine aX rfl ?_ ?_<;>intro c28_1
 ·
  refine gu ?_;refine Dl ?_;refine TL.nil (af (TC.ret (iM ?_)))
  exact aR (.inr rfl) (ad rfl (RVal.cellA rfl (.h3) rfl)) (by rw [chk_1 c28_0 c28_1];rfl)
 refine qC ?_;refine dt rfl (dz ?_);refine fp ?_;refine qA ?_;refine k6 ?_;refine ay (ab rfl rfl rfl rfl) (chk3_ok hP hb) rfl (TL.alloc rfl (fun b7xx=>?_))
 refine oP ?_
 refine aX rfl ?_ ?_<;>intro c28_2
 ·
  refine gu ?_;refine cH rfl rfl rfl rfl rfl (.h4) rfl rfl (TL.nil (af (TC.ret ?_)));refine iM ?_
  exact aR (.inr rfl) (ad rfl (RVal.cellA rfl (.h4) rfl)) (by rw [chk_2 c28_0 c28_1 c28_2];rfl)
 refine qC ?_;refine dt rfl (dz ?_);refine fp ?_;refine mj ?_;refine k6 ?_;refine ay (ab rfl rfl rfl rfl) (E6 hP hM hb hC16 hL15 (vN _ _ c28_1)) rfl (TL.alloc rfl (fun b7xxx=>?_))
 refine oP ?_
 refine aX rfl ?_ ?_<;>intro c28_3
 ·
  refine gu ?_;refine mi ?_;refine iM ?_
  exact aR (.inr rfl) (ad rfl (RVal.cellA rfl (.h5) rfl)) (by rw [chk_3 c28_0 c28_1 c28_2];rfl)
 refine qC ?_;refine fU rfl (tS ?_);refine mi ?_
 exact aR (.inr rfl) (ad rfl (RVal.cellA rfl (.h5) rfl)) (by rw [AC c28_3 c28_0 c28_1 c28_2];rfl)
end Go.Sx
