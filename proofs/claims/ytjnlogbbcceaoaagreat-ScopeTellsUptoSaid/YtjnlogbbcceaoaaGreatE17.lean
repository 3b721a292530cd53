import Derived.Test.YtjnlogbbcceaoaaGreatE16
set_option linter.all false
set_option maxRecDepth 100000
set_option maxHeartbeats 32000000
namespace Go.Sx
open Go Go.Proofs
theorem dL {H:Hp}(e p a:Int):
  FnS Tryz.prog 48 [.int .i64 e,.int .i64 p,.int .i64 a] H (.agg (SFault.cells ⟨e,p,a⟩).toArray):=by
 refine FnS.enter Tryz.func48 Tryz.ntmps48 rfl rfl (fun w0=>?_)
 refine zm2 ?_
 refine TL.alloc rfl (fun b6=>?_)
 refine TL.nil (ai (fO ?_));refine dN ?_;refine iV ?_
 exact ao (.inr rfl) (ad rfl (RVal.cellA rfl (.here _) rfl)) rfl
theorem yl {H:Hp}(k:Int):
  FnS Tryz.prog 117 [.int .i64 k] H (.bool (jy k)):=by
 refine FnS.enter Tryz.func117 Tryz.ntmps117 rfl rfl (fun w0=>?_)
 refine kg ?_
 refine a7 (decide (k=0)||(decide (k=3)||(decide (k=5)||(decide (k=6)||decide (k=10))))) 4 [(2,_)] ⟨rfl,trivial⟩ ?_ ?_
 ·
  refine Ej ?_
  exact ei (aG rfl) rfl rfl ⟨rfl,trivial⟩
 refine TC.cond rfl ?_ ?_<;>intro c4
 ·
  refine ki ?_
  exact ao (.inr rfl) (ad rfl (RVal.tmp rfl)) (congrArg Value.bool (by unfold jy;first | exact c4.symm | (rw [c4]) | simp_all))
 refine rE ?_
 exact ao (.inr rfl) (ad rfl (RVal.tmp rfl)) (congrArg Value.bool (by unfold jy;first | exact c4.symm | (rw [c4]) | simp_all))
theorem mK {H:Hp}(s:Str)(b:Bool):
  FnS Tryz.prog 149 [gs s,.bool b] H (.bool (pD s b)):=by
 refine FnS.enter Tryz.func149 Tryz.ntmps149 rfl rfl (fun w0=>?_)
 refine zm7 ?_;refine jK ?_
 refine TC.cond rfl ?_ ?_<;>intro c5
 ·
  refine el ?_;refine ar (ab rfl rfl rfl rfl) (cR s) rfl (sU ?_)
  exact ao (.inr rfl) (ad rfl (RVal.tmp rfl)) (congrArg Value.bool (by unfold pD;simp_all))
 refine lm ?_;refine TL.run (cb rfl rfl rfl) rfl (em ?_)
 exact ao (.inr rfl) (ad rfl (RVal.tmp rfl)) (congrArg Value.bool (by unfold pD;simp_all))
theorem BU {H:Hp}(s:SStep):
  FnS Tryz.prog 106 [.agg s.cells.toArray] H (.bool (cU s)):=by
 refine FnS.enter Tryz.func106 Tryz.ntmps106 rfl rfl (fun w0=>?_)
 refine zm2 ?_
 refine TL.box rfl rfl (fun b1=>?_)
 refine oQ ?_;refine TL.nil (ai (TC.block (a7 (decide (s.kind=1)||(decide (s.kind=2)||decide (s.kind=3))) 5 [(1,_),(2,_)] ⟨rfl,rfl,trivial⟩ ?_ ?_)))
 ·
  refine Ek ?_
  exact ei (aG rfl) rfl rfl ⟨rfl,rfl,trivial⟩
 refine TC.cond rfl ?_ ?_<;>intro c5
 · refine fC ?_;refine gm ?_;exact bh (aF (ao (.inr rfl) (ad rfl (RVal.tmp rfl)) (congrArg Value.bool (by unfold cU;rw [c5];first | rfl | simp))))
 refine rE ?_
 exact ao (.inr rfl) (ad rfl (RVal.tmp rfl)) (congrArg Value.bool (by unfold cU;rw [c5];first | rfl | simp))
theorem j6 {H:Hp}{pg:SProg}(s:Str)(hP:ProgOk H pg):
  FnS Tryz.prog 19 [.agg pg.cells.toArray,gs s] H (.int .i64 (dk pg.procs s)):=by
 have hq:=hP.q
 have hmax:=hq.max
 refine FnS.enter Tryz.func19 Tryz.ntmps19 rfl rfl (fun w0=>?_)
 refine zm2 ?_
 refine TL.box rfl rfl (fun b2=>?_)
 refine kh ?_
 refine TC.loop (V:=fun k=>[(5,.int .i64 k)]) (K:=[(1,_),(2,_),(4,_)]) (L:=fun k=>_) (I:=fun k=>0≤k∧k≤pg.procs.length∧∀j:Nat,j<k.toNat→(pg.procs.map (·.name))[j]? ≠some s) (μ:=fun k=>(pg.procs.length - k).toNat) (i:=(0:Int)) ky ⟨by omega,by omega,fun j hj=>absurd hj sq⟩ (fun w hw=>hw) (fun k hI=>?_)
 refine jO ?_;refine TL.run (ah rfl rfl hq) rfl (zm1 ?_)
 refine af rfl ?_ ?_<;>intro c10
 ·
  obtain⟨x,hx⟩:=aj (l:=pg.procs) hI.1 c10
  refine oA ?_;refine TL.run (ae rfl hq rfl om om) rfl (zm5 ?_);refine TL.run (aT hq hx rfl rfl) rfl (tN ?_)
  refine af rfl ?_ ?_<;>intro c20
  ·
   refine rC ?_
   exact ao (.inr rfl) (ad rfl (RVal.tmp rfl)) (congrArg (Value.int .i64) (by unfold dk;first | exact(cS hI.1 (by rw [dz hx,c20]) hI.2.2).symm | exact(dU hI.2.2 (by rw [List.length_map];exact c10)).symm))
  refine d6 ?_
  exact aD (k+1) ⟨by omega,by omega,jd hI.1 hI.2.2 (dz hx) c20⟩ ky (fun w hw=>hw) om
 refine fD ?_
 exact ao (.inr rfl) (ad rfl (RVal.tmp rfl)) (congrArg (Value.int .i64) (by unfold dk;first | exact(cS hI.1 (by rw [dz hx,c20]) hI.2.2).symm | exact(dU hI.2.2 (by rw [List.length_map];exact c10)).symm))
theorem nY {H:Hp}(s:SStep)(hs:StepOk H s)(hl:s.args.length≤6∧s.casts.length≤4∧∀c∈s.casts,c.args.length≤6):
  FnO Tryz.prog 22 [.agg s.cells.toArray] H (fun v H1 ob=>H1=H∧OwnSl 1 I64.cells v (bV s) ob):=by
 have hc:=hs.c
 have ha:=hs.a
 obtain⟨hl1,hl2,hl3⟩:=hl
 refine FnO.enter Tryz.func22 Tryz.ntmps22 rfl rfl (fun w0=>?_)
 refine zm2 ?_
 refine TL.box rfl rfl (fun b1=>?_)
 refine zm1 ?_;refine zm7 ?_;refine oe ?_
 refine aV rfl ?_ ?_<;>intro c7
 ·
  refine jp ?_
  refine aA rfl rfl rfl rfl (fun b11=>?_)
  refine TL.append (enc:=I64.cells) rfl rfl rfl (OwnSl.nil (enc:=I64.cells)) (Src.own [s.term] (.here _) rfl rfl) sq rfl (.new _ rfl) rfl (fun a12 c12 ob12 hO12=>?_)
  refine kW ?_;refine iN ?_
  refine TL.append (enc:=I64.cells) rfl rfl rfl hO12 (Src.sl ha) (by simp;omega) rfl (.skip _ (.skip _ .all)) rfl (fun a16 c16 ob16 hO16=>?_)
  refine kh ?_
  refine aK (V:=fun k v ob H1=>[(3,v),(4,.int .i64 k)]) (K:=[(1,_),(2,_)]) (L:=fun k v ob H1=>St [] w0 H H ((b11,_)::(b1,_)::ob)) (I:=fun k v ob H1=>(0≤k∧k≤s.casts.length)∧OwnSl 1 I64.cells v (rHd s++(s.casts.take k.toNat).flatMap (·.args)) ob∧((s.casts.take k.toNat).flatMap (·.args)).length≤6 * k.toNat) (μ:=fun k=>(s.casts.length - k).toNat) 0 _ ob16 H ky ⟨o2q,hO16.cast (by first | (rw [EF c7];simp) | (rw [It c7];simp)),by simp⟩ (fun w hw=>hw) (fun k v ob H1 hI=>?_)
  obtain⟨⟨k0,k1⟩,hO,hfl⟩:=hI
  obtain⟨va,vc,rfl⟩:=hO.form
  refine kU ?_;refine ns ?_;refine zm1 ?_
  refine af rfl ?_ ?_<;>intro c21
  ·
   obtain⟨x,hx⟩:=aj (l:=s.casts) k0 c21
   have hxa:=hs.cs x (List.mem_of_getElem? hx)
   have hx6:=hl3 x (List.mem_of_getElem? hx)
   refine fi ?_;refine jz ?_;refine kH ?_;refine tK ?_;refine zm5 ?_
   refine TL.run (aT hc hx rfl rfl) rfl (TL.append (enc:=I64.cells) rfl rfl rfl hO (Src.sl hxa) (by have hh:=yV s;simp only [List.length_append];omega) rfl (.skip _ (.skip _ .all)) rfl (fun a31 c31 ob31 hO31=>?_))
   refine iW ?_
   exact ay (k+1) _ ob31 H ⟨o2q,hO31.cast (by rw [bi k0 hx,List.flatMap_append];simp),by rw [bi k0 hx,List.flatMap_append,List.length_append];simp only [List.flatMap_cons,List.flatMap_nil,List.append_nil];omega⟩ ky (fun w hw=>hw) om
  refine jA ?_
  exact cf (.inr rfl) (ad rfl (RVal.tmp rfl)) (.skip _ (.skip _ .all)) ⟨rfl,hO.cast (by rw [aX c21 k0,lL])⟩
 refine lm ?_;refine fj ?_
 refine TL.append (enc:=I64.cells) rfl rfl rfl (OwnSl.nil (enc:=I64.cells)) (Src.sl ha) (by simp;omega) rfl (.new _ rfl) rfl (fun a16 c16 ob16 hO16=>?_)
 refine kh ?_
 refine aK (V:=fun k v ob H1=>[(3,v),(4,.int .i64 k)]) (K:=[(1,_),(2,_)]) (L:=fun k v ob H1=>St [] w0 H H ((b1,_)::ob)) (I:=fun k v ob H1=>(0≤k∧k≤s.casts.length)∧OwnSl 1 I64.cells v (rHd s++(s.casts.take k.toNat).flatMap (·.args)) ob∧((s.casts.take k.toNat).flatMap (·.args)).length≤6 * k.toNat) (μ:=fun k=>(s.casts.length - k).toNat) 0 _ ob16 H ky ⟨o2q,hO16.cast (by first | (rw [EF c7];simp) | (rw [It c7];simp)),by simp⟩ (fun w hw=>hw) (fun k v ob H1 hI=>?_)
 obtain⟨⟨k0,k1⟩,hO,hfl⟩:=hI
 obtain⟨va,vc,rfl⟩:=hO.form
 refine jO ?_;refine ns ?_;refine zm1 ?_
 refine af rfl ?_ ?_<;>intro c21
 ·
  obtain⟨x,hx⟩:=aj (l:=s.casts) k0 c21
  have hxa:=hs.cs x (List.mem_of_getElem? hx)
  have hx6:=hl3 x (List.mem_of_getElem? hx)
  refine fi ?_;refine qQ ?_;refine tK ?_;refine zm5 ?_
  refine TL.run (aT hc hx rfl rfl) rfl (TL.append (enc:=I64.cells) rfl rfl rfl hO (Src.sl hxa) (by have hh:=yV s;simp only [List.length_append];omega) rfl (.skip _ .all) rfl (fun a31 c31 ob31 hO31=>?_))
  refine iW ?_
  exact ay (k+1) _ ob31 H ⟨o2q,hO31.cast (by rw [bi k0 hx,List.flatMap_append];simp),by rw [bi k0 hx,List.flatMap_append,List.length_append];simp only [List.flatMap_cons,List.flatMap_nil,List.append_nil];omega⟩ ky (fun w hw=>hw) om
 refine jA ?_
 exact cf (.inr rfl) (ad rfl (RVal.tmp rfl)) (.skip _ .all) ⟨rfl,hO.cast (by rw [aX c21 k0,lL])⟩
theorem nZ {H:Hp}(s:SStep)(hs:StepOk H s)(hl:s.ways.length≤1000000000):
  FnO Tryz.prog 58 [.agg s.cells.toArray] H (fun v H1 ob=>H1=H∧OwnSl 1 I64.cells v (dR s) ob):=by
 have hw:=hs.w
 have hmw:=hw.max
 refine FnO.enter Tryz.func58 Tryz.ntmps58 rfl rfl (fun w0=>?_)
 refine zm2 ?_
 refine TL.box rfl rfl (fun b1=>?_)
 refine ti ?_
 refine aK (V:=fun k v ob H1=>[(3,v),(4,.int .i64 k)]) (K:=[(1,_),(2,_)]) (L:=fun k v ob H1=>St [] w0 H H ((b1,_)::ob)) (I:=fun k v ob H1=>(0≤k∧k≤s.ways.length)∧OwnSl 1 I64.cells v ((s.ways.take k.toNat).map (·.next)) ob) (μ:=fun k=>(s.ways.length - k).toNat) 0 (.slice none 0 0) [] H ky ⟨o2q,OwnSl.nil⟩ (fun w hw=>hw) (fun k v ob H1 hI=>?_)
 obtain⟨⟨k0,k1⟩,hO⟩:=hI
 obtain⟨va,vc,rfl⟩:=hO.form
 refine jO ?_;refine TL.run (ah rfl rfl hw) rfl (zm1 ?_)
 refine af rfl ?_ ?_<;>intro c9
 ·
  obtain⟨x,hx⟩:=aj (l:=s.ways) k0 c9
  refine fi ?_;refine qQ ?_;refine zR ?_
  refine aA rfl rfl rfl rfl (fun b19=>?_)
  refine TL.append (enc:=I64.cells) rfl rfl rfl hO (Src.own [x.next] (.here _) rfl rfl) (by simp;omega) rfl (.skip _ (.skip _ .all)) rfl (fun a20 c20 ob20 hO20=>?_)
  refine iW ?_
  exact ay (k+1) _ ob20 H ⟨o2q,by rw [bv k0 hx];exact hO20⟩ ky (fun w hw=>hw.drop) om
 have htk:(s.ways.take k.toNat).length≤1000000000:=by rw [List.length_take];omega
 refine iB ?_;refine fC ?_;refine ar (ab rfl rfl rfl rfl) (yl s.kind) rfl (zm1 ?_)
 refine TC.cond rfl ?_ ?_<;>intro c24
 ·
  refine jp ?_
  refine aA rfl rfl rfl rfl (fun b28=>?_)
  refine TL.append (enc:=I64.cells) rfl rfl rfl hO (Src.own [s.next] (.here _) rfl rfl) (by simp;omega) rfl (.skip _ (.skip _ .all)) rfl (fun a29 c29 ob29 hO29=>?_)
  refine zm1 ?_;refine oi ?_
  exact cf (.inr rfl) (ad rfl (RVal.tmp rfl)) (.skip _ (.skip _ .all)) ⟨rfl,hO29.cast (by unfold dR;rw [if_neg (by rw [gD c24];decide),aX c9 k0])⟩
 refine dn ?_;refine oi ?_
 exact cf (.inr rfl) (ad rfl (RVal.tmp rfl)) (.skip _ .all) ⟨rfl,hO.cast (by unfold dR;rw [if_pos (eX c24),aX c9 k0,List.append_nil])⟩
theorem yk {H:Hp}(s:SStep)(hs:StepOk H s):
  FnS Tryz.prog 150 [.agg s.cells.toArray] H (.bool (rP s)):=by
 have hw:=hs.w
 have hmw:=hw.max
 refine FnS.enter Tryz.func150 Tryz.ntmps150 rfl rfl (fun w0=>?_)
 refine zm2 ?_
 refine TL.box rfl rfl (fun b1=>?_)
 refine iM ?_
 refine a7 (!decide (s.kind=3)&& !decide (s.kind=5)) 13 [(1,_),(2,_)] ⟨rfl,rfl,trivial⟩ ?_ ?_
 ·
  refine kV ?_
  refine ag (s:=9) rfl ?_ ?_<;>intro g9
  ·
   have q9:=aQ g9
   refine oL ?_
   exact aB rfl (by simp_all) ⟨rfl,rfl,trivial⟩
  have q9:=aM g9
  refine iC ?_
  exact aB rfl (by simp_all) ⟨rfl,rfl,trivial⟩
 refine TC.cond rfl ?_ ?_<;>intro c13
 · refine ry ?_;refine gm ?_;exact aF (ao (.inr rfl) (ad rfl (RVal.tmp rfl)) (congrArg Value.bool ((CJ (by simp_all)).symm)))
 refine gp ?_;refine oe ?_
 refine af rfl ?_ ?_<;>intro c20
 ·
  refine ry ?_;refine zm3 ?_
  refine ag (s:=25) rfl ?_ ?_<;>intro g25
  ·
   have q25:=of_decide_eq_true g25
   obtain⟨w0,h0⟩:=aj (l:=s.ways) (i:=0) dq om
   obtain⟨w1,h1⟩:=aj (l:=s.ways) (i:=1) dq om
   refine rv ?_;refine aw rfl rfl (aT hw h0 rfl rfl) rfl (tM ?_)
   refine ag (s:=33) rfl ?_ ?_<;>intro g33
   ·
    have q33:=of_decide_eq_true g33
    refine rv ?_;refine aw rfl rfl (aT hw h0 rfl rfl) rfl (tM ?_)
    refine ag (s:=41) rfl ?_ ?_<;>intro g41
    ·
     have q41:=of_decide_eq_true g41
     refine rv ?_;refine aw rfl rfl (aT hw h1 rfl rfl) rfl (tM ?_)
     refine ag (s:=49) rfl ?_ ?_<;>intro g49
     ·
      have q49:=of_decide_eq_true g49
      refine rv ?_;refine aw rfl rfl (aT hw h1 rfl rfl) rfl (nI ?_);refine gm ?_
      exact aF (ao (.inr rfl) (ad rfl (RVal.tmp rfl)) (congrArg Value.bool ((by rw [jC (.inl c20)];first | exact pT c20 h0 h1 (by simp_all [mi]) | exact mp c20 g25))))
     have q49:=of_decide_eq_false g49
     refine dE ?_;refine rF ?_;exact aF (ao (.inr rfl) (ad rfl (RVal.tmp rfl)) (congrArg Value.bool ((by rw [jC (.inl c20)];first | exact pT c20 h0 h1 (by simp_all [mi]) | exact mp c20 g25))))
    have q41:=of_decide_eq_false g41
    refine wu ?_;refine rF ?_;exact aF (ao (.inr rfl) (ad rfl (RVal.tmp rfl)) (congrArg Value.bool ((by rw [jC (.inl c20)];first | exact pT c20 h0 h1 (by simp_all [mi]) | exact mp c20 g25))))
   have q33:=of_decide_eq_false g33
   refine AF ?_;refine rF ?_;exact aF (ao (.inr rfl) (ad rfl (RVal.tmp rfl)) (congrArg Value.bool ((by rw [jC (.inl c20)];first | exact pT c20 h0 h1 (by simp_all [mi]) | exact mp c20 g25))))
  have q25:=of_decide_eq_false g25
  refine AF ?_;refine sS ?_;refine rF ?_
  exact aF (ao (.inr rfl) (ad rfl (RVal.tmp rfl)) (congrArg Value.bool ((by rw [jC (.inl c20)];first | exact pT c20 h0 h1 (by simp_all [mi]) | exact mp c20 g25))))
 have h35:s.kind=3∨s.kind=5:=by simp_all
 refine jn ?_
 refine TC.loop (V:=fun k=>[(3,.int .i64 k)]) (K:=[(1,_),(2,_)]) (L:=fun k=>_) (I:=fun k=>(0≤k∧k≤s.ways.length)∧s.ways.all (fun w=>!dp w)=(s.ways.drop k.toNat).all (fun w=>!dp w)∧((s.ways.map (·.label)).take k.toNat).Nodup) (μ:=fun k=>(s.ways.length - k).toNat) (i:=(0:Int)) ky ⟨o2q,rfl,List.nodup_nil⟩ (fun w hw=>hw) (fun k hI=>?_)
 obtain⟨⟨k0,k1⟩,hal,hnd⟩:=hI
 refine jO ?_;refine TL.run (ah rfl rfl hw) rfl (zm1 ?_)
 refine af rfl ?_ ?_<;>intro c61
 ·
  obtain⟨x,hx⟩:=aj (l:=s.ways) k0 c61
  refine oA ?_;refine TL.run (ae rfl hw rfl om om) rfl (TL.run (aY hw hx rfl rfl) rfl (TL.alloc rfl (fun b4=>?_)))
  refine m4 ?_
  refine a7 (dp x) 98 [(1,_),(2,_),(3,_),(4,_),(57,_),(58,_),(59,_),(60,_),(61,_),(64,_),(65,_),(66,_),(67,_),(68,_)] ky ?_ ?_
  ·
   refine ru ?_
   refine ag (s:=72) rfl ?_ ?_<;>intro g72
   ·
    have q72:=of_decide_eq_true g72
    refine kN ?_
    refine ag (s:=77) rfl ?_ ?_<;>intro g77
    ·
     have q77:=aQ g77
     refine AE ?_;refine k7 ?_;refine fM rfl rfl rfl (fM rfl rfl rfl (zM ?_));refine cu ?_
     exact aB rfl (by unfold dp;simp_all) ky
    have q77:=aM g77
    exact G8
   have q72:=of_decide_eq_false g72
   refine im ?_
   exact G8
  refine TC.cond rfl ?_ ?_<;>intro c98
  ·
   refine AA ?_
   exact ao (.inr rfl) (ad rfl (RVal.tmp rfl)) (congrArg Value.bool ((by rw [jC h35];exact(AV c20 k0 hx c98 hal).symm)))
  refine dn ?_;refine iq ?_
  refine TC.loop (V:=fun m=>[(5,.int .i64 m)]) (K:=[(1,_),(2,_),(3,_),(4,_),(57,_),(58,_),(59,_),(60,_),(61,_),(64,_),(65,_),(66,_),(67,_),(68,_),(98,_)]) (L:=fun m=>_) (I:=fun m=>0≤m∧m≤k∧∀j:Nat,j<m.toNat→(s.ways.map (·.label))[j]? ≠some x.label) (μ:=fun m=>(k - m).toNat) (i:=(0:Int)) ky ⟨by omega,by omega,fun j h=>absurd h om⟩ (fun w hw=>hw) (fun m hI=>?_)
  obtain⟨m0,m1,hI2⟩:=hI
  refine oD ?_
  refine af rfl ?_ ?_<;>intro c101
  ·
   obtain⟨y,hy⟩:=aj (l:=s.ways) m0 om
   refine sW ?_;refine TQ.run (ae rfl hw rfl om om) rfl (gl ?_);refine TQ.run (aT hw hy rfl rfl) rfl (gl ?_);refine TQ.run (aE rfl (.here _) rfl) rfl (wF ?_)
   refine af rfl ?_ ?_<;>intro c112
   ·
    refine ki ?_;refine wr ?_
    exact ao (.inr rfl) (ad rfl (RVal.tmp rfl)) (congrArg Value.bool ((by rw [jC h35];unfold gb;rw [if_neg c20,IU m0 c101 (dz hx) (by rw [dz hy,c112])];simp)))
   refine d6 ?_
   exact aD (m+1) ⟨by omega,by omega,fun j hj=>by by_cases e:j<m.toNat;exact hI2 j e;rw [show j=m.toNat by omega,dz hy];intro e2;exact c112 (by simpa using e2)⟩ ky (fun w hw=>hw) om
  refine kJ ?_
  exact aD (k+1) ⟨o2q,bC (p:=(fun w=>!dp w)) k0 hx (by simpa using c98) hal,EO k0 (dz hx) hnd c101 hI2⟩ ky (fun w hw=>hw.drop) om
 refine fN ?_;refine ry ?_;refine zm3 ?_
 refine ag (s:=117) rfl ?_ ?_<;>intro g117
 ·
  have q117:=of_decide_eq_true g117
  refine zm8 ?_;refine aw rfl rfl (ah rfl rfl hw) rfl (rt ?_)
  exact ao (.inr rfl) (ad rfl (RVal.tmp rfl)) (congrArg Value.bool ((by rw [jC h35,AT c20 k0 c61 hal hnd];first | (simp_all;done) | (simp_all;omega))))
 have q117:=of_decide_eq_false g117
 refine dE ?_;refine gm ?_
 exact ao (.inr rfl) (ad rfl (RVal.tmp rfl)) (congrArg Value.bool ((by rw [jC h35,AT c20 k0 c61 hal hnd];first | (simp_all;done) | (simp_all;omega))))
theorem vd {H:Hp}(s:SStep)(hs:StepOk H s):
  FnS Tryz.prog 151 [.agg s.cells.toArray] H (.bool (nV s)):=by
 have hc:=hs.c
 have hmc:=hc.max
 refine FnS.enter Tryz.func151 Tryz.ntmps151 rfl rfl (fun w0=>?_)
 refine zm2 ?_
 refine TL.box rfl rfl (fun b1=>?_)
 refine iM ?_;refine oe ?_
 refine aV rfl ?_ ?_<;>intro c7
 · refine fC ?_;refine ns ?_;refine gm ?_;exact aF (ao (.inr rfl) (ad rfl (RVal.tmp rfl)) (congrArg Value.bool ((by unfold nV;rw [if_neg c7]))))
 refine jn ?_
 refine TC.loop (V:=fun k=>[(3,.int .i64 k)]) (K:=[(1,_),(2,_)]) (L:=fun k=>_) (I:=fun k=>(0≤k∧k≤s.casts.length)∧s.casts.all (fun c=>!cV c)=(s.casts.drop k.toNat).all (fun c=>!cV c)) (μ:=fun k=>(s.casts.length - k).toNat) (i:=(0:Int)) ky ⟨o2q,rfl⟩ (fun w hw=>hw) (fun k hI=>?_)
 obtain⟨⟨k0,k1⟩,hal⟩:=hI
 refine jO ?_;refine ns ?_;refine zm1 ?_
 refine af rfl ?_ ?_<;>intro c16
 ·
  obtain⟨x,hx⟩:=aj (l:=s.casts) k0 c16
  have hxa:=hs.cs x (List.mem_of_getElem? hx)
  refine oA ?_;refine tK ?_;refine TL.run (aY hc hx rfl rfl) rfl (TL.alloc rfl (fun b4=>?_))
  refine ik ?_
  refine a7 (cV x) 39 [(1,_),(2,_),(3,_),(4,_),(12,_),(13,_),(14,_),(15,_),(16,_),(19,_),(20,_),(21,_),(22,_),(23,_)] ky ?_ ?_
  ·
   refine mX ?_;refine ar (ab rfl rfl rfl rfl) (cR x.role) rfl (zm3 ?_)
   refine ag (s:=28) rfl ?_ ?_<;>intro g28
   ·
    refine tJ ?_
    exact aB rfl (by unfold cV;simp_all) ky
   refine zm8 ?_;refine aH rfl rfl (ab rfl rfl rfl rfl) (cR x.proc) rfl (cM ?_)
   refine ag (s:=34) rfl ?_ ?_<;>intro g34
   ·
    refine kR ?_
    exact aB rfl (by unfold cV;simp_all) ky
   refine zm8 ?_;refine aw rfl rfl (ah rfl rfl hxa) rfl (ef ?_)
   exact aB rfl (by unfold cV;simp_all) ky
  refine TC.cond rfl ?_ ?_<;>intro c39
  ·
   refine kX ?_
   exact ao (.inr rfl) (ad rfl (RVal.tmp rfl)) (congrArg Value.bool ((by unfold nV;rw [if_pos c7,ce (p:=(fun c=>!cV c)) k0 hx (by simp [c39]) hal];simp)))
  refine d6 ?_
  exact aD (k+1) ⟨o2q,bC (p:=(fun c=>!cV c)) k0 hx (by simpa using c39) hal⟩ ky (fun w hw=>hw.drop) om
 refine fN ?_;refine fC ?_;refine ns ?_;refine zm3 ?_
 refine ag (s:=44) rfl ?_ ?_<;>intro g44
 ·
  have q44:=of_decide_eq_true g44
  refine zm8 ?_;refine aw rfl rfl (ah rfl rfl hc) rfl (rt ?_)
  exact ao (.inr rfl) (ad rfl (RVal.tmp rfl)) (congrArg Value.bool ((by unfold nV;rw [if_pos c7,bU (p:=(fun c=>!cV c)) k0 c16 hal];first | (simp_all;done) | (simp_all;omega))))
 have q44:=of_decide_eq_false g44
 refine dE ?_;refine gm ?_
 exact ao (.inr rfl) (ad rfl (RVal.tmp rfl)) (congrArg Value.bool ((by unfold nV;rw [if_pos c7,bU (p:=(fun c=>!cV c)) k0 c16 hal];first | (simp_all;done) | (simp_all;omega))))
theorem zt {H:Hp}(s:SStep)(hs:StepOk H s):
  FnS Tryz.prog 104 [.agg s.cells.toArray] H (.bool (dy s)):=by
 have ha:=hs.a
 have hma:=ha.max
 refine FnS.enter Tryz.func104 Tryz.ntmps104 rfl rfl (fun w0=>?_)
 refine zm2 ?_
 refine TL.box rfl rfl (fun b1=>?_)
 refine iM ?_
 refine a7 (decide (s.kind<0)||decide (10<s.kind)) 14 [(1,_),(2,_)] ⟨rfl,rfl,trivial⟩ ?_ ?_
 ·
  refine kV ?_
  refine ag (s:=10) rfl ?_ ?_<;>intro g10
  ·
   have q10:=of_decide_eq_true g10
   refine iC ?_
   exact aB rfl (by first | (simp_all;done) | (simp_all;omega)) ⟨rfl,rfl,trivial⟩
  have q10:=of_decide_eq_false g10
  refine oL ?_
  exact aB rfl (by first | (simp_all;done) | (simp_all;omega)) ⟨rfl,rfl,trivial⟩
 refine TC.cond rfl ?_ ?_<;>intro c14
 ·
  refine gq ?_
  exact ao (.inr rfl) (ad rfl (RVal.tmp rfl)) (congrArg Value.bool (by first | exact FC c14 | exact FB c14 c92 | exact FA c14 c92 c116 | exact Fz c14 c92 c116 c124 | exact Fy c14 c92 c116 c124 c127 | exact Fw c14 c92 c116 c124 c127))
 refine dn ?_
 refine a7 (nE s.kind) 3 [(1,_),(2,_)] ⟨rfl,rfl,trivial⟩ ?_ ?_
 ·
  refine kV ?_
  refine ag (s:=18) rfl ?_ ?_<;>intro g18
  ·
   have q18:=of_decide_eq_true g18
   refine im ?_;refine im ?_;refine As ?_
   exact aB rfl (by unfold nE;simp_all) ⟨rfl,rfl,trivial⟩
  have q18:=of_decide_eq_false g18
  refine m6 ?_
  refine ag (s:=23) rfl ?_ ?_<;>intro g23
  ·
   have q23:=of_decide_eq_true g23
   refine im ?_;refine As ?_
   exact aB rfl (by unfold nE;simp_all) ⟨rfl,rfl,trivial⟩
  have q23:=of_decide_eq_false g23
  refine m6 ?_
  refine ag (s:=28) rfl ?_ ?_<;>intro g28
  ·
   have q28:=of_decide_eq_true g28
   refine As ?_
   exact aB rfl (by unfold nE;simp_all) ⟨rfl,rfl,trivial⟩
  have q28:=of_decide_eq_false g28
  refine m6 ?_
  refine ag (s:=33) rfl ?_ ?_<;>intro g33
  ·
   have q33:=of_decide_eq_true g33
   refine sT ?_
   exact aB rfl (by unfold nE;simp_all) ⟨rfl,rfl,trivial⟩
  have q33:=of_decide_eq_false g33
  refine m5 ?_;refine iA ?_
  exact aB rfl (by unfold nE;simp_all) ⟨rfl,rfl,trivial⟩
 refine a7 (yd s.kind) 4 [(1,_),(2,_),(3,_)] ky ?_ ?_
 ·
  refine kV ?_
  refine ag (s:=41) rfl ?_ ?_<;>intro g41
  ·
   have q41:=of_decide_eq_true g41
   refine As ?_
   exact aB rfl (by unfold yd;simp_all) ky
  have q41:=of_decide_eq_false g41
  refine m6 ?_
  refine ag (s:=46) rfl ?_ ?_<;>intro g46
  ·
   have q46:=of_decide_eq_true g46
   refine sT ?_
   exact aB rfl (by unfold yd;simp_all) ky
  have q46:=of_decide_eq_false g46
  refine m5 ?_;refine iA ?_
  exact aB rfl (by unfold yd;simp_all) ky
 refine a7 (uZ s.kind) 5 [(1,_),(2,_),(3,_),(4,_)] ky ?_ ?_
 ·
  refine kV ?_
  refine ag (s:=54) rfl ?_ ?_<;>intro g54
  ·
   have q54:=of_decide_eq_true g54
   refine sT ?_
   exact aB rfl (by unfold uZ;simp_all) ky
  have q54:=of_decide_eq_false g54
  refine m5 ?_;refine iA ?_
  exact aB rfl (by unfold uZ;simp_all) ky
 refine a7 (callK s.kind) 6 [(1,_),(2,_),(3,_),(4,_),(5,_)] ky ?_ ?_
 ·
  refine kV ?_
  refine ag (s:=62) rfl ?_ ?_<;>intro g62
  ·
   have q62:=of_decide_eq_true g62
   refine sT ?_
   exact aB rfl (by unfold callK;simp_all) ky
  have q62:=of_decide_eq_false g62
  refine m5 ?_;refine iA ?_
  exact aB rfl (by unfold callK;simp_all) ky
 refine TC.seq (a7 (!gv s) 92 [(1,_),(2,_),(6,_)] ky ?_ ?_)
 ·
  refine wz ?_;refine ar (ab rfl rfl rfl rfl) (mK s.name _) rfl (zm3 ?_)
  refine ag (s:=72) rfl ?_ ?_<;>intro g72
  ·
   refine lh ?_;refine k7 ?_;refine cC ?_;refine k7 ?_;refine cC ?_;refine cu ?_
   exact aB rfl (by unfold gv;simp_all) ky
  refine m5 ?_;refine aH rfl rfl (ab rfl rfl rfl rfl) (mK s.peer _) rfl (cM ?_)
  refine ag (s:=79) rfl ?_ ?_<;>intro g79
  ·
   refine lh ?_;refine k7 ?_;refine cC ?_;refine cu ?_
   exact aB rfl (by unfold gv;simp_all) ky
  refine m5 ?_;refine aH rfl rfl (ab rfl rfl rfl rfl) (mK s.label _) rfl (cM ?_)
  refine ag (s:=86) rfl ?_ ?_<;>intro g86
  ·
   refine tC ?_
   exact aB rfl (by unfold gv;simp_all) ky
  refine m5 ?_;refine aH rfl rfl (ab rfl rfl rfl rfl) (mK s.proc _) rfl (ef ?_)
  exact aB rfl (by unfold gv;simp_all) ky
 refine TC.cond rfl ?_ ?_<;>intro c92
 ·
  refine gq ?_
  exact ao (.inr rfl) (ad rfl (RVal.tmp rfl)) (congrArg Value.bool (by first | exact FC c14 | exact FB c14 c92 | exact FA c14 c92 c116 | exact Fz c14 c92 c116 c124 | exact Fy c14 c92 c116 c124 c127 | exact Fw c14 c92 c116 c124 c127))
 refine gp ?_
 refine a7 (fq s) 116 [(1,_),(2,_)] ⟨rfl,rfl,trivial⟩ ?_ ?_
 ·
  refine mX ?_;refine TL.run (ah rfl rfl ha) rfl (zm3 ?_)
  refine ag (s:=97) rfl ?_ ?_<;>intro g97
  ·
   have q97:=of_decide_eq_true g97
   refine gn ?_;refine fM rfl rfl rfl (fM rfl rfl rfl (zM ?_));refine zm3 ?_;refine im ?_;refine iC ?_
   exact aB rfl (by unfold fq;first | (simp_all;done) | (simp_all;omega)) ⟨rfl,rfl,trivial⟩
  have q97:=of_decide_eq_false g97
  refine xd ?_
  refine ag (s:=100) rfl ?_ ?_<;>intro g100
  ·
   refine zm8 ?_;refine aw rfl rfl (ah rfl rfl ha) rfl (rD ?_)
   refine ag (s:=107) rfl ?_ ?_<;>intro g107
   ·
    have q107:=of_decide_eq_true g107
    refine im ?_;refine iC ?_
    exact aB rfl (by unfold fq;first | (simp_all;done) | (simp_all;omega)) ⟨rfl,rfl,trivial⟩
   have q107:=of_decide_eq_false g107
   refine oO ?_;refine aH rfl rfl (ab rfl rfl rfl rfl) (yk s hs) rfl (cM ?_)
   refine ag (s:=112) rfl ?_ ?_<;>intro g112
   ·
    refine iC ?_
    exact aB rfl (by unfold fq;first | (simp_all;done) | (simp_all;omega)) ⟨rfl,rfl,trivial⟩
   refine oO ?_;refine aH rfl rfl (ab rfl rfl rfl rfl) (vd s hs) rfl (ef ?_)
   exact aB rfl (by unfold fq;first | (simp_all;done) | (simp_all;omega)) ⟨rfl,rfl,trivial⟩
  refine dE ?_;refine cM ?_;refine oO ?_;refine aH rfl rfl (ab rfl rfl rfl rfl) (yk s hs) rfl (cM ?_)
  refine ag (s:=112) rfl ?_ ?_<;>intro g112
  ·
   refine iC ?_
   exact aB rfl (by unfold fq;first | (simp_all;done) | (simp_all;omega)) ⟨rfl,rfl,trivial⟩
  refine oO ?_;refine aH rfl rfl (ab rfl rfl rfl rfl) (vd s hs) rfl (ef ?_)
  exact aB rfl (by unfold fq;first | (simp_all;done) | (simp_all;omega)) ⟨rfl,rfl,trivial⟩
 refine TC.cond rfl ?_ ?_<;>intro c116
 ·
  refine gq ?_
  exact ao (.inr rfl) (ad rfl (RVal.tmp rfl)) (congrArg Value.bool (by first | exact FC c14 | exact FB c14 c92 | exact FA c14 c92 c116 | exact Fz c14 c92 c116 c124 | exact Fy c14 c92 c116 c124 c127 | exact Fw c14 c92 c116 c124 c127))
 refine gp ?_
 refine a7 (jy s.kind&& !decide (s.next= -1)) 124 [(1,_),(2,_)] ⟨rfl,rfl,trivial⟩ ?_ ?_
 ·
  refine mX ?_;refine ar (ab rfl rfl rfl rfl) (yl s.kind) rfl (zm0 ?_)
  refine ag (s:=120) rfl ?_ ?_<;>intro g120
  ·
   refine oL ?_
   exact aB rfl (by simp_all) ⟨rfl,rfl,trivial⟩
  refine iC ?_
  exact aB rfl (by simp_all) ⟨rfl,rfl,trivial⟩
 refine TC.cond rfl ?_ ?_<;>intro c124
 ·
  refine gq ?_
  exact ao (.inr rfl) (ad rfl (RVal.tmp rfl)) (congrArg Value.bool (by first | exact FC c14 | exact FB c14 c92 | exact FA c14 c92 c116 | exact Fz c14 c92 c116 c124 | exact Fy c14 c92 c116 c124 c127 | exact Fw c14 c92 c116 c124 c127))
 refine gp ?_;refine fC ?_;refine TL.nil (ai (TC.block (a7 (decide (s.kind=1)||(decide (s.kind=2)||(decide (s.kind=3)||decide (s.kind=4)))) 127 [(1,_),(2,_)] ⟨rfl,rfl,trivial⟩ ?_ ?_)))
 · refine Ek ?_;exact cg (aG rfl) rfl rfl ⟨rfl,rfl,trivial⟩ (ei (aG rfl) rfl rfl ⟨rfl,rfl,trivial⟩)
 refine TC.cond rfl ?_ ?_<;>intro c127
 ·
  refine ki ?_
  exact ao (.inr rfl) (ad rfl (RVal.tmp rfl)) (congrArg Value.bool (by first | exact FC c14 | exact FB c14 c92 | exact FA c14 c92 c116 | exact Fz c14 c92 c116 c124 | exact Fy c14 c92 c116 c124 c127 | exact Fw c14 c92 c116 c124 c127))
 refine TC.skip (bn (ai (fC ?_)));refine gm ?_
 exact ao (.inr rfl) (ad rfl (RVal.tmp rfl)) (congrArg Value.bool (by first | exact FC c14 | exact FB c14 c92 | exact FA c14 c92 c116 | exact Fz c14 c92 c116 c124 | exact Fy c14 c92 c116 c124 c127 | exact Fw c14 c92 c116 c124 c127))
theorem zr {H:Hp}(q:SProc)(hQ:ProcOk H q):
  FnS Tryz.prog 102 [.agg q.cells.toArray] H (.bool (bM q&&q.params.all dr)):=by
 have hpa:=hQ.pa
 have hpm:=hpa.max
 have ht:=hQ.t
 have hst:=hQ.s
 have htm:=ht.max
 have hsm:=hst.max
 refine FnS.enter Tryz.func102 Tryz.ntmps102 rfl rfl (fun w0=>?_)
 refine zm2 ?_
 refine TL.box rfl rfl (fun b1=>?_)
 refine iM ?_
 refine a7 (!bM q) 31 [(1,_),(2,_)] ⟨rfl,rfl,trivial⟩ ?_ ?_
 ·
  refine mX ?_;refine ar (ab rfl rfl rfl rfl) (cR q.name) rfl (zm3 ?_)
  refine ag (s:=8) rfl ?_ ?_<;>intro g8
  ·
   refine xe ?_;refine cu ?_
   exact aB rfl (by unfold bM;by_cases h1:(160:Int)<q.terms.length<;>by_cases h2:(q.terms.length:Int)≤160<;>first | (exfalso;omega) | (simp_all;done) | (simp_all;omega)) ⟨rfl,rfl,trivial⟩
  refine zm8 ?_;refine aw rfl rfl (ah rfl rfl hpa) rfl (cM ?_)
  refine ag (s:=14) rfl ?_ ?_<;>intro g14
  ·
   have q14:=of_decide_eq_true g14
   refine wt ?_;refine cu ?_
   exact aB rfl (by unfold bM;by_cases h1:(160:Int)<q.terms.length<;>by_cases h2:(q.terms.length:Int)≤160<;>first | (exfalso;omega) | (simp_all;done) | (simp_all;omega)) ⟨rfl,rfl,trivial⟩
  have q14:=of_decide_eq_false g14
  refine zm8 ?_;refine aw rfl rfl (ah rfl rfl hst) rfl (cM ?_)
  refine ag (s:=20) rfl ?_ ?_<;>intro g20
  ·
   have q20:=of_decide_eq_true g20
   refine tJ ?_
   exact aB rfl (by unfold bM;by_cases h1:(160:Int)<q.terms.length<;>by_cases h2:(q.terms.length:Int)≤160<;>first | (exfalso;omega) | (simp_all;done) | (simp_all;omega)) ⟨rfl,rfl,trivial⟩
  have q20:=of_decide_eq_false g20
  refine zm8 ?_;refine aw rfl rfl (ah rfl rfl hst) rfl (cM ?_)
  refine ag (s:=26) rfl ?_ ?_<;>intro g26
  ·
   have q26:=of_decide_eq_true g26
   refine kR ?_
   exact aB rfl (by unfold bM;by_cases h1:(160:Int)<q.terms.length<;>by_cases h2:(q.terms.length:Int)≤160<;>first | (exfalso;omega) | (simp_all;done) | (simp_all;omega)) ⟨rfl,rfl,trivial⟩
  have q26:=of_decide_eq_false g26
  refine zm8 ?_;refine aw rfl rfl (ah rfl rfl ht) rfl (ef ?_)
  exact aB rfl (by unfold bM;by_cases h1:(160:Int)<q.terms.length<;>by_cases h2:(q.terms.length:Int)≤160<;>first | (exfalso;omega) | (simp_all;done) | (simp_all;omega)) ⟨rfl,rfl,trivial⟩
 refine TC.cond rfl ?_ ?_<;>intro c31
 ·
  refine gq ?_
  exact ao (.inr rfl) (ad rfl (RVal.tmp rfl)) (congrArg Value.bool ((by rw [gD c31];rfl)))
 refine jn ?_
 refine TC.loop (V:=fun k=>[(3,.int .i64 k)]) (K:=[(1,_),(2,_)]) (L:=fun k=>_) (I:=fun k=>(0≤k∧k≤q.params.length)∧q.params.all dr=(q.params.drop k.toNat).all dr) (μ:=fun k=>(q.params.length - k).toNat) (i:=(0:Int)) ky ⟨o2q,rfl⟩ (fun w hw=>hw) (fun k hI=>?_)
 obtain⟨⟨k0,k1⟩,hal⟩:=hI
 refine jO ?_;refine TL.run (ah rfl rfl hpa) rfl (zm1 ?_)
 refine af rfl ?_ ?_<;>intro c36
 ·
  obtain⟨x,hx⟩:=aj (l:=q.params) k0 c36
  refine fi ?_
  refine a7 (!dr x) 56 [(1,_),(2,_),(3,_),(32,_),(33,_),(34,_),(35,_),(36,_)] ky ?_ ?_
  ·
   refine wz ?_;refine TL.run (ae rfl hpa rfl om om) rfl (zm5 ?_);refine TL.run (aT hpa hx rfl rfl) rfl (ar (ab rfl rfl rfl rfl) (cR x.name) rfl (zm3 ?_))
   refine ag (s:=47) rfl ?_ ?_<;>intro g47
   ·
    refine tB ?_
    exact aB rfl (by unfold dr;simp_all) ky
   refine m5 ?_;refine aw rfl rfl (ae rfl hpa rfl om om) rfl (gM ?_)
   refine aw rfl rfl (qn hpa hx rfl rfl) rfl (aH rfl rfl (ab rfl rfl rfl rfl) (jY x.ck x.cn (hQ.pz x (List.mem_of_getElem? hx))) rfl (ef ?_))
   exact aB rfl (by unfold dr;simp_all) ky
  refine TC.cond rfl ?_ ?_<;>intro c56
  ·
   refine kX ?_
   exact ao (.inr rfl) (ad rfl (RVal.tmp rfl)) (congrArg Value.bool ((by rw [ce (p:=dr) k0 hx (by simpa using c56) hal];simp)))
  refine d6 ?_
  exact aD (k+1) ⟨o2q,bC (p:=dr) k0 hx (by simpa using c56) hal⟩ ky (fun w hw=>hw) om
 refine fD ?_
 exact ao (.inr rfl) (ad rfl (RVal.tmp rfl)) (congrArg Value.bool ((by rw [bU (p:=dr) k0 c36 hal,eX c31];rfl)))
theorem u5 {H:Hp}(q:SProc)(hQ:ProcOk H q):
  FnS Tryz.prog 103 [.agg q.cells.toArray] H (.bool (!dt (q.params.map (·.name)))):=by
 have hpa:=hQ.pa
 have hpm:=hpa.max
 refine FnS.enter Tryz.func103 Tryz.ntmps103 rfl rfl (fun w0=>?_)
 refine zm2 ?_
 refine TL.box rfl rfl (fun b1=>?_)
 refine kh ?_
 refine TC.loop (V:=fun k=>[(3,.int .i64 k)]) (K:=[(1,_),(2,_)]) (L:=fun k=>_) (I:=fun k=>(0≤k∧k≤q.params.length)∧((q.params.map (·.name)).take k.toNat).Nodup) (μ:=fun k=>(q.params.length - k).toNat) (i:=(0:Int)) ky ⟨o2q,List.nodup_nil⟩ (fun w hw=>hw) (fun k hI=>?_)
 obtain⟨⟨k0,k1⟩,hnd⟩:=hI
 refine jO ?_;refine TL.run (ah rfl rfl hpa) rfl (zm1 ?_)
 refine af rfl ?_ ?_<;>intro c9
 ·
  obtain⟨x,hx⟩:=aj (l:=q.params) k0 c9
  refine fi ?_;refine iq ?_
  refine TC.loop (V:=fun m=>[(4,.int .i64 m)]) (K:=[(1,_),(2,_),(3,_),(5,_),(6,_),(7,_),(8,_),(9,_)]) (L:=fun m=>_) (I:=fun m=>0≤m∧m≤k∧∀j:Nat,j<m.toNat→(q.params.map (·.name))[j]? ≠some x.name) (μ:=fun m=>(k - m).toNat) (i:=(0:Int)) ky ⟨by omega,by omega,fun j h=>absurd h om⟩ (fun w hw=>hw) (fun m hI=>?_)
  obtain⟨m0,m1,hI2⟩:=hI
  refine oD ?_
  refine af rfl ?_ ?_<;>intro c14
  ·
   obtain⟨y,hy⟩:=aj (l:=q.params) m0 om
   refine nc ?_;refine kL ?_;refine TQ.run (ae rfl hpa rfl om om) rfl (gl ?_);refine TQ.run (aT hpa hy rfl rfl) rfl (kL ?_)
   refine TQ.run (ae rfl hpa rfl om om) rfl (gl ?_);refine TQ.run (aT hpa hx rfl rfl) rfl (wF ?_)
   refine af rfl ?_ ?_<;>intro c29
   ·
    refine ki ?_;refine wr ?_
    exact ao (.inr rfl) (ad rfl (RVal.tmp rfl)) (congrArg Value.bool ((by rw [IU m0 c14 (dz hx) (by rw [dz hy,c29])];rfl)))
   refine d6 ?_
   exact aD (m+1) ⟨by omega,by omega,fun j hj=>by by_cases e:j<m.toNat;exact hI2 j e;rw [show j=m.toNat by omega,dz hy];intro e2;exact c29 (by simpa using e2)⟩ ky (fun w hw=>hw) om
  refine kJ ?_
  exact aD (k+1) ⟨o2q,EO k0 (dz hx) hnd c14 hI2⟩ ky (fun w hw=>hw) om
 refine fD ?_
 exact ao (.inr rfl) (ad rfl (RVal.tmp rfl)) (congrArg Value.bool ((by rw [IT k0 (BI c9) hnd];rfl)))
theorem pA {H:Hp}(q:SProc)(hQ:ProcOk H q)(hz:se q)(h1:1≤q.steps.length)(h80:q.steps.length≤80):
  FnO Tryz.prog 53 [.agg q.cells.toArray] H (fun v H1 ob=>OwnSl 1 I64.cells v (gC q) ob):=by
 refine FnO.enter Tryz.func53 Tryz.ntmps53 rfl rfl (fun w0=>?_)
 refine zm2 ?_
 refine TL.box rfl rfl (fun b1=>?_)
 refine z8 ?_;refine TL.run (ah rfl rfl hQ.s) rfl (fh rfl rfl (by first | omega | decide) (by first | omega | decide) (by first | omega | decide) rfl (fun b12=>?_))
 refine kh ?_
 refine TC.loop (V:=fun k=>[(4,.int .i64 k)]) (K:=[(1,_),(2,_),(3,_)]) (L:=fun k=>St [] w0 H H ((b12,(vR q.steps.length k.toNat).map (Value.int .i64))::(b1,q.cells)::[])) (I:=fun k=>0≤k∧k≤q.steps.length) (μ:=fun k=>(q.steps.length - k).toNat) (i:=(0:Int)) ky o2q (fun w hw=>by rw [my] at hw;exact hw) (fun k hI=>?_)
 obtain⟨k0,k1⟩:=hI
 have hpl:=IM (n:=q.steps.length) (k:=k.toNat) om
 refine fk ?_;refine lz ?_;refine zm1 ?_
 refine af rfl ?_ ?_<;>intro c16
 ·
  refine fi ?_;refine mW ?_;refine eD ?_;refine br rfl rfl rfl (.here _) (by simp [vR];omega) rfl (nj ?_)
  exact aD (k+1) o2q ky (fun w hw=>by have hw2:=hw;rw [jF,IL k0 c16] at hw2;exact hw2) om
 refine tL ?_;refine eD ?_;refine br rfl rfl rfl (.here _) (by simp [vR];omega) rfl (TL.nil ?_)
 rw [jF,IN c16 om]
 refine ai (jm ?_);refine TL.run (ah rfl rfl hQ.s) rfl (fh rfl rfl (by first | omega | decide) (by first | omega | decide) (by first | omega | decide) rfl (fun b27=>?_))
 refine cu ?_
 rw [my]
 refine ai (ra ?_)
 refine aK (V:=fun(p:Int×List Int×List Int) v ob H1=>[(6,.int .i64 p.1)]) (K:=[(1,_),(2,_),(3,_),(5,_)]) (L:=fun(p:Int×List Int×List Int) v ob H1=>St [] w0 H H1 ((b27,(p.2.2).map (Value.int .i64))::(b12,(p.2.1).map (Value.int .i64))::(b1,q.cells)::[])) (I:=fun(p:Int×List Int×List Int) v ob H1=>(0≤p.1∧p.1≤q.steps.length)∧H.le H1∧(p.2.1.length=q.steps.length∧p.2.2.length=q.steps.length)∧gC q=(eV q.steps.length (q.steps.drop p.1.toNat) p.1 p.2).1) (μ:=fun(p:Int×List Int×List Int)=>(q.steps.length - p.1).toNat) ((0:Int),j3 q.steps.length) .nilFunc [] H ky ⟨o2q,Hp.le.refl _,⟨by simp [j3],by simp [j3]⟩,rfl⟩ (fun w hw=>hw) (fun p v ob H1 hI=>?_)
 obtain⟨⟨k0,k1⟩,hle,⟨ho1,hc1⟩,hS⟩:=hI
 obtain⟨k,p⟩:=p
 dsimp only at *
 replace hQ:=hQ.le hle
 refine ww ?_;refine TL.run (ah rfl rfl hQ.s) rfl (zm1 ?_)
 refine af rfl ?_ ?_<;>intro c32
 ·
  obtain⟨s,hx⟩:=aj (l:=q.steps) k0 c32
  have hs:=hQ.ss s (List.mem_of_getElem? hx)
  refine dv ?_;refine sX ?_;refine Ar ?_
  refine bD (ab rfl rfl rfl rfl) (nZ s hs (hz s (List.mem_of_getElem? hx))) rfl (fun v40 H40 ob40 hle40 hp40=>?_)
  obtain⟨eH40,hO40⟩:=hp40
  subst H40
  obtain⟨a40,c40,rfl⟩:=hO40.form
  refine TL.pubO hO40 (.s2 (.skip _ .all)) sq (fun HP40 leP40 hR40=>?_)
  replace hle:=hle.trans leP40
  have hR40m:=hR40.max
  refine zT ?_
  refine TC.loop (V:=fun(e:Int×List Int×List Int)=>[(8,.int .i64 e.1)]) (K:=[(1,_),(2,_),(3,_),(5,_),(6,_),(7,_),(28,_),(29,_),(30,_),(31,_),(32,_),(35,_),(36,_),(37,_),(38,_),(39,_),(40,_)]) (L:=fun(e:Int×List Int×List Int)=>St [] w0 H HP40 ((b27,(e.2.2).map (Value.int .i64))::(b12,(e.2.1).map (Value.int .i64))::(b1,q.cells)::[])) (I:=fun(e:Int×List Int×List Int)=>(0≤e.1∧e.1≤(dR s).length)∧(e.2.1.length=q.steps.length∧e.2.2.length=q.steps.length)∧dJ q.steps.length k (dR s) p=dJ q.steps.length k ((dR s).drop e.1.toNat) e.2) (μ:=fun(e:Int×List Int×List Int)=>((dR s).length - e.1).toNat) (i:=((0:Int),p)) ky ⟨o2q,⟨ho1,hc1⟩,rfl⟩ (fun w hw=>hw) (fun(e:Int×List Int×List Int) hI=>?_)
  obtain⟨⟨j0,j1⟩,⟨ho2,hc2⟩,hG⟩:=hI
  refine fk ?_;refine TL.run (ah rfl rfl hR40) rfl (zm1 ?_)
  refine af rfl ?_ ?_<;>intro c44
  ·
   obtain⟨y,hy⟩:=aj (l:=dR s) j0 c44
   refine fi ?_
   refine TC.seq (a7 (decide (y≤k)||decide ((q.steps.length:Int)≤y)) 61 [(1,_),(2,_),(3,_),(5,_),(6,_),(7,_),(8,_),(28,_),(29,_),(30,_),(31,_),(32,_),(35,_),(36,_),(37,_),(38,_),(39,_),(40,_),(41,_),(42,_),(43,_),(44,_)] ky ?_ ?_)
   ·
    refine mW ?_;refine zQ ?_;refine rf ?_
    refine ag (s:=53) rfl ?_ ?_<;>intro g53
    ·
     have q53:=of_decide_eq_true g53
     refine sZ ?_
     exact aB rfl (by first | (simp_all;done) | (simp [*];done) | (simp_all;omega)) ky
    have q53:=of_decide_eq_false g53
    refine eG ?_;refine aw rfl rfl (ae rfl hR40 rfl om om) rfl (aw rfl rfl (aL hR40 hy rfl rfl) rfl (cv ?_));refine aw rfl rfl (ij rfl rfl) rfl (ef ?_)
    exact aB rfl (by first | (simp_all;done) | (simp [*];done) | (simp_all;omega)) ky
   refine TC.cond rfl ?_ ?_<;>intro c61
   ·
    refine TC.exit (cI (dZ (ai ?_)));refine z2 ?_
    exact aD (e.1+1,e.2) ⟨o2q,⟨ho2,hc2⟩,IJ j0 hy c61 hG⟩ ky (fun w hw=>by have hw2:=hw;(try simp only [jF,List.set_set] at hw2);exact hw2) om
   have hyb:=Db c61
   refine AI ?_;refine zQ ?_;refine eD ?_;refine TL.run (aE rfl (.here _) (ie om)) rfl (Ap ?_);refine Av ?_;refine TL.nil ?_
   rw [jF]
   refine ai (fO ?_);refine zQ ?_;refine oz ?_;refine zO ?_;refine TL.nil (ai (fO ?_));refine zQ ?_;refine eD ?_;refine TL.run (aE rfl (.here _) (ie (by simp;omega))) rfl (zm1 ?_)
   refine af rfl ?_ ?_<;>intro c85
   ·
    refine jN ?_;refine zQ ?_;refine Hg ?_;refine nj ?_
    exact aD (e.1+1,(e.2.1.set y.toNat (-2)),fU e.2.2 y) ⟨o2q,⟨by rw [List.length_set];exact ho2,by rw [kw];exact hc2⟩,pgo_T j0 hy c61 c85 hG⟩ ky (fun w hw=>by have hw2:=hw;(try simp only [jF,List.set_set] at hw2);exact hw2) om
   refine d6 ?_
   exact aD (e.1+1,(e.2.1.set y.toNat k),fU e.2.2 y) ⟨o2q,⟨by rw [List.length_set];exact ho2,by rw [kw];exact hc2⟩,pgo_F j0 hy c61 c85 hG⟩ ky (fun w hw=>by have hw2:=hw;(try simp only [jF,List.set_set] at hw2);exact hw2) om
  refine kJ ?_
  exact ay (i:=(k,p)) (k+1,e.2) .nilFunc [] HP40 ⟨o2q,hle,⟨ho2,hc2⟩,by rw [← pgo_end j0 c44 hG];exact FZ k0 hx hS⟩ ky (fun w hw=>hw) om
 refine jA ?_
 exact cf (.inr rfl) (ad rfl (RVal.tmp rfl)) (.take (.h1) rfl) ((OwnSl.blk (enc:=I64.cells) (n:=q.steps.length) p.1 ho1.symm (ym _) om).cast (IK k0 c32 hS).symm)
theorem Ct {H:Hp}(k:Int):
  FnS Tryz.prog 198 [.int .i64 k] H (.int .i64 (al k)):=by
 refine FnS.enter Tryz.func198 Tryz.ntmps198 rfl rfl (fun w0=>?_)
 refine zm7 ?_;refine TC.block (a7 (decide (k<0)||decide (19<k)) 3 [(0,_),(2,_)] ⟨rfl,rfl,trivial⟩ ?_ ?_)
 ·
  refine jN ?_
  refine ag (s:=6) rfl ?_ ?_<;>intro g6
  ·
   have q6:=of_decide_eq_true g6
   refine jL ?_;refine iA ?_
   exact aB rfl (by first | (simp only [*,Bool.or_false,Bool.false_or,Bool.true_or,Bool.or_true,Bool.and_true,Bool.true_and,Bool.false_and,Bool.and_false,Bool.not_true,Bool.not_false,Bool.not_not];done) | (simp_all [];done) | (simp_all [];omega)) ⟨rfl,rfl,trivial⟩
  have q6:=of_decide_eq_false g6
  refine eG ?_;refine iA ?_
  exact aB rfl (by first | (simp only [*,Bool.or_false,Bool.false_or,Bool.true_or,Bool.or_true,Bool.and_true,Bool.true_and,Bool.false_and,Bool.and_false,Bool.not_true,Bool.not_false,Bool.not_not];done) | (simp_all [];done) | (simp_all [];omega)) ⟨rfl,rfl,trivial⟩
 refine TC.cond rfl ?_ ?_<;>intro c3
 ·
  refine ki ?_
  exact ao (.inr rfl) (ad rfl (RVal.tmp rfl)) (congrArg (Value.int .i64) (by simp only [Bool.or_eq_true,Bool.or_eq_false_iff,decide_eq_true_eq,decide_eq_false_iff_not] at *;unfold al;(repeat' split)<;>omega))
 refine dH ?_;refine zm1 ?_
 refine af rfl ?_ ?_<;>intro c10
 ·
  refine ki ?_
  exact ao (.inr rfl) (ad rfl (RVal.tmp rfl)) (congrArg (Value.int .i64) (by simp only [Bool.or_eq_true,Bool.or_eq_false_iff,decide_eq_true_eq,decide_eq_false_iff_not] at *;unfold al;(repeat' split)<;>omega))
 refine a7 (decide (k=15)||decide (k=16)) 13 [(2,_)] ⟨rfl,trivial⟩ ?_ ?_
 ·
  refine jN ?_
  refine ag (s:=16) rfl ?_ ?_<;>intro g16
  ·
   have q16:=of_decide_eq_true g16
   refine jL ?_;refine iA ?_
   exact aB rfl (by first | (simp only [*,Bool.or_false,Bool.false_or,Bool.true_or,Bool.or_true,Bool.and_true,Bool.true_and,Bool.false_and,Bool.and_false,Bool.not_true,Bool.not_false,Bool.not_not];done) | (simp_all [];done) | (simp_all [];omega)) ⟨rfl,trivial⟩
  have q16:=of_decide_eq_false g16
  refine eG ?_;refine iA ?_
  exact aB rfl (by first | (simp only [*,Bool.or_false,Bool.false_or,Bool.true_or,Bool.or_true,Bool.and_true,Bool.true_and,Bool.false_and,Bool.and_false,Bool.not_true,Bool.not_false,Bool.not_not];done) | (simp_all [];done) | (simp_all [];omega)) ⟨rfl,trivial⟩
 refine TC.cond rfl ?_ ?_<;>intro c13
 ·
  refine ki ?_
  exact ao (.inr rfl) (ad rfl (RVal.tmp rfl)) (congrArg (Value.int .i64) (by simp only [Bool.or_eq_true,Bool.or_eq_false_iff,decide_eq_true_eq,decide_eq_false_iff_not] at *;unfold al;(repeat' split)<;>omega))
 refine rE ?_
 exact ao (.inr rfl) (ad rfl (RVal.tmp rfl)) (congrArg (Value.int .i64) (by simp only [Bool.or_eq_true,Bool.or_eq_false_iff,decide_eq_true_eq,decide_eq_false_iff_not] at *;unfold al;(repeat' split)<;>omega))
theorem Jy {H:Hp}(t:Term)(hn:t.name.length≤9223372036854775807):
  FnS Tryz.prog 197 [.agg t.cells.toArray] H (.bool (f9 t)):=by
 refine FnS.enter Tryz.func197 Tryz.ntmps197 rfl rfl (fun w0=>?_)
 refine zm2 ?_
 refine TL.box rfl rfl (fun b1=>?_)
 refine z8 ?_;refine ar (ab rfl rfl rfl rfl) (Ct t.kind) rfl (iM ?_)
 refine a7 (fJ t) 29 [(1,_),(2,_)] ⟨rfl,rfl,trivial⟩ ?_ ?_
 ·
  refine jN ?_
  refine ag (s:=12) rfl ?_ ?_<;>intro g12
  ·
   have q12:=of_decide_eq_true g12
   refine gn ?_;refine AN ?_;refine zm3 ?_;refine gn ?_;refine AN ?_;refine cu ?_
   exact aB rfl (by first | (simp only [fJ, *,Bool.or_false,Bool.false_or,Bool.true_or,Bool.or_true,Bool.and_true,Bool.true_and,Bool.false_and,Bool.and_false,Bool.not_true,Bool.not_false,Bool.not_not];done) | (simp_all [fJ];done) | (simp_all [fJ];omega)) ⟨rfl,rfl,trivial⟩
  have q12:=of_decide_eq_false g12
  refine xd ?_
  refine ag (s:=15) rfl ?_ ?_<;>intro g15
  ·
   have q15:=of_decide_eq_true g15
   refine lw ?_;refine zm3 ?_
   refine ag (s:=21) rfl ?_ ?_<;>intro g21
   ·
    have q21:=aQ g21
    refine gn ?_;refine AN ?_;refine cu ?_
    exact aB rfl (by first | (simp only [fJ, *,Bool.or_false,Bool.false_or,Bool.true_or,Bool.or_true,Bool.and_true,Bool.true_and,Bool.false_and,Bool.and_false,Bool.not_true,Bool.not_false,Bool.not_not];done) | (simp_all [fJ];done) | (simp_all [fJ];omega)) ⟨rfl,rfl,trivial⟩
   have q21:=aM g21
   refine xd ?_
   refine ag (s:=24) rfl ?_ ?_<;>intro g24
   ·
    have q24:=of_decide_eq_true g24
    refine lw ?_;refine cu ?_
    exact aB rfl (by first | (simp only [fJ, *,Bool.or_false,Bool.false_or,Bool.true_or,Bool.or_true,Bool.and_true,Bool.true_and,Bool.false_and,Bool.and_false,Bool.not_true,Bool.not_false,Bool.not_not];done) | (simp_all [fJ];done) | (simp_all [fJ];omega)) ⟨rfl,rfl,trivial⟩
   have q24:=of_decide_eq_false g24
   refine gn ?_;refine ef ?_
   exact aB rfl (by first | (simp only [fJ, *,Bool.or_false,Bool.false_or,Bool.true_or,Bool.or_true,Bool.and_true,Bool.true_and,Bool.false_and,Bool.and_false,Bool.not_true,Bool.not_false,Bool.not_not];done) | (simp_all [fJ];done) | (simp_all [fJ];omega)) ⟨rfl,rfl,trivial⟩
  have q15:=of_decide_eq_false g15
  refine gn ?_;refine cM ?_;refine xd ?_
  refine ag (s:=24) rfl ?_ ?_<;>intro g24
  ·
   have q24:=of_decide_eq_true g24
   refine lw ?_;refine cu ?_
   exact aB rfl (by first | (simp only [fJ, *,Bool.or_false,Bool.false_or,Bool.true_or,Bool.or_true,Bool.and_true,Bool.true_and,Bool.false_and,Bool.and_false,Bool.not_true,Bool.not_false,Bool.not_not];done) | (simp_all [fJ];done) | (simp_all [fJ];omega)) ⟨rfl,rfl,trivial⟩
  have q24:=of_decide_eq_false g24
  refine gn ?_;refine ef ?_
  exact aB rfl (by first | (simp only [fJ, *,Bool.or_false,Bool.false_or,Bool.true_or,Bool.or_true,Bool.and_true,Bool.true_and,Bool.false_and,Bool.and_false,Bool.not_true,Bool.not_false,Bool.not_not];done) | (simp_all [fJ];done) | (simp_all [fJ];omega)) ⟨rfl,rfl,trivial⟩
 refine TC.cond rfl ?_ ?_<;>intro c29
 ·
  refine gq ?_
  exact ao (.inr rfl) (ad rfl (RVal.tmp rfl)) (congrArg Value.bool (by simp_all [f9]))
 refine dn ?_
 refine a7 (gE t) 4 [(1,_),(2,_)] ⟨rfl,rfl,trivial⟩ ?_ ?_
 ·
  refine kV ?_
  refine ag (s:=33) rfl ?_ ?_<;>intro g33
  ·
   have q33:=of_decide_eq_true g33
   refine zm8 ?_;refine aH rfl rfl (ab rfl rfl rfl rfl) (Io t.name hn) rfl (zm3 ?_)
   refine ag (s:=38) rfl ?_ ?_<;>intro g38
   ·
    refine AO ?_;refine iA ?_
    exact aB rfl (by first | (simp only [gE, *,Bool.or_false,Bool.false_or,Bool.true_or,Bool.or_true,Bool.and_true,Bool.true_and,Bool.false_and,Bool.and_false,Bool.not_true,Bool.not_false,Bool.not_not];done) | (simp_all [gE];done) | (simp_all [gE];omega)) ⟨rfl,rfl,trivial⟩
   refine lw ?_
   refine ag (s:=42) rfl ?_ ?_<;>intro g42
   ·
    have q42:=aQ g42
    refine qM ?_;refine rh ?_
    exact aB rfl (by first | (simp only [gE, *,Bool.or_false,Bool.false_or,Bool.true_or,Bool.or_true,Bool.and_true,Bool.true_and,Bool.false_and,Bool.and_false,Bool.not_true,Bool.not_false,Bool.not_not];done) | (simp_all [gE];done) | (simp_all [gE];omega)) ⟨rfl,rfl,trivial⟩
   have q42:=aM g42
   refine gn ?_;refine rh ?_
   exact aB rfl (by first | (simp only [gE, *,Bool.or_false,Bool.false_or,Bool.true_or,Bool.or_true,Bool.and_true,Bool.true_and,Bool.false_and,Bool.and_false,Bool.not_true,Bool.not_false,Bool.not_not];done) | (simp_all [gE];done) | (simp_all [gE];omega)) ⟨rfl,rfl,trivial⟩
  have q33:=of_decide_eq_false g33
  refine im ?_;refine lw ?_
  refine ag (s:=42) rfl ?_ ?_<;>intro g42
  ·
   have q42:=aQ g42
   refine qM ?_;refine rh ?_
   exact aB rfl (by first | (simp only [gE, *,Bool.or_false,Bool.false_or,Bool.true_or,Bool.or_true,Bool.and_true,Bool.true_and,Bool.false_and,Bool.and_false,Bool.not_true,Bool.not_false,Bool.not_not];done) | (simp_all [gE];done) | (simp_all [gE];omega)) ⟨rfl,rfl,trivial⟩
  have q42:=aM g42
  refine gn ?_;refine rh ?_
  exact aB rfl (by first | (simp only [gE, *,Bool.or_false,Bool.false_or,Bool.true_or,Bool.or_true,Bool.and_true,Bool.true_and,Bool.false_and,Bool.and_false,Bool.not_true,Bool.not_false,Bool.not_not];done) | (simp_all [gE];done) | (simp_all [gE];omega)) ⟨rfl,rfl,trivial⟩
 refine a7 (m8 t) 5 [(1,_),(2,_),(4,_)] ky ?_ ?_
 ·
  refine kV ?_
  refine ag (s:=51) rfl ?_ ?_<;>intro g51
  ·
   have q51:=of_decide_eq_true g51
   refine li ?_;refine AN ?_;refine iA ?_
   exact aB rfl (by first | (simp only [m8, *,Bool.or_false,Bool.false_or,Bool.true_or,Bool.or_true,Bool.and_true,Bool.true_and,Bool.false_and,Bool.and_false,Bool.not_true,Bool.not_false,Bool.not_not];done) | (simp_all [m8];done) | (simp_all [m8];omega)) ky
  have q51:=of_decide_eq_false g51
  refine m6 ?_
  refine ag (s:=56) rfl ?_ ?_<;>intro g56
  ·
   have q56:=of_decide_eq_true g56
   refine AO ?_;refine iA ?_
   exact aB rfl (by first | (simp only [m8, *,Bool.or_false,Bool.false_or,Bool.true_or,Bool.or_true,Bool.and_true,Bool.true_and,Bool.false_and,Bool.and_false,Bool.not_true,Bool.not_false,Bool.not_not];done) | (simp_all [m8];done) | (simp_all [m8];omega)) ky
  have q56:=of_decide_eq_false g56
  refine lw ?_
  refine ag (s:=60) rfl ?_ ?_<;>intro g60
  ·
   have q60:=of_decide_eq_true g60
   refine lw ?_;refine iA ?_
   exact aB rfl (by first | (simp only [m8, *,Bool.or_false,Bool.false_or,Bool.true_or,Bool.or_true,Bool.and_true,Bool.true_and,Bool.false_and,Bool.and_false,Bool.not_true,Bool.not_false,Bool.not_not];done) | (simp_all [m8];done) | (simp_all [m8];omega)) ky
  have q60:=of_decide_eq_false g60
  refine gn ?_;refine rh ?_
  exact aB rfl (by first | (simp only [m8, *,Bool.or_false,Bool.false_or,Bool.true_or,Bool.or_true,Bool.and_true,Bool.true_and,Bool.false_and,Bool.and_false,Bool.not_true,Bool.not_false,Bool.not_not];done) | (simp_all [m8];done) | (simp_all [m8];omega)) ky
 refine a7 (jQ t) 6 [(2,_),(4,_),(5,_)] ky ?_ ?_
 ·
  refine ru ?_
  refine ag (s:=69) rfl ?_ ?_<;>intro g69
  ·
   have q69:=of_decide_eq_true g69
   refine AE ?_;refine iA ?_
   exact aB rfl (by first | (simp only [jQ, *,Bool.or_false,Bool.false_or,Bool.true_or,Bool.or_true,Bool.and_true,Bool.true_and,Bool.false_and,Bool.and_false,Bool.not_true,Bool.not_false,Bool.not_not];done) | (simp_all [jQ];done) | (simp_all [jQ];omega)) ky
  have q69:=of_decide_eq_false g69
  refine lw ?_
  refine ag (s:=73) rfl ?_ ?_<;>intro g73
  ·
   have q73:=of_decide_eq_true g73
   refine zm8 ?_;refine aw rfl rfl (dF rfl rfl) rfl (eG ?_);refine iA ?_
   exact aB rfl (by first | (simp only [jQ, *,Bool.or_false,Bool.false_or,Bool.true_or,Bool.or_true,Bool.and_true,Bool.true_and,Bool.false_and,Bool.and_false,Bool.not_true,Bool.not_false,Bool.not_not];done) | (simp_all [jQ];done) | (simp_all [jQ];omega)) ky
  have q73:=of_decide_eq_false g73
  refine dE ?_;refine rh ?_
  exact aB rfl (by first | (simp only [jQ, *,Bool.or_false,Bool.false_or,Bool.true_or,Bool.or_true,Bool.and_true,Bool.true_and,Bool.false_and,Bool.and_false,Bool.not_true,Bool.not_false,Bool.not_not];done) | (simp_all [jQ];done) | (simp_all [jQ];omega)) ky
 refine dH ?_
 refine ag (s:=81) rfl ?_ ?_<;>intro g81
 ·
  refine cM ?_
  refine ag (s:=84) rfl ?_ ?_<;>intro g84
  ·
   refine rt ?_
   exact ao (.inr rfl) (ad rfl (RVal.tmp rfl)) (congrArg Value.bool (by simp_all [f9]))
  refine Am ?_
  exact ao (.inr rfl) (ad rfl (RVal.tmp rfl)) (congrArg Value.bool (by simp_all [f9]))
 refine cC ?_;refine zm3 ?_;refine Am ?_
 exact ao (.inr rfl) (ad rfl (RVal.tmp rfl)) (congrArg Value.bool (by simp_all [f9]))
theorem tree_ok {H:Hp}{l:List Term}{v:Value}(root:Int)(hT:RdSl H 6 Term.cells v l)(hnames:∀t∈l,t.name.length≤9223372036854775807):
  Fn Tryz.prog 184 [v,.int .i64 root] H (fun v' H'=>TreeR (eq l root) l.length v' H'):=by
 have hmax:=hT.max
 refine Fn.enter Tryz.func184 Tryz.ntmps184 rfl rfl (fun w0=>?_)
 refine eE ?_;refine ip ?_;refine TL.run (ah rfl rfl hT) rfl (zm3 ?_)
 refine ag (s:=14) rfl ?_ ?_<;>intro g14
 ·
  have q14:=of_decide_eq_true g14
  refine sS ?_;refine iG ?_
  exact CH
 have q14:=of_decide_eq_false g14
 refine rD ?_
 refine ag (s:=18) rfl ?_ ?_<;>intro g18
 ·
  have q18:=of_decide_eq_true g18
  refine xf ?_
  exact CH
 have q18:=of_decide_eq_false g18
 refine eG ?_;refine aw rfl rfl (ah rfl rfl hT) rfl (fP ?_)
 refine af rfl ?_ ?_<;>intro c23
 · exact CH
 refine lu ?_
 have hb:(l.length:Int)≤160∧0≤root∧root<l.length:=EQ g14 g18 c23
 refine zm0 ?_;refine TL.run (ah rfl rfl hT) rfl (fh rfl rfl (by first | omega | decide) (by first | omega | decide) (by first | omega | decide) rfl (fun b26=>?_))
 refine rG ?_
 rw [FH]
 refine zm3 ?_;refine eD ?_;refine Av ?_;refine TL.nil ?_
 rw [vi]
 refine ai (ip ?_);refine zm9 ?_
 refine TC.loop (V:=fun p=>[(7,.int .i64 p.1)]) (K:=[(0,_),(4,_),(5,_),(6,_)]) (L:=fun p=>St [] w0 H H ((b26,p.2.map (Value.int .i64))::[])) (I:=fun p=> -1≤p.1∧p.1≤root∧p.2.length=l.length∧Nn p.2∧eq l root=cE l (p.1+1).toNat p.2) (μ:=fun p=>(p.1+1).toNat) (i:=((root,(List.replicate l.length 0).set root.toNat 1):Int×List Int)) ky ⟨by omega,by omega,by simp,pQ _ _,Ev hb⟩ (fun w hw=>hw) (fun p hI=>?_)
 refine nK ?_
 refine af rfl ?_ ?_<;>intro c32
 ·
  refine fi ?_;refine TC.seq (zm2 ?_)
  have hp0:0≤p.1:=c32
  have hlt:p.1.toNat<p.2.length:=by omega
  obtain⟨t,hx⟩:=aj (l:=l) (i:=p.1) hp0 om
  have hnn:=hI.2.2.2.1 p.1.toNat
  have hN:t.name.length≤9223372036854775807:=hnames t (List.mem_of_getElem? hx)
  refine zm3 ?_;refine eD ?_;refine TL.run (aE rfl (.here _) (j7 hlt)) rfl (zm1 ?_)
  refine af rfl ?_ ?_<;>intro c39
  ·
   refine TC.exit (cI (dZ (ai ?_)));refine jz ?_;refine ly ?_;refine cu ?_
   exact aD (p.1 - 1,p.2) ⟨by omega,by omega,by simp [hI.2.2.1],hI.2.2.2.1,(by first | exact iS hp0 hI.2.2.2.2 (nM c39) | exact iS hp0 hI.2.2.2.2 ((f3 hx c39 hal h24).trans (pX om)))⟩ ky (fun w hw=>hw) om
  refine gp ?_;refine dH ?_;refine TL.run (ae rfl hT rfl om om) rfl (TL.run (aY hT hx rfl rfl) rfl (ar (ab rfl rfl rfl rfl) (Jy t hN) rfl (zm3 ?_)))
  refine ag (s:=46) rfl ?_ ?_<;>intro g46
  ·
   refine lh ?_;refine iG ?_;refine zP ?_
   exact CG
  refine Aq ?_;refine aw rfl rfl (aE rfl (.here _) (j7 hlt)) rfl (fP ?_)
  refine af rfl ?_ ?_<;>intro c52
  ·
   refine zP ?_
   exact CG
  refine lu ?_
  have hal:f9 t=true:=by simpa using g46
  have h24:¬24<p.2[p.1.toNat]?.getD 0:=c52
  refine zm3 ?_;refine xh ?_;refine ar (ab rfl rfl rfl rfl) (Ct t.kind) rfl (zT ?_);refine TC.rounds 3 (fg (oD ?_))
  refine af rfl ?_ ?_<;>intro c61_0
  ·
   refine lj ?_;refine xh ?_;refine kM ?_;refine gK rfl (gp ?_);refine fO ?_
   refine ag (s:=78) rfl ?_ ?_<;>intro g78_0
   ·
    have q78_0:=of_decide_eq_true g78_0
    refine im ?_
    exact yG
   have q78_0:=of_decide_eq_false g78_0
   refine AH ?_
   refine ag (s:=83) rfl ?_ ?_<;>intro g83_0
   ·
    have q83_0:=of_decide_eq_true g83_0
    exact yG
   have q83_0:=of_decide_eq_false g83_0
   refine Aq ?_;refine aw rfl rfl (aE rfl (.here _) (j7 (by first | omega | (simp;omega)))) rfl (fP ?_)
   refine af rfl ?_ ?_<;>intro c89_0
   · exact CF
   refine dn ?_;refine ll ?_;refine eD ?_;refine TL.run (aE rfl (.here _) (j7 (by first | omega | (simp;omega)))) rfl (Ap ?_);refine Av ?_;refine TL.nil ?_
   rw [vi]
   refine ol ?_;refine nf ?_
   have o0:dQ p.2 p.1 t.l=some (p.2.set t.l.toNat (p.2[p.1.toNat]?.getD 0+1)):=oT (of_decide_eq_false g78_0) (of_decide_eq_false g83_0) c89_0
   have hsame:(p.2.set t.l.toNat (p.2[p.1.toNat]?.getD 0+1))[p.1.toNat]?.getD 0=p.2[p.1.toNat]?.getD 0:=jD (by have q1:=of_decide_eq_false g78_0;have q2:=of_decide_eq_false g83_0;omega)
   have h24b:(p.2.set t.l.toNat (p.2[p.1.toNat]?.getD 0+1))[p.1.toNat]?.getD 0≤24:=by omega
   have hnnb:0≤(p.2.set t.l.toNat (p.2[p.1.toNat]?.getD 0+1))[p.1.toNat]?.getD 0:=by omega
   refine mj (fg (oD ?_))
   refine af rfl ?_ ?_<;>intro c61_1
   ·
    refine lj ?_;refine xh ?_;refine tH ?_;refine iG ?_;refine mW ?_;refine xh ?_;refine iM ?_;refine fO ?_
    refine ag (s:=78) rfl ?_ ?_<;>intro g78_1
    ·
     have q78_1:=of_decide_eq_true g78_1
     refine im ?_
     exact yG
    have q78_1:=of_decide_eq_false g78_1
    refine AH ?_
    refine ag (s:=83) rfl ?_ ?_<;>intro g83_1
    ·
     have q83_1:=of_decide_eq_true g83_1
     exact yG
    have q83_1:=of_decide_eq_false g83_1
    refine Aq ?_;refine aw rfl rfl (aE rfl (.here _) (j7 (by first | omega | (simp;omega)))) rfl (fP ?_)
    refine af rfl ?_ ?_<;>intro c89_1
    · exact CF
    refine dn ?_;refine ll ?_;refine eD ?_;refine TL.run (aE rfl (.here _) (j7 (by first | omega | (simp;omega)))) rfl (Ap ?_);refine Av ?_;refine TL.nil ?_
    rw [vi]
    refine ol ?_;refine nf ?_
    have o1:dQ (p.2.set t.l.toNat (p.2[p.1.toNat]?.getD 0+1)) p.1 t.r=some ((p.2.set t.l.toNat (p.2[p.1.toNat]?.getD 0+1)).set t.r.toNat ((p.2.set t.l.toNat (p.2[p.1.toNat]?.getD 0+1))[p.1.toNat]?.getD 0+1)):=oT (of_decide_eq_false g78_1) (of_decide_eq_false g83_1) c89_1
    refine mj (fg (oD ?_))
    refine af rfl ?_ ?_<;>intro c61_2
    · exact absurd c61_2 (by have:=za t.kind;omega)
    refine k8 ?_;refine ol ?_;refine ly ?_;refine cu ?_
    exact aD (p.1 - 1,((p.2.set t.l.toNat (p.2[p.1.toNat]?.getD 0+1)).set t.r.toNat ((p.2.set t.l.toNat (p.2[p.1.toNat]?.getD 0+1))[p.1.toNat]?.getD 0+1))) ⟨by omega,by omega,by simp [hI.2.2.1],(mo (mo hI.2.2.2.1 om) om),(iS hp0 hI.2.2.2.2 ((f3 hx c39 hal h24).trans (mt om o0 om o1)))⟩ ky (fun w hw=>hw) om
   refine k8 ?_;refine ol ?_;refine ly ?_;refine cu ?_
   exact aD (p.1 - 1,(p.2.set t.l.toNat (p.2[p.1.toNat]?.getD 0+1))) ⟨by omega,by omega,by simp [hI.2.2.1],(mo hI.2.2.2.1 om),(iS hp0 hI.2.2.2.2 ((f3 hx c39 hal h24).trans (xH om o0 om)))⟩ ky (fun w hw=>hw) om
  refine k8 ?_;refine ol ?_;refine ly ?_;refine cu ?_
  exact aD (p.1 - 1,p.2) ⟨by omega,by omega,by simp [hI.2.2.1],hI.2.2.2.1,(by first | exact iS hp0 hI.2.2.2.2 (nM c39) | exact iS hp0 hI.2.2.2.2 ((f3 hx c39 hal h24).trans (pX om)))⟩ ky (fun w hw=>hw) om
 refine fN ?_;refine nl ?_
 refine qG sq (fun Hb le_b rd_b=>?_)
 refine DY ?_
 have hr:eq l root=some p.2:=HU hI.2.2.2.2 c32
 rw [hr];exact⟨_,rfl,by have:=RdSl.ints (cap:=l.length) rd_b om;rwa [hI.2.2.1] at this,hI.2.2.1⟩
theorem zA {H:Hp}{l:List Term}{v:Value}(root:Int)(hT:RdSl H 6 Term.cells v l)(hnames:∀t∈l,t.name.length≤9223372036854775807)(hl:(l.length:Int)≤100000):
  Fn Tryz.prog 152 [v,.int .i64 root] H (fun r H1=>JB (eq l root) l.length r H1):=by
 obtain⟨va,vc,rfl⟩:=hT.len
 refine Fn.enter Tryz.func152 Tryz.ntmps152 rfl rfl (fun w0=>?_)
 refine eE ?_;refine dH ?_
 refine TL.call (ab rfl rfl rfl rfl) (tree_ok root hT hnames) rfl (fun v13 H13 hle13 hp13=>?_)
 replace hT:=hT.le hle13
 rcases A3 hp13 with ⟨hr,rfl⟩ | ⟨d,sv,hr,rfl,hD,hdl⟩
 ·
  refine lq ?_;refine kM ?_
  refine TC.cond rfl ?_ ?_<;>intro c17
  ·
   refine zP ?_;refine DY ?_
   rw [hr];exact rfl
  exact absurd c17 dq
 obtain⟨da,dc,rfl⟩:=hD.len
 refine lq ?_;refine kM ?_
 refine TC.cond rfl ?_ ?_<;>intro c17
 · exact absurd c17 dq
 refine lm ?_;refine TL.run (ah rfl rfl hT) rfl (fh rfl rfl (by first | omega | decide) (by first | omega | decide) (by first | omega | decide) rfl (fun b20=>?_))
 refine oP ?_;refine cu ?_
 rw [uq]
 refine ai (TC.block (TC.loop (V:=fun k=>[(9,.int .i64 k)]) (K:=[(0,_),(4,_),(5,_),(6,_),(8,_)]) (L:=fun k=>St [] w0 H H13 [(b20,(nv d k.toNat l.length).map Value.bool)]) (I:=fun k=>0≤k∧k≤l.length) (μ:=fun k=>(l.length - k).toNat) (i:=(0:Int)) ky o2q (fun w hw=>by rw [CS];exact hw) (fun k hI=>?_)))
 refine fk ?_;refine TL.run (ah rfl rfl hT) rfl (zm1 ?_)
 refine af rfl ?_ ?_<;>intro c24
 ·
  obtain⟨x,hx⟩:=aj (l:=d) hI.1 om
  refine fi ?_;refine ll ?_;refine TL.run (ae rfl hD rfl om om) rfl (TL.run (aL hD hx rfl rfl) rfl (oz ?_))
  refine br rfl rfl rfl (.here _) (by rw [Nat.blt_eq,List.length_map,mr om hdl];omega) rfl (TL.nil ?_)
  rw [Fo hI.1 c24 hx hdl]
  refine iX ?_
  exact aD (k+1) o2q ky (fun w hw=>hw) om
 refine fN ?_;refine nl ?_
 refine qG sq (fun Hb le_b rd_b=>?_)
 refine DY ?_
 rw [hr]
 have hb:=RdSl.bools (cap:=l.length) rd_b (by rw [mr om hdl];omega) (by rw [mr om hdl];omega)
 rw [mr om hdl,Fp c24 hdl hI.1] at hb
 exact⟨_,rfl,hb,hdl⟩
theorem zq {H:Hp}{q:SProc}{up:List Int}{vu:Value}{s:SStep}(at_:Int)(hQ:ProcOk H q)(hU:RdSl H 1 I64.cells vu up)(hul:up.length=q.steps.length)(hlt:∀j:Int,0≤j→j<q.steps.length→aP up j<j)(h0:0≤at_)(hs:q.steps[at_.toNat]? =some s)(hz:s.ways.length≤1000000000)(h80:q.steps.length≤80):
  FnS Tryz.prog 105 [.agg q.cells.toArray,vu,.int .i64 at_] H (.bool (iK q up at_ s)):=by
 have hat:=eY hs
 have hsk:=hQ.ss s (List.mem_of_getElem? hs)
 obtain⟨ua,uc,rfl⟩:=hU.len
 have hdr:=yt q up at_ h0
 have hat2:=hlt at_ h0 hat
 refine FnS.enter Tryz.func105 Tryz.ntmps105 rfl rfl (fun w0=>?_)
 refine zm2 ?_
 refine TL.box rfl rfl (fun b3=>?_)
 refine tG ?_;refine tF ?_
 refine bD (ab rfl rfl rfl rfl) (nZ s hsk hz) rfl (fun v16 H16 ob16 hle16 hp16=>?_)
 obtain⟨eH16,hO16⟩:=hp16
 subst H16
 obtain⟨a16,c16,rfl⟩:=hO16.form
 refine TL.pubO hO16 (.skip _ .all) sq (fun HP16 leP16 hR16=>?_)
 replace hQ:=hQ.le leP16
 replace hU:=hU.le leP16
 have hR16m:=hR16.max
 refine kh ?_
 refine TC.loop (V:=fun k=>[(8,.int .i64 k)]) (K:=[(1,_),(2,_),(3,_),(6,_),(7,_)]) (L:=fun k=>_) (I:=fun k=>(0≤k∧k≤(dR s).length)∧(dR s).all (fun t=>!(decide (t≤at_)||decide ((q.steps.length:Int)≤t)))=((dR s).drop k.toNat).all (fun t=>!(decide (t≤at_)||decide ((q.steps.length:Int)≤t)))) (μ:=fun k=>((dR s).length - k).toNat) (i:=(0:Int)) ky ⟨o2q,rfl⟩ (fun w hw=>hw) (fun k hI=>?_)
 obtain⟨⟨k0,k1⟩,hal⟩:=hI
 refine fk ?_;refine TL.run (ah rfl rfl hR16) rfl (zm1 ?_)
 refine af rfl ?_ ?_<;>intro c20
 ·
  obtain⟨y,hy⟩:=aj (l:=dR s) k0 c20
  refine fi ?_
  refine a7 (decide (y≤at_)||decide ((q.steps.length:Int)≤y)) 38 [(1,_),(2,_),(3,_),(6,_),(7,_),(8,_),(17,_),(18,_),(19,_),(20,_)] ky ?_ ?_
  ·
   refine fW kr kr (mV ?_);refine TQ.run (ae rfl hR16 rfl om om) rfl (TQ.run (aL hR16 hy rfl rfl) rfl (mV ?_))
   refine TQ.run (aG rfl) rfl (fV (s:=29) rfl (fun g29=>?_) (fun g29=>?_))
   ·
    have q29:=of_decide_eq_true g29
    refine Al ?_;refine Al ?_;exact TQ.run (aG rfl) rfl (TQ.nil (aB rfl (by first | (simp_all;done) | (simp [*];done) | (simp_all;omega)) ky))
   have q29:=of_decide_eq_false g29
   refine nk ?_;refine bz rfl rfl (ae rfl hR16 rfl om om) rfl (bz rfl rfl (aL hR16 hy rfl rfl) rfl (wU ?_))
   refine bz rfl rfl (ah rfl rfl hQ.s) rfl (bz rfl rfl (aG rfl) rfl (TQ.run (aG rfl) rfl (TQ.nil ?_)))
   exact aB rfl (by first | (simp_all;done) | (simp [*];done) | (simp_all;omega)) ky
  refine TC.cond rfl ?_ ?_<;>intro c38
  ·
   refine kX ?_
   exact ao (.inr rfl) (ad rfl (RVal.tmp rfl)) (congrArg Value.bool (tm_bad (y:=y) (ce (p:=(fun t=>!(decide (t≤at_)||decide ((q.steps.length:Int)≤t)))) k0 hy (by rw [c38];rfl) hal)))
  refine d6 ?_
  exact aD (k+1) ⟨o2q,bC (p:=(fun t=>!(decide (t≤at_)||decide ((q.steps.length:Int)≤t)))) k0 hy (by rw [c38];rfl) hal⟩ ky (fun w hw=>hw) om
 have hall:=bU (p:=(fun t=>!(decide (t≤at_)||decide ((q.steps.length:Int)≤t)))) k0 c20 hal
 refine iB ?_
 refine a7 (decide (0<at_)&&decide (aP up at_<0)) 47 [(1,_),(2,_),(3,_),(6,_)] ky ?_ ?_
 ·
  refine jN ?_
  refine ag (s:=41) rfl ?_ ?_<;>intro g41
  ·
   have q41:=of_decide_eq_true g41
   refine eG ?_;refine aw rfl rfl (ae rfl hU rfl om om) rfl (aw rfl rfl (aL hU (iT om) rfl rfl) rfl (ef ?_))
   exact aB rfl (by first | (simp_all;done) | (simp [*];done) | (simp_all;omega)) ky
  have q41:=of_decide_eq_false g41
  refine tC ?_
  exact aB rfl (by first | (simp_all;done) | (simp [*];done) | (simp_all;omega)) ky
 refine TC.cond rfl ?_ ?_<;>intro c47
 ·
  refine gq ?_
  exact ao (.inr rfl) (ad rfl (RVal.tmp rfl)) (congrArg Value.bool (tm_up hall c47))
 refine dn ?_;refine ni ?_;refine zm9 ?_
 refine TC.loop (V:=fun(p:Int×Int)=>[(9,.int .i64 p.1),(10,.int .i64 p.2)]) (K:=[(1,_),(3,_),(6,_)]) (L:=fun(p:Int×Int)=>_) (I:=fun(p:Int×Int)=>(0≤p.1∧p.2<q.steps.length)∧ff q up at_=p.1+(if p.2<0 then 0 else ff q up p.2)) (μ:=fun(p:Int×Int)=>(p.2+1).toNat) (i:=((0:Int),at_)) ky ⟨⟨by show(0:Int)≤0;omega,by show at_<_;omega⟩,by show ff q up at_=0+(if at_<0 then 0 else ff q up at_);rw [if_neg om];omega⟩ (fun w hw=>hw) (fun(p:Int×Int) hI=>?_)
 obtain⟨⟨d0,i1⟩,hd⟩:=hI
 obtain⟨d,i⟩:=p
 dsimp only at *
 have hir:=Gu q up i
 refine nK ?_
 refine af rfl ?_ ?_<;>intro c50
 ·
  obtain⟨x,hx⟩:=aj (l:=q.steps) c50 i1
  have hii:=hlt i c50 i1
  refine fi ?_
  refine a7 (decide (x.kind=3)||decide (x.kind=5)) 70 [(1,_),(3,_),(6,_),(9,_),(10,_),(49,_),(50,_)] ky ?_ ?_
  ·
   refine wz ?_;refine TL.run (ae rfl hQ.s rfl om om) rfl (zm5 ?_);refine TL.run (aT hQ.s hx rfl rfl) rfl (zm3 ?_)
   refine ag (s:=62) rfl ?_ ?_<;>intro g62
   ·
    have q62:=of_decide_eq_true g62
    refine sZ ?_
    exact aB rfl (by simp_all) ky
   have q62:=of_decide_eq_false g62
   refine m5 ?_;refine aw rfl rfl (ae rfl hQ.s rfl om om) rfl (gM ?_);refine aw rfl rfl (aT hQ.s hx rfl rfl) rfl (ef ?_)
   exact aB rfl (by simp_all) ky
  refine TC.cond rfl ?_ ?_<;>intro c70
  ·
   refine z2 ?_;refine bn (ai (TC.region (zm3 ?_)));refine TL.run (ae rfl hU rfl om om) rfl (TL.run (aL hU (iT om) rfl rfl) rfl (cu ?_))
   exact aD (i:=(d,i)) (d+1,aP up i) ⟨o2q,by have h2:=Ew hlt c50 i1 hx hd;rw [kd_T c70] at h2;exact h2⟩ ky (fun w hw=>hw) om
  refine TC.skip (bn (ai (TC.region ?_)));refine zm3 ?_;refine TL.run (ae rfl hU rfl om om) rfl (TL.run (aL hU (iT om) rfl rfl) rfl (cu ?_))
  exact aD (i:=(d,i)) (d,aP up i) ⟨o2q,by have h2:=Ew hlt c50 i1 hx hd;rw [kd_F c70,Int.add_zero] at h2;exact h2⟩ ky (fun w hw=>hw) om
 refine fN ?_;refine nl ?_
 exact ao (.inr rfl) (ad rfl (RVal.tmp rfl)) (congrArg Value.bool (tm_end hall c47 c50 hd))
theorem vX {H:Hp}{q:SProc}{bu:Nat}{u:List Bool}{s:SStep}(at_:Int)(hQ:ProcOk H q)(h0:0≤at_)(hs:q.steps[at_.toNat]? =some s)(hl:s.args.length≤6∧s.casts.length≤4∧∀c∈s.casts,c.args.length≤6)(hul:u.length=q.terms.length)(h160:q.terms.length≤160):
  FnX Tryz.prog 107 [.agg q.cells.toArray,.int .i64 at_,.slice (some ⟨bu,0,none⟩) q.terms.length q.terms.length] H [(bu,(u).map Value.bool)] (fun v H1 L1=>∃u2,L1=[(bu,(u2).map Value.bool)]∧u2.length=q.terms.length∧((v= .bool false∧kZ q.terms (bV s) u=none)∨(v= .bool true∧kZ q.terms (bV s) u=some u2))):=by
 have hsk:=hQ.ss s (List.mem_of_getElem? hs)
 have hat:=eY hs
 refine FnX.enterM Tryz.func107 Tryz.ntmps107 rfl rfl (fun w0 M hM=>?_)
 refine zm2 ?_
 refine TL.box rfl rfl (fun b3=>?_)
 refine tG ?_;refine tF ?_
 refine ka (ab rfl rfl rfl rfl) (nY s hsk hl) rfl (fun v17 H17 ob17 hf17 hle17 hp17=>?_)
 obtain⟨eH17,hO17⟩:=hp17
 subst H17
 obtain⟨a17,c17,rfl⟩:=hO17.form
 refine TL.pubO hO17 (.skip _ (.skip _ .all)) (fun p hp hm=>absurd (hM _ hm) (Nat.not_lt.2 (hf17 p hp))) (fun HP17 leP17 hR17=>?_)
 replace hQ:=hQ.le leP17
 have hR17m:=hR17.max
 refine kh ?_
 refine aK (V:=fun(f:Int×List Bool) v ob H1=>[(8,.int .i64 f.1)]) (K:=[(2,_),(3,_),(6,_),(7,_)]) (L:=fun(f:Int×List Bool) v ob H1=>St M w0 H H1 ((b3,q.cells)::(bu,(f.2).map Value.bool)::[])) (I:=fun(f:Int×List Bool) v ob H1=>(0≤f.1∧f.1≤(bV s).length)∧HP17.le H1∧f.2.length=q.terms.length∧kZ q.terms (bV s) u=kZ q.terms ((bV s).drop f.1.toNat) f.2) (μ:=fun(f:Int×List Bool)=>((bV s).length - f.1).toNat) ((0:Int),u) .nilFunc [] HP17 ky ⟨o2q,Hp.le.refl _,hul,rfl⟩ (fun w hw=>hw) (fun f v ob H1 hI=>?_)
 obtain⟨⟨f0,f1⟩,hle1,hfl,hR⟩:=hI
 replace hQ:=hQ.le hle1
 replace hR17:=hR17.le hle1
 refine fk ?_;refine TL.run (ah rfl rfl hR17) rfl (zm1 ?_)
 refine af rfl ?_ ?_<;>intro c21
 ·
  obtain⟨y,hy⟩:=aj (l:=bV s) f0 c21
  refine te ?_;refine cy [(0,1),(1,2),(2,1),(3,1),(4,1),(5,2),(6,0),(7,1),(8,1),(9,1),(10,1),(11,1)] kr kr (ou ?_);refine iz ?_
  refine az (ae rfl hR17 rfl om om) rfl (bg (aL hR17 hy rfl rfl) rfl (bB (TL.call (ab rfl rfl rfl rfl) (zA y hQ.t hQ.tn om) rfl (fun v31 H31 hle31 hp31=>?_))))
  rcases A4 hp31 with ⟨hd31,rfl⟩ | ⟨d,sv,hd31,rfl,hA31,hdl⟩
  ·
   have hle1:=hle1.trans hle31
   refine TF.back (tw ?_);refine zm6 ?_;refine TF.nil (ai (nK ?_))
   refine TC.cond rfl ?_ ?_<;>intro c35
   ·
    refine AA ?_
    exact aZ (.inr rfl) (ad rfl (RVal.tmp rfl)) (fun w hw=>hw.drop) ⟨_,rfl,hfl,.inl ⟨rfl,ru_none f0 hy hd31 hR⟩⟩
   exact absurd c35 dq
  have hle1:=hle1.trans hle31
  have hAm:=hA31.max
  obtain⟨aa,ac,rfl⟩:=hA31.len
  refine TF.back (tw ?_);refine zm6 ?_;refine TF.nil (ai (nK ?_))
  refine TC.cond rfl ?_ ?_<;>intro c35
  · exact absurd c35 dq
  refine dn ?_;refine iq ?_
  refine TC.loop (V:=fun m=>[(11,.int .i64 m)]) (K:=[(2,_),(3,_),(6,_),(7,_),(8,_),(9,_),(10,_),(18,_),(19,_),(20,_),(21,_),(24,_),(25,_),(26,_),(27,_),(28,_),(29,_),(30,_),(31,_),(32,_),(33,_),(34,_),(35,_)]) (L:=fun m=>St M w0 H H31 ((b3,q.cells)::(bu,(inW (d.map eM) f.2 m.toNat).map Value.bool)::[])) (I:=fun m=>(0≤m∧m≤(d.map eM).length)∧Fb (d.map eM) f.2 m.toNat) (μ:=fun m=>((d.map eM).length - m).toNat) (i:=(0:Int)) ky ⟨o2q,fun j hj=>absurd hj sq⟩ (fun w hw=>by rw [I7];exact hw) (fun m hI=>?_)
  obtain⟨⟨m0,m1⟩,hNH⟩:=hI
  rw [List.length_map] at m1
  have hwl:=EU (a:=d.map eM) (u:=f.2) (k:=m.toNat) (by rw [List.length_map];omega) om
  refine fk ?_;refine TL.run (ah rfl rfl hA31) rfl (zm1 ?_)
  refine af rfl ?_ ?_<;>intro c39
  ·
   obtain⟨ak,ha⟩:=aj (l:=d.map eM) m0 c39
   have c39b:m<(d.length:Int):=by rw [List.length_map] at c39;exact c39
   have hiw:=inW_at (a:=d.map eM) (u:=f.2) (k:=m) (by rw [List.length_map];omega) om
   refine fi ?_
   refine TC.seq (a7 (ak&&(inW (d.map eM) f.2 m.toNat)[m.toNat]?.getD false) 51 [(2,_),(3,_),(6,_),(7,_),(8,_),(9,_),(10,_),(11,_),(18,_),(19,_),(20,_),(21,_),(24,_),(25,_),(26,_),(27,_),(28,_),(29,_),(30,_),(31,_),(32,_),(33,_),(34,_),(35,_),(36,_),(37,_),(38,_),(39,_)] ky ?_ ?_)
   ·
    refine mW ?_;refine TL.run (ae rfl hA31 rfl om om) rfl (TL.run (aL hA31 ha rfl rfl) rfl (zm0 ?_))
    refine ag (s:=46) rfl ?_ ?_<;>intro g46
    ·
     refine Aq ?_;refine aw rfl rfl (aE rfl (.h1) (DD om)) rfl (cu ?_)
     exact aB rfl (by rw [g46];rfl) ky
    refine kR ?_
    exact aB rfl (by rw [g46];rfl) ky
   refine TC.cond rfl ?_ ?_<;>intro c51
   ·
    rw [hiw] at c51
    refine jJ ?_;refine aF (bh (aF (wr ?_)))
    exact aZ (.inr rfl) (ad rfl (RVal.tmp rfl)) (fun w hw=>hw.drop) ⟨_,rfl,hwl.trans hfl,.inl ⟨rfl,ru_bad f0 hy hd31 (I9 ha c51 om) hR⟩⟩
   rw [hiw] at c51
   refine dn ?_;refine ll ?_;refine eD ?_;refine TL.run (aE rfl (.h1) (DD om)) rfl (zm0 ?_)
   refine ag (s:=58) rfl ?_ ?_<;>intro g58
   ·
    refine dE ?_;refine oz ?_;refine zO ?_;refine nj ?_
    exact aD (m+1) ⟨o2q,uL m0 hNH ha c51⟩ ky (fun w hw=>by have hw2:=hw;rw [DC,BX m0 (by rw [List.length_map];omega) om ha (by rw [← hiw,g58];rfl)] at hw2;exact hw2) om
   refine eG ?_;refine aw rfl rfl (ae rfl hA31 rfl om om) rfl (aw rfl rfl (aL hA31 ha rfl rfl) rfl (oz ?_));refine zO ?_;refine nj ?_
   exact aD (m+1) ⟨o2q,uL m0 hNH ha c51⟩ ky (fun w hw=>by have hw2:=hw;rw [DC,BX m0 (by rw [List.length_map];omega) om ha (by rw [← hiw,g58];rfl)] at hw2;exact hw2) om
  refine kJ ?_
  exact ay (f.1+1,inW (d.map eM) f.2 m.toNat) .nilFunc [] H31 ⟨o2q,hle1,by rw [EU (by rw [List.length_map];omega) om];exact hfl,ru_next f0 hy hd31 (F2 m0 hNH (by rw [List.length_map];omega) c39) hR⟩ ky (fun w hw=>hw) om
 refine fD ?_
 exact aZ (.inr rfl) (ad rfl (RVal.tmp rfl)) (fun w hw=>hw.drop) ⟨_,rfl,hfl,.inr ⟨rfl,ru_end f0 c21 hR⟩⟩
end Go.Sx
