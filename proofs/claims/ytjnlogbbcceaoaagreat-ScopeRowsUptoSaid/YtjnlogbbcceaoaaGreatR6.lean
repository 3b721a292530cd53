import Derived.Test.YtjnlogbbcceaoaaGreatR5
set_option linter.all false
set_option maxRecDepth 100000
set_option maxHeartbeats 32000000
namespace Go.Sx
open Go Go.Proofs
theorem y3 {H:Hp}(k:Int):
  FnS Tryz.prog 119 [.int .i64 k] H (.int .i64 (ak k)):=by
 refine FnS.enter Tryz.func119 Tryz.ntmps119 rfl rfl (fun w0=>?_)
 refine jt ?_
 refine bO (decide (k=0)||(decide (k=1)||(decide (k=2)||(decide (k=3)||(decide (k=4)||decide (k=5)))))) 4 [(2,_),(3,_)] ⟨rfl,rfl,trivial⟩ ?_ ?_
 ·
  refine uC ?_;refine uC ?_;refine uC ?_;refine uC ?_;refine uC ?_
  exact eR (aJ rfl) rfl rfl ⟨rfl,rfl,trivial⟩
 refine TC.cond rfl ?_ ?_<;>intro c4
 ·
  refine nE ?_
  exact aR (.inr rfl) (ad rfl (RVal.tmp rfl)) ⟨congrArg (Value.int .i64) (by simp only [Bool.or_eq_true,Bool.or_eq_false_iff,decide_eq_true_eq,decide_eq_false_iff_not] at *;unfold ak;(repeat' split)<;>omega),rfl⟩
 refine bO (decide (k=15)||decide (k=16)) 11 [(2,_),(3,_)] ⟨rfl,rfl,trivial⟩ ?_ ?_
 ·
  refine uC ?_
  exact eR (aJ rfl) rfl rfl ⟨rfl,rfl,trivial⟩
 refine TC.cond rfl ?_ ?_<;>intro c11
 ·
  refine nE ?_
  exact aR (.inr rfl) (ad rfl (RVal.tmp rfl)) ⟨congrArg (Value.int .i64) (by simp only [Bool.or_eq_true,Bool.or_eq_false_iff,decide_eq_true_eq,decide_eq_false_iff_not] at *;unfold ak;(repeat' split)<;>omega),rfl⟩
 refine bO (decide (k=6)||(decide (k=7)||(decide (k=8)||(decide (k=9)||(decide (k=10)||(decide (k=11)||(decide (k=12)||(decide (k=13)||(decide (k=14)||(decide (k=17)||(decide (k=18)||decide (k=19)))))))))))) 14 [(2,_)] ⟨rfl,trivial⟩ ?_ ?_
 · refine Bb ?_;refine Bb ?_;exact cw (aJ rfl) rfl rfl ⟨rfl,trivial⟩ (cw (aJ rfl) rfl rfl ⟨rfl,trivial⟩ (cw (aJ rfl) rfl rfl ⟨rfl,trivial⟩ (eR (aJ rfl) rfl rfl ⟨rfl,trivial⟩)))
 refine TC.cond rfl ?_ ?_<;>intro c14
 ·
  refine nE ?_
  exact aR (.inr rfl) (ad rfl (RVal.tmp rfl)) ⟨congrArg (Value.int .i64) (by simp only [Bool.or_eq_true,Bool.or_eq_false_iff,decide_eq_true_eq,decide_eq_false_iff_not] at *;unfold ak;(repeat' split)<;>omega),rfl⟩
 refine uD ?_
 exact aR (.inr rfl) (ad rfl (RVal.tmp rfl)) ⟨congrArg (Value.int .i64) (by simp only [Bool.or_eq_true,Bool.or_eq_false_iff,decide_eq_true_eq,decide_eq_false_iff_not] at *;unfold ak;(repeat' split)<;>omega),rfl⟩
theorem CJ {H:Hp}(t:Term)(hn:t.name.length≤9223372036854775807):
  FnS Tryz.prog 120 [.agg t.cells.toArray] H (.bool (bF t)):=by
 refine FnS.enter Tryz.func120 Tryz.ntmps120 rfl rfl (fun w0=>?_)
 refine zm2 ?_
 refine TL.box rfl rfl (fun b1=>?_)
 refine q4 ?_;refine yi ?_
 refine ag rfl ?_ ?_<;>intro c5
 ·
  refine fL ?_;refine ay (ab rfl rfl rfl rfl) (EM t.name hn) rfl (zm0 ?_)
  refine ai (s:=10) rfl ?_ ?_<;>intro g10
  ·
   refine qZ ?_
   refine ai (s:=15) rfl ?_ ?_<;>intro g15
   ·
    have q15:=of_decide_eq_true g15
    refine tP ?_
    exact pM
   have q15:=of_decide_eq_false g15
   refine jn ?_
   exact pM
  refine jr ?_;refine jn ?_
  exact pM
 refine f4 ?_
 refine ag rfl ?_ ?_<;>intro c20
 ·
  refine yh ?_
  refine ai (s:=25) rfl ?_ ?_<;>intro g25
  ·
   have q25:=of_decide_eq_true g25
   refine tP ?_
   exact pM
  have q25:=of_decide_eq_false g25
  refine jn ?_
  exact pM
 refine f4 ?_
 refine ag rfl ?_ ?_<;>intro c30
 ·
  refine yh ?_
  refine ai (s:=35) rfl ?_ ?_<;>intro g35
  ·
   have q35:=of_decide_eq_true g35
   refine qu ?_
   refine ai (s:=40) rfl ?_ ?_<;>intro g40
   ·
    have q40:=of_decide_eq_true g40
    refine zm9 ?_;refine fc ?_
    refine ai (s:=44) rfl ?_ ?_<;>intro g44
    ·
     have q44:=of_decide_eq_true g44
     refine jn ?_;refine cK ?_
     exact pM
    have q44:=of_decide_eq_false g44
    refine zm9 ?_;refine fc ?_
    exact pM
   have q40:=of_decide_eq_false g40
   refine yg ?_;refine eC rfl rfl rfl (dh ?_)
   exact pM
  have q35:=of_decide_eq_false g35
  refine lo ?_;refine eC rfl rfl rfl (eC rfl rfl rfl (eC rfl rfl rfl (dh ?_)))
  exact pM
 refine f4 ?_
 refine ag rfl ?_ ?_<;>intro c50
 ·
  refine yh ?_
  refine ai (s:=55) rfl ?_ ?_<;>intro g55
  ·
   have q55:=of_decide_eq_true g55
   refine qZ ?_
   refine ai (s:=60) rfl ?_ ?_<;>intro g60
   ·
    have q60:=of_decide_eq_true g60
    refine zm9 ?_;refine aC rfl rfl (eq rfl rfl) rfl (cK ?_)
    exact pM
   have q60:=of_decide_eq_false g60
   refine eg ?_
   exact pM
  have q55:=of_decide_eq_false g55
  refine lo ?_
  exact pM
 refine TC.skip (bu (af (yh ?_)))
 refine ai (s:=69) rfl ?_ ?_<;>intro g69
 ·
  have q69:=of_decide_eq_true g69
  refine qZ ?_
  refine ai (s:=74) rfl ?_ ?_<;>intro g74
  ·
   have q74:=of_decide_eq_true g74
   refine tP ?_;refine fq ?_
   exact aR (.inr rfl) (ad rfl (RVal.tmp rfl)) ⟨congrArg Value.bool (by simp_all [bF]),rfl⟩
  have q74:=of_decide_eq_false g74
  refine yf ?_
  exact aR (.inr rfl) (ad rfl (RVal.tmp rfl)) ⟨congrArg Value.bool (by simp_all [bF]),rfl⟩
 have q69:=of_decide_eq_false g69
 refine jr ?_;refine yf ?_
 exact aR (.inr rfl) (ad rfl (RVal.tmp rfl)) ⟨congrArg Value.bool (by simp_all [bF]),rfl⟩
theorem walk_ok {H:Hp}{l:List Term}{v:Value}{bl bm bmv bw:Nat}(hT:RdSl H 6 Term.cells v l)(hnames:∀t∈l,t.name.length≤9223372036854775807)(hl:H bl 0=some v)(hm:H bmv 0=some (.slice (some ⟨bm,0,none⟩) l.length l.length))(hw:H bw 0=some (.func (.func 118) #[] #[.pointer (some ⟨bl,0,none⟩),.pointer (some ⟨bmv,0,none⟩),.pointer (some ⟨bw,0,none⟩)])):
  ∀(f:Nat) (at_ deep:Int) (met:List Bool),0≤at_→at_<l.length→at_.toNat<f→1≤deep∧deep≤25→met.length=l.length→
   FnM1 Tryz.prog 118 [.int .i64 at_,.int .i64 deep,.pointer (some ⟨bl,0,none⟩),.pointer (some ⟨bmv,0,none⟩),.pointer (some ⟨bw,0,none⟩)] H bm (met.map Value.bool)
    (fun v' H' cs'=>∃b m,cP l f at_ deep met=(b,m)∧v'= .bool b∧cs'=m.map Value.bool∧m.length=l.length∧H'=H):=by
 intro f
 induction f with
 | zero=>intro at_ deep met _ _ h;omega
 | succ f ih=>
 intro at_ deep met h0 h1 hf hd hlen
 have hmax:=hT.max
 have hlt:at_.toNat<met.length:=by omega
 obtain⟨t,hx⟩:=ao h0 h1
 have hN:t.name.length≤9223372036854775807:=hnames t (List.mem_of_getElem? hx)
 refine FnM1.enter Tryz.func118 Tryz.ntmps118 rfl rfl (fun w0=>?_)
 refine ye ?_;refine TL.run (bI rfl hl) rfl (zm0 ?_);refine TL.run (ae rfl hT rfl om om) rfl (TL.run (bg hT hx rfl rfl) rfl (TL.alloc rfl (fun b8=>?_)))
 refine qY ?_;refine ay (ab rfl rfl rfl rfl) (y3 t.kind) rfl (uB ?_);refine TL.run (bI rfl hm) rfl (zm0 ?_);refine fp ?_
 refine TL.run (aB rfl (.h1) (CU hlt)) rfl (zm0 ?_)
 refine ai (s:=23) rfl ?_ ?_<;>intro g23
 ·
  refine jm ?_;refine zm3 ?_;refine jm ?_;refine zm3 ?_
  exact zq84
 refine uA ?_
 refine ai (s:=27) rfl ?_ ?_<;>intro g27
 ·
  have q27:=of_decide_eq_true g27
  refine jm ?_;refine zm3 ?_
  exact zq84
 have q27:=of_decide_eq_false g27
 refine uA ?_
 refine ai (s:=31) rfl ?_ ?_<;>intro g31
 ·
  have q31:=of_decide_eq_true g31
  exact zq84
 have q31:=of_decide_eq_false g31
 refine aC rfl rfl (a7 rfl (.here _) rfl) rfl (aO rfl rfl (ab rfl rfl rfl rfl) (CJ t hN) rfl (gi ?_))
 refine TC.cond rfl ?_ ?_<;>intro c35
 · exact zq91
 refine cV ?_;refine zm2 ?_
 have hg:zI deep met at_ t:=⟨by simp_all,by simp_all,by simp_all,by simp_all⟩
 refine TL.run (bI rfl hm) rfl (zm0 ?_);refine Dj ?_;refine TL.nil ?_
 rw [CT]
 refine yd ?_;refine fV ?_
 refine aD rfl rfl rfl rfl (fun b43=>?_)
 refine TL.run (ec rfl rfl) rfl (zm8 ?_);refine TC.rounds 3 (fS (zm7 ?_));refine dt rfl (mt ?_);refine fp ?_;refine yc ?_;refine iW ?_;refine eh ?_;refine zm1 ?_
 refine ag rfl ?_ ?_<;>intro c52_0
 ·
  refine lm ?_
  refine aX rfl ?_ ?_<;>intro c54_0
  · refine lF ?_;exact aI (zq99)
  refine cV ?_;refine yb ?_;refine oI ?_
  have o0:opW (ak t.kind) at_ (fun to m=>cP l f to (deep+1) m) 0 t.l (met.set at_.toNat true)=(true,(met.set at_.toNat true)):=by first | exact gN c52_0 c54_0 | exact ij c52_0 g57_0 g62_0 (e1.trans (by simp_all;done)) | exact ij c52_0 g57_0 g62_0 (e2.trans (by simp_all;done))
  refine oE (fS (zm7 ?_));refine dt rfl (mt ?_);refine fp ?_;refine yc ?_;refine iW ?_;refine eh ?_;refine zm1 ?_
  refine ag rfl ?_ ?_<;>intro c52_1
  ·
   refine lm ?_
   refine aX rfl ?_ ?_<;>intro c54_1
   · refine lF ?_;exact aI (zq99)
   refine cV ?_;refine yb ?_;refine oI ?_
   have o1:opW (ak t.kind) at_ (fun to m=>cP l f to (deep+1) m) 1 t.r (met.set at_.toNat true)=(true,(met.set at_.toNat true)):=by first | exact gN c52_1 c54_1 | exact ij c52_1 g57_1 g62_1 (e1.trans (by simp_all;done)) | exact ij c52_1 g57_1 g62_1 (e2.trans (by simp_all;done))
   refine oE (fS (zm7 ?_));refine fU rfl (gv ?_)
   exact zq104
  refine cV ?_;refine gw ?_
  refine ai (s:=57) rfl ?_ ?_<;>intro g57_1
  ·
   have q57_1:=of_decide_eq_true g57_1
   refine jr ?_
   exact AH
  have q57_1:=of_decide_eq_false g57_1
  refine fc ?_;refine db ?_
  refine ai (s:=62) rfl ?_ ?_<;>intro g62_1
  ·
   have q62_1:=of_decide_eq_true g62_1
   exact AH
  have q62_1:=of_decide_eq_false g62_1
  refine aC rfl rfl (bI rfl hw) rfl (fc ?_);refine qX ?_
  refine eQ (.h2) (lV rfl rfl (ab rfl rfl rfl rfl) (ih _ (deep+1) _ (by have q1:=of_decide_eq_false g57_1;have q2:=of_decide_eq_false g62_1;omega) (by have q1:=of_decide_eq_false g57_1;have q2:=of_decide_eq_false g62_1;omega) (by have q1:=of_decide_eq_false g57_1;have q2:=of_decide_eq_false g62_1;omega) ⟨by omega,by have:=hg.2.1;omega⟩ (by first | assumption | (simp;assumption))) rfl (fun v67 H67 cs67 hle67 hp67=>?_))
  obtain⟨r1,m1,e1,rfl,rfl,hl1,rfl⟩:=hp67
  refine gi ?_
  refine TC.cond rfl ?_ ?_<;>intro c69_1
  · exact w3
  refine TC.skip (bu (af (TC.region ?_)));refine oI ?_
  have o1:opW (ak t.kind) at_ (fun to m=>cP l f to (deep+1) m) 1 t.r (met.set at_.toNat true)=(true,m1):=by first | exact gN c52_1 c54_1 | exact ij c52_1 g57_1 g62_1 (e1.trans (by simp_all;done)) | exact ij c52_1 g57_1 g62_1 (e2.trans (by simp_all;done))
  exact zq63
 refine cV ?_;refine gw ?_
 refine ai (s:=57) rfl ?_ ?_<;>intro g57_0
 ·
  have q57_0:=of_decide_eq_true g57_0
  refine jr ?_
  exact AH
 have q57_0:=of_decide_eq_false g57_0
 refine fc ?_;refine db ?_
 refine ai (s:=62) rfl ?_ ?_<;>intro g62_0
 ·
  have q62_0:=of_decide_eq_true g62_0
  exact AH
 have q62_0:=of_decide_eq_false g62_0
 refine aC rfl rfl (bI rfl hw) rfl (fc ?_);refine qX ?_
 refine eQ (.h2) (lV rfl rfl (ab rfl rfl rfl rfl) (ih _ (deep+1) _ (by have q1:=of_decide_eq_false g57_0;have q2:=of_decide_eq_false g62_0;omega) (by have q1:=of_decide_eq_false g57_0;have q2:=of_decide_eq_false g62_0;omega) (by have q1:=of_decide_eq_false g57_0;have q2:=of_decide_eq_false g62_0;omega) ⟨by omega,by have:=hg.2.1;omega⟩ (by first | assumption | (simp;assumption))) rfl (fun v67 H67 cs67 hle67 hp67=>?_))
 obtain⟨r1,m1,e1,rfl,rfl,hl1,rfl⟩:=hp67
 refine gi ?_
 refine TC.cond rfl ?_ ?_<;>intro c69_0
 · exact w3
 refine TC.skip (bu (af (TC.region ?_)));refine oI ?_
 have o0:opW (ak t.kind) at_ (fun to m=>cP l f to (deep+1) m) 0 t.l (met.set at_.toNat true)=(true,m1):=by first | exact gN c52_0 c54_0 | exact ij c52_0 g57_0 g62_0 (e1.trans (by simp_all;done)) | exact ij c52_0 g57_0 g62_0 (e2.trans (by simp_all;done))
 refine oE (fS (zm7 ?_));refine dt rfl (mt ?_);refine fp ?_;refine TL.run (aB rfl (.h1) rfl) rfl (zm0 ?_);refine iW ?_;refine eh ?_;refine zm1 ?_
 refine ag rfl ?_ ?_<;>intro c52_1
 ·
  refine lm ?_
  refine aX rfl ?_ ?_<;>intro c54_1
  · refine lF ?_;exact aI (zq127)
  refine cV ?_;refine yb ?_;refine oI ?_
  have o1:opW (ak t.kind) at_ (fun to m=>cP l f to (deep+1) m) 1 t.r m1=(true,m1):=by first | exact gN c52_1 c54_1 | exact ij c52_1 g57_1 g62_1 (e1.trans (by simp_all;done)) | exact ij c52_1 g57_1 g62_1 (e2.trans (by simp_all;done))
  exact zq63
 refine cV ?_;refine gw ?_
 refine ai (s:=57) rfl ?_ ?_<;>intro g57_1
 ·
  have q57_1:=of_decide_eq_true g57_1
  refine lo ?_;refine jm ?_;refine ll ?_
  exact w3
 have q57_1:=of_decide_eq_false g57_1
 refine fc ?_;refine db ?_
 refine ai (s:=62) rfl ?_ ?_<;>intro g62_1
 ·
  have q62_1:=of_decide_eq_true g62_1
  refine eg ?_;refine jm ?_;refine ll ?_
  exact w3
 have q62_1:=of_decide_eq_false g62_1
 refine aC rfl rfl (bI rfl hw) rfl (fc ?_);refine qX ?_
 refine lV rfl rfl (ab rfl rfl rfl rfl) (ih _ (deep+1) _ (by have q1:=of_decide_eq_false g57_1;have q2:=of_decide_eq_false g62_1;omega) (by have q1:=of_decide_eq_false g57_1;have q2:=of_decide_eq_false g62_1;omega) (by have q1:=of_decide_eq_false g57_1;have q2:=of_decide_eq_false g62_1;omega) ⟨by omega,by have:=hg.2.1;omega⟩ (by first | assumption | (simp;assumption))) rfl (fun v67 H67 cs67 hle67 hp67=>?_)
 obtain⟨r2,m2,e2,rfl,rfl,hl2,rfl⟩:=hp67
 refine gi ?_
 refine TC.cond rfl ?_ ?_<;>intro c69_1
 · exact w3
 refine TC.skip (bu (af (TC.region ?_)));refine oI ?_
 have o1:opW (ak t.kind) at_ (fun to m=>cP l f to (deep+1) m) 1 t.r m1=(true,m2):=by first | exact gN c52_1 c54_1 | exact ij c52_1 g57_1 g62_1 (e1.trans (by simp_all;done)) | exact ij c52_1 g57_1 g62_1 (e2.trans (by simp_all;done))
 exact zq63
theorem Fv {H:Hp}{l:List Term}{v:Value}(root:Int)(hT:RdSl H 6 Term.cells v l)(hnames:∀t∈l,t.name.length≤9223372036854775807):
  FnS Tryz.prog 59 [v,.int .i64 root] H (.bool (cF l root)):=by
 have hmax:=hT.max
 have one1:=hT.isOne
 refine FnS.enter Tryz.func59 Tryz.ntmps59 rfl rfl (fun w0=>?_)
 refine zm2 ?_
 refine qg rfl rfl (fun b2=>?_)
 refine uB ?_;refine lD ?_;refine TL.run (ah rfl rfl hT) rfl (zm3 ?_)
 refine ai (s:=10) rfl ?_ ?_<;>intro g10
 ·
  have q10:=of_decide_eq_true g10
  refine oL ?_;refine mr ?_
  exact ax (.inr rfl) (ad rfl (RVal.tmp rfl)) (congrArg Value.bool (by first | exact(m6 g10).symm | exact(m5 g14).symm | exact(m4 c19).symm | (rw [ot h160,e])))
 have q10:=of_decide_eq_false g10
 refine uA ?_
 refine ai (s:=14) rfl ?_ ?_<;>intro g14
 ·
  have q14:=of_decide_eq_true g14
  refine eg ?_;refine mr ?_
  exact ax (.inr rfl) (ad rfl (RVal.tmp rfl)) (congrArg Value.bool (by first | exact(m6 g10).symm | exact(m5 g14).symm | exact(m4 c19).symm | (rw [ot h160,e])))
 have q14:=of_decide_eq_false g14
 refine cK ?_;refine aC rfl rfl (aB rfl (.here _) rfl) rfl (aC rfl rfl (ah rfl rfl hT) rfl (gi ?_))
 refine ag rfl ?_ ?_<;>intro c19
 ·
  refine lF ?_
  exact ax (.inr rfl) (ad rfl (RVal.tmp rfl)) (congrArg Value.bool (by first | exact(m6 g10).symm | exact(m5 g14).symm | exact(m4 c19).symm | (rw [ot h160,e])))
 refine cV ?_;refine zm2 ?_;refine lD ?_;refine TL.run (ah rfl rfl hT) rfl (gQ rfl rfl (by first | omega | decide) (by first | omega | decide) (by first | omega | decide) rfl (fun b22=>?_))
 refine TL.alloc rfl (fun b5=>?_)
 refine qW ?_
 refine TL.alloc rfl (fun b6=>?_)
 refine iu ?_;refine qW ?_
 refine TL.pub sq (fun H_b6 le_b6 rd_b6=>?_)
 refine TL.pub sq (fun H_b5 le_b5 rd_b5=>?_)
 refine eQ (.h1) (TL.pub sq (fun H_b2 le_b2 rd_b2=>?_))
 have hT2:=((hT.le le_b6).le le_b5).le le_b2
 have hl:H_b2 b2 0=some v:=rd_b2 0 _ rfl
 have hm:=le_b2 _ _ _ (rd_b5 0 _ rfl)
 have hw:=le_b2 _ _ _ (le_b5 _ _ _ (rd_b6 0 _ rfl))
 have h160:=mayB_in g10 g14 c19
 rw [zY]
 refine TL.run (bI rfl hw) rfl (zm0 ?_)
 refine CY (ab rfl rfl rfl rfl) (walk_ok hT2 hnames hl hm hw (root.toNat+1) root 1 _ om om om om sq) rfl (fun v26 H26 cs26 hle26 hp26=>?_)
 obtain⟨b,m,e,rfl,rfl,hl2,rfl⟩:=hp26
 refine ei ?_
 exact ax (.inr rfl) (ad rfl (RVal.tmp rfl)) (congrArg Value.bool (by first | exact(m6 g10).symm | exact(m5 g14).symm | exact(m4 c19).symm | (rw [ot h160,e])))
end Go.Sx
namespace Go.Sx
open Go Go.Proofs
theorem sn {H:Hp}{l:List Str}{v:Value}(s:Str)(hL:RdSl H 1 Str.cells v l):
  FnS Tryz.prog 63 [v,gs s] H (.int .i64 (cl l s)):=by
 have hmax:=hL.max
 refine FnS.enter Tryz.func63 Tryz.ntmps63 rfl rfl (fun w0=>?_)
 refine oM ?_;refine TL.run (ah rfl rfl hL) rfl (zm8 ?_)
 refine TC.loop (V:=fun k=>[(8,.int .i64 k)]) (K:=[(0,_),(1,_),(4,_),(7,_)]) (L:=fun k=>_) (I:=fun k=>0≤k∧k≤l.length∧∀j:Nat,j<k.toNat→l[j]? ≠some s) (μ:=fun k=>(l.length - k).toNat) (i:=(0:Int)) ky ⟨by omega,by omega,fun j hj=>absurd hj sq⟩ (fun w hw=>hw) (fun k hI=>?_)
 refine zm7 ?_
 refine ag rfl ?_ ?_<;>intro c9
 ·
  refine dz ?_
  obtain⟨x,hx⟩:=ao (l:=l) hI.1 c9
  refine lW ?_;refine eh ?_;refine pc ?_;refine TL.run (aQ hL hx rfl rfl) rfl (ya ?_)
  refine ag rfl ?_ ?_<;>intro c16
  ·
   refine xZ ?_
   exact ax (.inr rfl) (ad rfl (RVal.tmp rfl)) (congrArg (Value.int .i64) (by first | exact(dI hI.1 (by rw [hx,c16]) hI.2.2).symm | exact(fC hI.2.2 c9).symm))
  refine l6 ?_
  exact aS (k+1) ⟨by omega,by omega,lO hI.1 hI.2.2 hx c16⟩ ky (fun w hw=>hw) om
 refine gv ?_
 exact ax (.inr rfl) (ad rfl (RVal.tmp rfl)) (congrArg (Value.int .i64) (by first | exact(dI hI.1 (by rw [hx,c16]) hI.2.2).symm | exact(fC hI.2.2 c9).symm))
theorem je {H:Hp}{l:List Str}{v:Value}(s:Str)(hL:RdSl H 1 Str.cells v l):
  FnS Tryz.prog 24 [v,gs s] H (.bool (cj l s)):=by
 refine FnS.enter Tryz.func24 Tryz.ntmps24 rfl rfl (fun w0=>?_)
 refine uz ?_;refine ay (ab rfl rfl rfl rfl) (sn s hL) rfl (fq ?_)
 exact ax (.inr rfl) (ad rfl (RVal.tmp rfl)) (congrArg Value.bool (by rw [← sI]))
theorem DK {H:Hp}{at_:Int}{bl bo bw:Nat}{u:Value}{xs:List Str}{ob:aj}(hneg:at_<0)(hO:OwnSl 1 Str.cells u xs ob):
  FnX Tryz.prog 60 [.int .i64 at_,.pointer (some ⟨bw,0,none⟩),.pointer (some ⟨bl,0,none⟩),.pointer (some ⟨bo,0,none⟩)] H ((bo,[u])::ob) (fun r H' L'=>r= .tuple #[]∧H'=H∧∃u' ob',L'=(bo,[u'])::ob'∧OwnSl 1 Str.cells u' xs ob'):=by
 refine FnX.enter Tryz.func60 Tryz.ntmps60 rfl rfl (fun w0=>?_)
 refine lm ?_
 refine ag rfl ?_ ?_<;>intro c6
 · exact TC.ret (aI (aZ (.inr rfl) (ce rfl) (fun w hw=>hw) ⟨rfl,rfl,_,_,rfl,hO⟩))
 exact absurd hneg c6
theorem DJ {H:Hp}{l:List Term}{v:Value}{bl bo bw:Nat}(hT:RdSl H 6 Term.cells v l)(hl:H bl 0=some v)(hw:H bw 0=some (.func (.func 60) #[] #[.pointer (some ⟨bw,0,none⟩),.pointer (some ⟨bl,0,none⟩),.pointer (some ⟨bo,0,none⟩)])):
  ∀(f:Nat) (at_:Int),(at_<0∨Tr l f at_)→∀(u:Value) (xs:List Str) (ob:aj),OwnSl 1 Str.cells u xs ob→xs.length+(fh l f at_).length≤100000000→
   FnX Tryz.prog 60 [.int .i64 at_,.pointer (some ⟨bw,0,none⟩),.pointer (some ⟨bl,0,none⟩),.pointer (some ⟨bo,0,none⟩)] H ((bo,[u])::ob) (fun r H' L'=>r= .tuple #[]∧H'=H∧∃u' ob',L'=(bo,[u'])::ob'∧OwnSl 1 Str.cells u' (xs++fh l f at_) ob'):=by
 intro f
 induction f with
 | zero=>
  intro at_ h u xs ob hO hlen
  have h0:at_<0:=h.resolve_right (fun h=>h)
  rw [kI h0,List.append_nil]
  exact DK h0 hO
 | succ f ih=>
 intro at_ h u xs ob hO hlen
 have one0:=hT.isOne
 obtain⟨ua,uc,rfl⟩:=hO.form
 refine FnX.enter Tryz.func60 Tryz.ntmps60 rfl rfl (fun w0=>?_)
 refine lm ?_
 refine ag rfl ?_ ?_<;>intro c6
 · exact TC.ret (aI (aZ (.inr rfl) (ce rfl) (fun w hw=>hw) ⟨rfl,rfl,_,_,rfl,by rw [kI c6,List.append_nil];exact hO⟩))
 obtain⟨h0,t,hx,_,_,hTl0,hTl1,hTr0,hTr1⟩:=h.resolve_left c6
 have hlt:at_.toNat<l.length:=(List.getElem?_eq_some_iff.1 hx).1
 rw [i6 c6 hx] at hlen
 simp only [List.length_append] at hlen
 have hTl:t.l<0∨Tr l f t.l:=by rcases Int.lt_or_le (ak t.kind) 1 with h1 | h1;exact .inl (by have:=hTl1 h1;omega);exact .inr (hTl0 h1)
 have hTr:t.r<0∨Tr l f t.r:=by rcases Int.lt_or_le (ak t.kind) 2 with h1 | h1;exact .inl (by have:=hTr1 h1;omega);exact .inr (hTr0 h1)
 refine jo ?_;refine eH ?_;refine Ba ?_;refine aK (bI rfl hw) rfl (xY ?_)
 refine bf (ge (L1:=(bo,[(.slice ua _ uc)])::ob) (ab rfl rfl rfl rfl) (ih t.l (hTl) _ _ _ hO om) rfl (fun v13 H13 L13 hle13 hp13=>?_))
 obtain⟨rfl,rfl,u13,ob13,rfl,hO13⟩:=hp13
 obtain⟨ua13,uc13,rfl⟩:=hO13.form
 refine k7 ?_;refine nA ?_;refine Ba ?_;refine aK (bI rfl hw) rfl (xY ?_)
 refine bf (ge (L1:=(bo,[(.slice ua13 _ uc13)])::ob13) (ab rfl rfl rfl rfl) (ih t.r (hTr) _ _ _ hO13 (by simp only [List.length_append];omega)) rfl (fun v20 H20 L20 hle20 hp20=>?_))
 obtain⟨rfl,rfl,u20,ob20,rfl,hO20⟩:=hp20
 obtain⟨ua20,uc20,rfl⟩:=hO20.form
 refine k7 ?_;refine zm2 ?_;refine TL.run (bI rfl hl) rfl (zm0 ?_);refine TL.run (ae rfl hT rfl om om) rfl (zm6 ?_);refine TL.run (br hT hx rfl rfl) rfl (zm1 ?_)
 refine ag rfl ?_ ?_<;>intro c26
 ·
  rw [if_pos c26] at hlen
  simp only [List.length_cons,List.length_nil] at hlen
  refine eH ?_;refine TD.leaf [(0,2),(1,2),(2,1),(3,1),(4,1),(5,2),(6,3),(7,0),(8,0)] kr kr (lj ?_);refine xY ?_
  refine aF rfl rfl rfl rfl (fun b33=>?_)
  refine bf (TL.append (enc:=Str.cells) rfl rfl rfl hO20 (Src.own [t.name] (.here _) rfl rfl) (by simp;omega) rfl (.skip _ (.skip _ .all)) rfl (fun a34 c34 ob34 hO34=>?_))
  refine bj (bf (kY rfl rfl rfl (.h1) rfl (bj ?_)))
  exact TF.nil (aZ (.inl rfl) (ce rfl) (fun w hw=>hw.drop) ⟨rfl,rfl,_,_,rfl,by rw [i6 c6 hx,if_pos c26,← List.append_assoc,← List.append_assoc];exact hO34⟩)
 exact TC.skip (aZ (.inl rfl) (ce rfl) (fun w hw=>hw) ⟨rfl,rfl,_,_,rfl,by rw [i6 c6 hx,if_neg c26,List.append_nil,← List.append_assoc];exact hO20⟩)
theorem Vars_ok {H:Hp}{l:List Term}{v:Value}(root:Int)(hT:RdSl H 6 Term.cells v l)(hnames:∀t∈l,t.name.length≤9223372036854775807):
  Fn Tryz.prog 23 [v,.int .i64 root] H (fun r H1=>RdSl H1 1 Str.cells r (j7 l root)):=by
 have one1:=hT.isOne
 refine Fn.enter Tryz.func23 Tryz.ntmps23 rfl rfl (fun w0=>?_)
 refine zm2 ?_
 refine qg rfl rfl (fun b2=>?_)
 refine uB ?_;refine yc ?_;refine ay (ab rfl rfl rfl rfl) (Fv root hT hnames) rfl (zm1 ?_)
 refine TC.cond rfl ?_ ?_<;>intro c10
 ·
  refine lF ?_
  exact aR (.inr rfl) (ad rfl (RVal.tmp rfl)) (by unfold j7;rw [if_neg (by simpa using c10)];exact RdSl.nil)
 refine cV ?_;refine zm2 ?_
 refine TL.alloc rfl (fun b5=>?_)
 refine gF ?_
 refine TL.alloc rfl (fun b6=>?_)
 refine iu ?_;refine qW ?_
 refine TL.pub sq (fun H_b6 le_b6 rd_b6=>?_)
 refine eQ (.h1) (TL.pub sq (fun H_b2 le_b2 rd_b2=>?_))
 have hT2:=(hT.le le_b6).le le_b2
 have hl:H_b2 b2 0=some v:=rd_b2 0 _ rfl
 have hw:=le_b2 _ _ _ (rd_b6 0 _ rfl)
 have hm:cF l root=true:=by simpa using c10
 have hvl:=vz hm
 refine TL.run (bI rfl hw) rfl (zm0 ?_)
 refine ge (L1:=(b5,[.slice none 0 0])::[]) (ab rfl rfl rfl rfl) (DJ hT2 hl hw (root.toNat+1) root (.inr (mZ hm)) _ [] [] OwnSl.nil (by simp;omega)) rfl (fun v14 H14 L14 hle14 hp14=>?_)
 obtain⟨rfl,rfl,u14,ob14,rfl,hO14⟩:=hp14
 rw [List.nil_append] at hO14
 obtain⟨ua14,uc14,rfl⟩:=hO14.form
 refine gF ?_;refine lD ?_
 refine TL.sort (ab rfl rfl rfl rfl) sort_ok hO14 (.skip _ .all) om rfl (fun ob16 hO16=>?_)
 refine gF ?_;refine lD ?_
 refine TL.compact (ab rfl rfl rfl rfl) AB hO16 (.skip _ .all) rfl (fun a18 c18 ob18 hO18=>?_)
 refine ei ?_
 refine TX.pubO hO18 (.skip _ .all) sq (fun H1 hle hR=>?_)
 exact aR (.inr rfl) (ad rfl (RVal.tmp rfl)) (by unfold j7;rw [if_pos hm];exact hR)
end Go.Sx
namespace Go.Sx
open Go Go.Proofs
theorem bL {H:Hp}(s:Str):
  FnS Tryz.prog 79 [gs s] H (.bool (au s)):=by
 refine FnS.enter Tryz.func79 Tryz.ntmps79 rfl rfl (fun w0=>?_)
 refine oM ?_;refine TL.run (eq rfl rfl) rfl (zm3 ?_)
 refine ai (s:=7) rfl ?_ ?_<;>intro g7
 · exact zq42
 have q7:=of_decide_eq_false g7
 refine cK ?_;refine aC rfl rfl (eq rfl rfl) rfl (db ?_)
 refine ai (s:=12) rfl ?_ ?_<;>intro g12
 ·
  have q12:=of_decide_eq_true g12
  exact zq44
 have q12:=of_decide_eq_false g12
 refine cK ?_
 have hlen:(0:Int)<s.length:=by have:=of_decide_eq_false g7;omega
 obtain⟨c0,hc0⟩:=ao (l:=s) (i:=0) om hlen
 refine aC rfl rfl (gn rfl rfl om hc0) rfl (aO rfl rfl (ab rfl rfl rfl rfl) (kt c0) rfl (db ?_))
 refine ai (s:=18) rfl ?_ ?_<;>intro g18
 · exact zq50
 refine cK ?_;refine aO rfl rfl (ab rfl rfl rfl rfl) (mX s) rfl (zm1 ?_)
 refine TC.cond rfl ?_ ?_<;>intro c21
 · exact zq56
 have hn:=oq g7 g12 hc0 g18 c21
 have hl12:(s.length:Int)≤12:=by have:=of_decide_eq_false g12;omega
 exact zq0
theorem qd {H:Hp}(k:Int):
  FnS Tryz.prog 95 [.int .i64 k] H (.bool (cd k)):=by
 refine FnS.enter Tryz.func95 Tryz.ntmps95 rfl rfl (fun w0=>?_)
 refine jt ?_
 refine bO (decide (k=1)||(decide (k=2)||(decide (k=4)||(decide (k=7)||(decide (k=8)||decide (k=9)))))) 4 [(2,_)] ⟨rfl,trivial⟩ ?_ ?_
 · refine Bb ?_;exact cw (aJ rfl) rfl rfl ⟨rfl,trivial⟩ (eR (aJ rfl) rfl rfl ⟨rfl,trivial⟩)
 refine TC.cond rfl ?_ ?_<;>intro c4
 ·
  refine nE ?_
  exact ax (.inr rfl) (ad rfl (RVal.tmp rfl)) (congrArg Value.bool (by unfold cd;first | exact c4.symm | (rw [c4]) | simp_all))
 refine uD ?_
 exact ax (.inr rfl) (ad rfl (RVal.tmp rfl)) (congrArg Value.bool (by unfold cd;first | exact c4.symm | (rw [c4]) | simp_all))
theorem dV {H:Hp}(e p a:Int):
  FnS Tryz.prog 41 [.int .i64 e,.int .i64 p,.int .i64 a] H (.agg (SFault.cells ⟨e,p,a⟩).toArray):=by
 refine FnS.enter Tryz.func41 Tryz.ntmps41 rfl rfl (fun w0=>?_)
 refine zm2 ?_
 refine TL.alloc rfl (fun b6=>?_)
 refine TL.nil (af (gw ?_));refine dw ?_;refine jq ?_
 exact ax (.inr rfl) (ad rfl (RVal.cellA rfl (.here _) rfl)) rfl
theorem kf {H:Hp}{pg:SProg}(s:Str)(hP:ProgOk H pg):
  FnS Tryz.prog 16 [.agg pg.cells.toArray,gs s] H (.int .i64 (dm pg.procs s)):=by
 have hq:=hP.q
 have hmax:=hq.max
 refine FnS.enter Tryz.func16 Tryz.ntmps16 rfl rfl (fun w0=>?_)
 refine zm2 ?_
 refine TL.box rfl rfl (fun b2=>?_)
 refine q4 ?_;refine TL.run (ah rfl rfl hq) rfl (zm8 ?_)
 refine TC.loop (V:=fun k=>[(9,.int .i64 k)]) (K:=[(1,_),(2,_),(4,_),(8,_)]) (L:=fun k=>_) (I:=fun k=>0≤k∧k≤pg.procs.length∧∀j:Nat,j<k.toNat→(pg.procs.map (·.name))[j]? ≠some s) (μ:=fun k=>(pg.procs.length - k).toNat) (i:=(0:Int)) ky ⟨by omega,by omega,fun j hj=>absurd hj sq⟩ (fun w hw=>hw) (fun k hI=>?_)
 refine zm7 ?_
 refine ag rfl ?_ ?_<;>intro c10
 ·
  obtain⟨x,hx⟩:=ao (l:=pg.procs) hI.1 c10
  refine pb ?_;refine o9 ?_;refine TL.run (ae rfl hq rfl om om) rfl (zm6 ?_);refine TL.run (br hq hx rfl rfl) rfl (ya ?_)
  refine ag rfl ?_ ?_<;>intro c19
  ·
   refine xZ ?_
   exact ax (.inr rfl) (ad rfl (RVal.tmp rfl)) (congrArg (Value.int .i64) (by unfold dm;first | exact(dI hI.1 (by rw [iR hx,c19]) hI.2.2).symm | exact(fC hI.2.2 (by rw [List.length_map];exact c10)).symm))
  refine l6 ?_
  exact aS (k+1) ⟨by omega,by omega,lO hI.1 hI.2.2 (iR hx) c19⟩ ky (fun w hw=>hw) om
 refine gv ?_
 exact ax (.inr rfl) (ad rfl (RVal.tmp rfl)) (congrArg (Value.int .i64) (by unfold dm;first | exact(dI hI.1 (by rw [iR hx,c19]) hI.2.2).symm | exact(fC hI.2.2 (by rw [List.length_map];exact c10)).symm))
theorem bare_ok {H:Hp}(s:SStep):
  FnS Tryz.prog 139 [.agg s.cells.toArray] H (.agg (dD s).cells.toArray):=by
 refine FnS.enter Tryz.func139 Tryz.ntmps139 rfl rfl (fun w0=>?_)
 refine zm2 ?_
 refine TL.box rfl rfl (fun b1=>?_)
 refine TL.alloc rfl (fun b2=>?_)
 refine TL.nil (af (TC.seq (gX ?_)));refine yi ?_
 refine ag rfl ?_ ?_<;>intro c5
 · exact C8
 refine f4 ?_
 refine ag rfl ?_ ?_<;>intro c9
 · exact TC.region (C7)
 refine f4 ?_
 refine ag rfl ?_ ?_<;>intro c12
 · exact C8
 refine f4 ?_
 refine ag rfl ?_ ?_<;>intro c16
 ·
  refine TC.region (xX ?_)
  exact C6
 refine f4 ?_
 refine ag rfl ?_ ?_<;>intro c22
 · exact TC.region (C6)
 refine bO (decide (s.kind=6)||decide (s.kind=7)) 27 [(1,_),(2,_),(4,_)] ky ?_ ?_
 · exact cw (aJ rfl) rfl rfl ky (eR (aJ rfl) rfl rfl ky)
 refine TC.cond rfl ?_ ?_<;>intro c27
 ·
  have h67:s.kind=6∨s.kind=7:=by simpa using c27
  have h8:¬s.kind=8:=by omega
  have h9:¬s.kind=9:=by omega
  exact C8
 refine f4 ?_
 refine ag rfl ?_ ?_<;>intro c32
 ·
  refine TC.region (xX ?_)
  exact C6
 refine f4 ?_
 refine ag rfl ?_ ?_<;>intro c38
 · exact TC.region (C7)
 exact TC.skip (zq132)
theorem kU {H:Hp}{l:List Str}{v:Value}(hL:RdSl H 1 Str.cells v l):
  FnS Tryz.prog 81 [v] H (.bool (de l)):=by
 have hmax:=hL.max
 obtain⟨la,lc,rfl⟩:=hL.len
 refine FnS.enter Tryz.func81 Tryz.ntmps81 rfl rfl (fun w0=>?_)
 refine oM ?_;refine TL.run (ah rfl rfl hL) rfl (zm8 ?_)
 refine TC.loop (V:=fun k=>[(6,.int .i64 k)]) (K:=[(0,_),(2,_),(5,_)]) (L:=fun k=>_) (I:=fun k=>0≤k∧k≤l.length∧(l.take k.toNat).Nodup) (μ:=fun k=>(l.length - k).toNat) (i:=(0:Int)) ky ⟨by omega,by omega,List.nodup_nil⟩ (fun w hw=>hw) (fun k hI=>?_)
 refine zm7 ?_
 refine ag rfl ?_ ?_<;>intro c7
 ·
  obtain⟨x,hx⟩:=ao (l:=l) hI.1 c7
  refine pb ?_;refine gw ?_;refine pc ?_;refine TL.run (aQ hL hx rfl rfl) rfl (ay (ab rfl rfl rfl rfl) (sn x hL) rfl (lW ?_))
  refine aX rfl ?_ ?_<;>intro c16
  ·
   refine o8 ?_
   exact ax (.inr rfl) (ad rfl (RVal.tmp rfl)) (congrArg Value.bool (by first | exact(mU c7 hI.1 hI.2.2).symm | exact(r6 hI.1 hx (by simpa using c16)).symm))
  refine l6 ?_
  exact aS (k+1) ⟨by omega,by omega,lI hI.1 hx hI.2.2 (y0 hI.1 hx (by simpa using c16))⟩ ky (fun w hw=>hw) om
 refine gv ?_
 exact ax (.inr rfl) (ad rfl (RVal.tmp rfl)) (congrArg Value.bool (by first | exact(mU c7 hI.1 hI.2.2).symm | exact(r6 hI.1 hx (by simpa using c16)).symm))
end Go.Sx
namespace Go.Sx
open Go Go.Proofs
theorem Bf {H:Hp}(s:SStep)(hs:StepOk H s):
  FnS Tryz.prog 140 [.agg s.cells.toArray] H (.bool (eI s)):=by
 have hw:=hs.w
 have hmw:=hw.max
 refine FnS.enter Tryz.func140 Tryz.ntmps140 rfl rfl (fun w0=>?_)
 refine zm2 ?_
 refine TL.box rfl rfl (fun b1=>?_)
 refine iW ?_;refine qm ?_
 refine ag rfl ?_ ?_<;>intro c8
 ·
  refine fL ?_;refine TL.run (ah rfl rfl hw) rfl (zm3 ?_)
  refine ai (s:=13) rfl ?_ ?_<;>intro g13
  ·
   have q13:=of_decide_eq_true g13
   obtain⟨w0,h0⟩:=ao (l:=s.ways) (i:=0) dq om
   obtain⟨w1,h1⟩:=ao (l:=s.ways) (i:=1) dq om
   refine zm9 ?_;refine A9 ?_;refine it ?_;refine aC rfl rfl (br hw h0 rfl rfl) rfl (nz ?_);refine zm3 ?_
   refine ai (s:=21) rfl ?_ ?_<;>intro g21
   ·
    have q21:=of_decide_eq_true g21
    refine zm9 ?_;refine A9 ?_;refine it ?_;refine aC rfl rfl (br hw h0 rfl rfl) rfl (nz ?_);refine zm3 ?_
    refine ai (s:=29) rfl ?_ ?_<;>intro g29
    ·
     have q29:=of_decide_eq_true g29
     refine zm9 ?_;refine A9 ?_;refine it ?_;refine aC rfl rfl (br hw h1 rfl rfl) rfl (nz ?_);refine zm3 ?_
     refine ai (s:=37) rfl ?_ ?_<;>intro g37
     ·
      have q37:=of_decide_eq_true g37
      refine zm9 ?_;refine A9 ?_;refine it ?_;refine aC rfl rfl (br hw h1 rfl rfl) rfl (nz ?_);refine zm0 ?_
      exact qi
     have q37:=of_decide_eq_false g37
     refine eg ?_;refine uy ?_
     exact qi
    have q29:=of_decide_eq_false g29
    refine qV ?_;refine uy ?_
    exact qi
   have q21:=of_decide_eq_false g21
   refine qV ?_;refine oL ?_;refine uy ?_
   exact qi
  have q13:=of_decide_eq_false g13
  refine qV ?_;refine oL ?_;refine oL ?_;refine uy ?_
  exact qi
 refine jo ?_;refine fL ?_;refine TL.run (ah rfl rfl hw) rfl (zm3 ?_)
 refine ai (s:=49) rfl ?_ ?_<;>intro g49
 ·
  have q49:=of_decide_eq_true g49
  refine eg ?_;refine ll ?_;refine zm2 ?_
  exact qi
 have q49:=of_decide_eq_false g49
 refine zm9 ?_;refine aC rfl rfl (ah rfl rfl hw) rfl (gi ?_)
 refine ag rfl ?_ ?_<;>intro c54
 ·
  refine zm2 ?_
  exact qi
 have hn7:(1:Int)≤s.ways.length∧(s.ways.length:Int)≤7:=o2q
 refine cV ?_;refine xW ?_;refine TL.run (ah rfl rfl hw) rfl (zm8 ?_)
 refine aW (V:=fun k v ob H1=>[(3,v),(58,.int .i64 k)]) (K:=[(2,_),(56,_),(57,_)]) (L:=fun k v ob H1=>St [] w0 H H ((b1,_)::ob)) (I:=fun k v ob H1=>(0≤k∧k≤s.ways.length)∧OwnSl 1 Str.cells v ((s.ways.take k.toNat).map (·.label)) ob∧s.ways.all (fun w=>!dQ w)=(s.ways.drop k.toNat).all (fun w=>!dQ w)) (μ:=fun k=>(s.ways.length - k).toNat) 0 (.slice none 0 0) [] H ky ⟨o2q,OwnSl.nil,rfl⟩ (fun w hw=>hw) (fun k v ob H1 hI=>?_)
 obtain⟨⟨k0,k1⟩,hO,hal⟩:=hI
 obtain⟨va,vc,rfl⟩:=hO.form
 refine zm7 ?_
 refine ag rfl ?_ ?_<;>intro c59
 ·
  obtain⟨x,hx⟩:=ao (l:=s.ways) k0 c59
  refine dz ?_;refine TL.run (ae rfl hw rfl om om) rfl (TL.run (bg hw hx rfl rfl) rfl (TL.alloc rfl (fun b5=>?_)))
  refine qt ?_
  refine bO (dQ x) 91 [(2,_),(3,_),(5,_),(56,_),(57,_),(58,_),(59,_),(60,_),(61,_)] ky ?_ ?_
  ·
   refine xV ?_
   refine ai (s:=65) rfl ?_ ?_<;>intro g65
   ·
    have q65:=of_decide_eq_true g65
    refine qu ?_
    refine ai (s:=70) rfl ?_ ?_<;>intro g70
    ·
     have q70:=aU g70
     refine yg ?_;refine eC rfl rfl rfl (eC rfl rfl rfl (dh ?_));refine qx ?_;refine eC rfl rfl rfl (eC rfl rfl rfl (eC rfl rfl rfl (eC rfl rfl rfl ?_)));refine dh ?_;refine dN ?_
     exact aV rfl (by unfold dQ;simp_all) ky
    have q70:=aP g70
    exact zq169
   have q65:=of_decide_eq_false g65
   refine jr ?_
   exact zq169
  refine TC.cond rfl ?_ ?_<;>intro c91
  · refine iV ?_;refine aI (bv (aI (aI ?_)));exact bv (zq168)
  refine cV ?_;refine pN ?_
  refine aD rfl rfl rfl rfl (fun b95=>?_)
  refine TL.append (enc:=Str.cells) rfl rfl rfl hO (Src.own [x.label] (.here _) rfl rfl) (by simp;omega) rfl (.s2 (.skip _ .all)) rfl (fun a96 c96 ob96 hO96=>?_)
  refine mq ?_
  exact aH (k+1) _ ob96 H ⟨o2q,by rw [bQ k0 hx];exact hO96,cg k0 hx (by simpa using c91) hal⟩ ky (fun w hw=>hw.drop.drop) om
 refine ux ?_
 refine TL.pubO hO (.skip _ .all) sq (fun HJ leJ hJ=>?_)
 have hO2:=hJ.cast (show _=s.ways.map (·.label) by rw [bC c59 k0])
 refine ay (ab rfl rfl rfl rfl) (kU hO2) rfl (ei ?_)
 exact zq165
theorem may_ok {H:Hp}(s:SStep)(hs:StepOk H s):
  FnS Tryz.prog 82 [.agg s.cells.toArray] H (.bool (dg s)):=by
 have hc:=hs.c
 have hmc:=hc.max
 have hB:=bare_rd hs
 refine FnS.enter Tryz.func82 Tryz.ntmps82 rfl rfl (fun w0=>?_)
 refine zm2 ?_
 refine TL.box rfl rfl (fun b1=>?_)
 refine q4 ?_;refine zm3 ?_
 refine ai (s:=9) rfl ?_ ?_<;>intro g9
 ·
  have q9:=of_decide_eq_true g9
  refine jn ?_;refine ll ?_;refine iV ?_
  exact AG
 have q9:=of_decide_eq_false g9
 refine zm9 ?_;refine gi ?_
 refine ag rfl ?_ ?_<;>intro c13
 ·
  refine iV ?_
  exact AG
 refine cV ?_;refine gu ?_;refine ay (ab rfl rfl rfl rfl) (bare_ok s) rfl (TL.alloc rfl (fun b3=>?_))
 refine qt ?_
 refine bO (gA (dD s)) 61 [(1,_),(2,_)] ⟨rfl,rfl,trivial⟩ ?_ ?_
 ·
  refine xV ?_
  refine ai (s:=19) rfl ?_ ?_<;>intro g19
  ·
   have q19:=aU g19
   refine jr ?_;refine jr ?_
   exact C4
  have q19:=aP g19
  refine qu ?_
  refine ai (s:=24) rfl ?_ ?_<;>intro g24
  ·
   have q24:=aU g24
   refine jr ?_
   exact C4
  have q24:=aP g24
  refine qu ?_
  refine ai (s:=29) rfl ?_ ?_<;>intro g29
  ·
   have q29:=aU g29
   exact C4
  have q29:=aP g29
  refine qu ?_
  refine ai (s:=34) rfl ?_ ?_<;>intro g34
  ·
   have q34:=aU g34
   exact zq188
  have q34:=aP g34
  refine qZ ?_
  refine ai (s:=39) rfl ?_ ?_<;>intro g39
  ·
   have q39:=aU g39
   exact zq193
  have q39:=aP g39
  refine zm9 ?_;refine aC rfl rfl (ah rfl rfl hB.a) rfl (db ?_)
  refine ai (s:=45) rfl ?_ ?_<;>intro g45
  ·
   have q45:=of_decide_eq_true g45
   exact zq199
  have q45:=of_decide_eq_false g45
  refine zm9 ?_;refine aC rfl rfl (ah rfl rfl hB.c) rfl (db ?_)
  refine ai (s:=51) rfl ?_ ?_<;>intro g51
  ·
   have q51:=of_decide_eq_true g51
   exact zq205
  have q51:=of_decide_eq_false g51
  refine zm9 ?_;refine aC rfl rfl (ah rfl rfl hB.w) rfl (db ?_)
  refine ai (s:=57) rfl ?_ ?_<;>intro g57
  ·
   have q57:=of_decide_eq_true g57
   refine ny ?_
   exact aV rfl (by unfold gA;simp_all) ⟨rfl,rfl,trivial⟩
  have q57:=of_decide_eq_false g57
  refine zm9 ?_;refine gH ?_
  exact aV rfl (by unfold gA;simp_all) ⟨rfl,rfl,trivial⟩
 refine TC.cond rfl ?_ ?_<;>intro c61
 ·
  refine iV ?_
  exact AG
 refine jo ?_;refine gX ?_;refine TL.nil (af (TC.block (bO (decide (s.kind=1)||decide (s.kind=9)) 64 [(1,_),(2,_),(63,_)] ky ?_ ?_)))
 · exact cw (aJ rfl) rfl rfl ky (eR (aJ rfl) rfl rfl ky)
 refine TC.cond rfl ?_ ?_<;>intro c64
 · refine gX ?_;exact ay (ab rfl rfl rfl rfl) (bL s.name) rfl (lf)
 refine f4 ?_
 refine ag rfl ?_ ?_<;>intro c70
 · refine mp ?_;exact ay (ab rfl rfl rfl rfl) (Bf s hs) rfl (lf)
 refine f4 ?_
 refine ag rfl ?_ ?_<;>intro c74
 ·
  refine gX ?_;refine ay (ab rfl rfl rfl rfl) (bL s.name) rfl (zm0 ?_)
  refine ai (s:=79) rfl ?_ ?_<;>intro g79
  ·
   refine fM ?_;refine aO rfl rfl (ab rfl rfl rfl rfl) (bL s.peer) rfl (zm3 ?_)
   refine ai (s:=84) rfl ?_ ?_<;>intro g84
   ·
    refine fM ?_;refine aO rfl rfl (ab rfl rfl rfl rfl) (bL s.label) rfl (zm0 ?_)
    exact lf
   refine jn ?_;refine zm0 ?_
   exact lf
  refine jr ?_;refine jn ?_;refine zm0 ?_
  exact lf
 refine f4 ?_
 refine ag rfl ?_ ?_<;>intro c89
 ·
  refine gX ?_;refine ay (ab rfl rfl rfl rfl) (bL s.name) rfl (zm0 ?_)
  refine ai (s:=94) rfl ?_ ?_<;>intro g94
  ·
   refine fM ?_;refine aO rfl rfl (ab rfl rfl rfl rfl) (bL s.peer) rfl (zm3 ?_)
   refine ai (s:=99) rfl ?_ ?_<;>intro g99
   ·
    refine aC rfl rfl (a7 rfl (.h1) rfl) rfl (aO rfl rfl (ab rfl rfl rfl rfl) (Bf s hs) rfl (zm0 ?_))
    exact lf
   refine uy ?_
   exact lf
  refine jr ?_;refine uy ?_
  exact lf
 refine bO (decide (s.kind=6)||decide (s.kind=7)) 103 [(1,_),(2,_),(63,_)] ky ?_ ?_
 · exact cw (aJ rfl) rfl rfl ky (eR (aJ rfl) rfl rfl ky)
 refine TC.cond rfl ?_ ?_<;>intro c103
 ·
  refine gX ?_;refine ay (ab rfl rfl rfl rfl) (bL s.proc) rfl (zm0 ?_)
  refine ai (s:=109) rfl ?_ ?_<;>intro g109
  ·
   refine fM ?_;refine aC rfl rfl (ah rfl rfl hs.a) rfl (cK ?_);refine zm0 ?_
   exact lf
  refine eg ?_;refine zm0 ?_
  exact lf
 refine f4 ?_
 refine ag rfl ?_ ?_<;>intro c115
 ·
  refine TC.seq (gX ?_);refine ay (ab rfl rfl rfl rfl) (bL s.name) rfl (zm3 ?_)
  refine ai (s:=121) rfl ?_ ?_<;>intro g121
  ·
   refine xU ?_;refine mr ?_
   exact qh
  refine fM ?_;refine aO rfl rfl (ab rfl rfl rfl rfl) (bL s.label) rfl (db ?_)
  refine ai (s:=127) rfl ?_ ?_<;>intro g127
  ·
   refine w6 ?_;refine mr ?_
   exact qh
  refine fM ?_;refine aO rfl rfl (ab rfl rfl rfl rfl) (bL s.peer) rfl (db ?_)
  refine ai (s:=133) rfl ?_ ?_<;>intro g133
  ·
   refine oK ?_;refine mr ?_
   exact qh
  refine fM ?_;refine aC rfl rfl (ah rfl rfl hc) rfl (db ?_)
  refine ai (s:=139) rfl ?_ ?_<;>intro g139
  ·
   have q139:=of_decide_eq_true g139
   refine eg ?_;refine mr ?_
   exact qh
  have q139:=of_decide_eq_false g139
  refine fM ?_;refine aC rfl rfl (ah rfl rfl hc) rfl (gi ?_)
  refine ag rfl ?_ ?_<;>intro c144
  ·
   refine lF ?_
   exact qh
  refine cV ?_;refine gX ?_;refine TL.run (ah rfl rfl hc) rfl (zm8 ?_)
  refine TC.loop (V:=fun k=>[(148,.int .i64 k)]) (K:=[(2,_),(146,_),(147,_)]) (L:=fun k=>_) (I:=fun k=>(0≤k∧k≤s.casts.length)∧s.casts.all (fun c=>!eU c)=(s.casts.drop k.toNat).all (fun c=>!eU c)) (μ:=fun k=>(s.casts.length - k).toNat) (i:=(0:Int)) ky ⟨o2q,rfl⟩ (fun w hw=>hw) (fun k hI=>?_)
  obtain⟨⟨k0,k1⟩,hal⟩:=hI
  refine zm7 ?_
  refine ag rfl ?_ ?_<;>intro c149
  ·
   obtain⟨x,hx⟩:=ao (l:=s.casts) k0 c149
   have hxa:=hs.cs x (List.mem_of_getElem? hx)
   refine dz ?_;refine TL.run (ae rfl hc rfl om om) rfl (TL.run (bg hc hx rfl rfl) rfl (TL.alloc rfl (fun b5=>?_)))
   refine fb ?_
   refine bO (eU x) 167 [(2,_),(5,_),(146,_),(147,_),(148,_),(149,_),(150,_),(151,_)] ky ?_ ?_
   ·
    refine ql ?_;refine ay (ab rfl rfl rfl rfl) (bL x.role) rfl (zm3 ?_)
    refine ai (s:=156) rfl ?_ ?_<;>intro g156
    ·
     refine oK ?_;refine dN ?_
     exact aV rfl (by unfold eU;simp_all) ky
    refine zm9 ?_;refine aO rfl rfl (ab rfl rfl rfl rfl) (bL x.proc) rfl (db ?_)
    refine ai (s:=162) rfl ?_ ?_<;>intro g162
    ·
     refine nD ?_
     exact aV rfl (by unfold eU;simp_all) ky
    refine zm9 ?_;refine aC rfl rfl (ah rfl rfl hxa) rfl (gH ?_)
    exact aV rfl (by unfold eU;simp_all) ky
   refine TC.cond rfl ?_ ?_<;>intro c167
   ·
    have hall:=du (p:=fun c=>!eU c) k0 hx (by simp [c167]) hal
    clear hal
    refine nE ?_;exact aI (bv (qh))
   refine l6 ?_
   exact aS (k+1) ⟨o2q,cg k0 hx (by simpa using c167) hal⟩ ky (fun w hw=>hw.drop) om
  have hall:=cU (p:=fun c=>!eU c) k0 c149 hal
  clear hal
  refine TC.exit (bM (bM (cG ?_)));refine bu (af (iV ?_))
  exact C5
 refine uD ?_
 exact C5
theorem mV {H:Hp}(s:SStep)(hs:StepOk H s)(hl:s.ways.length≤1000):
  FnO Tryz.prog 83 [.agg s.cells.toArray] H (fun v H1 ob=>H1=H∧OwnSl 1 I64.cells v (aG s) ob):=by
 have hw:=hs.w
 have hmw:=hw.max
 refine FnO.enter Tryz.func83 Tryz.ntmps83 rfl rfl (fun w0=>?_)
 refine zm2 ?_
 refine TL.box rfl rfl (fun b1=>?_)
 refine q4 ?_;refine ay (ab rfl rfl rfl rfl) (qd s.kind) rfl (TL.nil (af (TC.cond rfl (fun c8=>?_) (fun c8=>?_))))
 ·
  refine fL ?_
  refine aD rfl rfl rfl rfl (fun b11=>?_)
  refine tO ?_
  exact ef (.inr rfl) (ad rfl (RVal.tmp rfl)) (.take (.here _) rfl) ⟨rfl,by unfold aG;rw [if_pos c8];exact OwnSl.blk (enc:=I64.cells) [s.next] rfl rfl dq⟩
 refine cV ?_;refine xW ?_;refine TL.run (ah rfl rfl hw) rfl (zm8 ?_)
 refine aW (V:=fun k v ob H1=>[(3,v),(15,.int .i64 k)]) (K:=[(2,_),(13,_),(14,_)]) (L:=fun k v ob H1=>St [] w0 H H ((b1,_)::ob)) (I:=fun k v ob H1=>(0≤k∧k≤s.ways.length)∧OwnSl 1 I64.cells v ((s.ways.take k.toNat).map (·.next)) ob) (μ:=fun k=>(s.ways.length - k).toNat) 0 (.slice none 0 0) [] H ky ⟨o2q,OwnSl.nil⟩ (fun w hw=>hw) (fun k v ob H1 hI=>?_)
 obtain⟨⟨k0,k1⟩,hO⟩:=hI
 obtain⟨va,vc,rfl⟩:=hO.form
 refine zm7 ?_
 refine ag rfl ?_ ?_<;>intro c16
 ·
  obtain⟨x,hx⟩:=ao (l:=s.ways) k0 c16
  refine dz ?_;refine TL.run (ae rfl hw rfl om om) rfl (TL.run (bg hw hx rfl rfl) rfl (TL.alloc rfl (fun b5=>?_)))
  refine xT ?_
  refine aD rfl rfl rfl rfl (fun b22=>?_)
  refine TL.append (enc:=I64.cells) rfl rfl rfl hO (Src.own [x.next] (.here _) rfl rfl) (by simp;omega) rfl (.s2 (.skip _ .all)) rfl (fun a23 c23 ob23 hO23=>?_)
  refine mq ?_
  exact aH (k+1) _ ob23 H ⟨o2q,by rw [bQ k0 hx];exact hO23⟩ ky (fun w hw=>hw.drop.drop) om
 refine tw ?_
 exact ef (.inr rfl) (ad rfl (RVal.tmp rfl)) (.skip _ .all) ⟨rfl,hO.cast (by unfold aG;rw [if_neg (by rw [c8];decide),bC c16 k0])⟩
end Go.Sx
namespace Go.Sx
open Go Go.Proofs
theorem yC {H:Hp}(s:SStep)(hs:StepOk H s)(hl:s.args.length≤6∧s.casts.length≤4∧∀c∈s.casts,c.args.length≤6):
  FnO Tryz.prog 84 [.agg s.cells.toArray] H (fun v H1 ob=>H1=H∧OwnSl 1 I64.cells v (a8 s) ob):=by
 have hc:=hs.c
 have ha:=hs.a
 obtain⟨hl1,hl2,hl3⟩:=hl
 refine FnO.enter Tryz.func84 Tryz.ntmps84 rfl rfl (fun w0=>?_)
 refine zm2 ?_
 refine TL.box rfl rfl (fun b1=>?_)
 refine zm1 ?_;refine xW ?_;refine TL.nil (af (TC.block (bO (decide (s.kind=1)||(decide (s.kind=2)||decide (s.kind=3))) 8 [(1,_),(2,_),(3,_),(7,_)] ky ?_ ?_)))
 · exact cw (aJ rfl) rfl rfl ky (cw (aJ rfl) rfl rfl ky (eR (aJ rfl) rfl rfl ky))
 refine TC.cond rfl ?_ ?_<;>intro c8
 ·
  have h8:s.kind=1∨s.kind=2∨s.kind=3:=by simpa [or_assoc] using c8
  refine pN ?_
  refine aD rfl rfl rfl rfl (fun b15=>?_)
  refine TL.append (enc:=I64.cells) rfl rfl rfl (OwnSl.nil (enc:=I64.cells)) (Src.own [s.term] (.here _) rfl rfl) sq rfl (.new _ rfl) rfl (fun a16 c16 ob16 hO16=>?_)
  refine dN ?_;refine bu (af (dM ?_));refine iN ?_
  refine TL.append (enc:=I64.cells) rfl rfl rfl hO16 (Src.sl ha) (by simp;omega) rfl (.skip _ (.skip _ .all)) rfl (fun a30 c30 ob30 hO30=>?_)
  refine qU ?_;refine TL.run (ah rfl rfl hc) rfl (zm8 ?_)
  refine aW (V:=fun k v ob H1=>[(3,v),(34,.int .i64 k)]) (K:=[(2,_),(32,_),(33,_)]) (L:=fun k v ob H1=>St [] w0 H H ((b15,_)::(b1,_)::ob)) (I:=fun k v ob H1=>(0≤k∧k≤s.casts.length)∧OwnSl 1 I64.cells v (jT s++(s.casts.take k.toNat).flatMap (·.args)) ob∧((s.casts.take k.toNat).flatMap (·.args)).length≤6 * k.toNat) (μ:=fun k=>(s.casts.length - k).toNat) 0 _ ob30 H ky ⟨o2q,hO30.cast (by first | (rw [wo h8];simp) | (rw [wq c17 c21];simp) | (rw [kK h8 (.inr c21)];simp) | (rw [kK h8 (.inl c17)];simp)),by simp⟩ (fun w hw=>hw) (fun k v ob H1 hI=>?_)
  exact zq240
 have h8:¬s.kind=1∧¬s.kind=2∧¬s.kind=3:=by simpa [and_assoc] using c8
 refine f4 ?_
 refine ag rfl ?_ ?_<;>intro c17
 ·
  refine qm ?_
  refine aX rfl ?_ ?_<;>intro c21
  ·
   refine pN ?_
   refine aD rfl rfl rfl rfl (fun b25=>?_)
   refine TL.append (enc:=I64.cells) rfl rfl rfl (OwnSl.nil (enc:=I64.cells)) (Src.own [s.term] (.here _) rfl rfl) sq rfl (.new _ rfl) rfl (fun a26 c26 ob26 hO26=>?_)
   refine dN ?_;refine bu (af (dM ?_));refine iN ?_
   refine TL.append (enc:=I64.cells) rfl rfl rfl hO26 (Src.sl ha) (by simp;omega) rfl (.skip _ (.skip _ .all)) rfl (fun a30 c30 ob30 hO30=>?_)
   refine qU ?_;refine TL.run (ah rfl rfl hc) rfl (zm8 ?_)
   refine aW (V:=fun k v ob H1=>[(3,v),(34,.int .i64 k)]) (K:=[(2,_),(32,_),(33,_)]) (L:=fun k v ob H1=>St [] w0 H H ((b25,_)::(b1,_)::ob)) (I:=fun k v ob H1=>(0≤k∧k≤s.casts.length)∧OwnSl 1 I64.cells v (jT s++(s.casts.take k.toNat).flatMap (·.args)) ob∧((s.casts.take k.toNat).flatMap (·.args)).length≤6 * k.toNat) (μ:=fun k=>(s.casts.length - k).toNat) 0 _ ob30 H ky ⟨o2q,hO30.cast (by first | (rw [wo h8];simp) | (rw [wq c17 c21];simp) | (rw [kK h8 (.inr c21)];simp) | (rw [kK h8 (.inl c17)];simp)),by simp⟩ (fun w hw=>hw) (fun k v ob H1 hI=>?_)
   exact zq240
  exact zq208
 exact zq208
theorem sU {H:Hp}(s:SStep)(hs:StepOk H s)(hl:s.ways.length≤1000):
  FnO Tryz.prog 87 [.agg s.cells.toArray] H (fun v H1 ob=>H1=H∧OwnSl 1 Str.cells v (bz s) ob):=by
 have hw:=hs.w
 have hnl:=Cr s hl
 refine FnO.enter Tryz.func87 Tryz.ntmps87 rfl rfl (fun w0=>?_)
 refine zm2 ?_
 refine TL.box rfl rfl (fun b1=>?_)
 refine q4 ?_;refine TL.nil (af (TC.block (bO (decide (s.kind=1)||decide (s.kind=8)) 8 [(1,_),(2,_),(7,_)] ky ?_ ?_)))
 · exact cw (aJ rfl) rfl rfl ky (eR (aJ rfl) rfl rfl ky)
 refine TC.cond rfl ?_ ?_<;>intro c8
 ·
  have h8:s.kind=1∨s.kind=8:=by simpa using c8
  refine fL ?_
  refine aD rfl rfl rfl rfl (fun b13=>?_)
  refine ei ?_;exact bv (aI (ef (.inr rfl) (ad rfl (RVal.tmp rfl)) (.take (.here _) rfl) ⟨rfl,(OwnSl.blk (enc:=Str.cells) [s.name] rfl rfl sq).cast (by unfold bz;rw [if_pos h8])⟩))
 have h8:¬(s.kind=1∨s.kind=8):=by simpa using c8
 refine f4 ?_
 refine ag rfl ?_ ?_<;>intro c14
 ·
  refine xW ?_;refine TL.run (ah rfl rfl hw) rfl (zm8 ?_)
  refine aW (V:=fun k v ob H1=>[(3,v),(19,.int .i64 k)]) (K:=[(1,_),(2,_),(17,_),(18,_)]) (L:=fun k v ob H1=>St [] w0 H H ((b1,_)::ob)) (I:=fun k v ob H1=>(0≤k∧k≤s.ways.length)∧OwnSl 1 Str.cells v ((s.ways.take k.toNat).map (·.name)) ob) (μ:=fun k=>(s.ways.length - k).toNat) 0 (.slice none 0 0) [] H ky ⟨o2q,OwnSl.nil⟩ (fun w hw=>hw) (fun k v ob H1 hI=>?_)
  obtain⟨⟨k0,k1⟩,hO⟩:=hI
  obtain⟨va,vc,rfl⟩:=hO.form
  refine zm7 ?_
  refine ag rfl ?_ ?_<;>intro c20
  ·
   obtain⟨x,hx⟩:=ao (l:=s.ways) k0 c20
   refine dz ?_;refine TL.run (ae rfl hw rfl om om) rfl (TL.run (bg hw hx rfl rfl) rfl (TL.alloc rfl (fun b5=>?_)))
   refine xT ?_
   refine aD rfl rfl rfl rfl (fun b26=>?_)
   refine TL.append (enc:=Str.cells) rfl rfl rfl hO (Src.own [x.name] (.here _) rfl rfl) (by simp;omega) rfl (.s2 (.skip _ .all)) rfl (fun a27 c27 ob27 hO27=>?_)
   refine mq ?_
   exact aH (k+1) _ ob27 H ⟨o2q,by rw [bQ k0 hx];exact hO27⟩ ky (fun w hw=>hw.drop.drop) om
  refine tw ?_;exact bv (aI (ef (.inr rfl) (ad rfl (RVal.tmp rfl)) (.skip _ .all) ⟨rfl,hO.cast (by unfold bz;rw [if_neg h8,if_pos c14,bC c20 k0])⟩))
 refine TC.skip (bu (af (gu ?_)))
 refine da (ab rfl rfl rfl rfl) (mV s hs hl) rfl (fun v31 H31 ob31 hle31 hp31=>?_)
 obtain⟨rfl,hO31⟩:=hp31
 obtain⟨a31,c31,rfl⟩:=hO31.form
 refine TL.run (bE rfl rfl hO31) rfl (gQ rfl rfl (by first | omega | decide) (by first | omega | decide) (by first | omega | decide) rfl (fun b33=>?_))
 refine ei ?_
 exact ef (.inr rfl) (ad rfl (RVal.tmp rfl)) (.take (.here _) rfl) ⟨rfl,Ej (by unfold bz;rw [if_neg h8,if_neg c14]) om⟩
theorem EB {H:Hp}{at_:Int}{bl bo bw:Nat}{u:Value}{xs:List Int}{ob:aj}(hneg:at_<0)(hO:OwnSl 1 I64.cells u xs ob):
  FnX Tryz.prog 141 [.int .i64 at_,.pointer (some ⟨bw,0,none⟩),.pointer (some ⟨bl,0,none⟩),.pointer (some ⟨bo,0,none⟩)] H ((bo,[u])::ob) (fun r H' L'=>r= .tuple #[]∧H'=H∧∃u' ob',L'=(bo,[u'])::ob'∧OwnSl 1 I64.cells u' xs ob'):=by
 refine FnX.enter Tryz.func141 Tryz.ntmps141 rfl rfl (fun w0=>?_)
 refine lm ?_
 refine ag rfl ?_ ?_<;>intro c6
 · exact TC.ret (aI (aZ (.inr rfl) (ce rfl) (fun w hw=>hw) ⟨rfl,rfl,_,_,rfl,hO⟩))
 exact absurd hneg c6
theorem EA {H:Hp}{l:List Term}{v:Value}{bl bo bw:Nat}(hT:RdSl H 6 Term.cells v l)(hl:H bl 0=some v)(hw:H bw 0=some (.func (.func 141) #[] #[.pointer (some ⟨bw,0,none⟩),.pointer (some ⟨bl,0,none⟩),.pointer (some ⟨bo,0,none⟩)])):
  ∀(f:Nat) (at_:Int),(at_<0∨Tr l f at_)→∀(u:Value) (xs:List Int) (ob:aj),OwnSl 1 I64.cells u xs ob→xs.length+(dL l f at_).length≤100000000→
   FnX Tryz.prog 141 [.int .i64 at_,.pointer (some ⟨bw,0,none⟩),.pointer (some ⟨bl,0,none⟩),.pointer (some ⟨bo,0,none⟩)] H ((bo,[u])::ob) (fun r H' L'=>r= .tuple #[]∧H'=H∧∃u' ob',L'=(bo,[u'])::ob'∧OwnSl 1 I64.cells u' (xs++dL l f at_) ob'):=by
 intro f
 induction f with
 | zero=>
  intro at_ h u xs ob hO hlen
  have h0:at_<0:=h.resolve_right (fun h=>h)
  rw [fB h0,List.append_nil]
  exact EB h0 hO
 | succ f ih=>
 intro at_ h u xs ob hO hlen
 have one0:=hT.isOne
 obtain⟨ua,uc,rfl⟩:=hO.form
 refine FnX.enter Tryz.func141 Tryz.ntmps141 rfl rfl (fun w0=>?_)
 refine lm ?_
 refine ag rfl ?_ ?_<;>intro c6
 · exact TC.ret (aI (aZ (.inr rfl) (ce rfl) (fun w hw=>hw) ⟨rfl,rfl,_,_,rfl,by rw [fB c6,List.append_nil];exact hO⟩))
 obtain⟨h0,t,hx,_,_,hTl0,hTl1,hTr0,hTr1⟩:=h.resolve_left c6
 have hlt:at_.toNat<l.length:=(List.getElem?_eq_some_iff.1 hx).1
 rw [gp c6 hx] at hlen
 simp only [List.length_append,List.length_cons,List.length_nil] at hlen
 have hTl:t.l<0∨Tr l f t.l:=by rcases Int.lt_or_le (ak t.kind) 1 with h1 | h1;exact .inl (by have:=hTl1 h1;omega);exact .inr (hTl0 h1)
 have hTr:t.r<0∨Tr l f t.r:=by rcases Int.lt_or_le (ak t.kind) 2 with h1 | h1;exact .inl (by have:=hTr1 h1;omega);exact .inr (hTr0 h1)
 refine jo ?_;refine eH ?_;refine Ba ?_;refine aK (bI rfl hw) rfl (xY ?_)
 refine bf (ge (L1:=(bo,[(.slice ua _ uc)])::ob) (ab rfl rfl rfl rfl) (ih t.l (hTl) _ _ _ hO om) rfl (fun v13 H13 L13 hle13 hp13=>?_))
 obtain⟨rfl,rfl,u13,ob13,rfl,hO13⟩:=hp13
 obtain⟨ua13,uc13,rfl⟩:=hO13.form
 refine k7 ?_;refine nA ?_;refine Ba ?_;refine aK (bI rfl hw) rfl (xY ?_)
 refine bf (ge (L1:=(bo,[(.slice ua13 _ uc13)])::ob13) (ab rfl rfl rfl rfl) (ih t.r (hTr) _ _ _ hO13 (by simp only [List.length_append];omega)) rfl (fun v20 H20 L20 hle20 hp20=>?_))
 obtain⟨rfl,rfl,u20,ob20,rfl,hO20⟩:=hp20
 obtain⟨ua20,uc20,rfl⟩:=hO20.form
 refine k7 ?_;refine TC.region (yc ?_)
 refine aD rfl rfl rfl rfl (fun b23=>?_)
 refine TL.append (enc:=I64.cells) rfl rfl rfl hO20 (Src.own [at_] (.here _) rfl rfl) (by simp;omega) rfl (.skip _ (.skip _ .all)) rfl (fun a24 c24 ob24 hO24=>?_)
 exact kY rfl rfl rfl (.h1) rfl (TL.nil (aZ (.inl rfl) (ce rfl) (fun w hw=>hw.drop) ⟨rfl,rfl,_,_,rfl,by rw [gp c6 hx,← List.append_assoc,← List.append_assoc];exact hO24⟩))
end Go.Sx
namespace Go.Sx
open Go Go.Proofs
theorem yD {H:Hp}(ck:Int)(cn:Str)(hn:cn.length≤4294960000)(hM:MaxG H):
  FnS Tryz.prog 182 [.agg #[.int .i64 ck,gs cn]] H (.bool (cD ck cn)):=by
 refine FnS.enter Tryz.func182 Tryz.ntmps182 rfl rfl (fun w0=>?_)
 refine zm2 ?_
 refine TL.box rfl rfl (fun b1=>?_)
 refine q4 ?_;refine zm3 ?_
 refine ai (s:=9) rfl ?_ ?_<;>intro g9
 ·
  have q9:=of_decide_eq_true g9
  refine jn ?_;refine mr ?_
  exact ax (.inr rfl) (ad rfl (RVal.tmp rfl)) (congrArg Value.bool (by unfold cD;simp_all))
 have q9:=of_decide_eq_false g9
 refine zm9 ?_;refine gi ?_
 refine ag rfl ?_ ?_<;>intro c13
 ·
  refine lF ?_
  exact ax (.inr rfl) (ad rfl (RVal.tmp rfl)) (congrArg Value.bool (by unfold cD;simp_all))
 refine jo ?_;refine qm ?_
 refine aX rfl ?_ ?_<;>intro c16
 ·
  refine fL ?_;refine TL.run (bW rfl rfl rfl) rfl (tO ?_)
  exact ax (.inr rfl) (ad rfl (RVal.tmp rfl)) (congrArg Value.bool (by unfold cD;simp_all))
 refine cV ?_;refine fL ?_;refine ay (ab rfl rfl rfl rfl) (cut_ok cn hn hM) rfl (qT ?_);refine zm3 ?_;refine k6 ?_;refine ay (ab rfl rfl rfl rfl) (bL (lR cn).1) rfl (zm0 ?_)
 refine ai (s:=29) rfl ?_ ?_<;>intro g29
 ·
  refine fc ?_;refine cK ?_
  refine ai (s:=32) rfl ?_ ?_<;>intro g32
  ·
   refine jm ?_;refine cK ?_;refine fq ?_
   exact ax (.inr rfl) (ad rfl (RVal.tmp rfl)) (congrArg Value.bool (by unfold cD;simp_all))
  refine cK ?_;refine aO rfl rfl (ab rfl rfl rfl rfl) (bL (lR cn).2.1) rfl (cK ?_);refine fq ?_
  exact ax (.inr rfl) (ad rfl (RVal.tmp rfl)) (congrArg Value.bool (by unfold cD;simp_all))
 refine jn ?_;refine eC rfl rfl rfl (eC rfl rfl rfl (dh ?_));refine fq ?_
 exact ax (.inr rfl) (ad rfl (RVal.tmp rfl)) (congrArg Value.bool (by unfold cD;simp_all))
theorem DT {H:Hp}{l:List SArm}{v:Value}(n:Int)(hA:RdSl H 4 SArm.cells v l)(hz:∀a∈l,a.cn.length≤4294960000)(hM:MaxG H):
  FnS Tryz.prog 135 [v,.int .i64 n] H (.bool (dv l n)):=by
 have hmx:=hA.max
 have one0:=hA.isOne
 obtain⟨va,vc,rfl⟩:=hA.len
 refine FnS.enter Tryz.func135 Tryz.ntmps135 rfl rfl (fun w0=>?_)
 refine oM ?_;refine TL.run (ah rfl rfl hA) rfl (zm3 ?_)
 refine ai (s:=11) rfl ?_ ?_<;>intro g11
 ·
  have q11:=of_decide_eq_true g11
  refine jn ?_;refine mr ?_
  exact ax (.inr rfl) (ad rfl (RVal.tmp rfl)) (congrArg Value.bool (zy om))
 have q11:=of_decide_eq_false g11
 refine cK ?_;refine aC rfl rfl (ah rfl rfl hA) rfl (gi ?_)
 refine ag rfl ?_ ?_<;>intro c15
 ·
  refine lF ?_
  exact ax (.inr rfl) (ad rfl (RVal.tmp rfl)) (congrArg Value.bool (zy om))
 have hlen:1≤l.length∧l.length≤6:=by omega
 refine cV ?_;refine zm2 ?_
 refine AE rfl (fun bm w1 hM1=>?_)
 refine xS ?_;refine TL.run (ah rfl rfl hA) rfl (zm8 ?_)
 refine TC.loop (V:=fun k=>[(19,.int .i64 k)]) (K:=[(1,_),(4,_),(5,_),(17,_),(18,_)]) (L:=fun k=>StM [] w0 H H [] bm ((l.take k.toNat).map (·.label))) (I:=fun k=>(0≤k∧k≤l.length)∧(l.take k.toNat).all (fa n)=true∧((l.take k.toNat).map (·.label)).Nodup) (μ:=fun k=>(l.length - k).toNat) (i:=(0:Int)) ky ⟨o2q,rfl,List.nodup_nil⟩ (fun w hw=>hM1.over hw) (fun k hI=>?_)
 obtain⟨⟨k0,k1⟩,hal,hnd⟩:=hI
 refine C1 (fun w2 hM2=>?_)
 refine zm7 ?_
 refine ag rfl ?_ ?_<;>intro c20
 ·
  obtain⟨x,hx⟩:=ao (l:=l) k0 c20
  refine dz ?_;refine TL.run (ae rfl hA rfl om om) rfl (TL.run (bg hA hx rfl rfl) rfl (TL.alloc rfl (fun b7=>?_)))
  refine qt ?_
  refine bO (!fa n x||decide (x.label∈((l.take k.toNat).map (·.label)))) 49 [(1,_),(4,_),(5,_),(7,_),(17,_),(18,_),(19,_),(20,_),(21,_),(22,_)] ky ?_ ?_
  ·
   refine ql ?_;refine ay (ab rfl rfl rfl rfl) (bL x.label) rfl (zm3 ?_)
   refine ai (s:=27) rfl ?_ ?_<;>intro g27
   ·
    refine oK ?_;refine zm3 ?_;refine xR ?_
    exact aV rfl (by unfold fa;first | (simp_all;done) | (simp_all;omega)) ky
   refine cK ?_;refine zm9 ?_;refine aC rfl rfl (Ci hM2 rfl rfl) rfl (zm3 ?_)
   refine ai (s:=33) rfl ?_ ?_<;>intro g33
   ·
    refine eg ?_;refine zm3 ?_;refine xR ?_
    exact aV rfl (by unfold fa;first | (simp_all;done) | (simp_all;omega)) ky
   refine it ?_;refine aC rfl rfl (jD rfl (.here _) rfl) rfl (aO rfl rfl (ab rfl rfl rfl rfl) (yD x.ck x.cn (hz x (List.mem_of_getElem? hx)) hM) rfl (db ?_))
   refine ai (s:=39) rfl ?_ ?_<;>intro g39
   ·
    refine xR ?_
    exact aV rfl (by unfold fa;first | (simp_all;done) | (simp_all;omega)) ky
   refine qZ ?_
   refine ai (s:=44) rfl ?_ ?_<;>intro g44
   ·
    have q44:=of_decide_eq_true g44
    refine nD ?_
    exact aV rfl (by unfold fa;first | (simp_all;done) | (simp_all;omega)) ky
   have q44:=of_decide_eq_false g44
   refine zm9 ?_;refine fc ?_;refine dN ?_
   exact aV rfl (by unfold fa;first | (simp_all;done) | (simp_all;omega)) ky
  refine TC.cond rfl ?_ ?_<;>intro c49
  · refine iV ?_;refine k5 ?_;exact vV hM2 (ax (.inr rfl) (ad rfl (RVal.tmp rfl)) (congrArg Value.bool (Fo k0 hx (by simpa using c49))))
  have h49:fa n x=true∧x.label∉((l.take k.toNat).map (·.label)):=by simpa using c49
  refine cV ?_;refine pN ?_;refine CX rfl rfl rfl h49.2 rfl hM2 (qr ?_)
  exact aS (k+1) ⟨o2q,by rw [bT k0 hx,List.all_append,hal,List.all_cons,h49.1];rfl,Aj k0 hx hnd h49.2⟩ ky (fun w hw=>by rw [bQ k0 hx];exact hw.drop) om
 refine gv ?_;exact vV hM2 (ax (.inr rfl) (ad rfl (RVal.tmp rfl)) (congrArg Value.bool (Fm hlen k0 c20 hal hnd)))
theorem wm {H:Hp}(l:SLocal)(hl:LocalOk H l)(hM:MaxG H):
  FnS Tryz.prog 78 [.agg l.cells.toArray] H (.bool (cX l)):=by
 have ht:=hl.t
 have hmt:=ht.max
 refine FnS.enter Tryz.func78 Tryz.ntmps78 rfl rfl (fun w0=>?_)
 refine zm2 ?_
 refine TL.box rfl rfl (fun b1=>?_)
 refine q4 ?_;refine TL.run (ah rfl rfl ht) rfl (zm3 ?_)
 refine ai (s:=9) rfl ?_ ?_<;>intro g9
 ·
  have q9:=of_decide_eq_true g9
  refine eg ?_;refine mr ?_
  exact ax (.inr rfl) (ad rfl (RVal.tmp rfl)) (congrArg Value.bool (vB om))
 have q9:=of_decide_eq_false g9
 refine zm9 ?_;refine aC rfl rfl (ah rfl rfl ht) rfl (gi ?_)
 refine ag rfl ?_ ?_<;>intro c14
 ·
  refine lF ?_
  exact ax (.inr rfl) (ad rfl (RVal.tmp rfl)) (congrArg Value.bool (vB om))
 have hlen:1≤l.turns.length∧l.turns.length≤40:=by omega
 refine jo ?_;refine fL ?_;refine TL.run (ah rfl rfl ht) rfl (zm8 ?_)
 refine TC.loop (V:=fun k=>[(18,.int .i64 k)]) (K:=[(1,_),(2,_),(16,_),(17,_)]) (L:=fun k=>_) (I:=fun k=>(0≤k∧k≤l.turns.length)∧l.turns.all (ek l.turns.length)=(l.turns.drop k.toNat).all (ek l.turns.length)) (μ:=fun k=>(l.turns.length - k).toNat) (i:=(0:Int)) ky ⟨o2q,rfl⟩ (fun w hw=>hw) (fun k hI=>?_)
 obtain⟨⟨k0,k1⟩,hal⟩:=hI
 refine zm7 ?_
 refine ag rfl ?_ ?_<;>intro c19
 ·
  obtain⟨x,hx⟩:=ao (l:=l.turns) k0 c19
  have hT:=hl.ts x (List.mem_of_getElem? hx)
  refine dz ?_;refine TL.run (ae rfl ht rfl om om) rfl (TL.run (bg ht hx rfl rfl) rfl (TL.alloc rfl (fun b4=>?_)))
  refine qY ?_
  refine TL.nil (af (TC.block (bO (decide (x.kind=0)) 24 [(1,_),(2,_),(4,_),(16,_),(17,_),(18,_),(19,_),(20,_),(21,_),(22,_),(23,_)] ky ?_ ?_)))
  · exact eR (aJ rfl) rfl rfl ky
  refine ag rfl ?_ ?_<;>intro c24
  ·
   refine yh ?_
   refine ai (s:=29) rfl ?_ ?_<;>intro g29
   ·
    have q29:=aU g29
    refine eg ?_;refine ll ?_;refine xQ ?_
    exact ax (.inr rfl) (ad rfl (RVal.tmp rfl)) (congrArg Value.bool (jh k0 hx (by unfold ek;simp_all) hal))
   have q29:=aP g29
   refine zm9 ?_;refine aC rfl rfl (ah rfl rfl hT.a) rfl (gi ?_)
   refine ag rfl ?_ ?_<;>intro c34
   ·
    refine xQ ?_
    exact ax (.inr rfl) (ad rfl (RVal.tmp rfl)) (congrArg Value.bool (jh k0 hx (by unfold ek;simp_all) hal))
   refine TC.skip (bu (qw ?_))
   exact aS (k+1) ⟨o2q,cg (p:=(ek l.turns.length)) k0 hx (by unfold ek;simp_all) hal⟩ ky (fun w hw=>hw.drop) om
  refine bO (decide (x.kind=1)||decide (x.kind=2)) 35 [(1,_),(2,_),(4,_),(16,_),(17,_),(18,_),(19,_),(20,_),(21,_),(22,_),(23,_),(24,_)] ky ?_ ?_
  · exact cw (aJ rfl) rfl rfl ky (eR (aJ rfl) rfl rfl ky)
  refine TC.cond rfl ?_ ?_<;>intro c35
  ·
   refine fL ?_;refine ay (ab rfl rfl rfl rfl) (bL x.peer) rfl (zm3 ?_)
   refine ai (s:=42) rfl ?_ ?_<;>intro g42
   ·
    refine eg ?_;refine jn ?_;refine ll ?_;refine xQ ?_
    exact ax (.inr rfl) (ad rfl (RVal.tmp rfl)) (congrArg Value.bool (jh k0 hx (by unfold ek;simp_all) hal))
   refine zm9 ?_;refine fM ?_;refine aC rfl rfl (ah rfl rfl ht) rfl (aO rfl rfl (ab rfl rfl rfl rfl) (DT _ hT.a hT.z hM) rfl (gi ?_))
   refine TC.cond rfl ?_ ?_<;>intro c50
   ·
    refine xQ ?_
    exact ax (.inr rfl) (ad rfl (RVal.tmp rfl)) (congrArg Value.bool (jh k0 hx (by unfold ek;simp_all) hal))
   refine TC.skip (bu (qw ?_))
   exact aS (k+1) ⟨o2q,cg (p:=(ek l.turns.length)) k0 hx (by unfold ek;simp_all) hal⟩ ky (fun w hw=>hw.drop) om
  refine xQ ?_
  exact ax (.inr rfl) (ad rfl (RVal.tmp rfl)) (congrArg Value.bool (jh k0 hx (by unfold ek;simp_all) hal))
 refine gv ?_
 exact ax (.inr rfl) (ad rfl (RVal.tmp rfl)) (congrArg Value.bool (CA hlen k0 c19 hal))
theorem yL {H:Hp}(ck:Int)(cn:Str)(hn:cn.length≤4294960000)(hM:MaxG H):
  FnS Tryz.prog 80 [.agg #[.int .i64 ck,gs cn]] H (.bool (cD ck cn)):=by
 refine FnS.enter Tryz.func80 Tryz.ntmps80 rfl rfl (fun w0=>?_)
 refine zm2 ?_
 refine TL.box rfl rfl (fun b1=>?_)
 refine zm1 ?_;refine gu ?_;refine dw ?_
 refine aD rfl rfl rfl rfl (fun b5=>?_)
 refine dw ?_
 refine aD rfl rfl rfl rfl (fun b7=>?_)
 refine dw ?_;refine eQ (.h1) (TL.pub sq (fun H_b5 le_b5 rd_b5=>?_))
 replace hM:=hM.le le_b5
 have hA5:RdSl H_b5 4 SArm.cells _ ([⟨[120],ck,cn,0⟩]):=RdSl.blk (cap:=1) rd_b5 (by intro x hx;rfl) kr (by show 1≤9223372036854775807;decide)
 refine TL.pub sq (fun H_b7 le_b7 rd_b7=>?_)
 replace hM:=hM.le le_b7
 replace hA5:=hA5.le le_b7
 have hT7:RdSl H_b7 3 STurn.cells _ ([⟨1,[120],[⟨[120],ck,cn,0⟩],(some ⟨b5,0,none⟩,1)⟩]):=RdSl.blk (cap:=1) rd_b7 (by intro x hx;rfl) kr (by show 1≤9223372036854775807;decide)
 refine zm384 ?_;refine ei ?_
 exact ax (.inr rfl) (ad rfl (RVal.tmp rfl)) (congrArg Value.bool (tL ck cn _ _))
end Go.Sx
namespace Go.Sx
open Go Go.Proofs
theorem yK {H:Hp}{l:List Term}{v:Value}(root:Int)(hT:RdSl H 6 Term.cells v l)(hm:cF l root=true):
  FnO Tryz.prog 85 [v,.int .i64 root] H (fun r H1 ob=>OwnSl 1 I64.cells r (bi l root) ob):=by
 have one1:=hT.isOne
 have hvl:=or hm
 refine FnO.enter Tryz.func85 Tryz.ntmps85 rfl rfl (fun w0=>?_)
 refine zm2 ?_
 refine qg rfl rfl (fun b2=>?_)
 refine xP ?_
 refine TL.alloc rfl (fun b5=>?_)
 refine gF ?_
 refine TL.alloc rfl (fun b6=>?_)
 refine iu ?_;refine qW ?_
 refine TL.pub sq (fun H_b6 le_b6 rd_b6=>?_)
 refine eQ (.h1) (TL.pub sq (fun H_b2 le_b2 rd_b2=>?_))
 have hT2:=(hT.le le_b6).le le_b2
 have hl:H_b2 b2 0=some v:=rd_b2 0 _ rfl
 have hw:=le_b2 _ _ _ (rd_b6 0 _ rfl)
 refine TL.run (bI rfl hw) rfl (zm0 ?_)
 refine ge (L1:=(b5,[.slice none 0 0])::[]) (ab rfl rfl rfl rfl) (EA hT2 hl hw (root.toNat+1) root (.inr (mZ hm)) _ [] [] OwnSl.nil (by simp;omega)) rfl (fun v10 H10 L10 hle10 hp10=>?_)
 obtain⟨rfl,rfl,u10,ob10,rfl,hO10⟩:=hp10
 rw [List.nil_append] at hO10
 obtain⟨ua10,uc10,rfl⟩:=hO10.form
 refine gF ?_;refine lD ?_;refine ei ?_
 exact ef (.inr rfl) (ad rfl (RVal.tmp rfl)) (.skip _ .all) hO10
theorem nr {H:Hp}{pg:SProg}(s:Str)(n:Int)(hP:ProgOk H pg):
  FnS Tryz.prog 142 [.agg pg.cells.toArray,gs s,.int .i64 n] H (.bool (ct pg.procs s n)):=by
 have hq:=hP.q
 have hmax:=hq.max
 refine FnS.enter Tryz.func142 Tryz.ntmps142 rfl rfl (fun w0=>?_)
 refine zm2 ?_
 refine TL.box rfl rfl (fun b3=>?_)
 refine zm1 ?_;refine gu ?_;refine zm0 ?_;refine ay (ab rfl rfl rfl rfl) (kf s hP) rfl (zm1 ?_);refine gw ?_
 refine ai (s:=13) rfl ?_ ?_<;>intro g13
 ·
  have q13:=of_decide_eq_true g13
  have hfr:=sL pg.procs s
  obtain⟨x,hx⟩:=ao (l:=pg.procs) (i:=dm pg.procs s) om om
  have hxp:=(hP.qs x (List.mem_of_getElem? hx)).pa.max
  refine zm9 ?_;refine cK ?_;refine aC rfl rfl (ae rfl hq rfl om om) rfl (it ?_)
  refine aC rfl rfl (br hq hx rfl rfl) rfl (aC rfl rfl (ah rfl rfl (hP.qs x (List.mem_of_getElem? hx)).pa) rfl (yj ?_))
  exact ax (.inr rfl) (ad rfl (RVal.tmp rfl)) (congrArg Value.bool (by unfold ct nc;first | (rw [hx];simp_all;done) | (simp_all;done) | (simp_all;omega)))
 have q13:=of_decide_eq_false g13
 refine eg ?_;refine pQ ?_;refine fq ?_
 exact ax (.inr rfl) (ad rfl (RVal.tmp rfl)) (congrArg Value.bool (by unfold ct nc;first | (rw [hx];simp_all;done) | (simp_all;done) | (simp_all;omega)))
theorem y4 {H:Hp}{pg:SProg}(s:SStep)(hP:ProgOk H pg)(hs:StepOk H s)(hl:s.casts.length≤4):
  FnS Tryz.prog 143 [.agg pg.cells.toArray,.agg s.cells.toArray] H (.bool (dk pg s)):=by
 have hr:=hP.r
 have hrm:=hr.max
 have hc:=hs.c
 refine FnS.enter Tryz.func143 Tryz.ntmps143 rfl rfl (fun w0=>?_)
 refine zm2 ?_
 refine TL.box rfl rfl (fun b2=>?_)
 refine TL.box rfl rfl (fun b3=>?_)
 refine qU ?_;refine TL.run (ah rfl rfl hr) rfl (zm8 ?_)
 refine TC.loop (V:=fun k=>[(15,.int .i64 k)]) (K:=[(3,_),(4,_),(13,_),(14,_)]) (L:=fun k=>_) (I:=fun k=>(0≤k∧k≤pg.protos.length)∧dk pg s=eG s (pg.protos.drop k.toNat)) (μ:=fun k=>(pg.protos.length - k).toNat) (i:=(0:Int)) ky ⟨o2q,rfl⟩ (fun w hw=>hw) (fun k hI=>?_)
 obtain⟨⟨k0,k1⟩,hop⟩:=hI
 have hk0:=k0
 refine zm7 ?_
 refine ag rfl ?_ ?_<;>intro c16
 ·
  obtain⟨x,hx⟩:=ao (l:=pg.protos) k0 c16
  have hxr:=(hP.rs x (List.mem_of_getElem? hx)).r.max
  refine dz ?_;refine TL.run (ae rfl hr rfl om om) rfl (TL.run (bg hr hx rfl rfl) rfl (TL.alloc rfl (fun b6=>?_)))
  refine qt ?_;refine fL ?_;refine iN ?_;refine TL.run (bW rfl rfl rfl) rfl (TL.nil (af (aX rfl (fun c23=>?_) (fun c23=>?_))))
  ·
   refine yb ?_;refine nv ?_
   exact aS (k+1) ⟨o2q,Ag k0 hx c23 hop⟩ ky (fun w hw=>hw.drop) om
  refine cV ?_;refine gX ?_
  refine aD rfl rfl rfl rfl (fun b26=>?_)
  refine iW ?_;refine xO ?_;refine TL.run (ah rfl rfl hc) rfl (zm8 ?_)
  refine aW (V:=fun k v ob H1=>[(7,v),(30,.int .i64 k)]) (K:=[(3,_),(4,_),(6,_),(13,_),(14,_),(15,_),(16,_),(17,_),(18,_),(19,_),(20,_),(21,_),(22,_),(23,_),(24,_),(25,_),(26,_),(27,_),(28,_),(29,_)]) (L:=fun k v ob H1=>St [] w0 H H ((b6,_)::(b3,_)::(b2,_)::ob)) (I:=fun k v ob H1=>(0≤k∧k≤s.casts.length)∧OwnSl 1 Str.cells v (s.peer::(s.casts.take k.toNat).map (·.role)) ob) (μ:=fun k=>(s.casts.length - k).toNat) 0 (.slice (some ⟨b26,0,none⟩) 1 1) [(b26,[gs s.peer])] H ky ⟨o2q,OwnSl.blk (enc:=Str.cells) [s.peer] rfl rfl sq⟩ (fun w hw=>hw.perm (List.perm_append_singleton _ _).symm) (fun k v ob H1 hI=>?_)
  obtain⟨⟨k0,k1⟩,hO⟩:=hI
  obtain⟨va,vc,rfl⟩:=hO.form
  refine zm7 ?_
  refine ag rfl ?_ ?_<;>intro c31
  ·
   obtain⟨y,hy⟩:=ao (l:=s.casts) k0 c31
   refine dz ?_;refine TL.run (ae rfl hc rfl om om) rfl (TL.run (bg hc hy rfl rfl) rfl (TL.alloc rfl (fun b9=>?_)))
   refine xT ?_
   refine aD rfl rfl rfl rfl (fun b37=>?_)
   refine TL.append (enc:=Str.cells) rfl rfl rfl hO (Src.own [y.role] (.here _) rfl rfl) (by simp;omega) rfl (.s4 (.skip _ .all)) rfl (fun a38 c38 ob38 hO38=>?_)
   refine mq ?_
   exact aH (k+1) _ ob38 H ⟨o2q,hO38.cast (by rw [bQ k0 hy];rfl)⟩ ky (fun w hw=>hw.drop.drop) om
  refine gh ?_
  refine TC.pubO hO (.s2 (.skip _ .all)) sq (fun HJ leJ hJ=>?_)
  replace hP:=hP.le leJ
  have hJ2:=hJ.cast (show _=cz s by rw [bC c31 k0];rfl)
  clear hJ
  have hJm:=hJ2.max
  refine bO (!(decide (((cz s).length:Int)=x.roles.length)&&de (cz s))) 50 [(3,_),(4,_),(6,_),(7,_),(13,_),(14,_),(15,_),(16,_),(17,_),(18,_),(19,_),(20,_),(21,_),(22,_),(23,_),(24,_),(25,_),(26,_),(27,_),(28,_),(29,_),(30,_),(31,_)] ky ?_ ?_
  ·
   refine iX ?_;refine TL.run (ah rfl rfl hJ2) rfl (fV ?_);refine TL.run (ah rfl rfl (hP.rs x (List.mem_of_getElem? hx)).r) rfl (zm3 ?_)
   refine ai (s:=46) rfl ?_ ?_<;>intro g46
   ·
    have q46:=aU g46
    refine ny ?_
    exact aV rfl (by first | (simp_all;done) | (simp_all;omega)) ky
   have q46:=aP g46
   refine cK ?_;refine aO rfl rfl (ab rfl rfl rfl rfl) (kU hJ2) rfl (gH ?_)
   exact aV rfl (by first | (simp_all;done) | (simp_all;omega)) ky
  refine TC.cond rfl ?_ ?_<;>intro c50
  ·
   refine iV ?_;refine k5 ?_
   exact ax (.inr rfl) (ad rfl (RVal.tmp rfl)) (congrArg Value.bool (by first | exact(kT k0 c16 hop).symm | exact(p7 hk0 hx c23 hop c50).symm | exact(p5 hk0 hx c23 hop c50 h1).symm))
  refine jo ?_;refine dM ?_;refine TL.run (ah rfl rfl hJ2) rfl (zm8 ?_)
  refine TC.loop (V:=fun k=>[(53,.int .i64 k)]) (K:=[(3,_),(4,_),(6,_),(7,_),(13,_),(14,_),(15,_),(16,_),(17,_),(18,_),(19,_),(20,_),(21,_),(22,_),(23,_),(24,_),(25,_),(26,_),(27,_),(28,_),(29,_),(30,_),(31,_),(50,_),(51,_),(52,_)]) (L:=fun k=>_) (I:=fun k=>(0≤k∧k≤(cz s).length)∧(cz s).all (fun r=>cj x.roles r)=((cz s).drop k.toNat).all (fun r=>cj x.roles r)) (μ:=fun k=>((cz s).length - k).toNat) (i:=(0:Int)) ky ⟨o2q,rfl⟩ (fun w hw=>hw) (fun k hI=>?_)
  obtain⟨⟨k0,k1⟩,hal⟩:=hI
  refine zm7 ?_
  refine ag rfl ?_ ?_<;>intro c54
  ·
   obtain⟨z,hz⟩:=ao (l:=cz s) k0 c54
   refine dz ?_;refine TL.run (ae rfl hJ2 rfl om om) rfl (TL.run (aQ hJ2 hz rfl rfl) rfl (zm1 ?_));refine o9 ?_
   refine ay (ab rfl rfl rfl rfl) (je z (hP.rs x (List.mem_of_getElem? hx)).r) rfl (zm1 ?_)
   refine TC.cond rfl ?_ ?_<;>intro c61
   ·
    have h1:=du (p:=fun r=>cj x.roles r) k0 hz (by simpa using c61) hal
    refine o8 ?_;refine iM ?_
    exact ax (.inr rfl) (ad rfl (RVal.tmp rfl)) (congrArg Value.bool (by first | exact(kT k0 c16 hop).symm | exact(p7 hk0 hx c23 hop c50).symm | exact(p5 hk0 hx c23 hop c50 h1).symm))
   refine l6 ?_
   exact aS (k+1) ⟨o2q,cg (p:=(fun r=>cj x.roles r)) k0 hz (by simpa using c61) hal⟩ ky (fun w hw=>hw) om
  have h1:=cU (p:=fun r=>cj x.roles r) k0 c54 hal
  refine gv ?_;refine iM ?_
  exact ax (.inr rfl) (ad rfl (RVal.tmp rfl)) (congrArg Value.bool (by first | exact(kT k0 c16 hop).symm | exact(p7 hk0 hx c23 hop c50).symm | exact(p5 hk0 hx c23 hop c50 h1).symm))
 refine gv ?_
 exact ax (.inr rfl) (ad rfl (RVal.tmp rfl)) (congrArg Value.bool (by first | exact(kT k0 c16 hop).symm | exact(p7 hk0 hx c23 hop c50).symm | exact(p5 hk0 hx c23 hop c50 h1).symm))
end Go.Sx
namespace Go.Sx
open Go
structure Sig where
 f:Nat→Option (Nat×Nat)
 N:Nat
instance :CoeFun Sig (fun _=>Nat→Option (Nat×Nat)):=⟨Sig.f⟩
def AnyNm (s:Str):Prop:=s.length≤1000
def PNm (s:Str):Prop:=s.length≤1000∧s≠[109,111,114,101]
section
variable {P:Program}{n:Nat}{ops:Array Oper}{Q:Exit→Act→World→Prop}{E:Env}{M:List Nat}{w0:World}{H0 H:Hp}{L:aj}{C:World→Prop}{rest:List Oper}{dst:Option Nat}{op:Op}{ty:TypeId}{pos:String}{aft:Array Edge}
end
theorem St.pubL {M:List Nat}{w0:World}{H0:Hp}{R:aj}:∀{B:aj} {H:Hp} {w:World},St M w0 H0 H (B++R) w→(∀p∈B,p.1∉M)→∃H',H.le H'∧(∀p∈B,∀(o:Nat) (u:Value),p.2[o]? =some u→H' p.1 o=some u)∧St M w0 H0 H' R w
 | [],H,w,hw,_=>⟨H,.refl H,by simp,hw⟩
 | (b,cs)::B,H,w,hw,hM=>by
  have h1:=hw.publish (hM (b,cs) sq)
  obtain⟨H',h2,h3,h4⟩:=St.pubL (B:=B) h1 (fun p hp=>hM p (List.mem_cons_of_mem _ hp))
  refine⟨H',hw.le_add.trans h2,fun p hp o u hu=>?_,h4⟩
  rcases List.mem_cons.1 hp with rfl | hp
  ·exact h2 _ _ _ (by simp only [Hp.add,if_true];exact hu)
  ·exact h3 p hp o u hu
end Go.Sx
