import Derived.Test.YtjnlogbbcceaoaaGreatE11
set_option linter.all false
set_option maxRecDepth 100000
set_option maxHeartbeats 32000000
namespace Go.Sx
open Go Go.Proofs
theorem bq {H:Hp}{bd:Nat}{dl:Value}{at_:Int}(n:Int)(hn:n≤1000000000)(hd:DiceOk H dl at_):
  DFn Tryz.prog bd dl at_ 65 [.int .i64 n] H (fun v H1 ob=>ob=[]∧(H1=H∧∃r,v= .int .i64 r∧PickR n r)):=by
 obtain⟨l,hl,ha0,ha1⟩:=hd.l
 have hmax:=hl.max
 refine FnX.enter Tryz.func65 Tryz.ntmps65 rfl rfl (fun w0=>?_)
 refine zm7 ?_;refine TC.seq (fW kr kr (mV ?_));refine TQ.run (aG rfl) rfl (fV (s:=7) rfl (fun g7=>?_) (fun g7=>?_))
 ·
  have q7:=of_decide_eq_true g7
  refine Al ?_;refine Al ?_;refine kE rfl rfl rfl rfl (kE rfl rfl rfl rfl (k4 ?_));refine eC rfl (gq ?_)
  exact aZ (.inr rfl) (ad rfl (RVal.tmp rfl)) (fun w hw=>hw) ⟨_,[],rfl,⟨l,hl,ha0,ha1⟩,rfl,rfl,_,rfl,⟨by omega,fun h=>by omega,fun _=>rfl⟩⟩
 have q7:=of_decide_eq_false g7
 refine bz rfl rfl (aG rfl) rfl (bz rfl rfl (bR rfl) rfl (wU ?_));refine bz rfl rfl (aG rfl) rfl (bz rfl rfl (bR rfl) rfl (wU ?_));refine bz rfl rfl (ah rfl rfl hl) rfl (Ak ?_)
 refine af rfl ?_ ?_<;>intro c18
 ·
  refine gq ?_
  exact aZ (.inr rfl) (ad rfl (RVal.tmp rfl)) (fun w hw=>hw) ⟨_,[],rfl,⟨l,hl,ha0,ha1⟩,rfl,rfl,_,rfl,⟨by omega,fun h=>by omega,fun _=>rfl⟩⟩
 have hn1:1≤n∧at_<l.length:=by omega
 obtain⟨x,hx⟩:=aj (l:=l) (i:=at_+1 - 1) om om
 refine lm ?_;refine tr ?_;refine kQ ?_;refine TL.run (bR rfl) rfl (AR ?_);refine fW kr kr (wT ?_);refine kL ?_;refine TQ.run (bR rfl) rfl (gl ?_)
 refine TQ.run (aE rfl (.here _) rfl) rfl (TQ.run ((by first | exact iF rfl rfl om om | exact aG rfl)) rfl (TQ.run (ae rfl hl rfl om om) rfl (TQ.run (aL hl hx rfl rfl) rfl ?_)))
 refine TQ.run (d8 rfl) rfl (TQ.run (aG rfl) rfl (TQ.run (d8 rfl) rfl (TQ.run (hZ rfl rfl (by rw [lA om om];omega)) rfl ?_)));refine TQ.run (d8 rfl) rfl (k4 ?_)
 exact TC.ret (aZ (.inr rfl) (ad rfl (RVal.tmp rfl)) (fun w hw=>hw) ⟨_,[],rfl,⟨l,hl,by omega,by omega⟩,rfl,rfl,_,rfl,⟨(lT x (n:=n) om hn).1,fun _=>(lT x (n:=n) om hn).2,fun h=>absurd h om⟩⟩)
theorem du {H:Hp}(k:Int):
  FnS Tryz.prog 71 [.int .i64 k] H (.agg (TStep.cells ⟨k,[],[],[],[], -1,none,0,0,none,0,0,none,0,0, -1⟩).toArray):=by
 refine FnS.enter Tryz.func71 Tryz.ntmps71 rfl rfl (fun w0=>?_)
 refine zm2 ?_
 refine TL.alloc rfl (fun b2=>?_)
 refine jo ?_;refine dN ?_;refine iV ?_
 exact ao (.inr rfl) (ad rfl (RVal.cellA rfl (.here _) rfl)) rfl
theorem iY {F:Fx}{V:WV}(t:Term)(h1:VarNm t.name)(h2:AnyNm t.text):
  WFn Tryz.prog F V 133 [.agg t.cells.toArray] 1 (fun v V1=>∃i,v= .int .i64 i):=by
 refine WFn.enter Tryz.func133 Tryz.ntmps133 rfl rfl (fun m w0 hW hm=>?_)
 refine zm2 ?_
 refine TL.box rfl rfl (fun b3=>?_)
 refine wS ?_;refine zm424 ?_;refine oE ?_;refine xm ?_;refine aO (S1 (S1 (S1 SN))) (Hp.le.refl _) (fun _ _=>bA rfl (.here _) rfl) rfl (aJ rfl rfl rfl rfl (fun b12=>?_))
 refine au rfl (jI (enc:=Term.cells) (t:=0) rfl rfl rfl hW.bag hW.t (Src.own [t] (.here _) rfl rfl) rfl (by intro y hy;rw [List.mem_singleton.1 hy];exact HW h1 h2) zt0 (by have:=hW.me;(try dsimp only at this ⊢);simp only [List.length_cons,List.length_nil];omega) rfl (.s3 (.skip _ .all)) rfl (fun S13 a13 c13 B13 hS13 hN13 hT13 hB13=>?_))
 change _=_+1 at hN13
 refine xl ?_;refine az (bR rfl) rfl (zm4 ?_);refine En ?_;refine kY ?_;refine el ?_;refine gr ?_;refine mZ ?_;refine lz ?_;refine ly ?_;refine em ?_
 exact bF (V':={V with S:=S13,B:=B13,ta:=a13,tn:=V.tn+1,tc:=c13}) (X:=[(b12,_),(b3,_)]) (.inr rfl) (ad rfl (RVal.tmp rfl)) rfl rfl (⟨hW.fx,hB13,hT13,hW.s.le hS13,hW.n0,hW.r0,hW.r1,hW.d,by have:=hW.me;dsimp only;omega,by have:=hW.nb;dsimp only;omega,by have:=hW.n10;dsimp only;omega⟩) hS13 (by(try dsimp only);omega) (by(try dsimp only);omega) ⟨_,rfl⟩
theorem cQ {F:Fx}{V:WV}(s:Str)(hs:VarNm s):
  WFn Tryz.prog F V 72 [gs s] 1 (fun v V1=>∃i,v= .int .i64 i):=by
 refine WFn.enter Tryz.func72 Tryz.ntmps72 rfl rfl (fun m w0 hW hm=>?_)
 refine rB ?_;refine dN ?_
 refine aC (F:=F) (V:=V) (m:=m) [] rfl rfl (ab rfl rfl rfl rfl) (iY ⟨0,s,0,[], -1, -1⟩ hs .nil) hW om rfl (fun v8 V8 hle8 hW8 hS8 hs8 ht8 hp8=>?_)
 obtain⟨i8,rfl⟩:=hp8
 refine em ?_
 exact bF (V':=V8) (X:=[]) (.inr rfl) (ad rfl (RVal.tmp rfl)) rfl rfl (hW8.more om) hS8 (by(try dsimp only);omega) (by(try dsimp only);omega) ⟨_,rfl⟩
theorem fE {F:Fx}{V:WV}(n:Int):
  WFn Tryz.prog F V 73 [.int .i64 n] 1 (fun v V1=>∃i,v= .int .i64 i):=by
 refine WFn.enter Tryz.func73 Tryz.ntmps73 rfl rfl (fun m w0 hW hm=>?_)
 refine rB ?_;refine dN ?_
 refine aC (F:=F) (V:=V) (m:=m) [] rfl rfl (ab rfl rfl rfl rfl) (iY ⟨1,[],n,[], -1, -1⟩ .nil .nil) hW om rfl (fun v8 V8 hle8 hW8 hS8 hs8 ht8 hp8=>?_)
 obtain⟨i8,rfl⟩:=hp8
 refine em ?_
 exact bF (V':=V8) (X:=[]) (.inr rfl) (ad rfl (RVal.tmp rfl)) rfl rfl (hW8.more om) hS8 (by(try dsimp only);omega) (by(try dsimp only);omega) ⟨_,rfl⟩
theorem fS {F:Fx}{V:WV}(k l r:Int):
  WFn Tryz.prog F V 130 [.int .i64 k,.int .i64 l,.int .i64 r] 1 (fun v V1=>∃i,v= .int .i64 i):=by
 refine WFn.enter Tryz.func130 Tryz.ntmps130 rfl rfl (fun m w0 hW hm=>?_)
 refine rB ?_;refine zm3 ?_;refine dN ?_
 refine aC (F:=F) (V:=V) (m:=m) [] rfl rfl (ab rfl rfl rfl rfl) (iY ⟨k,[],0,[],l,r⟩ .nil .nil) hW om rfl (fun v14 V14 hle14 hW14 hS14 hs14 ht14 hp14=>?_)
 obtain⟨i14,rfl⟩:=hp14
 refine em ?_
 exact bF (V':=V14) (X:=[]) (.inr rfl) (ad rfl (RVal.tmp rfl)) rfl rfl (hW14.more om) hS14 (by(try dsimp only);omega) (by(try dsimp only);omega) ⟨_,rfl⟩
theorem HG {F:Fx}{V:WV}:
  WFn Tryz.prog F V 177 [] 3 (fun v V1=>∃i,v= .int .i64 i):=by
 refine WFn.enter Tryz.func177 Tryz.ntmps177 rfl rfl (fun m w0 hW hm=>?_)
 refine rB ?_
 refine aC (F:=F) (V:=V) (m:=m) [] rfl rfl (ab rfl rfl rfl rfl) (cQ [110] (.inr (.inr (.inl rfl)))) hW om rfl (fun v5 V5 hle5 hW5 hS5 hs5 ht5 hp5=>?_)
 obtain⟨i5,rfl⟩:=hp5
 refine zm0 ?_
 refine aC (F:=F) (V:=V5) (m:=m+1) [] rfl rfl (ab rfl rfl rfl rfl) (fE 1) hW5 om rfl (fun v7 V7 hle7 hW7 hS7 hs7 ht7 hp7=>?_)
 obtain⟨i7,rfl⟩:=hp7
 refine aC (F:=F) (V:=V7) (m:=m+1+1) [] rfl rfl (ab rfl rfl rfl rfl) (fS 7 i5 i7) hW7 om rfl (fun v8 V8 hle8 hW8 hS8 hs8 ht8 hp8=>?_)
 obtain⟨i8,rfl⟩:=hp8
 refine em ?_
 exact bF (V':=V8) (X:=[]) (.inr rfl) (ad rfl (RVal.tmp rfl)) rfl rfl (hW8.more om) (hS5.trans (hS7.trans (hS8))) (by(try dsimp only);omega) (by(try dsimp only);omega) ⟨_,rfl⟩
theorem xr {F:Fx}{V:WV}:
  WFn Tryz.prog F V 132 [] 1 (fun v V1=>∃s,v=gs s∧VarNm s):=by
 refine WFn.enter Tryz.func132 Tryz.ntmps132 rfl rfl (fun m w0 hW hm=>?_)
 have hn0:=hW.n0
 have hme:=hW.me
 refine oF ?_;refine tr ?_;refine kQ ?_;refine TL.run (bR rfl) rfl (rk ?_);refine tr ?_
 refine ar (ab rfl rfl rfl rfl) (yr (V.names+1) om om) rfl (TL.run (eR rfl rfl (by have:=(pB (n:=V.names+1) om om).1;simp only [List.length_cons,List.length_nil];omega)) rfl (em ?_))
 exact bF (V':={V with names:=V.names+1}) (X:=[]) (.inr rfl) (ad rfl (RVal.tmp rfl)) rfl rfl (⟨hW.fx,hW.bag,hW.t,hW.s,by dsimp only;omega,hW.r0,hW.r1,hW.d,by dsimp only;omega,by have:=hW.nb;dsimp only;omega,hW.n10⟩) (.refl _) (by(try dsimp only);omega) (by(try dsimp only);omega) ⟨_,rfl,vname om om⟩
theorem HI {F:Fx}{V:WV}(k:Int):
  WFn Tryz.prog F V 180 [.int .i64 k] 3 (fun v V1=>∃i,v= .int .i64 i):=by
 refine WFn.enter Tryz.func180 Tryz.ntmps180 rfl rfl (fun m w0 hW hm=>?_)
 refine kg ?_;refine eE ?_
 refine af rfl ?_ ?_<;>intro c7
 ·
  refine ip ?_;refine tr ?_
  refine aI (X:=[(F.bw,_)]) (bd:=F.bd) rfl (ab rfl rfl rfl rfl) (bq 5 om hW.d) rfl (fun v13 H13 at13 hle13 hd13 hp13=>?_)
  obtain⟨rfl,r13,rfl,hr13⟩:=hp13
  refine xk ?_
  refine af rfl ?_ ?_<;>intro c14
  ·
   refine dH ?_
   refine aC (F:=F) (V:={V with at_:=at13}) (m:=m) [] rfl rfl (ab rfl rfl rfl rfl) (fE 12) (hW.dice (.refl _) hd13) om rfl (fun v18 V18 hle18 hW18 hS18 hs18 ht18 hp18=>?_)
   dsimp only at hle18 hS18 hs18 ht18 hp18
   obtain⟨i18,rfl⟩:=hp18
   refine zm0 ?_
   refine aC (F:=F) (V:=V18) (m:=m+1) [] rfl rfl (ab rfl rfl rfl rfl) (cQ [110] (.inr (.inr (.inl rfl)))) hW18 om rfl (fun v20 V20 hle20 hW20 hS20 hs20 ht20 hp20=>?_)
   obtain⟨i20,rfl⟩:=hp20
   refine aC (F:=F) (V:=V20) (m:=m+1+1) [] rfl rfl (ab rfl rfl rfl rfl) (fS 9 i18 i20) hW20 om rfl (fun v21 V21 hle21 hW21 hS21 hs21 ht21 hp21=>?_)
   obtain⟨i21,rfl⟩:=hp21
   refine em ?_;refine bh (aF (bh (aF ?_)))
   exact bF (V':=V21) (X:=[]) (.inr rfl) (ad rfl (RVal.tmp rfl)) rfl rfl (hW21.more om) (hS18.trans (hS20.trans (hS21))) (by(try dsimp only);omega) (by(try dsimp only);omega) ⟨_,rfl⟩
  refine eE ?_
  refine af rfl ?_ ?_<;>intro c22
  ·
   refine dH ?_;refine tr ?_
   refine aI (X:=[(F.bw,_)]) (bd:=F.bd) rfl (ab rfl rfl rfl rfl) (bq 9 om (hW.dice (.refl _) hd13).d) rfl (fun v29 H29 at29 hle29 hd29 hp29=>?_)
   obtain⟨rfl,r29,rfl,hr29⟩:=hp29
   refine ly ?_
   refine aC (F:=F) (V:={{V with at_:=at13} with at_:=at29}) (m:=m) [] rfl rfl (ab rfl rfl rfl rfl) (fE _) ((hW.dice (.refl _) hd13).dice (.refl _) hd29) om rfl (fun v31 V31 hle31 hW31 hS31 hs31 ht31 hp31=>?_)
   dsimp only at hle31 hS31 hs31 ht31 hp31
   obtain⟨i31,rfl⟩:=hp31
   refine em ?_;refine bh (aF (bh (aF ?_)))
   exact bF (V':=V31) (X:=[]) (.inr rfl) (ad rfl (RVal.tmp rfl)) rfl rfl (hW31.more om) hS31 (by(try dsimp only);omega) (by(try dsimp only);omega) ⟨_,rfl⟩
  refine TC.skip (bn (ai (rA ?_)))
  refine TD.part 7 2 rfl rfl rfl ?_ ?_
  ·
   refine zm425 ?_;refine wq ?_;refine qL ?_
   refine au rfl (aC (F:=F) (V:={V with at_:=at13}) (m:=m) [] rfl rfl (ab rfl rfl rfl rfl) (cQ [110] (.inr (.inr (.inl rfl)))) (hW.dice (.refl _) hd13) om rfl (fun v34 V34 hle34 hW34 hS34 hs34 ht34 hp34=>?_))
   dsimp only at hle34 hS34 hs34 ht34 hp34
   obtain⟨i34,rfl⟩:=hp34
   refine ax SN hle34 (au rfl (aI (X:=[(F.bw,_)]) (bd:=F.bd) rfl (ab rfl rfl rfl rfl) (bq 5 om hW34.d) rfl (fun v40 H40 at40 hle40 hd40 hp40=>?_)))
   obtain⟨rfl,r40,rfl,hr40⟩:=hp40
   refine ax SN hle34 (au rfl (aC (F:=F) (V:={V34 with at_:=at40}) (m:=m+1) [] rfl rfl (ab rfl rfl rfl rfl) (fE _) (hW34.dice (.refl _) hd40) om rfl (fun v41 V41 hle41 hW41 hS41 hs41 ht41 hp41=>?_)))
   dsimp only at hle41 hS41 hs41 ht41 hp41
   obtain⟨i41,rfl⟩:=hp41
   refine ax SN (hle34.trans (hle41)) (au rfl (aC (F:=F) (V:=V41) (m:=m+1+1) [] rfl rfl (ab rfl rfl rfl rfl) (fS 6 i34 i41) hW41 om rfl (fun v42 V42 hle42 hW42 hS42 hs42 ht42 hp42=>?_)))
   obtain⟨i42,rfl⟩:=hp42
   refine ax SN (hle34.trans (hle41.trans (hle42))) (wR ?_)
   exact bh (aF (bF (V':=V42) (X:=[]) (.inr rfl) (ad rfl (RVal.tmp rfl)) rfl rfl (hW42.more om) (hS34.trans (hS41.trans (hS42))) (by(try dsimp only);omega) (by(try dsimp only);omega) ⟨_,rfl⟩))
  refine zm426 ?_;refine Aj ?_
  refine aC (F:=F) (V:={V with at_:=at13}) (m:=m) [] rfl rfl (ab rfl rfl rfl rfl) (cQ [110] (.inr (.inr (.inl rfl)))) (hW.dice (.refl _) hd13) om rfl (fun v34 V34 hle34 hW34 hS34 hs34 ht34 hp34=>?_)
  dsimp only at hle34 hS34 hs34 ht34 hp34
  obtain⟨i34,rfl⟩:=hp34
  refine ax SN hle34 (qL ?_);refine au rfl (aI (X:=[(F.bw,_)]) (bd:=F.bd) rfl (ab rfl rfl rfl rfl) (bq 5 om hW34.d) rfl (fun v40 H40 at40 hle40 hd40 hp40=>?_))
  obtain⟨rfl,r40,rfl,hr40⟩:=hp40
  refine ax SN hle34 (au rfl (aC (F:=F) (V:={V34 with at_:=at40}) (m:=m+1) [] rfl rfl (ab rfl rfl rfl rfl) (fE _) (hW34.dice (.refl _) hd40) om rfl (fun v41 V41 hle41 hW41 hS41 hs41 ht41 hp41=>?_)))
  dsimp only at hle41 hS41 hs41 ht41 hp41
  obtain⟨i41,rfl⟩:=hp41
  refine ax SN (hle34.trans (hle41)) (au rfl (aC (F:=F) (V:=V41) (m:=m+1+1) [] rfl rfl (ab rfl rfl rfl rfl) (fS 6 i34 i41) hW41 om rfl (fun v42 V42 hle42 hW42 hS42 hs42 ht42 hp42=>?_)))
  obtain⟨i42,rfl⟩:=hp42
  refine ax SN (hle34.trans (hle41.trans (hle42))) (wR ?_)
  exact bh (aF (bF (V':=V42) (X:=[]) (.inr rfl) (ad rfl (RVal.tmp rfl)) rfl rfl (hW42.more om) (hS34.trans (hS41.trans (hS42))) (by(try dsimp only);omega) (by(try dsimp only);omega) ⟨_,rfl⟩))
 refine eE ?_
 refine af rfl ?_ ?_<;>intro c43
 ·
  refine rA ?_
  refine TD.part 7 2 rfl rfl rfl ?_ ?_
  ·
   refine zm425 ?_;refine wq ?_;refine qL ?_
   refine au rfl (aC (F:=F) (V:=V) (m:=m) [] rfl rfl (ab rfl rfl rfl rfl) (cQ [110] (.inr (.inr (.inl rfl)))) hW om rfl (fun v47 V47 hle47 hW47 hS47 hs47 ht47 hp47=>?_))
   obtain⟨i47,rfl⟩:=hp47
   refine ax SN hle47 (au rfl (aI (X:=[(F.bw,_)]) (bd:=F.bd) rfl (ab rfl rfl rfl rfl) (bq 4 om hW47.d) rfl (fun v53 H53 at53 hle53 hd53 hp53=>?_)))
   obtain⟨rfl,r53,rfl,hr53⟩:=hp53
   refine ax SN hle47 (au rfl (aC (F:=F) (V:={V47 with at_:=at53}) (m:=m+1) [] rfl rfl (ab rfl rfl rfl rfl) (fE _) (hW47.dice (.refl _) hd53) om rfl (fun v54 V54 hle54 hW54 hS54 hs54 ht54 hp54=>?_)))
   dsimp only at hle54 hS54 hs54 ht54 hp54
   obtain⟨i54,rfl⟩:=hp54
   refine ax SN (hle47.trans (hle54)) (au rfl (aC (F:=F) (V:=V54) (m:=m+1+1) [] rfl rfl (ab rfl rfl rfl rfl) (fS 12 i47 i54) hW54 om rfl (fun v55 V55 hle55 hW55 hS55 hs55 ht55 hp55=>?_)))
   obtain⟨i55,rfl⟩:=hp55
   refine ax SN (hle47.trans (hle54.trans (hle55))) (wR ?_)
   exact bh (aF (bF (V':=V55) (X:=[]) (.inr rfl) (ad rfl (RVal.tmp rfl)) rfl rfl (hW55.more om) (hS47.trans (hS54.trans (hS55))) (by(try dsimp only);omega) (by(try dsimp only);omega) ⟨_,rfl⟩))
  refine zm426 ?_;refine Aj ?_
  refine aC (F:=F) (V:=V) (m:=m) [] rfl rfl (ab rfl rfl rfl rfl) (cQ [110] (.inr (.inr (.inl rfl)))) hW om rfl (fun v47 V47 hle47 hW47 hS47 hs47 ht47 hp47=>?_)
  obtain⟨i47,rfl⟩:=hp47
  refine ax SN hle47 (qL ?_);refine au rfl (aI (X:=[(F.bw,_)]) (bd:=F.bd) rfl (ab rfl rfl rfl rfl) (bq 4 om hW47.d) rfl (fun v53 H53 at53 hle53 hd53 hp53=>?_))
  obtain⟨rfl,r53,rfl,hr53⟩:=hp53
  refine ax SN hle47 (au rfl (aC (F:=F) (V:={V47 with at_:=at53}) (m:=m+1) [] rfl rfl (ab rfl rfl rfl rfl) (fE _) (hW47.dice (.refl _) hd53) om rfl (fun v54 V54 hle54 hW54 hS54 hs54 ht54 hp54=>?_)))
  dsimp only at hle54 hS54 hs54 ht54 hp54
  obtain⟨i54,rfl⟩:=hp54
  refine ax SN (hle47.trans (hle54)) (au rfl (aC (F:=F) (V:=V54) (m:=m+1+1) [] rfl rfl (ab rfl rfl rfl rfl) (fS 12 i47 i54) hW54 om rfl (fun v55 V55 hle55 hW55 hS55 hs55 ht55 hp55=>?_)))
  obtain⟨i55,rfl⟩:=hp55
  refine ax SN (hle47.trans (hle54.trans (hle55))) (wR ?_)
  exact bh (aF (bF (V':=V55) (X:=[]) (.inr rfl) (ad rfl (RVal.tmp rfl)) rfl rfl (hW55.more om) (hS47.trans (hS54.trans (hS55))) (by(try dsimp only);omega) (by(try dsimp only);omega) ⟨_,rfl⟩))
 refine eE ?_
 refine af rfl ?_ ?_<;>intro c56
 ·
  refine dH ?_;refine tr ?_
  refine aI (X:=[(F.bw,_)]) (bd:=F.bd) rfl (ab rfl rfl rfl rfl) (bq 9 om hW.d) rfl (fun v63 H63 at63 hle63 hd63 hp63=>?_)
  obtain⟨rfl,r63,rfl,hr63⟩:=hp63
  refine ar (ab rfl rfl rfl rfl) (yr r63 (by have:=hr63.1;omega) (by have:=hr63.2.1 om;omega)) rfl (TL.run (eR rfl rfl (by have:=(pB (n:=r63) (by have:=hr63.1;omega) (by have:=hr63.2.1 om;omega)).1;simp only [List.length_cons,List.length_nil];omega)) rfl (dN ?_))
  refine aC (F:=F) (V:={V with at_:=at63}) (m:=m) [] rfl rfl (ab rfl rfl rfl rfl) (iY ⟨3,[],0,[116]++Lib.itoa r63, -1, -1⟩ .nil (tname (by have:=hr63.1;omega) (by have:=hr63.2.1 om;omega))) (hW.dice (.refl _) hd63) om rfl (fun v67 V67 hle67 hW67 hS67 hs67 ht67 hp67=>?_)
  dsimp only at hle67 hS67 hs67 ht67 hp67
  obtain⟨i67,rfl⟩:=hp67
  refine zm1 ?_;refine fO ?_;refine dN ?_
  refine aC (F:=F) (V:=V67) (m:=m+1) [] rfl rfl (ab rfl rfl rfl rfl) (iY ⟨3,[],0,[117], -1, -1⟩ .nil (by simp [AnyNm])) hW67 om rfl (fun v72 V72 hle72 hW72 hS72 hs72 ht72 hp72=>?_)
  obtain⟨i72,rfl⟩:=hp72
  refine aC (F:=F) (V:=V72) (m:=m+1+1) [] rfl rfl (ab rfl rfl rfl rfl) (fS 19 i67 i72) hW72 om rfl (fun v73 V73 hle73 hW73 hS73 hs73 ht73 hp73=>?_)
  obtain⟨i73,rfl⟩:=hp73
  refine em ?_
  exact bh (aF (bF (V':=V73) (X:=[]) (.inr rfl) (ad rfl (RVal.tmp rfl)) rfl rfl (hW73.more om) (hS67.trans (hS72.trans (hS73))) (by(try dsimp only);omega) (by(try dsimp only);omega) ⟨_,rfl⟩))
 refine TC.skip (bn (ai (dH ?_)));refine dN ?_
 refine aC (F:=F) (V:=V) (m:=m) [] rfl rfl (ab rfl rfl rfl rfl) (iY ⟨4,[],0,[], -1, -1⟩ .nil .nil) hW om rfl (fun v77 V77 hle77 hW77 hS77 hs77 ht77 hp77=>?_)
 obtain⟨i77,rfl⟩:=hp77
 refine zm0 ?_
 refine aC (F:=F) (V:=V77) (m:=m+1) [] rfl rfl (ab rfl rfl rfl rfl) (cQ [110] (.inr (.inr (.inl rfl)))) hW77 om rfl (fun v79 V79 hle79 hW79 hS79 hs79 ht79 hp79=>?_)
 obtain⟨i79,rfl⟩:=hp79
 refine aC (F:=F) (V:=V79) (m:=m+1+1) [] rfl rfl (ab rfl rfl rfl rfl) (fS 18 i77 i79) hW79 om rfl (fun v80 V80 hle80 hW80 hS80 hs80 ht80 hp80=>?_)
 obtain⟨i80,rfl⟩:=hp80
 refine em ?_
 exact bF (V':=V80) (X:=[]) (.inr rfl) (ad rfl (RVal.tmp rfl)) rfl rfl (hW80.more om) (hS77.trans (hS79.trans (hS80))) (by(try dsimp only);omega) (by(try dsimp only);omega) ⟨_,rfl⟩
theorem gt {F:Fx}{V:WV}(s:TStep)(hs:s.Ok V.S):
  WFn Tryz.prog F V 74 [.agg s.cells.toArray] 1 (fun v V1=>v= .int .i64 (V.sn:Int)∧V1.sn=V.sn+1):=by
 refine WFn.enter Tryz.func74 Tryz.ntmps74 rfl rfl (fun m w0 hW hm=>?_)
 have hr0:=hW.r0
 have hr1:=hW.r1
 have hme:=hW.me
 refine TC.seq (TC.region ?_)
 refine TL.box rfl rfl (fun b3=>?_)
 refine TL.run (aG rfl) rfl (TL.nil (ai (TC.seq (TC.region (TL.run (d7 rfl) rfl ?_)))))
 refine br rfl rfl rfl (.here _) rfl rfl ?_
 refine TL.nil (ai (TC.seq ?_))
 refine TC.drawn kr kr ?_
 refine aU [true,true,true] [(0,1),(1,1),(2,1),(3,1),(4,1),(5,4),(6,4),(7,3),(8,5),(9,1),(10,1),(11,1),(12,0)] kr kr ?_
 refine az (aG rfl) rfl (az (aG rfl) rfl (az (bR rfl) rfl (az (d7 rfl) rfl (az (d7 rfl) rfl ?_))))
 refine aO (S1 (S1 (S1 SN))) (Hp.le.refl _) (fun _ _=>aE rfl (.h1) rfl) rfl ?_
 refine aO (S1 (S1 (S1 SN))) (Hp.le.refl _) (fun _ _=>bA rfl (.here _) rfl) rfl ?_
 refine aJ rfl rfl rfl rfl (fun b13=>?_)
 refine au rfl ?_
 refine jI (enc:=TStep.cells) (t:=3) rfl rfl rfl hW.bag hW.s (Src.own [{s with next:= -1}] (.here _) rfl rfl) rfl (by intro y hy;rw [List.mem_singleton.1 hy];exact TStep.Ok.all (s:={s with next:= -1}) ⟨hs.name,hs.peer,hs.label,hs.proc,hs.a,hs.c,hs.w,hs.an,hs.cn,hs.wn⟩) zt3 (by have:=hW.me;(try dsimp only at this ⊢);simp only [List.length_cons,List.length_nil];omega) rfl (.s3 (.skip _ .all)) rfl (fun S14 a14 c14 B14 hS14 hN14 hT14 hB14=>?_)
 change _=_+1 at hN14
 refine ax (S0 (S1 (S1 (S1 SN)))) (Hp.le.refl _) ?_
 refine az (bR rfl) rfl (az (d7 rfl) rfl (az (d7 rfl) rfl (bB ?_)))
 refine br rfl rfl rfl (.h2) rfl rfl ?_
 refine TF.back (TF.nil (ai (TC.seq (TC.region (TL.run (aG rfl) rfl (TL.run (bR rfl) rfl (TL.run (d7 rfl) rfl ?_)))))))
 refine TL.run (aE rfl (.h2) rfl) rfl (TL.run ((by first | exact iF rfl rfl om om | exact aG rfl)) rfl (TL.run (bR rfl) rfl (TL.run (d7 rfl) rfl ?_)))
 refine br rfl rfl rfl (.h2) rfl rfl ?_
 refine TL.nil (ai (TC.seq (TC.region (TL.run (aG rfl) rfl (TL.run (bR rfl) rfl (TL.run (d7 rfl) rfl (TL.run (d7 rfl) rfl ?_)))))))
 refine TL.run (aE rfl (.h2) rfl) rfl (TL.run (ij rfl rfl) rfl (TL.run (PR.to (iF rfl rfl (by simp only [List.length_cons,List.length_nil];omega) (by simp only [List.length_cons,List.length_nil];omega)) (congrArg (Value.int .i64) (by simp only [List.length_cons,List.length_nil];omega))) rfl (TL.run (aG rfl) rfl (TL.nil (ai (TC.ret (bF (V':={V with S:=S14,B:=B14,sa:=a14,sn:=V.sn+1,sc:=c14,room:=V.room - 1}) (X:=[(b13,_),(b3,_)]) (.inr rfl) (ad rfl (RVal.tmp rfl)) rfl rfl (⟨hW.fx,hB14,hW.t.le hS14,hT14,hW.n0,by dsimp only;omega,by dsimp only;omega,hW.d,by dsimp only;omega,by have:=hW.nb;dsimp only;omega,by have:=hW.n10;dsimp only;omega⟩) hS14 (by(try dsimp only);omega) (by(try dsimp only);omega) ⟨rfl,rfl⟩)))))))
end Go.Sx
namespace Go.Sx
open Go
def rolesL:List Str:=[[97],[98],[99],[100],[101]]
def labelsL:List Str:=[[119],[120],[121],[122]]
theorem data_at {r:Int}(h0:0≤r)(h1:r<6):∃k:Int,(0≤k∧k≤4)∧([.int .i64 1,.int .i64 0,.int .i64 1,.int .i64 2,.int .i64 3,.int .i64 4]:List Value)[0+r.toNat * 1]? =some (.int .i64 k):=by
 rcases(by omega:r=0∨r=1∨r=2∨r=3∨r=4∨r=5) with rfl | rfl | rfl | rfl | rfl | rfl
 ·exact⟨1,by decide,rfl⟩
 ·exact⟨0,by decide,rfl⟩
 ·exact⟨1,by decide,rfl⟩
 ·exact⟨2,by decide,rfl⟩
 ·exact⟨3,by decide,rfl⟩
 ·exact⟨4,by decide,rfl⟩
def CarOk (types:List Str)(k:Int)(nm:Str):Prop:=(0≤k∧k≤4∧nm=[])∨(k=5∧nm∈types)
def TyNm (s:Str):Prop:=∃r,r∈rolesL∧s=[112,46]++r
theorem TyNm.len {s:Str}(h:TyNm s):s.length=3:=by
 obtain⟨r,hr,rfl⟩:=h
 simp only [rolesL,List.mem_cons,List.not_mem_nil,or_false] at hr
 rcases hr with rfl | rfl | rfl | rfl | rfl<;>rfl
theorem CarOk.len {types:List Str}(ht:∀s∈types,TyNm s){k:Int}{nm:Str}(h:CarOk types k nm):nm.length≤3:=by
 rcases h with ⟨_,_,rfl⟩ | ⟨_,h⟩
 ·simp
 ·rw [(ht _ h).len];omega
structure ArmsG (types:List Str)(places:Int)(l:List SArm):Prop where
 n1:1≤l.length
 n3:l.length≤3
 car:∀a∈l,CarOk types a.ck a.cn
 nx:∀a∈l,0≤a.next∧a.next<places
 lb:∃f:Nat,∀i a,l[i]? =some a→labelsL[(f+i) % 4]? =some a.label
theorem I4 {f k:Int}(hf:0≤f)(hk:0≤k):∃s,labelsL[((f+k).tmod 4).toNat]? =some s∧labelsL[(f.toNat+k.toNat) % 4]? =some s:=by
 have h1:((f+k).tmod 4).toNat=(f.toNat+k.toNat) % 4:=by rw [Int.tmod_eq_emod_of_nonneg om];omega
 rw [h1]
 have h2:(f.toNat+k.toNat) % 4<4:=Nat.mod_lt _ dq
 have h3:(f.toNat+k.toNat) % 4<labelsL.length:=h2
 exact⟨_,List.getElem?_eq_getElem h3,List.getElem?_eq_getElem h3⟩
theorem tmod4 {x:Int}(h:0≤x):0≤x.tmod 4∧x.tmod 4<4:=tZ h dq
theorem Gg {s:Str}{i:Nat}(h:labelsL[i]? =some s):s.length=1:=by
 have:=List.mem_of_getElem? h
 simp only [labelsL,List.mem_cons,List.not_mem_nil,or_false] at this
 rcases this with rfl | rfl | rfl | rfl<;>rfl
structure ArmsI (types:List Str)(places:Int)(f:Nat)(l:List SArm):Prop where
 car:∀a∈l,CarOk types a.ck a.cn
 nx:∀a∈l,0≤a.next∧a.next<places
 lb:∀i a,l[i]? =some a→labelsL[(f+i) % 4]? =some a.label
theorem ArmsI.nil {types:List Str}{places:Int}{f:Nat}:ArmsI types places f []:=⟨by simp,by simp,by simp⟩
theorem ArmsI.snoc {types:List Str}{places:Int}{f:Nat}{l:List SArm}(h:ArmsI types places f l){a:SArm}{k:Int}(hk:(l.length:Int)=k)(h1:CarOk types a.ck a.cn)(h2:0≤a.next∧a.next<places)(h3:labelsL[(f+k.toNat) % 4]? =some a.label):ArmsI types places f (l++[a]):=by
 refine⟨fun x hx=>?_,fun x hx=>?_,fun i x hi=>?_⟩
 ·rcases List.mem_append.1 hx with hx | hx
  ·exact h.car x hx
  ·rw [List.mem_singleton.1 hx];exact h1
 ·rcases List.mem_append.1 hx with hx | hx
  ·exact h.nx x hx
  ·rw [List.mem_singleton.1 hx];exact h2
 ·by_cases hl:i<l.length
  ·rw [List.getElem?_append_left hl] at hi;exact h.lb i x hi
  ·rw [List.getElem?_append_right om] at hi
   have h4:i - l.length=0:=by
    have:=(List.getElem?_eq_some_iff.1 hi).1
    simp at this;omega
   rw [h4] at hi
   simp at hi;subst hi
   rwa [show i=k.toNat by omega]
theorem ArmsI.fin {types:List Str}{places:Int}{f:Nat}{l:List SArm}(h:ArmsI types places f l)(h1:1≤l.length)(h3:l.length≤3):ArmsG types places l:=⟨h1,h3,h.car,h.nx,f,h.lb⟩
theorem ArmsG.len {types:List Str}{places:Int}{l:List SArm}(ht:∀s∈types,TyNm s)(h:ArmsG types places l):∀a∈l,a.cn.length≤4294960000:=fun a ha=>Nat.le_trans ((h.car a ha).len ht) dq
structure AnyPts (types:List Str)(roles:List Str)(n:Int)(l:List SPoint):Prop where
 ft:∀x∈l,x.frm∈roles∧x.to∈roles
 ne:∀x∈l,x.frm≠x.to
 am:∀x∈l,ArmsG types n x.arms
def gG:SPoint:=⟨[],[],[],(none,0)⟩
theorem yR:rolesL.Nodup:=by decide
theorem any_ne {k r m:Int}(h0:0≤k)(h1:k<m)(h2:0≤r)(h3:r<m - 1):(0≤(k+1+r).tmod m∧(k+1+r).tmod m<m)∧((k+1+r).tmod m).toNat≠k.toNat:=by
 have h4:=tZ (x:=k+1+r) (n:=m) om om
 refine⟨h4,fun e=>?_⟩
 have h5:(k+1+r).tmod m=k:=by omega
 rw [Int.tmod_eq_emod_of_nonneg om] at h5
 by_cases h6:k+1+r<m
 ·rw [Int.emod_eq_of_lt om h6] at h5;omega
 ·rw [← Int.sub_emod_right,Int.emod_eq_of_lt om om] at h5;omega
theorem Ih {n i j:Nat}{a b:Str}(h1:(rolesL.take n)[i]? =some a)(h2:(rolesL.take n)[j]? =some b)(hij:i≠j):a≠b:=by
 intro e
 subst e
 have hn:(rolesL.take n).Nodup:=(List.take_sublist n rolesL).nodup yR
 obtain⟨hi,hi'⟩:=List.getElem?_eq_some_iff.1 h1
 obtain⟨hj,hj'⟩:=List.getElem?_eq_some_iff.1 h2
 have hp:=List.pairwise_iff_getElem.1 hn
 rcases Nat.lt_or_gt_of_ne hij with h | h
 ·exact hp i j hi hj h (hi'.trans hj'.symm)
 ·exact hp j i hj hi h (hj'.trans hi'.symm)
theorem CZ {n:Int}(h0:0≤n)(h1:n≤5):(rolesL.take n.toNat).length=n.toNat:=by
 rw [List.length_take];show min n.toNat 5=n.toNat;omega
theorem AnyPts.nil {types roles:List Str}{n:Int}:AnyPts types roles n []:=⟨by simp,by simp,by simp⟩
theorem AnyPts.snoc {types roles:List Str}{n:Int}{l:List SPoint}(h:AnyPts types roles n l){x:SPoint}(h1:x.frm∈roles∧x.to∈roles)(h2:x.frm≠x.to)(h3:ArmsG types n x.arms):AnyPts types roles n (l++[x]):=by
 refine⟨fun y hy=>?_,fun y hy=>?_,fun y hy=>?_⟩<;>rcases List.mem_append.1 hy with hy | hy
 ·exact h.ft y hy
 ·rw [List.mem_singleton.1 hy];exact h1
 ·exact h.ne y hy
 ·rw [List.mem_singleton.1 hy];exact h2
 ·exact h.am y hy
 ·rw [List.mem_singleton.1 hy];exact h3
theorem gI {α:Type}{p:α→Prop}{l:List α}{x:α}(h:∀y∈l,p y)(hx:p x):∀y∈l++[x],p y:=fun y hy=>by
 rcases List.mem_append.1 hy with hy | hy
 ·exact h y hy
 ·rw [List.mem_singleton.1 hy];exact hx
theorem o6 {n:Nat}{r:Str}(h:r∈rolesL.take n):r.length=1:=by
 have:=List.mem_of_mem_take h
 simp only [rolesL,List.mem_cons,List.not_mem_nil,or_false] at this
 rcases this with rfl | rfl | rfl | rfl | rfl<;>rfl
structure AnyP (types:List Str)(p:SProto):Prop where
 pts:∃l,p.points=l++[gG]∧AnyPts types p.roles (l.length+1) l∧1≤l.length∧l.length≤6
theorem kA {H:Hp}:PointOk H gG:=⟨RdSl.nil,by simp [gG]⟩
theorem eJ {H:Hp}{b:Nat}{a c:Str}{k d:Int}(rd:∀o v,[gs a,.int .i64 k,gs c,.int .i64 d][o]? =some v→H b o=some v)(hc:c.length≤3):∃l:List SArm,l.length=1∧RdSl H 4 SArm.cells (.slice (some ⟨b,0,none⟩) 1 1) l∧∀a∈l,a.cn.length≤4294960000:=
 ⟨[⟨a,k,c,d⟩],rfl,RdSl.blk (l:=[⟨a,k,c,d⟩]) (enc:=SArm.cells) rd (by intro x hx;rfl) rfl (by show 1≤9223372036854775807;decide),by intro x hx;rw [List.mem_singleton.1 hx];exact Nat.le_trans hc dq⟩
theorem mz {H:Hp}{b:Nat}{a c a' c':Str}{k d k' d':Int}(rd:∀o v,[gs a,.int .i64 k,gs c,.int .i64 d,gs a',.int .i64 k',gs c',.int .i64 d'][o]? =some v→H b o=some v)(hc:c.length≤3)(hc':c'.length≤3):∃l:List SArm,l.length=2∧RdSl H 4 SArm.cells (.slice (some ⟨b,0,none⟩) 2 2) l∧∀a∈l,a.cn.length≤4294960000:=
 ⟨[⟨a,k,c,d⟩,⟨a',k',c',d'⟩],rfl,RdSl.blk (l:=[⟨a,k,c,d⟩,⟨a',k',c',d'⟩]) (enc:=SArm.cells) rd (by intro x hx;rfl) rfl (by show 2≤9223372036854775807;decide),by
  intro x hx
  simp only [List.mem_cons,List.not_mem_nil,or_false] at hx
  rcases hx with rfl | rfl
  ·exact Nat.le_trans hc dq
  ·exact Nat.le_trans hc' dq⟩
theorem RdSl.recell {α:Type}{H:Hp}{k:Nat}{enc:α→List Value}{v:Value}{l l':List α}(h:RdSl H k enc v l)(e:l.map enc=l'.map enc):RdSl H k enc v l':=by
 have hl:l'.length=l.length:=by have:=congrArg List.length e;simpa using this.symm
 refine⟨by rw [hl];exact h.len,by rw [hl];exact h.max,fun hne=>?_,fun i x hx j u hu=>?_,fun a n c hv=>by rw [hl];exact h.room a n c hv⟩
 ·rw [hl];exact h.addr (fun e0=>hne (List.length_eq_zero_iff.1 (by rw [hl,e0];rfl)))
 ·have h1:(l.map enc)[i]? =some (enc x):=by rw [e,List.getElem?_map,hx];rfl
  rw [List.getElem?_map] at h1
  cases hy:l[i]? with
  | none=>rw [hy] at h1;cases h1
  | some y=>
   rw [hy] at h1
   simp only [Option.map_some,Option.some.injEq] at h1
   exact h.get i y hy j u (by rw [h1];exact hu)
structure Q4 where
 a:Str
 b:Str
 at_:Int
 h:Hp
theorem px {i:Int}(h0:0≤i)(h1:i<4):∃s,labelsL[i.toNat]? =some s:=⟨_,List.getElem?_eq_getElem (by show i.toNat<4;omega)⟩
end Go.Sx
namespace Go.Sx
open Go Go.Proofs
theorem New_ok {H:Hp}{v:Value}{l:List Int}(hl:RdSl H 1 I64.cells v l)(hm:l.length≤1000000000000):
  FnO Tryz.prog 28 [v] H (fun v H1 ob=>∃bd dl,v= .pointer (some ⟨bd,0,none⟩)∧ob=[(bd,[dl,.int .i64 0])]∧DiceOk H1 dl 0):=by
 refine FnO.enter Tryz.func28 Tryz.ntmps28 rfl rfl (fun w0=>?_)
 refine oF ?_
 refine TL.append (enc:=I64.cells) rfl rfl rfl (OwnSl.nil (enc:=I64.cells)) (Src.sl hl) (by simp;omega) rfl (.new _ rfl) rfl (fun a4 c4 ob4 hO4=>?_)
 refine dN ?_
 refine TL.box rfl rfl (fun b6=>?_)
 refine cu ?_
 refine TX.pubO hO4 (.skip _ .all) sq (fun H1 hle1 hR=>?_)
 exact ai (TC.ret (cf (.inr rfl) (ad rfl (RVal.tmp rfl)) .all ⟨_,_,rfl,rfl,⟨_,hR,by omega,by simp⟩⟩))
theorem jg {H:Hp}:
  Fn Tryz.prog 26 [] H (fun v H1=>RdSl H1 1 Str.cells v rolesL):=by
 refine Fn.enter Tryz.func26 Tryz.ntmps26 rfl rfl (fun w0=>?_)
 refine AM ?_
 refine aA rfl rfl rfl rfl (fun b1=>?_)
 refine cu ?_
 refine qG sq (fun H_b1 le_b1 rd_b1=>?_)
 have hR:RdSl H_b1 1 Str.cells _ (rolesL):=RdSl.blk (cap:=5) rd_b1 (by intro x hx;rfl) kr (by show 5≤9223372036854775807;decide)
 exact ai (TC.ret (aR (.inr rfl) (ad rfl (RVal.tmp rfl)) hR))
theorem eF {H:Hp}:
  Fn Tryz.prog 27 [] H (fun v H1=>RdSl H1 1 Str.cells v labelsL):=by
 refine Fn.enter Tryz.func27 Tryz.ntmps27 rfl rfl (fun w0=>?_)
 refine AM ?_
 refine aA rfl rfl rfl rfl (fun b1=>?_)
 refine cu ?_
 refine qG sq (fun H_b1 le_b1 rd_b1=>?_)
 have hR:RdSl H_b1 1 Str.cells _ (labelsL):=RdSl.blk (cap:=4) rd_b1 (by intro x hx;rfl) kr (by show 4≤9223372036854775807;decide)
 exact ai (TC.ret (aR (.inr rfl) (ad rfl (RVal.tmp rfl)) hR))
theorem iu {H:Hp}{bd:Nat}{dl:Value}{at_:Int}(hd:DiceOk H dl at_):
  DFn Tryz.prog bd dl at_ 192 [] H (fun v H1 ob=>ob=[]∧(H1=H∧∃k,v= .agg #[.int .i64 k,gs []]∧0≤k∧k≤4)):=by
 refine FnX.enter Tryz.func192 Tryz.ntmps192 rfl rfl (fun w0=>?_)
 refine zm2 ?_
 refine TL.alloc rfl (fun b2=>?_)
 refine gN ?_
 refine aA rfl rfl rfl rfl (fun b3=>?_)
 refine zm0 ?_
 refine aI (X:=[(b3,_),(b2,_)]) (bd:=bd) rfl (ab rfl rfl rfl rfl) (bq 6 om hd) rfl (fun v5 H5 at5 hle5 hd5 hp5=>?_)
 obtain⟨eH5,r5,rfl,hr5⟩:=hp5
 replace eH5:=eH5.symm;subst eH5
 have hra5:=hr5.1
 have hrb5:=hr5.2.1 om
 obtain⟨k,hk,hxk⟩:=data_at hra5 hrb5
 refine eD ?_;refine TL.run (aE rfl (.here _) hxk) rfl (dN ?_);refine lf ?_
 exact aZ (.inr rfl) (ad rfl (RVal.cellA rfl (.h1) rfl)) (fun w hw=>hw.drop.drop) ⟨_,[],rfl,hd5,rfl,rfl,_,rfl,hk⟩
theorem gi {H:Hp}{bd:Nat}{dl:Value}{at_:Int}(hd:DiceOk H dl at_){tv:Value}{types:List Str}(hty:RdSl H 1 Str.cells tv types)(htn:∀s∈types,TyNm s)(htl:types.length≤100):
  DFn Tryz.prog bd dl at_ 193 [tv] H (fun v H1 ob=>ob=[]∧(H1=H∧∃k nm,v= .agg #[.int .i64 k,gs nm]∧CarOk types k nm)):=by
 refine FnX.enter Tryz.func193 Tryz.ntmps193 rfl rfl (fun w0=>?_)
 refine zm2 ?_
 refine TL.alloc rfl (fun b4=>?_)
 refine TL.nil (ai (ip ?_));refine TL.run (ah rfl rfl hty) rfl (zm3 ?_)
 refine ag (s:=8) rfl ?_ ?_<;>intro g8
 ·
  have q8:=of_decide_eq_true g8
  refine cv ?_;refine TL.gd rfl rfl (aI (X:=[(b4,_)]) (bd:=bd) rfl (ab rfl rfl rfl rfl) (bq 4 om hd) rfl (fun v10 H10 at10 hle10 hd10 hp10=>?_))
  obtain⟨eH10,r10,rfl,hr10⟩:=hp10
  replace eH10:=eH10.symm;subst eH10
  have hra10:=hr10.1
  have hrb10:=hr10.2.1 om
  refine fP ?_
  refine af rfl ?_ ?_<;>intro c12
  ·
   refine fO ?_;refine TL.run (ah rfl rfl hty) rfl (aI (X:=[(b4,_)]) (bd:=bd) rfl (ab rfl rfl rfl rfl) (bq (types.length:Int) om hd10) rfl (fun v17 H17 at17 hle17 hd17 hp17=>?_))
   obtain⟨eH17,r17,rfl,hr17⟩:=hp17
   replace eH17:=eH17.symm;subst eH17
   have hra17:=hr17.1
   have hrb17:=hr17.2.1 om
   obtain⟨s,hx⟩:=aj (l:=types) hra17 hrb17
   refine TL.run (ae rfl hty rfl om om) rfl (TL.run (aL hty hx rfl rfl) rfl (dN ?_));refine tA ?_
   exact aZ (.inr rfl) (ad rfl (RVal.cellA rfl (.here _) rfl)) (fun w hw=>hw.drop) ⟨_,[],rfl,hd17,rfl,rfl,_,_,rfl,.inr ⟨rfl,List.mem_of_getElem? hx⟩⟩
  refine lm ?_
  refine aI (X:=[(b4,_)]) (bd:=bd) rfl (ab rfl rfl rfl rfl) (iu hd10) rfl (fun v22 H22 at22 hle22 hd22 hp22=>?_)
  obtain⟨eH22,k22,rfl,hk22⟩:=hp22
  replace eH22:=eH22.symm;subst eH22
  refine iV ?_
  exact aZ (.inr rfl) (ad rfl (RVal.cellA rfl (.here _) rfl)) (fun w hw=>hw.drop) ⟨_,[],rfl,hd22,rfl,rfl,_,_,rfl,.inl ⟨hk22.1,hk22.2,rfl⟩⟩
 have q8:=of_decide_eq_false g8
 refine gn ?_;refine pR ?_;refine lm ?_
 refine aI (X:=[(b4,_)]) (bd:=bd) rfl (ab rfl rfl rfl rfl) (iu hd) rfl (fun v22 H22 at22 hle22 hd22 hp22=>?_)
 obtain⟨eH22,k22,rfl,hk22⟩:=hp22
 replace eH22:=eH22.symm;subst eH22
 refine iV ?_
 exact aZ (.inr rfl) (ad rfl (RVal.cellA rfl (.here _) rfl)) (fun w hw=>hw.drop) ⟨_,[],rfl,hd22,rfl,rfl,_,_,rfl,.inl ⟨hk22.1,hk22.2,rfl⟩⟩
theorem I1 {H:Hp}{bd:Nat}{dl:Value}{at_:Int}(hd:DiceOk H dl at_){tv:Value}{types:List Str}(hty:RdSl H 1 Str.cells tv types)(htn:∀s∈types,TyNm s)(htl:types.length≤100)(places:Int)(h1:1≤places)(h2:places≤1000):
  DFn Tryz.prog bd dl at_ 169 [tv,.int .i64 places] H (fun v H1 ob=>ob=[]∧(H.le H1∧∃l:List SArm,RdSl H1 4 SArm.cells v l∧ArmsG types places l)):=by
 have hty0:=hty
 refine FnX.enter Tryz.func169 Tryz.ntmps169 rfl rfl (fun w0=>?_)
 refine jK ?_;refine oF ?_
 refine aI (X:=[]) (bd:=bd) rfl (ab rfl rfl rfl rfl) (bq 3 om hd) rfl (fun v12 H12 at12 hle12 hd12 hp12=>?_)
 obtain⟨eH12,r12,rfl,hr12⟩:=hp12
 replace eH12:=eH12.symm;subst eH12
 have hra12:=hr12.1
 have hrb12:=hr12.2.1 om
 refine kQ ?_;refine kW ?_
 refine aI (X:=[]) (bd:=bd) rfl (ab rfl rfl rfl rfl) (bq 4 om hd12) rfl (fun v15 H15 at15 hle15 hd15 hp15=>?_)
 obtain⟨eH15,r15,rfl,hr15⟩:=hp15
 replace eH15:=eH15.symm;subst eH15
 have hra15:=hr15.1
 have hrb15:=hr15.2.1 om
 refine kh ?_
 refine aK (V:=fun(p:Int×Int) v ob H1=>[(7,v),(10,.int .i64 p.1)]) (K:=[(0,_),(1,_),(2,_),(6,_),(8,_),(9,_)]) (L:=fun(p:Int×Int) v ob H1=>St (keys [(bd,[dl,.int .i64 at_])]) w0 H H1 ((bd,[dl,.int .i64 p.2])::ob)) (I:=fun(p:Int×Int) v ob H1=>(0≤p.1∧p.1≤1+r12)∧DiceOk H1 dl p.2∧H.le H1∧∃l:List SArm,OwnSl 4 SArm.cells v l ob∧(l.length:Int)=p.1∧ArmsI types places r15.toNat l) (μ:=fun(p:Int×Int)=>(1+r12 - p.1).toNat) (0,at15) (.slice none 0 0) [] H ky ⟨o2q,hd15,.refl _,[],OwnSl.nil,rfl,.nil⟩ (fun w hw=>hw) (fun p v ob H1 hI=>?_)
 obtain⟨⟨k0,k1⟩,hI2,hI3,l,hO,hI5,hI6⟩:=hI
 replace hty:=hty0.le hI3
 refine oD ?_
 refine af rfl ?_ ?_<;>intro c18
 ·
  obtain⟨lb,hlx,hlb⟩:=I4 (f:=r15) (k:=p.1) hra15 k0
  have hm4:=tmod4 (x:=r15+p.1) om
  have hl4:labelsL.length=4:=rfl
  refine qK ?_
  refine TD.part 7 10 rfl rfl rfl ?_ ?_
  ·
   refine aU [false] [(0,1),(2,1),(3,1),(4,1),(5,1),(8,1),(9,1),(11,1),(12,1),(1,3),(6,1),(7,2),(10,5),(13,5),(14,1),(15,3),(16,5),(17,1)] kr kr (rb ?_)
   refine Ai ?_;refine az (hZ rfl rfl dq) rfl (tw ?_)
   refine TF.call (ab rfl rfl rfl rfl) (eF) rfl (fun v22 H22 hle22 hp22=>?_)
   replace hty:=hty.le hle22
   replace hI2:=hI2.le hle22
   have hll22:=hp22
   refine az (ae rfl hll22 rfl om om) rfl (bg (aL hll22 hlx rfl rfl) rfl (au rfl (aI (X:=[]) (bd:=bd) rfl (ab rfl rfl rfl rfl) (gi hI2 hty htn htl) rfl (fun v31 H31 at31 hle31 hd31 hp31=>?_))))
   obtain⟨eH31,k31,nm31,rfl,hc31⟩:=hp31
   replace eH31:=eH31.symm;subst eH31
   refine ax SN hle22 (au rfl (aI (X:=[]) (bd:=bd) rfl (ab rfl rfl rfl rfl) (bq places om hd31) rfl (fun v34 H34 at34 hle34 hd34 hp34=>?_)))
   obtain⟨eH34,r34,rfl,hr34⟩:=hp34
   replace eH34:=eH34.symm;subst eH34
   have hra34:=hr34.1
   have hrb34:=hr34.2.1 om
   exact ax SN hle22 (GN)
  refine TD.part 7 13 rfl rfl rfl ?_ ?_
  ·
   refine aU [false] [(0,1),(2,1),(3,1),(4,1),(5,1),(8,1),(9,1),(11,1),(12,1),(1,3),(6,1),(10,5),(7,2),(13,5),(14,1),(15,3),(16,5),(17,1)] kr kr (rb ?_)
   refine Ai ?_;refine az (hZ rfl rfl dq) rfl (tw ?_)
   refine TF.call (ab rfl rfl rfl rfl) (eF) rfl (fun v22 H22 hle22 hp22=>?_)
   replace hty:=hty.le hle22
   replace hI2:=hI2.le hle22
   have hll22:=hp22
   refine az (ae rfl hll22 rfl om om) rfl (au rfl (aI (X:=[]) (bd:=bd) rfl (ab rfl rfl rfl rfl) (gi hI2 hty htn htl) rfl (fun v31 H31 at31 hle31 hd31 hp31=>?_)))
   obtain⟨eH31,k31,nm31,rfl,hc31⟩:=hp31
   replace eH31:=eH31.symm;subst eH31
   refine ax SN hle22 (bg (aL hll22 hlx rfl rfl) rfl (au rfl (aI (X:=[]) (bd:=bd) rfl (ab rfl rfl rfl rfl) (bq places om hd31) rfl (fun v34 H34 at34 hle34 hd34 hp34=>?_))))
   obtain⟨eH34,r34,rfl,hr34⟩:=hp34
   replace eH34:=eH34.symm;subst eH34
   have hra34:=hr34.1
   have hrb34:=hr34.2.1 om
   exact ax SN hle22 (GN)
  refine aU [false] [(0,1),(2,1),(3,1),(4,1),(5,1),(8,1),(9,1),(11,1),(12,1),(1,3),(6,1),(10,5),(13,5),(7,2),(14,1),(15,3),(16,5),(17,1)] kr kr (rb ?_)
  refine Ai ?_;refine az (hZ rfl rfl dq) rfl (tw ?_)
  refine TF.call (ab rfl rfl rfl rfl) (eF) rfl (fun v22 H22 hle22 hp22=>?_)
  replace hty:=hty.le hle22
  replace hI2:=hI2.le hle22
  have hll22:=hp22
  refine az (ae rfl hll22 rfl om om) rfl (au rfl (aI (X:=[]) (bd:=bd) rfl (ab rfl rfl rfl rfl) (gi hI2 hty htn htl) rfl (fun v31 H31 at31 hle31 hd31 hp31=>?_)))
  obtain⟨eH31,k31,nm31,rfl,hc31⟩:=hp31
  replace eH31:=eH31.symm;subst eH31
  refine ax SN hle22 (au rfl (aI (X:=[]) (bd:=bd) rfl (ab rfl rfl rfl rfl) (bq places om hd31) rfl (fun v34 H34 at34 hle34 hd34 hp34=>?_)))
  obtain⟨eH34,r34,rfl,hr34⟩:=hp34
  replace eH34:=eH34.symm;subst eH34
  have hra34:=hr34.1
  have hrb34:=hr34.2.1 om
  exact ax SN hle22 (bg (aL hll22 hlx rfl rfl) rfl (GN))
 refine jA ?_
 refine eB (X:=[(bd,_)]) hO rfl (by simp [keys]) (fun H2 hle2 hR=>?_)
 exact aZ (.inr rfl) (ad rfl (RVal.tmp rfl)) (fun w hw=>hw) ⟨_,[],rfl,(hI2.le hle2),rfl,hI3.trans hle2,_,hR,hI6.fin om om⟩
end Go.Sx
namespace Go.Sx
open Go Go.Proofs
theorem zn {H:Hp}{bd:Nat}{dl:Value}{at_:Int}(hd:DiceOk H dl at_){tv:Value}{types:List Str}(hty:RdSl H 1 Str.cells tv types)(htn:∀s∈types,TyNm s)(htl:types.length≤100)(name:Str)(many:Int)(h2:2≤many)(h5:many≤5):
  DFn Tryz.prog bd dl at_ 124 [gs name,.int .i64 many,tv] H (fun v H1 ob=>ob=[]∧(H.le H1∧∃p:SProto,v= .agg p.cells.toArray∧ProtoOk H1 p∧p.name=name∧p.roles=rolesL.take many.toNat∧AnyP types p)):=by
 have hrl:(rolesL.take many.toNat).length=many.toNat:=CZ om om
 refine FnX.enter Tryz.func124 Tryz.ntmps124 rfl rfl (fun w0=>?_)
 refine zm2 ?_
 refine TL.alloc rfl (fun b8=>?_)
 refine jo ?_
 refine aI (X:=[(b8,_)]) (bd:=bd) rfl (ab rfl rfl rfl rfl) (bq 6 om hd) rfl (fun v15 H15 at15 hle15 hd15 hp15=>?_)
 obtain⟨eH15,r15,rfl,hr15⟩:=hp15
 replace eH15:=eH15.symm;subst eH15
 have hra15:=hr15.1
 have hrb15:=hr15.2.1 om
 refine kQ ?_;refine kW ?_
 refine TL.call (ab rfl rfl rfl rfl) (jg) rfl (fun v18 H18 hle18 hp18=>?_)
 replace hty:=hty.le hle18
 replace hd15:=hd15.le hle18
 have hro18:=hp18
 obtain⟨ra18,rc18,rfl⟩:=hro18.len
 have hcp:5≤rc18:=hro18.room _ _ _ rfl
 have hsl:=hro18.sliced (i:=0) (j:=many.toNat) om (by show many.toNat≤5;omega)
 have hle0:=hle18
 refine zm0 ?_;refine Ah ?_
 refine TL.append (enc:=Str.cells) rfl rfl rfl (OwnSl.nil (enc:=Str.cells)) (Src.sl hsl) (by simp only [List.length_drop,List.length_nil];omega) rfl (.new _ rfl) rfl (fun a21 c21 ob21 hO21=>?_)
 refine dN ?_
 refine TL.alloc rfl (fun b10=>?_)
 refine Ag ?_
 refine eB (X:=[(b10,_),(b8,_),(bd,_)]) hO21 rfl (by simp [keys]) (fun HR leR hR=>?_)
 replace hty:=hty.le leR
 replace hd15:=hd15.le leR
 replace hle0:=hle0.trans leR
 have hrs:RdSl HR 1 Str.cells (.slice a21 (rolesL.take many.toNat).length c21) (rolesL.take many.toNat):=hR
 have hty1:=hty
 refine ai (ra ?_)
 refine aK (V:=fun(p:Int×Int) v ob H1=>[(11,.int .i64 p.1)]) (K:=[(0,_),(2,_),(3,_),(8,_),(9,_),(10,_)]) (L:=fun(p:Int×Int) v ob H1=>St (keys [(bd,[dl,.int .i64 at_])]) w0 H H1 ((b10,[gs name,.slice a21 (rolesL.take many.toNat).length c21,v])::(b8,[gs [],.slice none 0 0,.slice none 0 0])::(bd,[dl,.int .i64 p.2])::ob)) (I:=fun(p:Int×Int) v ob H1=>(0≤p.1∧p.1≤1+r15)∧DiceOk H1 dl p.2∧HR.le H1∧∃l:List SPoint,OwnSl 3 SPoint.cells v l ob∧(l.length:Int)=p.1∧AnyPts types (rolesL.take many.toNat) (1+r15+1) l∧∀x∈l,PointOk H1 x) (μ:=fun(p:Int×Int)=>(1+r15 - p.1).toNat) (0,at15) (.slice none 0 0) [] HR ky ⟨o2q,hd15,.refl _,[],OwnSl.nil,rfl,.nil,by simp⟩ (fun w hw=>hw) (fun p v ob H1 hI=>?_)
 obtain⟨⟨k0,k1⟩,hI2,hI3,l,hO,hI5,hI6,hI7⟩:=hI
 replace hty:=hty1.le hI3
 obtain⟨va,vc,rfl⟩:=hO.form
 have hrs1:=hrs.le hI3
 refine oD ?_
 refine af rfl ?_ ?_<;>intro c25
 ·
  refine lj ?_
  refine aI (X:=[(b10,_),(b8,_)]) (bd:=bd) rfl (ab rfl rfl rfl rfl) (bq many om hI2) rfl (fun v30 H30 at30 hle30 hd30 hp30=>?_)
  obtain⟨eH30,r30,rfl,hr30⟩:=hp30
  replace eH30:=eH30.symm;subst eH30
  have hra30:=hr30.1
  have hrb30:=hr30.2.1 om
  refine kW ?_;refine kQ ?_;refine zm3 ?_;refine ly ?_
  refine aI (X:=[(b10,_),(b8,_)]) (bd:=bd) rfl (ab rfl rfl rfl rfl) (bq (many - 1) om hd30) rfl (fun v36 H36 at36 hle36 hd36 hp36=>?_)
  obtain⟨eH36,r36,rfl,hr36⟩:=hp36
  replace eH36:=eH36.symm;subst eH36
  have hra36:=hr36.1
  have hrb36:=hr36.2.1 om
  refine kQ ?_;refine zm0 ?_;refine TL.run (hZ rfl rfl om) rfl (cu ?_)
  have hne:=any_ne hra30 hrb30 hra36 hrb36
  obtain⟨q1,hr1⟩:=aj (l:=(rolesL.take many.toNat)) (i:=r30) om om
  obtain⟨q2,hr2⟩:=aj (l:=(rolesL.take many.toNat)) hne.1.1 om
  refine ai (dO ?_);refine zm450 ?_;refine qZ ?_;refine qZ ?_;refine zm6 ?_
  refine az (ae rfl hrs1 rfl om om) rfl (aO (S1 (S1 SN)) (Hp.le.refl _) (fun _ _=>aL hrs1 hr1 rfl rfl) rfl (qZ ?_));refine zm6 ?_
  refine az (ae rfl hrs1 rfl om om) rfl (aO (S1 (S1 SN)) (Hp.le.refl _) (fun _ _=>aL hrs1 hr2 rfl rfl) rfl (rb ?_));refine Ai ?_
  refine au rfl (aI (X:=[(b10,_),(b8,_)]) (bd:=bd) rfl (ab rfl rfl rfl rfl) (I1 hd36 hty htn htl (1+r15+1) om om) rfl (fun v56 H56 at56 hle56 hd56 hp56=>?_))
  obtain⟨hle56_,l56,hl56,hA56⟩:=hp56
  obtain⟨a56,c56,rfl⟩:=hl56.len
  refine ax (S1 (S1 SN)) hle56 (eo ?_)
  refine aJ rfl rfl rfl rfl (fun b58=>?_)
  refine au rfl (TL.append (enc:=SPoint.cells) rfl rfl rfl hO (Src.own [⟨q1,q2,l56,(a56,c56)⟩] (.here _) rfl rfl) (by have:=hI5;simp only [List.length_cons,List.length_nil];omega) rfl (.s3 (.skip _ .all)) rfl (fun a59 c59 ob59 hO59=>?_))
  refine ax (S0 (S1 (S1 SN))) hle56 (wQ ?_)
  exact ay (p.1+1,at56) _ ob59 H56 ⟨o2q,hd56,hI3.trans hle56,_,hO59,by simp only [List.length_append,List.length_cons,List.length_nil];omega,hI6.snoc ⟨List.mem_of_getElem? hr1,List.mem_of_getElem? hr2⟩ (Ih hr1 hr2 (Ne.symm hne.2)) hA56,gI (fun x hx=>(hI7 x hx).le hle56) ⟨hl56,hA56.len htn⟩⟩ ky (fun w hw=>hw.drop) om
 refine fN ?_;refine fC ?_;refine dN ?_
 refine aA rfl rfl rfl rfl (fun b64=>?_)
 refine TL.append (enc:=SPoint.cells) rfl rfl rfl hO (Src.own [gG] (.here _) rfl rfl) (by have:=hI5;simp only [List.length_cons,List.length_nil];omega) rfl (.s3 (.skip _ .all)) rfl (fun a65 c65 ob65 hO65=>?_)
 refine qY ?_;refine ng ?_;refine no ?_
 refine eB (X:=[(b64,_),(b10,_),(b8,_),(bd,_)]) hO65 rfl (by simp [keys]) (fun H2 hle2 hP=>?_)
 exact aZ (.inr rfl) (ad rfl (RVal.cellA rfl (.h2) rfl)) (fun w hw=>hw.drop.drop.drop) ⟨_,[],rfl,(hI2.le hle2),rfl,hle0.trans (hI3.trans hle2),⟨name,(rolesL.take many.toNat),(a21,c21),l++[gG],(a65,c65)⟩,rfl,⟨hrs.le (hI3.trans hle2),hP,gI (fun x hx=>(hI7 x hx).le hle2) kA⟩,rfl,rfl,⟨l,rfl,by rw [show((l.length:Int)+1)=1+r15+1 by omega];exact hI6,by omega,by omega⟩⟩
end Go.Sx
