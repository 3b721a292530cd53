import Derived.Test.YtjnlogbbcceaoaaGreatO8
set_option linter.all false
set_option maxRecDepth 100000
set_option maxHeartbeats 32000000
namespace Go.Sx
open Go Go.Proofs
theorem iy {H:Hp}(p:SProto)(r:Str)(h1:p.name.length≤1000)(h2:r.length≤1000):
  FnS Tryz.prog 68 [.agg p.cells.toArray,gs r] H (gs (p.name++r)):=by
 refine FnS.enter Tryz.func68 Tryz.ntmps68 rfl rfl (fun w0=>?_)
 refine zm2 ?_
 refine TL.box rfl rfl (fun b2=>?_)
 refine zm1 ?_;refine lN ?_;refine TL.run (dA rfl rfl om) rfl (dv ?_)
 exact aw (.inr rfl) (ad rfl (RVal.tmp rfl)) rfl
theorem pJ {F:Fx}{V:WV}(p:SProto)(role:Str)(hp:ProtoOk V.H p)(hG:GPr p)(hr:AnyNm role):
  WFn Tryz.prog F V 70 [.agg p.cells.toArray,gs role] 12 (fun v V1=>∃s,v=gs s∧VarNm s):=by
 refine WFn.enter Tryz.func70 Tryz.ntmps70 rfl rfl (fun m w0 hW hm=>?_)
 have hro:=hp.r
 have hmx:=hro.max
 have hr5:=hG.r5
 have hn1:=hG.n1
 refine zm2 ?_
 refine TL.box rfl rfl (fun b4=>?_)
 refine rz ?_;refine aq (ab rfl rfl rfl rfl) (cC 8) rfl (TL.alloc rfl (fun b7=>?_))
 refine lP ?_;refine aI [false,true,false,false] [(0,1),(2,1),(3,4),(4,1),(1,5),(5,1),(6,5),(7,1),(8,5),(9,1),(10,0)] kr kr (mh ?_)
 refine aF (S0 (S1 SN)) (Hp.le.refl _) (fun _ _=>ay rfl (.here _) rfl) rfl (zm6 ?_)
 refine ak rfl (au (F:=F) (V:=V) (m:=m) [(b7,_),(b4,_)] rfl rfl (ab rfl rfl rfl rfl) (pK) hW om rfl (fun v11 V11 hle11 hW11 hS11 hs11 ht11 hp11=>?_))
 replace hro:=hro.le hle11
 obtain⟨s11,rfl,hv11⟩:=hp11
 refine al (S0 (S1 SN)) hle11 (ry ?_);refine al (S0 (S1 SN)) hle11 (ry ?_);refine al (S0 (S1 SN)) hle11 (eY ?_);refine mg ?_;refine ik ?_;refine lR ?_
 refine oE (V:=fun(k:Int) (V1:WV) (r:Rw)=>[(8,.int .i64 k)]) (K:=[(0,_),(2,_),(4,_),(6,_),(7,_)]) (L:=fun k V1 r=>St (keys (F.L V)) w0 V.H V1.H ((b7,TStep.cells ⟨8,s11,role,p.name,[], -1,none,0,0,r.a,r.n,r.c,none,0,0, -1⟩)::(b4,p.cells)::Fx.L F V1)) (I:=fun k V1 r=>WI F V1 (m+1+2 * k.toNat)∧(0≤k∧k≤p.roles.length)∧V.H.le V1.H∧V.S.le V1.S∧V.sn≤V1.sn∧V.tn≤V1.tn∧SlT V1.S 2 r.a r.n r.c∧r.n≤k.toNat) (μ:=fun k=>(p.roles.length - k).toNat) 0 V11 ⟨none,0,0⟩ ky (⟨by simpa using hW11,o2q,hle11,hS11,hs11,ht11,.nil,by simp⟩) (fun w hw=>hw) (fun k V1 r hI=>?_)
 obtain⟨hI1,⟨k0,k1⟩,hI3,hI4,hI5,hI6,hI7,hI8⟩:=hI
 replace hro:=hp.r.le hI3
 refine il ?_;refine f7 ?_;refine TL.run (ai rfl rfl hro) rfl (zm1 ?_)
 refine ag rfl ?_ ?_<;>intro c22
 ·
  obtain⟨rr,hrx⟩:=ao (l:=p.roles) k0 c22
  have hrr:=hG.rl (List.mem_of_getElem? hrx)
  refine fu ?_;refine fJ ?_;refine zm0 ?_;refine TL.run (af rfl hro rfl om om) rfl (TL.run (aJ hro hrx rfl rfl) rfl (sk ?_))
  refine aW rfl ?_ ?_<;>intro c31
  ·
   refine d3 ?_;refine zm352 ?_;refine lQ ?_;refine zm3 ?_;refine o8 ?_;refine zm6 ?_;refine rU ?_
   refine aF (S1 (S1 SN)) (Hp.le.refl _) (fun _ _=>aJ hro hrx rfl rfl) rfl (aF (S1 (S1 SN)) (Hp.le.refl _) (fun _ _=>aU rfl (.h1) rfl) rfl (zm3 ?_));refine o8 ?_;refine zm6 ?_
   refine rU ?_;refine aF (S1 (S1 SN)) (Hp.le.refl _) (fun _ _=>aJ hro hrx rfl rfl) rfl (j6 ?_);refine mW ?_
   refine uk (ab rfl rfl rfl rfl) (iy p rr om om) rfl (ak rfl (az (X:=[(b7,_),(b4,_),(F.bw,_)]) (bd:=F.bd) rfl (ab rfl rfl rfl rfl) (aV 4 om hI1.d) rfl (fun v51 H51 at51 hle51 hd51 hp51=>?_)))
   obtain⟨rfl,r51,rfl,hr51⟩:=hp51
   refine al (S1 (S1 SN)) (Hp.le.refl _) (ak rfl (au (F:=F) (V:={V1 with at_:=at51}) (m:=m+1+2 * k.toNat) [(b7,_),(b4,_)] rfl rfl (ab rfl rfl rfl rfl) (dT _) (hI1.dice (.refl _) hd51) om rfl (fun v52 V52 hle52 hW52 hS52 hs52 ht52 hp52=>?_)))
   dsimp only at hle52 hS52 hs52 ht52 hp52
   obtain⟨i52,rfl⟩:=hp52
   refine al (S1 (S1 SN)) hle52 (aA rfl rfl rfl rfl (fun b53=>?_))
   refine dj ?_
   refine aA rfl rfl rfl rfl (fun b55=>?_)
   refine ak rfl (gB (enc:=I64.cells) (t:=4) (X:=[(b55,_)]) (Y:=[(b7,_),(b4,_),(F.bw,_),(F.bd,_)]) [_] rfl hW52.bag rfl rfl rfl (by intro y hy;exact⟨⟨_,rfl⟩,trivial⟩) (fun Sb53 Bb53 hSb53 hNb53 hbb53 hBb53=>?_))
   refine gg (enc:=TCast.cells) (t:=2) rfl rfl rfl (hW52.bagA hSb53 hNb53 hBb53).bag (hI7.le (hS52.trans (hSb53))) (Src.own [⟨rr,p.name++rr,some ⟨b53,0,none⟩,1,1⟩] (.here _) rfl rfl) rfl (by intro y hy;rw [List.mem_singleton.1 hy];exact TCast.all (s:=⟨rr,p.name++rr,some ⟨b53,0,none⟩,1,1⟩) (Nat.le_trans hrr dq) (hG.proc hrr) (SlT.blk hbb53 (by show 1≤9223372036854775807;decide)) (by have:=hW52.n10;dsimp only at *;omega)) zt2 (by simp only [List.length_cons,List.length_nil];omega) rfl (.s4 (.skip _ .all)) rfl (fun S56 a56 c56 B56 hS56 hN56 hT56 hB56=>?_)
   change _=_+1 at hN56
   refine al (S0 (S1 (S1 SN))) hle52 (r6 ?_);refine TF.back (TF.nil (ie ?_))
   exact fH (k+1) ({{V52 with S:=Sb53,B:=Bb53} with S:=S56,B:=B56}) ⟨a56,r.n+1,c56⟩ (⟨((hW52.bagA hSb53 hNb53 hBb53).bagT hS56 hN56 hB56).more om,o2q,hI3.trans hle52,(hI4.trans (hS52.trans (hSb53.trans (hS56)))),by dsimp only;omega,by dsimp only;omega,hT56,by dsimp only;omega⟩) ky (fun w hw=>hw.drop) om
  refine gb ?_
  exact fH (k+1) V1 r (⟨hI1.more om,o2q,hI3,hI4,hI5,hI6,hI7,by omega⟩) ky (fun w hw=>hw) om
 refine o9 ?_;refine eE ?_
 refine au (F:=F) (V:=V1) (m:=m+1+2 * k.toNat) [(b7,_),(b4,_)] rfl rfl (ab rfl rfl rfl rfl) (d5 ⟨8,s11,role,p.name,[], -1,none,0,0,r.a,r.n,r.c,none,0,0, -1⟩ ⟨hv11,hr,by simp only [AnyNm];omega,.nil,.nil,hI7,.nil,Nat.zero_le _,by have:=hI1.n10;dsimp only;omega,Nat.zero_le _⟩) hI1 om rfl (fun v60 V60 hle60 hW60 hS60 hs60 ht60 hp60=>?_)
 obtain⟨rfl,hn60⟩:=hp60
 refine TL.nil (ae (eQ ?_));refine dv ?_
 exact ba (V':=V60) (X:=[(b7,_),(b4,_)]) (.inr rfl) (ad rfl (RVal.tmp rfl)) rfl rfl (hW60.more om) (hI4.trans (hS60)) (by(try dsimp only);omega) (by(try dsimp only);omega) ⟨_,rfl,hv11⟩
end Go.Sx
namespace Go.Sx
open Go Go.Proofs
theorem yx {F:Fx}{V:WV}(s:Str)(hs:VarNm s)(ck:Int)(cn:Str):
  WFn Tryz.prog F V 178 [gs s,.agg #[.int .i64 ck,gs cn]] 12 (fun v V1=>v= .tuple #[]):=by
 refine WFn.enter Tryz.func178 Tryz.ntmps178 rfl rfl (fun m w0 hW hm=>?_)
 refine zm2 ?_
 refine TL.box rfl rfl (fun b5=>?_)
 refine TL.nil (ae (TC.seq (mH ?_)))
 refine aW rfl ?_ ?_<;>intro c13
 ·
  refine il ?_;refine rD ?_
  refine az (X:=[(b5,_),(F.bw,_)]) (bd:=F.bd) rfl (ab rfl rfl rfl rfl) (aV 3 om hW.d) rfl (fun v18 H18 at18 hle18 hd18 hp18=>?_)
  obtain⟨rfl,r18,rfl,hr18⟩:=hp18
  refine zm1 ?_
  refine ag rfl ?_ ?_<;>intro c19
  ·
   refine zm2 ?_;refine aq (ab rfl rfl rfl rfl) (cC 2) rfl (TL.alloc rfl (fun b6=>?_))
   refine fl ?_;refine dS ?_
   refine au (F:=F) (V:={V with at_:=at18}) (m:=m) [(b6,_),(b5,_)] rfl rfl (ab rfl rfl rfl rfl) (bZ s hs) (hW.dice (.refl _) hd18) om rfl (fun v23 V23 hle23 hW23 hS23 hs23 ht23 hp23=>?_)
   dsimp only at hle23 hS23 hs23 ht23 hp23
   obtain⟨i23,rfl⟩:=hp23
   refine jW ?_;refine rF ?_
   refine au (F:=F) (V:=V23) (m:=m+1) [(b6,_),(b5,_)] rfl rfl (ab rfl rfl rfl rfl) (d5 ⟨2,[],[],[],[],i23,none,0,0,none,0,0,none,0,0, -1⟩ ⟨.nil,.nil,.nil,.nil,.nil,.nil,.nil,Nat.zero_le _,Nat.zero_le _,Nat.zero_le _⟩) hW23 om rfl (fun v27 V27 hle27 hW27 hS27 hs27 ht27 hp27=>?_)
   obtain⟨rfl,hn27⟩:=hp27
   refine TL.nil (ae (TC.ret (aC ?_)))
   exact ba (V':=V27) (X:=[(b6,_),(b5,_)]) (.inr rfl) (bK rfl) rfl rfl (hW27.more om) (hS23.trans (hS27)) (by(try dsimp only);omega) (by(try dsimp only);omega) rfl
  refine cW ?_
  exact TC.ret (aC (ba (V':={V with at_:=at18}) (X:=[(b5,_)]) (.inr rfl) (bK rfl) rfl rfl ((hW.dice (.refl _) hd18).more om) (.refl _) (by(try dsimp only);omega) (by(try dsimp only);omega) rfl))
 refine f8 ?_;refine cZ ?_;refine rD ?_
 refine az (X:=[(b5,_),(F.bw,_)]) (bd:=F.bd) rfl (ab rfl rfl rfl rfl) (aV 3 om hW.d) rfl (fun v32 H32 at32 hle32 hd32 hp32=>?_)
 obtain⟨rfl,r32,rfl,hr32⟩:=hp32
 refine zm1 ?_
 refine ag rfl ?_ ?_<;>intro c33
 ·
  refine zm2 ?_;refine aq (ab rfl rfl rfl rfl) (cC 9) rfl (TL.alloc rfl (fun b7=>?_))
  refine fl ?_;refine cZ ?_;refine pA ?_;refine eE ?_
  refine au (F:=F) (V:={V with at_:=at32}) (m:=m) [(b7,_),(b5,_)] rfl rfl (ab rfl rfl rfl rfl) (d5 ⟨9,s,[],[],[], -1,none,0,0,none,0,0,none,0,0, -1⟩ ⟨hs,.nil,.nil,.nil,.nil,.nil,.nil,Nat.zero_le _,Nat.zero_le _,Nat.zero_le _⟩) (hW.dice (.refl _) hd32) om rfl (fun v39 V39 hle39 hW39 hS39 hs39 ht39 hp39=>?_)
  dsimp only at hle39 hS39 hs39 ht39 hp39
  obtain⟨rfl,hn39⟩:=hp39
  refine TL.nil (ae (TC.ret (aC ?_)))
  exact ba (V':=V39) (X:=[(b7,_),(b5,_)]) (.inr rfl) (bK rfl) rfl rfl (hW39.more om) hS39 (by(try dsimp only);omega) (by(try dsimp only);omega) rfl
 refine j7 ?_;refine fw ?_
 refine au (F:=F) (V:={V with at_:=at32}) (m:=m) [(b5,_)] rfl rfl (ab rfl rfl rfl rfl) (nr cn) (hW.dice (.refl _) hd32) om rfl (fun v44 V44 hle44 hW44 hS44 hs44 ht44 hp44=>?_)
 dsimp only at hle44 hS44 hs44 ht44 hp44
 obtain⟨p,rr,rfl,hp44,hr44⟩:=hp44
 have hG:=hW44.fx.pg p hp44
 have hrr:=hG.rl hr44
 have hn1:=hG.n1
 refine zm4 ?_;refine zm0 ?_
 refine TL.alloc rfl (fun b8=>?_)
 refine gD ?_;refine rz ?_;refine aq (ab rfl rfl rfl rfl) (cC 7) rfl (TL.alloc rfl (fun b10=>?_))
 refine lK ?_;refine kS ?_;refine zm0 ?_;refine yj ?_;refine jW ?_;refine ig ?_
 refine TD.part 7 2 rfl rfl rfl ?_ ?_
 ·
  refine yi ?_;refine oU ?_;refine o7 ?_
  refine ak rfl (au (F:=F) (V:=V44) (m:=m+0) [(b10,_),(b8,_),(b5,_)] rfl rfl (ab rfl rfl rfl rfl) (bZ s hs) hW44 om rfl (fun v54 V54 hle54 hW54 hS54 hs54 ht54 hp54=>?_))
  obtain⟨i54,rfl⟩:=hp54
  exact al (S1 (S1 (S1 SN))) hle54 (zq461)
 refine yh ?_;refine sg ?_
 refine au (F:=F) (V:=V44) (m:=m+0) [(b10,_),(b8,_),(b5,_)] rfl rfl (ab rfl rfl rfl rfl) (bZ s hs) hW44 om rfl (fun v54 V54 hle54 hW54 hS54 hs54 ht54 hp54=>?_)
 obtain⟨i54,rfl⟩:=hp54
 refine al (S1 (S1 (S1 SN))) hle54 (o7 ?_)
 exact zq461
theorem wL {F:Fx}{V:WV}:
  WFn Tryz.prog F V 128 [] 20 (fun v V1=>v= .tuple #[]∧V.sn<V1.sn):=by
 refine WFn.enter Tryz.func128 Tryz.ntmps128 rfl rfl (fun m w0 hW hm=>?_)
 refine zm2 ?_;refine aq (ab rfl rfl rfl rfl) (cC 3) rfl (TL.alloc rfl (fun b2=>?_))
 refine fl ?_;refine dS ?_
 refine au (F:=F) (V:=V) (m:=m) [(b2,_)] rfl rfl (ab rfl rfl rfl rfl) (dT 0) hW om rfl (fun v9 V9 hle9 hW9 hS9 hs9 ht9 hp9=>?_)
 obtain⟨i9,rfl⟩:=hp9
 refine zm0 ?_
 refine au (F:=F) (V:=V9) (m:=m+1) [(b2,_)] rfl rfl (ab rfl rfl rfl rfl) (bZ [110] (.inr (.inr (.inl rfl)))) hW9 om rfl (fun v11 V11 hle11 hW11 hS11 hs11 ht11 hp11=>?_)
 obtain⟨i11,rfl⟩:=hp11
 refine au (F:=F) (V:=V11) (m:=m+1+1) [(b2,_)] rfl rfl (ab rfl rfl rfl rfl) (d6 12 i9 i11) hW11 om rfl (fun v12 V12 hle12 hW12 hS12 hs12 ht12 hp12=>?_)
 obtain⟨i12,rfl⟩:=hp12
 refine pA ?_;refine eE ?_
 refine au (F:=F) (V:=V12) (m:=m+1+1+1) [(b2,_)] rfl rfl (ab rfl rfl rfl rfl) (eG ⟨3,[],[],[],[],i12,none,0,0,none,0,0,none,0,0, -1⟩ ⟨.nil,.nil,.nil,.nil,.nil,.nil,.nil,Nat.zero_le _,Nat.zero_le _,Nat.zero_le _⟩) hW12 om rfl (fun v16 V16 hle16 hW16 hS16 hs16 ht16 hp16=>?_)
 obtain⟨rfl,hn16⟩:=hp16
 refine sh ?_;refine zm353 ?_
 obtain⟨bw3,jw3,qw3,haw3,hbw3,hjw3⟩:=hW16.s.at om
 obtain⟨uw3,huw3,hcw3⟩:=hW16.bag.get (k:=10) (i:=(V12.sn:Int).toNat) (f:=8) hbw3 rfl hjw3 om rfl
 obtain⟨waw3,wnw3,wcw3,rfl,hww3,hwnw3⟩:=huw3
 have hnbw3:=hW16.nb
 refine gj ?_;refine pE ?_;refine j6 ?_;refine pE ?_;refine zm6 ?_;refine ar (cP (tb:=3) rfl rfl haw3 om om) rfl (zm3 ?_)
 refine aQ (jC rfl hcw3 (.s2 (.skip _ .all))) rfl (gj ?_);refine pE ?_;refine ar (dp rfl rfl) rfl (dj ?_)
 refine aA rfl rfl rfl rfl (fun b39=>?_)
 refine ak rfl (gg (enc:=SWay.cells) (t:=1) rfl rfl rfl hW16.bag hww3 (Src.own [⟨[],[],_⟩] (.here _) rfl rfl) rfl (by intro y hy;rw [List.mem_singleton.1 hy];exact SWay.all (s:=⟨[],[],_⟩) .nil .nil) zt1 (by simp only [List.length_cons,List.length_nil];omega) rfl (.s3 (.skip _ .all)) rfl (fun S40 a40 c40 B40 hS40 hN40 hT40 hB40=>?_))
 change _=_+1 at hN40
 refine al (S0 (S1 (S1 (S1 SN)))) (Hp.le.refl _) (ar (cP (tb:=3) rfl rfl haw3 om om) rfl (zm3 ?_))
 refine ak rfl (iK (t:=3) (f:=8) (ct:=.sl 1) rfl rfl (hW16.bagT hS40 hN40 hB40).bag (.s3 (.skip _ .all)) (hS40.1 _ _ hbw3) rfl hjw3 om rfl (⟨_,_,_,rfl,hT40,by simp only [List.length_cons,List.length_nil];omega⟩) rfl rfl (fun Bst1 hBst1=>?_))
 refine al (S0 (S1 (S1 (S1 SN)))) (Hp.le.refl _) (TF.nil (ae (zm2 ?_)));refine aq (ab rfl rfl rfl rfl) (cC 6) rfl (TL.alloc rfl (fun b4=>?_))
 refine fl ?_;refine cZ ?_;refine mm ?_;refine oI ?_;refine pA ?_
 refine au (F:=F) (V:={{V16 with S:=S40,B:=B40} with B:=Bst1}) (m:=m+1+1+1+1+1) [(b4,_),(b39,_),(b2,_)] rfl rfl (ab rfl rfl rfl rfl) (bZ [99] (.inr (.inl rfl))) ((hW16.bagT hS40 hN40 hB40).bagB hBst1) om rfl (fun v50 V50 hle50 hW50 hS50 hs50 ht50 hp50=>?_)
 dsimp only at hle50 hS50 hs50 ht50 hp50
 obtain⟨i50,rfl⟩:=hp50
 refine zm0 ?_
 refine au (F:=F) (V:=V50) (m:=m+1+1+1+1+1+1) [(b4,_),(b39,_),(b2,_)] rfl rfl (ab rfl rfl rfl rfl) (yy) hW50 om rfl (fun v52 V52 hle52 hW52 hS52 hs52 ht52 hp52=>?_)
 obtain⟨i52,rfl⟩:=hp52
 refine ax rfl rfl rfl rfl (fun b53=>?_)
 refine r4 ?_;refine fz ?_
 refine gB (enc:=I64.cells) (t:=4) (X:=[]) (Y:=[(b4,_),(b39,_),(b2,_),(F.bw,_),(F.bd,_)]) [_,_] rfl hW52.bag rfl rfl rfl (by intro y hy;exact⟨⟨_,rfl⟩,trivial⟩) (fun Sb53 Bb53 hSb53 hNb53 hbb53 hBb53=>?_)
 refine zm0 ?_;refine eE ?_
 refine au (F:=F) (V:={V52 with S:=Sb53,B:=Bb53}) (m:=m+1+1+1+1+1+1+3) [(b4,_),(b39,_),(b2,_)] rfl rfl (ab rfl rfl rfl rfl) (eG ⟨6,[],[],[],F.self, -1,some ⟨b53,0,none⟩,2,2,none,0,0,none,0,0, -1⟩ ⟨.nil,.nil,.nil,hW.fx.sf,(SlT.blk hbb53 le2),.nil,.nil,(by have:=hW52.n10;dsimp only at *;omega),Nat.zero_le _,Nat.zero_le _⟩) (hW52.bagA hSb53 hNb53 hBb53) om rfl (fun v57 V57 hle57 hW57 hS57 hs57 ht57 hp57=>?_)
 dsimp only at hle57 hS57 hs57 ht57 hp57
 obtain⟨rfl,hn57⟩:=hp57
 refine fY ?_
 refine au (F:=F) (V:=V57) (m:=m+1+1+1+1+1+1+3+1) [(b4,_),(b39,_),(b2,_)] rfl rfl (ab rfl rfl rfl rfl) (kU false) hW57 om rfl (fun v59 V59 hle59 hW59 hS59 hs59 ht59 hp59=>?_)
 obtain⟨rfl,hn59⟩:=hp59
 refine zm1 ?_;refine d3 ?_;refine zm324 ?_
 obtain⟨bw9,jw9,qw9,haw9,hbw9,hjw9⟩:=hW59.s.at om
 obtain⟨uw9,huw9,hcw9⟩:=hW59.bag.get (k:=10) (i:=(V12.sn:Int).toNat) (f:=8) hbw9 rfl hjw9 om rfl
 obtain⟨waw9,wnw9,wcw9,rfl,hww9,hwnw9⟩:=huw9
 have hnbw9:=hW59.nb
 refine gj ?_;refine ii ?_;refine j6 ?_;refine ii ?_;refine zm6 ?_;refine ar (cP (tb:=3) rfl rfl haw9 om om) rfl (zm3 ?_)
 refine aQ (jC rfl hcw9 (.s4 (.skip _ .all))) rfl (rY ?_)
 refine aA rfl rfl rfl rfl (fun b77=>?_)
 refine ak rfl (gg (enc:=SWay.cells) (t:=1) rfl rfl rfl hW59.bag hww9 (Src.own [⟨[],[],_⟩] (.here _) rfl rfl) rfl (by intro y hy;rw [List.mem_singleton.1 hy];exact SWay.all (s:=⟨[],[],_⟩) .nil .nil) zt1 (by simp only [List.length_cons,List.length_nil];omega) rfl (.s5 (.skip _ .all)) rfl (fun S78 a78 c78 B78 hS78 hN78 hT78 hB78=>?_))
 change _=_+1 at hN78
 refine lJ ?_;refine ar (cP (tb:=3) rfl rfl haw9 om om) rfl (zm3 ?_)
 refine ak rfl (iK (t:=3) (f:=8) (ct:=.sl 1) rfl rfl (hW59.bagT hS78 hN78 hB78).bag (.s5 (.skip _ .all)) (hS78.1 _ _ hbw9) rfl hjw9 om rfl (⟨_,_,_,rfl,hT78,by simp only [List.length_cons,List.length_nil];omega⟩) rfl rfl (fun Bst2 hBst2=>?_))
 refine lJ ?_
 exact TF.nil (ba (V':={{V59 with S:=S78,B:=B78} with B:=Bst2}) (X:=[(b77,_),(b4,_),(b39,_),(b2,_)]) (.inl rfl) (bK rfl) rfl rfl (((hW59.bagT hS78 hN78 hB78).bagB hBst2).more om) (hS9.trans (hS11.trans (hS12.trans (hS16.trans (hS40.trans (hS50.trans (hS52.trans (hSb53.trans (hS57.trans (hS59.trans (hS78))))))))))) (by(try dsimp only);omega) (by(try dsimp only);omega) ⟨rfl,by(try dsimp only);omega⟩)
end Go.Sx
namespace Go.Sx
open Go Go.Proofs
theorem ns {F:Fx}{V:WV}{T:SLocal}(hG:TG F T)(turn arm deep:Int){K:Nat}(h0:0≤turn)(h1:turn<T.turns.length)(harm:∀t,T.turns[turn.toNat]? =some t→0≤arm∧arm<t.arms.length)(ih:∀(V:WV) (turn:Int),0≤turn→turn<T.turns.length→WFn Tryz.prog F V 69 [.int .i64 turn,.int .i64 (deep+1)] K (fun v V1=>v= .tuple #[]∧V.sn<V1.sn))(hK:K≤9000000)(hdp:0≤deep∧deep≤100):
  WFn Tryz.prog F V 131 [.int .i64 turn,.int .i64 arm,.int .i64 deep] (K+20) (fun v V1=>v= .int .i64 (V.sn:Int)∧V.sn<V1.sn):=by
 refine WFn.enter Tryz.func131 Tryz.ntmps131 rfl rfl (fun m w0 hW hm=>?_)
 have hGg:=hG.g
 have hr1:=hG.r1
 have hr0:=hG.r0
 have hty:=hW.fx.ty
 have htk:=hW.fx.tk T (List.mem_of_getElem? hGg)
 have hts:=htk.t
 have htm:=hts.max
 obtain⟨t,htx⟩:=ao (l:=T.turns) h0 h1
 have hTt:=hG.ts t (List.mem_of_getElem? htx)
 have hta:=(htk.ts t (List.mem_of_getElem? htx)).a
 have ha6:=hTt.a6
 have ham:=hta.max
 have hKB:=hK
 obtain⟨q0,q1⟩:=harm t htx
 obtain⟨x,hax⟩:=ao (l:=t.arms) q0 q1
 have hxm:=List.mem_of_getElem? hax
 have hxn:=hTt.nx x hxm
 refine j8 ?_;refine mm ?_;refine fw ?_;refine TL.run (dp rfl rfl) rfl (sh ?_);refine yg ?_;refine o6 ?_;refine o6 ?_;refine ar (af rfl hty rfl om om) rfl (zm3 ?_)
 refine aF (S1 (S1 SN)) (Hp.le.refl _) (fun _ _=>bL hty hGg rfl rfl) rfl (zm6 ?_)
 refine ar (af rfl hts rfl om om) rfl (aF (S1 (S1 SN)) (Hp.le.refl _) (fun _ _=>bg hts htx rfl rfl) rfl (TF.alloc rfl (fun b10=>?_)))
 refine rC ?_;refine TF.nil (ae (lN ?_));refine TL.run (af rfl hta rfl om om) rfl (TL.run (bg hta hax rfl rfl) rfl (TL.alloc rfl (fun b11=>?_)))
 refine lK ?_;refine aq (ab rfl rfl rfl rfl) (cC 4) rfl (TL.alloc rfl (fun b12=>?_))
 refine lP ?_;refine aI [false,true,true,true,true] [(0,1),(1,4),(2,1),(3,4),(4,1),(5,5),(6,1),(7,5),(8,1),(9,0)] kr kr (zm3 ?_)
 refine aF (S0 (S1 (S1 (S1 (S1 SN))))) (Hp.le.refl _) (fun _ _=>ay rfl (.h1) rfl) rfl (zm3 ?_)
 refine aF (S0 (S1 (S1 (S1 (S1 SN))))) (Hp.le.refl _) (fun _ _=>ay rfl (.here _) rfl) rfl (ry ?_);refine o5 ?_;refine ry ?_;refine o5 ?_;refine eY ?_;refine mg ?_;refine ik ?_
 refine TC.seq (fm ?_);refine f7 ?_;refine sE ?_
 refine ag rfl ?_ ?_<;>intro c57
 ·
  refine TC.skip (a8 (ae (cZ ?_)));refine eE ?_
  refine au (F:=F) (V:=V) (m:=m) [(b12,_),(b11,_),(b10,_)] rfl rfl (ab rfl rfl rfl rfl) (d5 ⟨4,[99],t.peer,x.label,[],(-1),none,0,0,none,0,0,none,0,0, -1⟩ ⟨(.inr (.inl rfl)),hTt.peer,(hTt.lb x hxm),.nil,.nil,.nil,.nil,Nat.zero_le _,Nat.zero_le _,Nat.zero_le _⟩) hW om rfl (fun v78 V78 hle78 hW78 hS78 hs78 ht78 hp78=>?_)
  obtain⟨rfl,hn78⟩:=hp78
  refine fY ?_;refine f7 ?_;refine rx ?_
  refine au (F:=F) (V:=V78) (m:=m+1) [(b12,_),(b11,_),(b10,_)] rfl rfl (ab rfl rfl rfl rfl) (ih _ x.next hxn.1 hxn.2) hW78 om rfl (fun v84 V84 hle84 hW84 hS84 hs84 ht84 hp84=>?_)
  obtain⟨rfl,hn84⟩:=hp84
  refine rE ?_
  exact ba (V':=V84) (X:=[(b12,_),(b11,_),(b10,_)]) (.inr rfl) (ad rfl (RVal.tmp rfl)) rfl rfl (hW84.more om) (hS78.trans (hS84)) (by(try dsimp only);omega) (by(try dsimp only);omega) ⟨rfl,by(try dsimp only);omega⟩
 refine dZ ?_
 refine ag rfl ?_ ?_<;>intro c59
 ·
  refine cZ ?_;refine zm8 ?_;refine f7 ?_
  refine au (F:=F) (V:=V) (m:=m) [(b12,_),(b11,_),(b10,_)] rfl rfl (ab rfl rfl rfl rfl) (nr x.cn) hW om rfl (fun v66 V66 hle66 hW66 hS66 hs66 ht66 hp66=>?_)
  obtain⟨p,rr,rfl,hp66,hr66⟩:=hp66
  have hGp:=hW66.fx.pg p hp66
  have hrr:=hGp.rl hr66
  refine zm4 ?_;refine zm0 ?_
  refine TL.alloc rfl (fun b13=>?_)
  refine gD ?_;refine zm1 ?_;refine jf ?_;refine eE ?_;refine zm0 ?_
  refine au (F:=F) (V:=V66) (m:=m+0) [(b13,_),(b12,_),(b11,_),(b10,_)] rfl rfl (ab rfl rfl rfl rfl) (pJ p rr (hW66.fx.pk p hp66) hGp (Nat.le_trans hrr dq)) hW66 om rfl (fun v73 V73 hle73 hW73 hS73 hs73 ht73 hp73=>?_)
  obtain⟨s73,rfl,hv73⟩:=hp73
  refine au (F:=F) (V:=V73) (m:=m+0+12) [(b13,_),(b12,_),(b11,_),(b10,_)] rfl rfl (ab rfl rfl rfl rfl) (bZ s73 hv73) hW73 om rfl (fun v74 V74 hle74 hW74 hS74 hs74 ht74 hp74=>?_)
  obtain⟨i74,rfl⟩:=hp74
  refine r4 ?_;refine TL.nil (a8 (ae (cZ ?_)));refine kS ?_
  refine au (F:=F) (V:=V74) (m:=m+0+12+1) [(b13,_),(b12,_),(b11,_),(b10,_)] rfl rfl (ab rfl rfl rfl rfl) (d5 ⟨4,[99],t.peer,x.label,[],i74,none,0,0,none,0,0,none,0,0, -1⟩ ⟨(.inr (.inl rfl)),hTt.peer,(hTt.lb x hxm),.nil,.nil,.nil,.nil,Nat.zero_le _,Nat.zero_le _,Nat.zero_le _⟩) hW74 om rfl (fun v78 V78 hle78 hW78 hS78 hs78 ht78 hp78=>?_)
  obtain⟨rfl,hn78⟩:=hp78
  refine fY ?_;refine mN ?_;refine rx ?_
  refine au (F:=F) (V:=V78) (m:=m+0+12+1+1) [(b13,_),(b12,_),(b11,_),(b10,_)] rfl rfl (ab rfl rfl rfl rfl) (ih _ x.next hxn.1 hxn.2) hW78 om rfl (fun v84 V84 hle84 hW84 hS84 hs84 ht84 hp84=>?_)
  obtain⟨rfl,hn84⟩:=hp84
  refine rE ?_
  exact ba (V':=V84) (X:=[(b13,_),(b12,_),(b11,_),(b10,_)]) (.inr rfl) (ad rfl (RVal.tmp rfl)) rfl rfl (hW84.more om) (hS66.trans (hS73.trans (hS74.trans (hS78.trans (hS84))))) (by(try dsimp only);omega) (by(try dsimp only);omega) ⟨rfl,by(try dsimp only);omega⟩
 refine jN ?_;refine zm8 ?_;refine f7 ?_
 refine au (F:=F) (V:=V) (m:=m) [(b12,_),(b11,_),(b10,_)] rfl rfl (ab rfl rfl rfl rfl) (yz x.ck) hW om rfl (fun v55 V55 hle55 hW55 hS55 hs55 ht55 hp55=>?_)
 obtain⟨i55,rfl⟩:=hp55
 refine o4 ?_;refine a8 (ae (cZ ?_));refine eE ?_
 refine au (F:=F) (V:=V55) (m:=m+3) [(b12,_),(b11,_),(b10,_)] rfl rfl (ab rfl rfl rfl rfl) (d5 ⟨4,[99],t.peer,x.label,[],i55,none,0,0,none,0,0,none,0,0, -1⟩ ⟨(.inr (.inl rfl)),hTt.peer,(hTt.lb x hxm),.nil,.nil,.nil,.nil,Nat.zero_le _,Nat.zero_le _,Nat.zero_le _⟩) hW55 om rfl (fun v78 V78 hle78 hW78 hS78 hs78 ht78 hp78=>?_)
 obtain⟨rfl,hn78⟩:=hp78
 refine fY ?_;refine f7 ?_;refine rx ?_
 refine au (F:=F) (V:=V78) (m:=m+3+1) [(b12,_),(b11,_),(b10,_)] rfl rfl (ab rfl rfl rfl rfl) (ih _ x.next hxn.1 hxn.2) hW78 om rfl (fun v84 V84 hle84 hW84 hS84 hs84 ht84 hp84=>?_)
 obtain⟨rfl,hn84⟩:=hp84
 refine rE ?_
 exact ba (V':=V84) (X:=[(b12,_),(b11,_),(b10,_)]) (.inr rfl) (ad rfl (RVal.tmp rfl)) rfl rfl (hW84.more om) (hS55.trans (hS78.trans (hS84))) (by(try dsimp only);omega) (by(try dsimp only);omega) ⟨rfl,by(try dsimp only);omega⟩
end Go.Sx
namespace Go.Sx
open Go Go.Proofs
theorem wK {F:Fx}{V:WV}{T:SLocal}(hG:TG F T)(turn deep:Int){K:Nat}(h0:0≤turn)(h1:turn<T.turns.length)(ih:∀(V:WV) (turn:Int),0≤turn→turn<T.turns.length→WFn Tryz.prog F V 69 [.int .i64 turn,.int .i64 (deep+1)] K (fun v V1=>v= .tuple #[]∧V.sn<V1.sn))(hK:K≤9000000)(hdp:0≤deep∧deep≤100):
  WFn Tryz.prog F V 129 [.int .i64 turn,.int .i64 deep] (6 * (K+40)+20) (fun v V1=>v= .tuple #[]∧V.sn<V1.sn):=by
 refine WFn.enter Tryz.func129 Tryz.ntmps129 rfl rfl (fun m w0 hW hm=>?_)
 have hGg:=hG.g
 have hr1:=hG.r1
 have hr0:=hG.r0
 have hty:=hW.fx.ty
 have htk:=hW.fx.tk T (List.mem_of_getElem? hGg)
 have hts:=htk.t
 have htm:=hts.max
 obtain⟨t,htx⟩:=ao (l:=T.turns) h0 h1
 have hTt:=hG.ts t (List.mem_of_getElem? htx)
 have hta:=(htk.ts t (List.mem_of_getElem? htx)).a
 have ha6:=hTt.a6
 have ham:=hta.max
 have hKB:=hK
 have hta0:=hta
 refine ig ?_;refine yg ?_;refine o6 ?_;refine o6 ?_;refine ar (af rfl hty rfl om om) rfl (zm3 ?_)
 refine aF (S1 (S1 SN)) (Hp.le.refl _) (fun _ _=>bL hty hGg rfl rfl) rfl (zm6 ?_)
 refine ar (af rfl hts rfl om om) rfl (aF (S1 (S1 SN)) (Hp.le.refl _) (fun _ _=>bg hts htx rfl rfl) rfl (TF.alloc rfl (fun b6=>?_)))
 refine rC ?_;refine TF.nil (ae (zm2 ?_));refine aq (ab rfl rfl rfl rfl) (cC 5) rfl (TL.alloc rfl (fun b7=>?_))
 refine lP ?_;refine aI [false,true,true,true] [(0,1),(1,4),(2,1),(3,5),(4,1),(5,0)] kr kr (zm3 ?_)
 refine aF (S0 (S1 (S1 (S1 SN)))) (Hp.le.refl _) (fun _ _=>ay rfl (.here _) rfl) rfl (ry ?_);refine al (S0 (S1 (S1 (S1 SN)))) (Hp.le.refl _) (eY ?_);refine mg ?_;refine ik ?_;refine cZ ?_
 refine eE ?_
 refine au (F:=F) (V:=V) (m:=m) [(b7,_),(b6,_)] rfl rfl (ab rfl rfl rfl rfl) (eG ⟨5,[99],t.peer,[],[], -1,none,0,0,none,0,0,none,0,0, -1⟩ ⟨(.inr (.inl rfl)),hTt.peer,.nil,.nil,.nil,.nil,.nil,Nat.zero_le _,Nat.zero_le _,Nat.zero_le _⟩) hW om rfl (fun v34 V34 hle34 hW34 hS34 hs34 ht34 hp34=>?_)
 replace hta:=hta.le hle34
 obtain⟨rfl,hn34⟩:=hp34
 refine eX ?_;refine hZ ?_
 refine oE (V:=fun(k:Int) (V1:WV) (r:Rw)=>[(9,.int .i64 k)]) (K:=[(0,_),(2,_),(6,_),(8,_)]) (L:=fun k V1 r=>St (keys (F.L V)) w0 V.H V1.H ((b7,TStep.cells ⟨5,[99],t.peer,[],[], -1,none,0,0,none,0,0,none,0,0, -1⟩)::(b6,t.cells)::Fx.L F V1)) (I:=fun k V1 r=>WI F V1 (m+1+k.toNat * (K+40))∧(0≤k∧k≤t.arms.length)∧V.H.le V1.H∧V.S.le V1.S∧V.sn<V1.sn∧V.tn≤V1.tn) (μ:=fun k=>(t.arms.length - k).toNat) 0 V34 ⟨none,0,0⟩ ky (⟨by simpa using hW34,o2q,hle34,hS34,by omega,ht34⟩) (fun w hw=>hw) (fun k V1 r hI=>?_)
 obtain⟨hI1,⟨k0,k1⟩,hI3,hI4,hI5,hI6⟩:=hI
 replace hta:=hta0.le hI3
 refine il ?_;refine f7 ?_;refine TL.run (ai rfl rfl hta) rfl (zm1 ?_)
 refine ag rfl ?_ ?_<;>intro c39
 ·
  obtain⟨x,hax⟩:=ao (l:=t.arms) k0 c39
  have hxm:=List.mem_of_getElem? hax
  have hxn:=hTt.nx x hxm
  have hml:=cmul_le (c:=K+40) (n:=6) k0 om
  have hmu:=cmul (c:=K+40) k0
  refine rT ?_;refine aI [true,true,true,true] [(0,1),(1,4),(2,1),(3,1),(4,1),(5,4),(6,1),(7,1),(8,1),(9,1),(10,4),(11,1),(12,1),(13,3),(14,5)] kr kr (rj ?_)
  refine zm6 ?_;refine ar (af rfl hta rfl om om) rfl (zm3 ?_);refine aF (S1 (S1 (S1 (S1 SN)))) (Hp.le.refl _) (fun _ _=>bL hta hax rfl rfl) rfl (gj ?_);refine zm3 ?_;refine yf ?_
  refine ar (dp rfl rfl) rfl (dj ?_)
  refine TF.alloc rfl (fun b10=>?_)
  refine ak rfl (gD ?_);refine o5 ?_;refine TF.nil (ae (TC.seq (fm ?_)));refine jT ?_;refine zm0 ?_;refine TL.run (af rfl hta rfl om om) rfl (zm8 ?_);refine zm8 ?_
  refine TL.run (pr_el2 hta hax rfl rfl) rfl (zm1 ?_)
  refine aW rfl ?_ ?_<;>intro c62
  ·
   refine cZ ?_
   refine au (F:=F) (V:=V1) (m:=m+1+k.toNat * (K+40)) [(b10,_),(b7,_),(b6,_)] rfl rfl (ab rfl rfl rfl rfl) (pK) hI1 om rfl (fun v64 V64 hle64 hW64 hS64 hs64 ht64 hp64=>?_)
   replace hta:=hta.le hle64
   obtain⟨s64,rfl,hv64⟩:=hp64
   refine jW ?_;refine d3 ?_;refine aI [true,true,true,false,false] [(0,1),(1,1),(2,4),(3,1),(4,4),(5,1),(6,1),(7,1),(8,4),(9,5)] kr kr (mh ?_)
   refine aF (S1 (S1 (S1 SN))) (Hp.le.refl _) (fun _ _=>ay rfl (.here _) rfl) rfl (zm3 ?_);refine aF (S1 (S1 (S1 SN))) (Hp.le.refl _) (fun _ _=>ay rfl (.h2) rfl) rfl (zm6 ?_)
   refine ar (af rfl hta rfl om om) rfl (zm3 ?_)
   refine aF (S1 (S1 (S1 SN))) (Hp.le.refl _) (fun _ _=>nL hta hax rfl rfl) rfl (ak rfl (au (F:=F) (V:=V64) (m:=m+1+k.toNat * (K+40)+1) [(b10,_),(b7,_),(b6,_)] rfl rfl (ab rfl rfl rfl rfl) (yx s64 hv64 x.ck x.cn) hW64 om rfl (fun v75 V75 hle75 hW75 hS75 hs75 ht75 hp75=>?_)))
   replace hta:=hta.le hle75
   obtain rfl:=hp75
   refine al (S1 (S1 (S1 SN))) hle75 (TF.nil (ae (cZ ?_)));refine mN ?_;refine zm0 ?_;refine TL.run (af rfl hta rfl om om) rfl (zm8 ?_);refine TL.run (bL hta hax rfl rfl) rfl (rx ?_)
   refine au (F:=F) (V:=V75) (m:=m+1+k.toNat * (K+40)+1+12) [(b10,_),(b7,_),(b6,_)] rfl rfl (ab rfl rfl rfl rfl) (ih _ x.next hxn.1 hxn.2) hW75 om rfl (fun v85 V85 hle85 hW85 hS85 hs85 ht85 hp85=>?_)
   obtain⟨rfl,hn85⟩:=hp85
   refine TL.nil (ae (d3 ?_));refine zm325 ?_
   obtain⟨bw12,jw12,qw12,haw12,hbw12,hjw12⟩:=hW85.s.at om
   obtain⟨uw12,huw12,hcw12⟩:=hW85.bag.get (k:=10) (i:=(V.sn:Int).toNat) (f:=8) hbw12 rfl hjw12 om rfl
   obtain⟨waw12,wnw12,wcw12,rfl,hww12,hwnw12⟩:=huw12
   have hnbw12:=hW85.nb
   refine gj ?_;refine ii ?_;refine j6 ?_;refine ii ?_;refine zm6 ?_;refine vF ?_;refine zm3 ?_
   refine aQ (jC rfl hcw12 (.s4 (.skip _ .all))) rfl (aF (S1 (S1 (S1 (S1 (S1 SN))))) (Hp.le.refl _) (fun _ _=>aU rfl (.here _) rfl) rfl (aA rfl rfl rfl rfl (fun b102=>?_)))
   refine ak rfl (gg (enc:=SWay.cells) (t:=1) rfl rfl rfl hW85.bag hww12 (Src.own [⟨x.label,s64,_⟩] (.here _) rfl rfl) rfl (by intro y hy;rw [List.mem_singleton.1 hy];exact SWay.all (s:=⟨x.label,s64,_⟩) (hTt.lb x hxm) hv64) zt1 (by simp only [List.length_cons,List.length_nil];omega) rfl (.s5 (.skip _ .all)) rfl (fun S103 a103 c103 B103 hS103 hN103 hT103 hB103=>?_))
   change _=_+1 at hN103
   refine lJ ?_;refine vF ?_;refine zm3 ?_
   refine ak rfl (iK (t:=3) (f:=8) (ct:=.sl 1) rfl rfl (hW85.bagT hS103 hN103 hB103).bag (.s5 (.skip _ .all)) (hS103.1 _ _ hbw12) rfl hjw12 om rfl (⟨_,_,_,rfl,hT103,by simp only [List.length_cons,List.length_nil];omega⟩) rfl rfl (fun Bst1 hBst1=>?_))
   refine lJ ?_;refine TF.nil (ie ?_)
   exact fH (k+1) ({{V85 with S:=S103,B:=B103} with B:=Bst1}) r (⟨((hW85.bagT hS103 hN103 hB103).bagB hBst1).more om,o2q,(((hI3.trans hle64).trans hle75).trans hle85),(hI4.trans (hS64.trans (hS75.trans (hS85.trans (hS103))))),by(try dsimp only);omega,by(try dsimp only);omega⟩) ky (fun w hw=>hw.drop.drop) om
  refine j7 ?_;refine mN ?_;refine zm0 ?_;refine TL.run (af rfl hta rfl om om) rfl (zm8 ?_);refine TL.run (bL hta hax rfl rfl) rfl (rx ?_)
  refine au (F:=F) (V:=V1) (m:=m+1+k.toNat * (K+40)) [(b10,_),(b7,_),(b6,_)] rfl rfl (ab rfl rfl rfl rfl) (ih _ x.next hxn.1 hxn.2) hI1 om rfl (fun v85 V85 hle85 hW85 hS85 hs85 ht85 hp85=>?_)
  obtain⟨rfl,hn85⟩:=hp85
  refine TL.nil (ae (d3 ?_));refine zm325 ?_
  obtain⟨bw12,jw12,qw12,haw12,hbw12,hjw12⟩:=hW85.s.at om
  obtain⟨uw12,huw12,hcw12⟩:=hW85.bag.get (k:=10) (i:=(V.sn:Int).toNat) (f:=8) hbw12 rfl hjw12 om rfl
  obtain⟨waw12,wnw12,wcw12,rfl,hww12,hwnw12⟩:=huw12
  have hnbw12:=hW85.nb
  refine gj ?_;refine ii ?_;refine j6 ?_;refine ii ?_;refine zm6 ?_;refine vF ?_;refine zm3 ?_
  refine aQ (jC rfl hcw12 (.s4 (.skip _ .all))) rfl (aF (S1 (S1 (S1 (S1 (S1 SN))))) (Hp.le.refl _) (fun _ _=>aU rfl (.here _) rfl) rfl (aA rfl rfl rfl rfl (fun b102=>?_)))
  refine ak rfl (gg (enc:=SWay.cells) (t:=1) rfl rfl rfl hW85.bag hww12 (Src.own [⟨x.label,[],_⟩] (.here _) rfl rfl) rfl (by intro y hy;rw [List.mem_singleton.1 hy];exact SWay.all (s:=⟨x.label,[],_⟩) (hTt.lb x hxm) .nil) zt1 (by simp only [List.length_cons,List.length_nil];omega) rfl (.s5 (.skip _ .all)) rfl (fun S103 a103 c103 B103 hS103 hN103 hT103 hB103=>?_))
  change _=_+1 at hN103
  refine lJ ?_;refine vF ?_;refine zm3 ?_
  refine ak rfl (iK (t:=3) (f:=8) (ct:=.sl 1) rfl rfl (hW85.bagT hS103 hN103 hB103).bag (.s5 (.skip _ .all)) (hS103.1 _ _ hbw12) rfl hjw12 om rfl (⟨_,_,_,rfl,hT103,by simp only [List.length_cons,List.length_nil];omega⟩) rfl rfl (fun Bst1 hBst1=>?_))
  refine lJ ?_;refine TF.nil (ie ?_)
  exact fH (k+1) ({{V85 with S:=S103,B:=B103} with B:=Bst1}) r (⟨((hW85.bagT hS103 hN103 hB103).bagB hBst1).more om,o2q,(hI3.trans hle85),(hI4.trans (hS85.trans (hS103))),by(try dsimp only);omega,by(try dsimp only);omega⟩) ky (fun w hw=>hw.drop.drop) om
 have hml:k.toNat * (K+40)≤6 * (K+40):=Nat.mul_le_mul_right _ om
 refine o9 ?_;refine TL.run (bC rfl) rfl (mN ?_)
 refine az (X:=[(b7,_),(b6,_),(F.bw,_)]) (bd:=F.bd) rfl (ab rfl rfl rfl rfl) (aV 3 om hI1.d) rfl (fun v110 H110 at110 hle110 hd110 hp110=>?_)
 obtain⟨rfl,r110,rfl,hr110⟩:=hp110
 refine zm1 ?_
 refine ag rfl ?_ ?_<;>intro c111
 ·
  refine cZ ?_;refine mm ?_;refine mN ?_;refine TL.run (dp rfl rfl) rfl (cE ?_)
  refine TL.alloc rfl (fun b11=>?_)
  refine lK ?_;refine aq (ab rfl rfl rfl rfl) (cC 2) rfl (TL.alloc rfl (fun b12=>?_))
  refine fl ?_;refine cZ ?_;refine cE ?_
  refine au (F:=F) (V:={V1 with at_:=at110}) (m:=m+1+k.toNat * (K+40)) [(b12,_),(b11,_),(b7,_),(b6,_)] rfl rfl (ab rfl rfl rfl rfl) (fM ⟨3,[],0,[108,111,115,116], -1, -1⟩ .nil (by simp [AnyNm])) (hI1.dice (.refl _) hd110) om rfl (fun v122 V122 hle122 hW122 hS122 hs122 ht122 hp122=>?_)
  dsimp only at hle122 hS122 hs122 ht122 hp122
  obtain⟨i122,rfl⟩:=hp122
  refine pA ?_;refine eE ?_
  refine au (F:=F) (V:=V122) (m:=m+1+k.toNat * (K+40)+1) [(b12,_),(b11,_),(b7,_),(b6,_)] rfl rfl (ab rfl rfl rfl rfl) (d5 ⟨2,[],[],[],[],i122,none,0,0,none,0,0,none,0,0, -1⟩ ⟨.nil,.nil,.nil,.nil,.nil,.nil,.nil,Nat.zero_le _,Nat.zero_le _,Nat.zero_le _⟩) hW122 om rfl (fun v126 V126 hle126 hW126 hS126 hs126 ht126 hp126=>?_)
  obtain⟨rfl,hn126⟩:=hp126
  refine fY ?_
  refine aq (ab rfl rfl rfl rfl) (cC 0) rfl (au (F:=F) (V:=V126) (m:=m+1+k.toNat * (K+40)+1+1) [(b12,_),(b11,_),(b7,_),(b6,_)] rfl rfl (ab rfl rfl rfl rfl) (eG ⟨0,[],[],[],[], -1,none,0,0,none,0,0,none,0,0, -1⟩ ⟨.nil,.nil,.nil,.nil,.nil,.nil,.nil,Nat.zero_le _,Nat.zero_le _,Nat.zero_le _⟩) hW126 om rfl (fun v129 V129 hle129 hW129 hS129 hs129 ht129 hp129=>?_))
  obtain⟨rfl,hn129⟩:=hp129
  refine TL.nil (ae (d3 ?_));refine zm354 ?_
  obtain⟨bw19,jw19,qw19,haw19,hbw19,hjw19⟩:=hW129.s.at om
  obtain⟨uw19,huw19,hcw19⟩:=hW129.bag.get (k:=10) (i:=(V.sn:Int).toNat) (f:=8) hbw19 rfl hjw19 om rfl
  obtain⟨waw19,wnw19,wcw19,rfl,hww19,hwnw19⟩:=huw19
  have hnbw19:=hW129.nb
  refine gj ?_;refine zm3 ?_;refine zm326 ?_;refine j6 ?_;refine zm3 ?_;refine zm326 ?_;refine zm6 ?_;refine ar (cP (tb:=3) rfl rfl haw19 om om) rfl (zm3 ?_)
  refine aQ (jC rfl hcw19 (.s5 (.skip _ .all))) rfl (aF (S1 (S1 (S1 (S1 (S1 (S1 SN)))))) (Hp.le.refl _) (fun _ _=>aU rfl (.h1) rfl) rfl (aA rfl rfl rfl rfl (fun b146=>?_)))
  refine ak rfl (gg (enc:=SWay.cells) (t:=1) rfl rfl rfl hW129.bag hww19 (Src.own [⟨[],[],_⟩] (.here _) rfl rfl) rfl (by intro y hy;rw [List.mem_singleton.1 hy];exact SWay.all (s:=⟨[],[],_⟩) .nil .nil) zt1 (by simp only [List.length_cons,List.length_nil];omega) rfl (.s6 (.skip _ .all)) rfl (fun S147 a147 c147 B147 hS147 hN147 hT147 hB147=>?_))
  change _=_+1 at hN147
  refine al (S0 (S1 (S1 (S1 (S1 (S1 (S1 SN))))))) (Hp.le.refl _) (ar (cP (tb:=3) rfl rfl haw19 om om) rfl (zm3 ?_))
  refine ak rfl (iK (t:=3) (f:=8) (ct:=.sl 1) rfl rfl (hW129.bagT hS147 hN147 hB147).bag (.s6 (.skip _ .all)) (hS147.1 _ _ hbw19) rfl hjw19 om rfl (⟨_,_,_,rfl,hT147,by simp only [List.length_cons,List.length_nil];omega⟩) rfl rfl (fun Bst1 hBst1=>?_))
  exact al (S0 (S1 (S1 (S1 (S1 (S1 (S1 SN))))))) (Hp.le.refl _) (TF.nil (ba (V':={{V129 with S:=S147,B:=B147} with B:=Bst1}) (X:=[(b146,_),(b12,_),(b11,_),(b7,_),(b6,_)]) (.inl rfl) (bK rfl) rfl rfl (((hW129.bagT hS147 hN147 hB147).bagB hBst1).more om) (hI4.trans (hS122.trans (hS126.trans (hS129.trans (hS147))))) (by(try dsimp only);omega) (by(try dsimp only);omega) ⟨rfl,by(try dsimp only);omega⟩))
 exact TC.skip (ba (V':={V1 with at_:=at110}) (X:=[(b7,_),(b6,_)]) (.inl rfl) (bK rfl) rfl rfl ((hI1.dice (.refl _) hd110).more om) hI4 (by(try dsimp only);omega) (by(try dsimp only);omega) ⟨rfl,by(try dsimp only);omega⟩)
end Go.Sx
namespace Go.Sx
open Go Go.Proofs
theorem lY {F:Fx}{V:WV}{T:SLocal}(hG:TG F T)(turn deep:Int){K:Nat}(h0:0≤turn)(h1:turn<T.turns.length)(ih:0≤deep→deep≤4→∀(V:WV) (turn:Int),0≤turn→turn<T.turns.length→WFn Tryz.prog F V 69 [.int .i64 turn,.int .i64 (deep+1)] K (fun v V1=>v= .tuple #[]∧V.sn<V1.sn))(hK:K≤9000000)(hdp:0≤deep∧deep≤100):
  WFn Tryz.prog F V 69 [.int .i64 turn,.int .i64 deep] (6 * (K+40)+60) (fun v V1=>v= .tuple #[]∧V.sn<V1.sn):=by
 refine WFn.enter Tryz.func69 Tryz.ntmps69 rfl rfl (fun m w0 hW hm=>?_)
 have hGg:=hG.g
 have hr1:=hG.r1
 have hr0:=hG.r0
 have hty:=hW.fx.ty
 have htk:=hW.fx.tk T (List.mem_of_getElem? hGg)
 have hts:=htk.t
 have htm:=hts.max
 obtain⟨t,htx⟩:=ao (l:=T.turns) h0 h1
 have hTt:=hG.ts t (List.mem_of_getElem? htx)
 have hta:=(htk.ts t (List.mem_of_getElem? htx)).a
 have ha6:=hTt.a6
 have ham:=hta.max
 have hKB:=hK
 refine ig ?_;refine yg ?_;refine o6 ?_;refine o6 ?_;refine ar (af rfl hty rfl om om) rfl (zm3 ?_)
 refine aF (S1 (S1 SN)) (Hp.le.refl _) (fun _ _=>bL hty hGg rfl rfl) rfl (zm6 ?_)
 refine ar (af rfl hts rfl om om) rfl (aF (S1 (S1 SN)) (Hp.le.refl _) (fun _ _=>bg hts htx rfl rfl) rfl (TF.alloc rfl (fun b6=>?_)))
 refine rC ?_;refine TF.nil (ae (TC.block (eQ ?_)));refine jr ?_
 refine ag rfl ?_ ?_<;>intro c38
 ·
  refine jN ?_
  refine au (F:=F) (V:=V) (m:=m) [(b6,_)] rfl rfl (ab rfl rfl rfl rfl) (kU true) hW om rfl (fun v43 V43 hle43 hW43 hS43 hs43 ht43 hp43=>?_)
  obtain⟨rfl,hn43⟩:=hp43
  exact TL.nil (a8 (ba (V':=V43) (X:=[(b6,_)]) (.inl rfl) (bK rfl) rfl rfl (hW43.more om) hS43 (by(try dsimp only);omega) (by(try dsimp only);omega) ⟨rfl,by(try dsimp only);omega⟩))
 refine fo ?_
 refine ah (s:=47) rfl ?_ ?_<;>intro g47
 ·
  have q47:=of_decide_eq_true g47
  refine sy ?_
  refine ah (s:=51) rfl ?_ ?_<;>intro g51
  ·
   have q51:=of_decide_eq_true g51
   refine cg ?_;refine aB rfl rfl (bC rfl) rfl (f9 ?_);refine cg ?_;refine jr ?_
   refine ag rfl ?_ ?_<;>intro c44
   ·
    refine jN ?_
    refine au (F:=F) (V:=V) (m:=m) [(b6,_)] rfl rfl (ab rfl rfl rfl rfl) (wL) hW om rfl (fun v59 V59 hle59 hW59 hS59 hs59 ht59 hp59=>?_)
    obtain⟨rfl,hn59⟩:=hp59
    exact TL.nil (a8 (ba (V':=V59) (X:=[(b6,_)]) (.inl rfl) (bK rfl) rfl rfl (hW59.more om) hS59 (by(try dsimp only);omega) (by(try dsimp only);omega) ⟨rfl,by(try dsimp only);omega⟩))
   exact zq477
  have q51:=of_decide_eq_false g51
  exact zq467
 have q47:=of_decide_eq_false g47
 refine gE ?_;refine zm4 ?_
 exact zq467
theorem pL {F:Fx}{T:SLocal}(hG:TG F T):∀(N:Nat),N≤5→∀(V:WV) (turn deep:Int),0≤turn→turn<T.turns.length→0≤deep→deep≤100→5 - deep≤N→
  WFn Tryz.prog F V 69 [.int .i64 turn,.int .i64 deep] (KB N) (fun v V1=>v= .tuple #[]∧V.sn<V1.sn)
 | 0,_,V,turn,deep,h0,h1,h2,h3,h4=>lY hG turn deep (K:=0) h0 h1 (fun _ h=>by omega) om ⟨h2,h3⟩
 | N+1,hN,V,turn,deep,h0,h1,h2,h3,h4=>lY hG turn deep (K:=KB N) h0 h1 (fun _ h V' t' g0 g1=>pL hG N om V' t' (deep+1) g0 g1 om om om) (uo om) ⟨h2,h3⟩
end Go.Sx
namespace Go.Sx
open Go Go.Proofs
theorem part_ok {H:Hp}{bd:Nat}{dl:Value}{at_:Int}(hd:DiceOk H dl at_){psv:Value}{ps:List SProto}(hps:RdSl H 3 SProto.cells psv ps)(hpk:∀p∈ps,ProtoOk H p)(hpg:∀p∈ps,GPr p)(hpn:0<ps.length)(p:SProto)(hp:ProtoOk H p)(hG:GPr p){tyv:Value}{tys:List SLocal}(hty:RdSl H 2 SLocal.cells tyv tys)(htk:∀l∈tys,LocalOk H l)(role:Int)(carry:Str)(h0:0≤role)(h1:role<p.roles.length)(hcr:carry.length≤1000){T:SLocal}(hTG:∀F:Fx,F.tys=tys→F.role=role→TG F T):
  DFn Tryz.prog bd dl at_ 31 [psv,.agg p.cells.toArray,tyv,.int .i64 role,gs carry] H (fun v H1 ob=>∃S q,v= .agg (GProc.cells q).toArray∧Bag H1 S ob∧GPOk H1 S q∧S.N≤10000000∧q.params=[⟨[99],5,carry⟩,⟨[110],1,[]⟩]∧(∃rr,p.roles[role.toNat]? =some rr∧q.name=p.name++rr)):=by
 obtain⟨psa,psc,rfl⟩:=hps.len
 obtain⟨tya,tyc,rfl⟩:=hty.len
 have hro:=hp.r
 have hn1:=hG.n1
 obtain⟨rr,hrx⟩:=ao (l:=p.roles) h0 h1
 have hrr:=hG.rl (List.mem_of_getElem? hrx)
 have hPV:∀x∈([⟨[99],5,carry⟩,⟨[110],1,[]⟩]:List SParam),VarNm x.name∧x.cn.length≤1000:=by
  intro x hx;simp only [List.mem_cons,List.not_mem_nil,or_false] at hx;rcases hx with rfl | rfl
  · exact⟨.inr (.inl rfl),hcr⟩
  · exact⟨.inr (.inr (.inl rfl)),by simp⟩
 refine FnX.enter Tryz.func31 Tryz.ntmps31 rfl rfl (fun w0=>?_)
 refine zm2 ?_
 refine TL.box rfl rfl (fun b8=>?_)
 refine TL.alloc rfl (fun b12=>?_)
 refine TL.nil (ae (TC.seq (eP kr kr ?_)))
 refine TQ.run (aU rfl (.h1) rfl) rfl (TQ.run (aX rfl) rfl (TQ.run (ay rfl (.h1) rfl) rfl (TQ.run (aD rfl) rfl ?_)))
 refine TQ.run (af rfl hro rfl om om) rfl (TQ.run (aJ hro hrx rfl rfl) rfl (kN (ab rfl rfl rfl rfl) (iy p rr om om) rfl (mM ?_)));refine dS ?_;refine m3 ?_
 refine az (X:=[(b12,_),(b8,_)]) (bd:=bd) rfl (ab rfl rfl rfl rfl) (aV 7 om hd) rfl (fun v28 H28 at28 hle28 hd28 hp28=>?_)
 obtain⟨eH28,r28,rfl,hr28⟩:=hp28
 replace eH28:=eH28.symm;subst eH28
 have hra28:=hr28.1
 have hrb28:=hr28.2.1 om
 refine jq ?_;refine cE ?_
 refine TL.box rfl rfl (fun b31=>?_)
 refine zm1 ?_;refine fo ?_;refine cE ?_;refine cE ?_;refine cE ?_;refine cE ?_
 refine ax rfl rfl rfl rfl (fun b39=>?_)
 refine cE ?_;refine mm ?_;refine i4 rfl rfl rfl rfl rfl (.h1) (Nat.le_of_ble_eq_true kr) rfl (fY ?_)
 refine TL.pubN (by simp [keys]) (fun H_b39 le_b39 rd_b39=>?_)
 replace hps:=hps.le le_b39
 replace hty:=hty.le le_b39
 replace hpk:=fun x hx=>(hpk x hx).le le_b39
 replace htk:=fun x hx=>(htk x hx).le le_b39
 replace hd28:=hd28.le le_b39
 have hpa:RdSl H_b39 3 SParam.cells _ ([⟨[99],5,carry⟩,⟨[110],1,[]⟩]):=RdSl.blk (cap:=2) rd_b39 (by intro x hx;rfl) kr (by show 2≤9223372036854775807;decide)
 have hW0:WI ⟨b31,bd,.slice psa ps.length psc,ps,p.name++rr,.slice (some ⟨b39,0,none⟩) 2 2,p.name++rr,.slice tya tys.length tyc,tys,role,dl⟩ ⟨H_b39,Sig.nil,none,0,0,none,0,0,0,9+r28,at28,[]⟩ 0:=⟨⟨hps,hpk,hpg,hpn,hty,htk,hG.proc hrr⟩,.nil,.nil,.nil,by simp,by have:=hr28.1;simp;omega,by have:=hr28.2.1 om;simp;omega,hd28,by simp,by simp [Sig.nil],by simp [Sig.nil]⟩
 refine dQ (.h2) (dQ (.h2) (au (F:=⟨b31,bd,.slice psa ps.length psc,ps,p.name++rr,.slice (some ⟨b39,0,none⟩) 2 2,p.name++rr,.slice tya tys.length tyc,tys,role,dl⟩) (V:=⟨H_b39,Sig.nil,none,0,0,none,0,0,0,9+r28,at28,[]⟩) (m:=0) [(b12,_),(b8,_)] rfl rfl (ab rfl rfl rfl rfl) (pL (T:=T) (hTG _ rfl rfl) 5 om _ 0 0 om (by have:=(hTG ⟨b31,bd,.slice psa ps.length psc,ps,p.name++rr,.slice (some ⟨b39,0,none⟩) 2 2,p.name++rr,.slice tya tys.length tyc,tys,role,dl⟩ rfl rfl).n0;omega) om om om) hW0 (by have:=uo (n:=5) om;omega) rfl (fun v44 V44 hle44 hW44 hS44 hs44 ht44 hp44=>?_)))
 replace hpa:=hpa.le hle44
 obtain⟨rfl,hn44⟩:=hp44
 refine fY ?_;refine mm ?_;refine TL.run (gL rfl (.h2) rfl) rfl (gH ?_)
 exact aO (.inr rfl) (ad rfl (RVal.cellA rfl (.here _) rfl)) (fun w hw=>hw.drop.drop.drop) ⟨_,V44.B,rfl,hW44.d,V44.S,⟨p.name++rr,[⟨[99],5,carry⟩,⟨[110],1,[]⟩],(some ⟨b39,0,none⟩,2),V44.ta,V44.tn,V44.tc,V44.sa,V44.sn,V44.sc⟩,rfl,hW44.bag,⟨hG.proc hrr,hpa,hPV,by simp,hW44.t,hW44.s,by have:=hn44;simp at this;omega,by have:=hW44.me;have:=uo (n:=5) om;dsimp only;omega,by have:=hW44.me;have:=uo (n:=5) om;dsimp only;omega⟩,(by have:=hW44.nb;have:=uo (n:=5) om;omega),rfl,_,hrx,rfl⟩
theorem tG {H:Hp}{bd:Nat}{dl:Value}{at_:Int}(hd:DiceOk H dl at_){psv:Value}{ps:List SProto}(hps:RdSl H 3 SProto.cells psv ps)(hpk:∀p∈ps,ProtoOk H p)(hpg:∀p∈ps,GPr p)(hpn:0<ps.length)(hpm:ps.length≤100):
  DFn Tryz.prog bd dl at_ 32 [psv] H (fun v H1 ob=>∃S q,v= .agg (GProc.cells q).toArray∧Bag H1 S ob∧GPOk H1 S q∧S.N≤10000000∧q.params=[]∧q.name=bT):=by
 obtain⟨psa,psc,rfl⟩:=hps.len
 have hps0:=hps
 have hpk0:=hpk
 refine FnX.enter Tryz.func32 Tryz.ntmps32 rfl rfl (fun w0=>?_)
 refine zm2 ?_
 refine TL.alloc rfl (fun b4=>?_)
 refine TL.nil (ae (dS ?_));refine cE ?_
 refine TL.box rfl rfl (fun b15=>?_)
 refine ju ?_;refine cE ?_;refine mm ?_;refine i4 rfl rfl rfl rfl rfl (.here _) (Nat.le_of_ble_eq_true kr) rfl (fY ?_)
 refine az (X:=[(b15,_),(b4,_)]) (bd:=bd) rfl (ab rfl rfl rfl rfl) (aV 3 om hd) rfl (fun v21 H21 at21 hle21 hd21 hp21=>?_)
 obtain⟨eH21,r21,rfl,hr21⟩:=hp21
 replace eH21:=eH21.symm;subst eH21
 have hra21:=hr21.1
 have hrb21:=hr21.2.1 om
 refine jS ?_
 have hW0:WI ⟨b15,bd,.slice psa ps.length psc,ps,bT,.slice none 0 0,[],.slice none 0 0,[],0,dl⟩ ⟨H,Sig.nil,none,0,0,none,0,0,0,0,at21,[]⟩ 0:=⟨⟨hps,hpk,hpg,hpn,RdSl.nil,by simp,.nil⟩,.nil,.nil,.nil,by simp,by simp,by simp,hd21,by simp,by simp [Sig.nil],by simp [Sig.nil]⟩
 refine d9 (.h1) (ae (lR ?_))
 refine oE (V:=fun(k:Int) (V1:WV) (r:Rw)=>[(7,.int .i64 k)]) (K:=[(0,_),(1,_),(4,_),(5,_),(6,_)]) (L:=fun k V1 r=>St [bd] w0 H V1.H ((b4,[gs [],.slice none 0 0,.slice none 0 0,.slice none 0 0])::Fx.L ⟨b15,bd,.slice psa ps.length psc,ps,bT,.slice none 0 0,[],.slice none 0 0,[],0,dl⟩ V1)) (I:=fun k V1 r=>WI ⟨b15,bd,.slice psa ps.length psc,ps,bT,.slice none 0 0,[],.slice none 0 0,[],0,dl⟩ V1 (20 * k.toNat)∧(0≤k∧k≤1+r21)∧H.le V1.H∧k.toNat≤V1.sn) (μ:=fun k=>(1+r21 - k).toNat) 0 ⟨H,Sig.nil,none,0,0,none,0,0,0,0,at21,[]⟩ ⟨none,0,0⟩ ky (⟨by simpa using hW0,o2q,.refl _,by simp⟩) (fun w hw=>hw) (fun k V1 r hI=>?_)
 obtain⟨hI1,⟨k0,k1⟩,hI3,hI4⟩:=hI
 replace hps:=hps0.le hI3
 replace hpk:=fun x hx=>(hpk0 x hx).le hI3
 refine eZ ?_;refine zm1 ?_
 refine ag rfl ?_ ?_<;>intro c25
 ·
  refine fu ?_;refine fo ?_
  refine TL.run (ai rfl rfl hps) rfl (az (X:=[(b4,_),(b15,_)]) (bd:=bd) rfl (ab rfl rfl rfl rfl) (aV (ps.length:Int) om hI1.d) rfl (fun v32 H32 at32 hle32 hd32 hp32=>?_))
  obtain⟨rfl,r32,rfl,hr32⟩:=hp32
  have hra32:=hr32.1
  have hrb32:=hr32.2.1 om
  obtain⟨p,hpx⟩:=ao (l:=ps) hra32 hrb32
  have hpm_:=List.mem_of_getElem? hpx
  have hp:=hpk p hpm_
  have hG:=hpg p hpm_
  have hn1:=hG.n1
  have hro:=hp.r
  have hr2:=hG.r2
  have hr5:=hG.r5
  refine TL.run (af rfl hps rfl om om) rfl (TL.run (bg hps hpx rfl rfl) rfl (TL.alloc rfl (fun b8=>?_)))
  refine lP ?_;refine aI [true,true,false,false] [(0,1),(1,4),(2,1),(3,1),(4,4),(5,1),(6,5),(7,1),(8,2),(9,1)] kr kr (lQ ?_);refine mh ?_;refine rh ?_
  refine ar (ai rfl rfl hro) rfl (ak rfl (az (X:=[(b8,_),(b4,_),(b15,_)]) (bd:=bd) rfl (ab rfl rfl rfl rfl) (aV (p.roles.length:Int) om (hI1.dice (.refl _) hd32).d) rfl (fun v41 H41 at41 hle41 hd41 hp41=>?_)))
  obtain⟨rfl,r41,rfl,hr41⟩:=hp41
  have hra41:=hr41.1
  have hrb41:=hr41.2.1 om
  obtain⟨rr,hrx⟩:=ao (l:=p.roles) hra41 hrb41
  have hrr:=hG.rl (List.mem_of_getElem? hrx)
  refine al (S1 (S1 SN)) (Hp.le.refl _) (rU ?_);refine aQ (aJ hro hrx rfl rfl) rfl (zm6 ?_);refine TF.nil (ae (cZ ?_));refine eE ?_;refine zm0 ?_
  refine au (F:=⟨b15,bd,.slice psa ps.length psc,ps,bT,.slice none 0 0,[],.slice none 0 0,[],0,dl⟩) (V:={{V1 with at_:=at32} with at_:=at41}) (m:=20 * k.toNat) [(b8,_),(b4,_)] rfl rfl (ab rfl rfl rfl rfl) (pJ p rr hp hG (Nat.le_trans hrr dq)) ((hI1.dice (.refl _) hd32).dice (.refl _) hd41) om rfl (fun v47 V47 hle47 hW47 hS47 hs47 ht47 hp47=>?_)
  dsimp only at hle47 hS47 hs47 ht47 hp47
  obtain⟨s47,rfl,hv47⟩:=hp47
  refine rz ?_;refine aq (ab rfl rfl rfl rfl) (cC 7) rfl (TL.alloc rfl (fun b11=>?_))
  refine fl ?_;refine eZ ?_;refine pD ?_;refine zm1 ?_
  refine ag rfl ?_ ?_<;>intro c52
  ·
   refine TC.region (aq (ab rfl rfl rfl rfl) (cC 6) rfl (lK ?_));refine kS ?_;refine zm0 ?_;refine yj ?_;refine jW ?_;refine ig ?_
   refine TD.part 7 2 rfl rfl rfl ?_ ?_
   ·
    refine yi ?_;refine oU ?_;refine o7 ?_
    refine ak rfl (au (F:=⟨b15,bd,.slice psa ps.length psc,ps,bT,.slice none 0 0,[],.slice none 0 0,[],0,dl⟩) (V:=V47) (m:=20 * k.toNat+12) [(b11,_),(b8,_),(b4,_)] rfl rfl (ab rfl rfl rfl rfl) (bZ s47 hv47) hW47 om rfl (fun v60 V60 hle60 hW60 hS60 hs60 ht60 hp60=>?_))
    obtain⟨i60,rfl⟩:=hp60
    exact al (S1 (S1 (S1 SN))) hle60 (zq762)
   refine yh ?_;refine sg ?_
   refine au (F:=⟨b15,bd,.slice psa ps.length psc,ps,bT,.slice none 0 0,[],.slice none 0 0,[],0,dl⟩) (V:=V47) (m:=20 * k.toNat+12) [(b11,_),(b8,_),(b4,_)] rfl rfl (ab rfl rfl rfl rfl) (bZ s47 hv47) hW47 om rfl (fun v60 V60 hle60 hW60 hS60 hs60 ht60 hp60=>?_)
   obtain⟨i60,rfl⟩:=hp60
   refine al (S1 (S1 (S1 SN))) hle60 (o7 ?_)
   exact zq762
  refine qt ?_;refine kS ?_;refine zm0 ?_;refine yj ?_;refine jW ?_;refine ig ?_
  refine TD.part 7 2 rfl rfl rfl ?_ ?_
  ·
   refine yi ?_;refine oU ?_;refine o7 ?_
   refine ak rfl (au (F:=⟨b15,bd,.slice psa ps.length psc,ps,bT,.slice none 0 0,[],.slice none 0 0,[],0,dl⟩) (V:=V47) (m:=20 * k.toNat+12) [(b11,_),(b8,_),(b4,_)] rfl rfl (ab rfl rfl rfl rfl) (bZ s47 hv47) hW47 om rfl (fun v60 V60 hle60 hW60 hS60 hs60 ht60 hp60=>?_))
   obtain⟨i60,rfl⟩:=hp60
   exact al (S1 (S1 (S1 SN))) hle60 (zq741)
  refine yh ?_;refine sg ?_
  refine au (F:=⟨b15,bd,.slice psa ps.length psc,ps,bT,.slice none 0 0,[],.slice none 0 0,[],0,dl⟩) (V:=V47) (m:=20 * k.toNat+12) [(b11,_),(b8,_),(b4,_)] rfl rfl (ab rfl rfl rfl rfl) (bZ s47 hv47) hW47 om rfl (fun v60 V60 hle60 hW60 hS60 hs60 ht60 hp60=>?_)
  obtain⟨i60,rfl⟩:=hp60
  refine al (S1 (S1 (S1 SN))) hle60 (o7 ?_)
  exact zq741
 refine o9 ?_;refine mm ?_;refine TL.run (gL rfl (.h1) rfl) rfl (gH ?_)
 exact aO (.inr rfl) (ad rfl (RVal.cellA rfl (.here _) rfl)) (fun w hw=>hw.drop.drop) ⟨_,V1.B,rfl,hI1.d,V1.S,⟨bT,[],(none,0),V1.ta,V1.tn,V1.tc,V1.sa,V1.sn,V1.sc⟩,rfl,hI1.bag,⟨by simp [PNm,bT],RdSl.nil,by simp,by simp,hI1.t,hI1.s,by dsimp only;omega,by have:=hI1.me;dsimp only;omega,by have:=hI1.me;dsimp only;omega⟩,(by have:=hI1.nb;omega),rfl,rfl⟩
end Go.Sx
namespace Go.Sx
open Go Go.Proofs
theorem kC {H:Hp}{lv:Value}{l:List Int}(hl:RdSl H 1 I64.cells lv l)(hm:l.length≤1000000000000):
  FnO Tryz.prog 11 [lv] H (fun v H1 ob=>∃ps qs S pv psv ob1 B,v= .agg #[psv,.slice none 0 0,pv]∧ob=ob1++B∧RdSl H1 3 SProto.cells psv ps∧PsOk H1 ps∧OwnSl 4 GProc.cells pv qs ob1∧Bag H1 S B∧(∀x∈qs,GPOk H1 S x)∧S.N≤10000000∧1≤qs.length∧qs.length≤11∧(qs.map (·.name))[0]? =some sPa):=by
 refine FnO.enter Tryz.func11 Tryz.ntmps11 rfl rfl (fun w0=>?_)
 refine zm2 ?_
 refine TL.alloc rfl (fun b2=>?_)
 refine fY ?_
 refine cv (ab rfl rfl rfl rfl) (New_ok hl hm) rfl (fun v11 H11 ob11 hle11 hp11=>?_)
 obtain⟨bd,dl,rfl,rfl,hd⟩:=hp11
 refine ju ?_
 refine az (X:=[(b2,_)]) (bd:=bd) rfl (ab rfl rfl rfl rfl) (nY hd) rfl (fun v13 H13 at13 hle13 hd13 hp13=>?_)
 obtain⟨hle13_,ps,hps,hPs,hPA⟩:=hp13
 obtain⟨psa,psc,rfl⟩:=hps.len
 refine cE ?_
 refine TL.alloc rfl (fun b4=>?_)
 refine kQ ?_;refine hZ ?_
 refine TC.loop (ι:=PSt) (V:=fun q=>[(5,.int .i64 q.k)]) (K:=[(2,_),(3,_),(4,_)]) (L:=fun q=>St [] w0 H q.h ((b4,[.slice psa ps.length psc,.slice none 0 0,q.v])::(b2,[.slice none 0 0,.slice none 0 0,.slice none 0 0])::(bd,[dl,.int .i64 q.a])::(q.ob++q.B))) (I:=fun q=>(0≤q.k∧q.k≤ps.length)∧PInv H13 dl (5 * q.k) q∧HeadPa (q.k) q.qs) (μ:=fun q=>(ps.length - q.k).toNat) (i:=⟨0,H13,at13,Sig.nil,.slice none 0 0,[],[],[]⟩) ky ⟨⟨by show(0:Int)≤0;omega,by show(0:Int)≤_;omega⟩,⟨.refl _,hd13,.nil,.nil,by simp,by simp [Sig.nil],by simp⟩,HeadPa.zero⟩ (fun w hw=>hw) (fun q hI=>?_)
 obtain⟨⟨k0q,k1q⟩,hIq,hHq⟩:=hI
 have hpsq:=hps.le hIq.le
 have hPsq:=hPs.le hIq.le
 refine pd ?_;refine TL.run (ai rfl rfl hpsq) rfl (zm1 ?_)
 refine ag rfl ?_ ?_<;>intro c19
 ·
  obtain⟨p,hpx⟩:=ao (l:=ps) k0q c19
  have hpm:=List.mem_of_getElem? hpx
  have hG:=hPs.pg p hpm
  refine fu ?_;refine lN ?_
  refine TL.run (af rfl hpsq rfl om om) rfl (TL.run (bg hpsq hpx rfl rfl) rfl (TL.call (ab rfl rfl rfl rfl) (pY p (hPsq.pk p hpm) (by have:=hG.n1;omega) (fun r hr=>by have:=hG.rs r hr;omega)) rfl (fun v28 H28 hle28 hp28=>?_)))
  obtain⟨lv28,rfl,hok28,hno28⟩:=hp28
  obtain⟨ls,hL28,hl28⟩:=LsG.all hG (hPA p hpm) hok28
  obtain⟨la,lc,rfl⟩:=hL28.r.len
  refine m3 ?_;refine zm4 ?_;refine zm1 ?_;refine hZ ?_
  refine TC.loop (ι:=PSt) (V:=fun r=>[(9,.int .i64 r.k)]) (K:=[(2,_),(3,_),(4,_),(5,_),(6,_),(15,_),(16,_),(17,_),(18,_),(19,_),(22,_),(23,_),(24,_),(25,_),(26,_),(27,_),(28,_),(29,_),(30,_),(31,_)]) (L:=fun r=>St [] w0 H r.h ((b4,[.slice psa ps.length psc,.slice none 0 0,r.v])::(b2,[.slice none 0 0,.slice none 0 0,.slice none 0 0])::(bd,[dl,.int .i64 r.a])::(r.ob++r.B))) (I:=fun r=>(0≤r.k∧r.k≤ls.length)∧PInv H28 dl (5 * q.k+r.k) r∧HeadPa (q.k+r.k) r.qs) (μ:=fun r=>(ls.length - r.k).toNat) (i:={q with k:=0,h:=H28}) ky ⟨⟨by show(0:Int)≤0;omega,by show(0:Int)≤_;omega⟩,⟨.refl _,hIq.d.le hle28,hIq.o,hIq.b.leH hle28,fun x hx=>(hIq.g x hx).le hle28 (.refl _),hIq.N,by have:=hIq.n;show(q.qs.length:Int)≤5 * q.k+0;omega⟩,(fun h=>hHq (by have h2:(0:Int)<q.k+0:=h;omega))⟩ (fun w hw=>hw) (fun r hI=>?_)
  obtain⟨⟨k0r,k1r⟩,hIr,hHr⟩:=hI
  have hLr:=hL28.le hIr.le
  have hpsr:=hpsq.le (hle28.trans hIr.le)
  have hPsr:=hPsq.le (hle28.trans hIr.le)
  refine eZ ?_;refine TL.run (ai rfl rfl hLr.r) rfl (zm1 ?_)
  refine ag rfl ?_ ?_<;>intro c35
  ·
   obtain⟨l0,hlx⟩:=ao (l:=ls) k0r c35
   refine vv ?_;refine zm355 ?_;refine lQ ?_;refine mh ?_;refine rh ?_;refine lQ ?_;refine zm6 ?_
   refine ar (af rfl hpsr rfl om om) rfl (aF (S1 (S1 SN)) (Hp.le.refl _) (fun _ _=>bg hpsr hpx rfl rfl) rfl (sd ?_))
   refine ar (af rfl hLr.r rfl om om) rfl (zm3 ?_)
   refine aF (S1 (S1 SN)) (Hp.le.refl _) (fun _ _=>bL hLr.r hlx rfl rfl) rfl (ak rfl (oA (X:=[(b4,_),(b2,_)]) (Y:=r.ob++r.B) (bd:=bd) rfl (ab rfl rfl rfl rfl) (part_ok hIr.d hpsr hPsr.pk hPsr.pg hPsr.pn.1 p (hPsr.pk p hpm) hG hLr.r (fun l h=>(hLr.l l h).1) r.k _ k0r (by have:=hLr.n;omega) (hLr.l _ (List.mem_of_getElem? hlx)).2 (hLr.g r.k _ k0r hlx)) rfl (fun v55 H55 at55 ob55 hle55 hd55 hp55=>?_)))
   obtain⟨S55,q55,rfl,hB55,hq55,hN55b,_,rr55,hrr55,hnm55⟩:=hp55
   refine aP (gN [(b4,_),(b2,_),(bd,_)]) (uh (fun hN55=>?_))
   have hnd55:((r.B++ob55).map (·.1)).Nodup:=zj hN55
   refine al (S1 (S1 SN)) hle55 (aA rfl rfl rfl rfl (fun b56=>?_))
   refine ak rfl (TL.append (enc:=GProc.cells) rfl rfl rfl hIr.o (Src.own [q55] (.here _) rfl rfl) (by have:=hIr.n;have:=hPs.pn.2;have:=hL28.n;have:=hG.r5;simp only [List.length_cons,List.length_nil];omega) rfl (.s4 (.app _)) rfl (fun a57 c57 ob57 hO57=>?_))
   refine al (S0 (S1 (S1 SN))) hle55 (r6 ?_);refine TF.back (TF.nil (a8 (ae ?_)));refine TC.region (zm0 ?_);refine TL.run (ej rfl rfl om (by have:=hL28.n;have:=hG.r5;omega)) rfl (dk ?_)
   exact aM (⟨r.k+1,H55,at55,r.S.un S55,_,r.qs++[q55],ob57,r.B++ob55⟩:PSt) ⟨⟨by show 0≤r.k+1;omega,by show r.k+1≤(ls.length:Int);omega⟩,hIr.add hle55 hd55 hO57 hB55 hq55 hnd55 hN55b (by show _≤5 * q.k+(r.k+1);omega),hHr.snoc om (fun e=>⟨List.length_eq_zero_iff.1 (by have:=hIr.n;omega),hnm55.trans (zq hPs (p:=p) (by rw [show(0:Int)=q.k by omega];exact hpx) (by rw [show(0:Int)=r.k by omega];exact hrr55))⟩)⟩ ky (fun w hw=>hw.drop) (by show(_ - (r.k+1)).toNat<(_ - r.k).toNat;omega)
  refine TC.exit (bE (bE (cL ?_)));refine a8 (ae (TC.region (zm0 ?_)));refine TL.run (ej rfl rfl om (by have:=hPs.pn.2;omega)) rfl (dk ?_)
  exact aM ({r with k:=q.k+1}:PSt) ⟨⟨by show 0≤q.k+1;omega,by show q.k+1≤(ps.length:Int);omega⟩,⟨(hIq.le.trans hle28).trans hIr.le,hIr.d,hIr.o,hIr.b,hIr.g,hIr.N,by have:=hIr.n;have:=hL28.n;have:=hG.r5;show(r.qs.length:Int)≤5 * (q.k+1);omega⟩,hHr.up (by have:=hPs.roles2 hpm;omega)⟩ ky (fun w hw=>hw) (by show(_ - (q.k+1)).toNat<(_ - q.k).toNat;omega)
 refine fX ?_;refine ig ?_;refine aI [true,true,false] [(0,1),(1,4),(2,1),(3,1),(4,4),(5,5),(6,3),(7,5),(8,1),(9,0)] kr kr (lQ ?_);refine mh ?_;refine rh ?_
 refine ak rfl (oA (X:=[(b4,_),(b2,_)]) (Y:=q.ob++q.B) (bd:=bd) rfl (ab rfl rfl rfl rfl) (tG hIq.d hpsq hPsq.pk hPsq.pg hPsq.pn.1 (by have:=hPsq.pn.2;omega)) rfl (fun v64 H64 at64 ob64 hle64 hd64 hp64=>?_))
 obtain⟨S64,q64,rfl,hB64,hq64,hN64b,_,_⟩:=hp64
 refine aP (gN [(b4,_),(b2,_),(bd,_)]) (uh (fun hN64=>?_))
 have hnd64:((q.B++ob64).map (·.1)).Nodup:=zj hN64
 refine al (S1 (S1 SN)) hle64 (aA rfl rfl rfl rfl (fun b65=>?_))
 refine ak rfl (TL.append (enc:=GProc.cells) rfl rfl rfl hIq.o (Src.own [q64] (.here _) rfl rfl) (by have:=hIq.n;have:=hPs.pn.2;simp only [List.length_cons,List.length_nil];omega) rfl (.s4 (.app _)) rfl (fun a66 c66 ob66 hO66=>?_))
 refine al (S0 (S1 (S1 SN))) hle64 (r6 ?_);refine ik ?_;refine zm2 ?_;refine kS ?_;refine r3 ?_
 have hF:PInv H13 dl 11 ⟨0,H64,at64,q.S.un S64,_,q.qs++[q64],ob66,q.B++ob64⟩:=hIq.add hle64 hd64 hO66 hB64 hq64 hnd64 hN64b (by have:=hPs.pn.2;omega)
 exact dG (.inr rfl) (ad rfl (RVal.cellA rfl (.h2) rfl)) (.s3 (.skip _ .all)) ⟨ps,_,_,_,_,ob66,q.B++ob64,rfl,rfl,hpsq.le hle64,hPsq.le hle64,hF.o,hF.b,hF.g,hF.N,by simp,by have h:((q.qs++[q64]).length:Int)≤11:=hF.n;show(q.qs++[q64]).length≤11;omega,by have h:=hHq (by have:=hPs.pn.1;omega);rw [List.map_append,List.getElem?_append_left (List.getElem?_eq_some_iff.1 h).1];exact h⟩
end Go.Sx
namespace Go.Sx
open Go
abbrev nS:Sp:=(none,0)
def xw:SStep:=⟨0,[],[],[],[], -1,[],nS,[],nS,[],nS, -1⟩
def jk (sp qp:Sp):SProg:=⟨[],nS,[],nS,[⟨bT,[],nS,[],nS,[xw],sp⟩],qp⟩
theorem ny (sp qp:Sp):bU (jk sp qp)=okF:=by rfl
theorem w9:bU nilPg=⟨1504, -1, -1⟩:=by rfl
theorem gl (sp qp:Sp):cb (jk sp qp).procs bT=0:=by rfl
theorem kf (sp qp:Sp):cb (jk sp qp).procs [120]= -1:=by rfl
theorem wP {sp qp:Sp}{pg:SProg}(h:pg.bare=nI (jk sp qp)):pg.procs.length=1:=by
 have h1:pg.bare.procs.length=(nI (jk sp qp)).procs.length:=by rw [h]
 rw [pU (by rw [ny];rfl)] at h1
 simpa [SProg.bare,jk] using h1
theorem end_ok (H:Hp):StepOk H xw:=⟨RdSl.nil,RdSl.nil,(fun _ h=>by cases h),RdSl.nil⟩
theorem wQ {H:Hp}{sp qp:Sp}(h1:RdSl H 10 SStep.cells (.slice sp.1 1 sp.2) [xw])(h2:RdSl H 4 SProc.cells (.slice qp.1 1 qp.2) [⟨bT,[],nS,[],nS,[xw],sp⟩]):ProgOk H (jk sp qp):=
 ⟨RdSl.nil,(fun _ h=>by cases h),RdSl.nil,(fun _ h=>by cases h),h2,fun q hq=>by
  simp [jk] at hq;subst hq
  exact⟨RdSl.nil,(fun _ h=>by cases h),by simp,RdSl.nil,(fun _ h=>by cases h),h1,fun s hs=>by simp at hs;subst hs;exact end_ok H⟩⟩
section
variable {name:Str}
variable (sf tp sp qp ap cp:Sp)
section
variable (n:Str)(t x:Int)(k:Int)(d:List Int)(pr:Str)(args:List Int)
end
end
end Go.Sx
namespace Go.Sx
open Go
def er:Str:=[109,111,114,101]
def gu (ap:Sp):SStep:=⟨6,[],[],[],er, -1,[0],ap,[],(none,0),[],(none,0), -1⟩
def iC:Term:=⟨0,[107],0,[], -1, -1⟩
def fg (pp tp sp ap:Sp):SProc:=⟨er,[⟨[107],1,[]⟩],pp,[iC],tp,[gu ap],sp⟩
structure NoMore (q:SProc):Prop where
 n:q.name≠er
 s:∀s∈q.steps,s.proc≠er∧∀c∈s.casts,c.proc≠er
theorem GenQ.noMore {N:Nat}{q:SProc}(h:GenQ N q):NoMore q:=⟨h.nm.2,fun s hs=>⟨(h.s s hs).proc.2,fun c hc=>((h.s s hs).c c hc).p.2⟩⟩
theorem li:∀{l r:List Str} {s:Str},s∈l→bz (l++r) s=bz l s
 | x::l,r,s,h=>by
  rw [List.cons_append,bz,bz]
  by_cases e:x=s
  ·rw [if_pos e,if_pos e]
  ·rw [if_neg e,if_neg e,li ((List.mem_cons.1 h).resolve_left (fun e2=>e e2.symm))]
theorem w4 {l r:List Str}{s:Str}(h:s∉r):bz (l++r) s=bz l s:=by
 by_cases hl:s∈l
 ·exact li hl
 ·rw [iV hl,iV]
  intro e;rcases List.mem_append.1 e with e | e
  ·exact hl e
  ·exact h e
theorem p5:∀{l r:List Str} {s:Str},s∉l→bz (l++s::r) s=l.length
 | [],r,s,_=>by rw [List.nil_append,bz,if_pos rfl];rfl
 | x::l,r,s,h=>by
  have h1:¬x=s:=fun e=>h (by simp [e])
  have ih:=p5 (l:=l) (r:=r) (s:=s) (fun e=>h (by simp [e]))
  rw [List.cons_append,bz,if_neg h1,ih,if_neg om]
  simp
theorem tX {l r:List SProc}{s:Str}(h:s∈l.map (·.name)):cb (l++r) s=cb l s:=by unfold cb;rw [List.map_append,li h]
theorem ol {l r:List SProc}{s:Str}(h:s∉r.map (·.name)):cb (l++r) s=cb l s:=by unfold cb;rw [List.map_append,w4 h]
theorem tT {l r:List SProc}{k:Int}(h0:0≤k)(h:k<l.length):kF (l++r) k=kF l k:=by
 unfold kF;rw [List.getElem?_append_left om]
theorem lr {l r:List SProc}{s:Str}{n:Int}(h:s∉r.map (·.name)):bD (l++r) s n=bD l s n:=by
 unfold bD
 rw [ol h]
 rcases fU l s with e | e
 ·rw [e];rfl
 ·rw [tT e.1 e.2]
theorem jo {l r:List SProc}{i:Int}{q:SProc}(h:q∈l):aK (l++r) i q=aK l i q:=by
 have e:dc (l++r) i q=dc l i q:=by unfold dc;rw [tX (List.mem_map.2 ⟨q,h,rfl⟩)]
 unfold aK;rw [e]
theorem zc {l r:List SProc}(h:bT∉r.map (·.name)):fh (l++r)=fh l:=by
 unfold fh
 rw [ol h]
 rcases fU l bT with e | e
 ·rw [e];rfl
 ·rw [tT e.1 e.2]
theorem oq {f g:Int→SProc→SFault}:∀{l r:List SProc} {i:Int},(∀(j:Nat) (q:SProc),l[j]? =some q→g (i+j) q=f (i+j) q)→(∀k,∀q∈r,(g k q).e=0)→br g (l++r) i=br f l i
 | [],[],i,_,_=>rfl
 | [],x::r,i,h,hr=>by
  have e:br g (x::r) i=br g r (i+1):=by rw [br,if_neg (by rw [hr i x sq];decide)]
  rw [List.nil_append,e]
  exact oq (l:=[]) (r:=r) (f:=f) (i:=i+1) (fun j q hq=>by simp at hq) (fun k q hq=>hr k q (by simp [hq]))
 | x::l,r,i,h,hr=>by
  have h0:=h 0 x rfl
  rw [show i+((0:Nat):Int)=i by omega] at h0
  rw [List.cons_append,br,br,h0,oq (f:=f) (fun j q hq=>by
   have:=h (j+1) q (by simpa using hq)
   rwa [show i+((j+1:Nat):Int)=i+1+j by omega] at this) hr]
theorem uu {P X:SProg}{r:List SProc}(hp:X.protos=P.protos)(hq:X.procs=P.procs++r)(hr:∀q∈r,q.name=er){s:SStep}(hs:s.proc≠er∧∀c∈s.casts,c.proc≠er)(ts:List Term)(bd:List Str):dJ X ts s bd=dJ P ts s bd:=by
 have hn:∀x:Str,x≠er→x∉r.map (·.name):=fun x hx hm=>by
  obtain⟨q,hq,e⟩:=List.mem_map.1 hm
  exact hx (by rw [← e,hr q hq])
 have e1:bD X.procs s.proc s.args.length=bD P.procs s.proc s.args.length:=by rw [hq,lr (hn _ hs.1)]
 have e2:s.casts.all (fun c=>bD X.procs c.proc (c.args.length+1))=s.casts.all (fun c=>bD P.procs c.proc (c.args.length+1)):=by
  rw [Bool.eq_iff_iff,List.all_eq_true,List.all_eq_true]
  constructor
  ·intro H c hc;have:=H c hc;rwa [hq,lr (hn _ (hs.2 c hc))] at this
  ·intro H c hc;rw [hq,lr (hn _ (hs.2 c hc))];exact H c hc
 have e3:dC X s=dC P s:=by unfold dC;rw [hp]
 unfold dJ
 rw [e1,e2,e3]
theorem kh {P X:SProg}{r:List SProc}(hp:X.protos=P.protos)(hq:X.procs=P.procs++r)(hr:∀q∈r,q.name=er){q:SProc}(i:Int):∀(l:List SStep) (a:Int) (b:List (List Str)),(∀s∈l,s.proc≠er∧∀c∈s.casts,c.proc≠er)→cR X q i l a b=cR P q i l a b
 | [],_,_,_=>rfl
 | s::l,a,b,h=>by
  unfold cR
  rw [uu hp hq hr (h s sq),kh hp hq hr i l _ _ (fun x hx=>h x (by simp [hx]))]
theorem uS {X:SProg}{pp tp sp ap:Sp}{i:Int}(hc:bD X.procs er 1=true):dV X i (fg pp tp sp ap)=okF:=by
 have e:dJ X [iC] (gu ap) [[107]]=0:=by
  have h1:(cI [iC] (gu ap)).all (fun n=>bX [[107]] n)=true:=by
   rw [List.all_eq_true]
   intro x hx
   have hm:dH [iC] 0=true:=by rfl
   have e1:cI [iC] (gu ap)=gk [iC] 0:=by
    unfold cI
    show(List.flatMap (gk [iC]) [0])++[]=_
    simp
   rw [e1] at hx
   have:=(xe hm).1 hx
   have e2:eo [iC] ((0:Int).toNat+1) 0=[[107]]:=by rfl
   rw [e2] at this
   exact decide_eq_true this
  have h2:bD X.procs (gu ap).proc (gu ap).args.length=true:=hc
  have h3:ce (gu ap)=[]:=rfl
  have h4:(gu ap).casts=[]:=rfl
  have h5:(gu ap).kind=6:=rfl
  unfold dJ
  rw [h1,h2,h3,h4,h5]
  simp
 show cR X (fg pp tp sp ap) i [gu ap] 0 [[[107]]]=okF
 unfold cR
 show(if dJ X [iC] (gu ap) [[107]]≠0 then _ else _)=okF
 rw [e,if_neg dq]
 rfl
theorem uR {pp tp sp ap:Sp}{i:Int}:gc i (fg pp tp sp ap)=okF:=by rfl
theorem za {l:List SProc}(h:∀q∈l,NoMore q):er∉l.map (·.name):=fun hm=>by
 obtain⟨q,hq,e⟩:=List.mem_map.1 hm
 exact(h q hq).n e
section
variable {P X:SProg}{pp tp sp ap:Sp}(hp:X.protos=P.protos)(hl:X.locals=P.locals)(hq:X.procs=P.procs++[fg pp tp sp ap])(hn:∀q∈P.procs,NoMore q)
include hp hl hq hn
theorem qf:cb X.procs er=P.procs.length:=by
 unfold cb
 rw [hq,List.map_append]
 have:=p5 (l:=P.procs.map (·.name)) (r:=[]) (za hn)
 rwa [List.length_map] at this
theorem u4:cb X.procs bT=cb P.procs bT:=by
 rw [hq,ol (by show bT∉[er];decide)]
theorem or (h11 : P.procs.length ≤ 11) : bU X = bU P := by
 have hlen : X.procs.length = P.procs.length + 1 := by rw [hq]; simp
 have e0 : fk X = fk P := by
  unfold fk
  rw [hp, hl, hlen]
  congr 1
  rw [eq_iff_iff]
  constructor
  ·rintro (h | h | h)
   ·exact .inl h
   ·exact .inr (.inl h)
   ·omega
  ·rintro (h | h | h)
   ·exact .inl h
   ·exact .inr (.inl h)
   ·omega
 have hfm := qf hp hl hq hn
 have hhead : ∀ q ∈ [fg pp tp sp ap], (aK X.procs P.procs.length q).e = 0 := fun q hm => by
  rw [List.mem_singleton.1 hm]
  have e : dc X.procs P.procs.length (fg pp tp sp ap) = okF := by
   unfold dc
   show (if (bQ (fg pp tp sp ap) && [(⟨[107], 1, []⟩ : SParam)].all el) = false then _ else if (decide (cb X.procs er < P.procs.length) || !cU [([107] : Str)]) = true then _ else _) = okF
   have hg : bQ (fg pp tp sp ap) = true := rfl
   rw [if_neg (by rw [hg]; decide), hfm, if_neg (by rw [decide_eq_false om]; decide)]
  unfold aK
  rw [e, if_neg dq, uR]; rfl
 have e1 : br (aK X.procs) X.procs 0 = br (aK P.procs) P.procs 0 := by
  -- the last one stands at the end
  have key : ∀ (l : List SProc) (i : Int), i + l.length = P.procs.length → (∀ q ∈ l, q ∈ P.procs) → br (aK X.procs) (l ++ [fg pp tp sp ap]) i = br (aK P.procs) l i := by
   intro l
   induction l with
   | nil =>
    intro i hi _
    simp at hi
    have e : br (aK X.procs) [fg pp tp sp ap] P.procs.length = okF := by rw [br, if_neg (by rw [hhead _ sq]; decide)]; rfl
    rw [List.nil_append, hi, e]; rfl
   | cons x l ih =>
    intro i hi hm
    have e : aK X.procs i x = aK P.procs i x := by rw [hq]; exact jo (hm x sq)
    rw [List.cons_append, br, br, e, ih (i + 1) (by simp only [List.length_cons] at hi; omega) (fun q hq => hm q (by simp [hq]))]
  have := key P.procs 0 om (fun _ h => h)
  rwa [← hq] at this
 have e2 : fh X.procs = fh P.procs := by rw [hq, zc (by show bT ∉ [er]; decide)]
 have hcall : bD X.procs er 1 = true := by
  unfold bD
  rw [hfm, decide_eq_true om]
  have : kF X.procs P.procs.length = fg pp tp sp ap := by
   unfold kF
   rw [hq, show ((P.procs.length : Int)).toNat = P.procs.length by omega, List.getElem?_append_right (Nat.le_refl _), Nat.sub_self]; rfl
  rw [this]; rfl
 have e3 : br (dV X) X.procs 0 = br (dV P) P.procs 0 := by
  have := oq (f := dV P) (g := dV X) (l := P.procs) (r := [fg pp tp sp ap]) (i := 0) (fun j q hj => by
   have hm := List.mem_of_getElem? hj
   unfold dV
   exact kh hp hq (fun q hq => by rw [List.mem_singleton.1 hq]; rfl) _ _ _ _ (fun s hs => (hn q hm).s s hs)) (fun k q hm => by rw [List.mem_singleton.1 hm, uS hcall]; rfl)
  rwa [← hq] at this
 unfold bU
 rw [e0, e1, e2, e3]
theorem ub {T:SProg}{q0:SProc}{r:List SProc}(hTp:T.protos=X.protos)(hTl:T.locals=X.locals)(hTq:T.procs=X.procs++q0::r)(hlen:T.procs.length≤24)(h11:P.procs.length≤11)(h0:(bU P).e=0)(hnm:q0.name∈P.procs.map (·.name)):
  (bU T).e=1500∨((bU T).e=1501∧(bU T).part=X.procs.length):=by
 have hX:(bU X).e=0:=by rw [or hp hl hq hn h11];exact h0
 obtain⟨g0,g1,_,_⟩:=jI hX
 have a0:(fk T).e=0:=by
  have a1:¬(6<(X.protos.length:Int)∨12<(X.locals.length:Int)∨24<(X.procs.length:Int)):=fun e=>by
   unfold fk at g0;rw [if_pos e] at g0;cases g0
  unfold fk at g0 ⊢
  rw [if_neg a1] at g0
  rw [hTp,hTl,if_neg (fun e=>by omega)]
  exact g0
 have hinX:q0.name∈X.procs.map (·.name):=by rw [hq,List.map_append];exact List.mem_append_left _ hnm
 have key:∀(l:List SProc) (i:Int),i+l.length=X.procs.length→(∀q∈l,q∈X.procs)→(br (aK X.procs) l i).e=0→br (aK T.procs) (l++q0::r) i=br (aK T.procs) (q0::r) X.procs.length:=by
  intro l
  induction l with
  | nil=>intro i hi _ _;simp at hi;rw [List.nil_append,hi]
  | cons x l ih=>
   intro i hi hm he
   have e:aK T.procs i x=aK X.procs i x:=by rw [hTq];exact jo (hm x sq)
   rw [br] at he
   split at he
   ·rename_i h1;exact absurd he h1
   ·rename_i h1
    rw [List.cons_append,br,e,if_neg h1,ih (i+1) (by simp only [List.length_cons] at hi;omega) (fun q hq=>hm q (by simp [hq])) he]
 have hk:=key X.procs 0 om (fun _ h=>h) g1
 rw [← hTq] at hk
 have hfind:cb T.procs q0.name<X.procs.length:=by
  rw [hTq,tX hinX]
  rcases fU X.procs q0.name with e | e
  ·omega
  ·exact e.2
 have hF:dc T.procs X.procs.length q0=⟨1500,X.procs.length, -1⟩∨dc T.procs X.procs.length q0=⟨1501,X.procs.length, -1⟩:=by
  unfold dc
  split
  ·exact .inl rfl
  ·rw [decide_eq_true hfind,Bool.true_or,if_pos rfl];exact .inr rfl
 have hne:br (aK T.procs) T.procs 0=dc T.procs X.procs.length q0:=by
  rw [hk,br]
  have:aK T.procs X.procs.length q0=dc T.procs X.procs.length q0:=by
   unfold aK
   rw [if_pos (by rcases hF with e | e<;>rw [e]<;>simp)]
  rw [this,if_pos (by rcases hF with e | e<;>rw [e]<;>simp)]
 have hC:bU T=dc T.procs X.procs.length q0:=by
  rw [chk_1 a0 (by rw [hne];rcases hF with e | e<;>rw [e]<;>simp),hne]
 rw [hC]
 rcases hF with e | e<;>rw [e]
 ·exact .inl rfl
 ·exact .inr ⟨rfl,rfl⟩
end
theorem xd {H:Hp}{P:SProg}(hP:ProgOk H P){pp tp sp ap qp:Sp}(h1:RdSl H 3 SParam.cells (.slice pp.1 1 pp.2) [⟨[107],1,[]⟩])(h2:RdSl H 6 Term.cells (.slice tp.1 1 tp.2) [iC])(h3:RdSl H 1 I64.cells (.slice ap.1 1 ap.2) [0])
  (h4:RdSl H 10 SStep.cells (.slice sp.1 1 sp.2) [gu ap]) {v:Value} {l:List SProc} (h5:RdSl H 4 SProc.cells v l) (hl:l=P.procs++[fg pp tp sp ap]) (hv:v= .slice qp.1 l.length qp.2):ProgOk H ⟨P.protos,P.rp,P.locals,P.lp,l,qp⟩:=by
 subst hl hv
 refine⟨hP.r,hP.rs,hP.l,hP.ls,h5,fun q hq=>?_⟩
 rcases List.mem_append.1 hq with hq | hq
 ·exact hP.qs q hq
 ·rw [List.mem_singleton.1 hq]
  refine⟨h1,fun x hx=>?_,by show 1≤2000000;decide,h2,fun t ht=>?_,h4,fun s hs=>?_⟩
  ·rw [List.mem_singleton.1 hx];exact Nat.zero_le _
  ·rw [List.mem_singleton.1 ht];show 1≤9223372036854775807;decide
  ·rw [List.mem_singleton.1 hs]
   exact⟨h3,RdSl.nil,(fun c hc=>by cases hc),RdSl.nil⟩
theorem yC {H:Hp}{X Q:SProg}(hX:ProgOk H X)(hQ:ProgOk H Q){qp:Sp}{v:Value}{l:List SProc}(h5:RdSl H 4 SProc.cells v l)(hl:l=X.procs++Q.procs)(hv:v= .slice qp.1 l.length qp.2):ProgOk H ⟨X.protos,X.rp,X.locals,X.lp,l,qp⟩:=by
 subst hl hv
 refine⟨hX.r,hX.rs,hX.l,hX.ls,h5,fun q hq=>?_⟩
 rcases List.mem_append.1 hq with hq | hq
 ·exact hX.qs q hq
 ·exact hQ.qs q hq
end Go.Sx
