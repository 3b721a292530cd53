import Derived.Test.YtjnlogbbcceaoaaGreatJ15
set_option linter.all false
set_option maxRecDepth 100000
set_option maxHeartbeats 32000000
namespace Go.Sx
open Go Go.Proofs
theorem Dl {F:Fx}{V:WV}(s:Str)(hs:VarNm s)(ck:Int)(cn:Str):
  WFn Tryz.prog F V 178 [gs s,.agg #[.int .i64 ck,gs cn]] 12 (fun v V1=>v= .tuple #[]):=by
 refine WFn.enter Tryz.func178 Tryz.ntmps178 rfl rfl (fun m w0 hW hm=>?_)
 refine zm2 ?_
 refine TL.box rfl rfl (fun b5=>?_)
 refine TL.nil (ag (TC.seq (pP ?_)))
 refine aP rfl ?_ ?_<;>intro c13
 ·
  refine k4 ?_;refine eZ ?_;refine m7 ?_
  refine aA (X:=[(b5,_),(F.bw,_)]) (bd:=F.bd) rfl (ab rfl rfl rfl rfl) (bn 3 omq hW.d) rfl (fun v18 H18 at18 hle18 hd18 hp18=>?_)
  obtain⟨rfl,r18,rfl,hr18⟩:=hp18
  refine zm1 ?_
  refine af rfl ?_ ?_<;>intro c19
  ·
   refine zm2 ?_;refine au (ab rfl rfl rfl rfl) (cU 2) rfl (TL.alloc rfl (fun b6=>?_))
   refine fC ?_;refine eN ?_
   refine ay (F:=F) (V:={V with at_:=at18}) (m:=m) [(b6,_),(b5,_)] rfl rfl (ab rfl rfl rfl rfl) (cF s hs) (hW.dice (.refl _) hd18) omq rfl (fun v23 V23 hle23 hW23 hS23 hs23 ht23 hp23=>?_)
   dsimp only at hle23 hS23 hs23 ht23 hp23
   obtain⟨i23,rfl⟩:=hp23
   refine sg ?_;refine wg ?_
   refine ay (F:=F) (V:=V23) (m:=m+1) [(b6,_),(b5,_)] rfl rfl (ab rfl rfl rfl rfl) (fa ⟨2,[],[],[],[],i23,none,0,0,none,0,0,none,0,0, -1⟩ ⟨.nil,.nil,.nil,.nil,.nil,.nil,.nil,Nat.zero_le _,Nat.zero_le _,Nat.zero_le _⟩) hW23 omq rfl (fun v27 V27 hle27 hW27 hS27 hs27 ht27 hp27=>?_)
   obtain⟨rfl,hn27⟩:=hp27
   refine TL.nil (ag (TC.ret (aD ?_)))
   exact bv (V':=V27) (X:=[(b6,_),(b5,_)]) (.inr rfl) (bZ rfl) rfl rfl (hW27.more omq) (hS23.trans (hS27)) (by(try dsimp only);omega) (by(try dsimp only);omega) rfl
  refine de ?_
  exact TC.ret (aD (bv (V':={V with at_:=at18}) (X:=[(b5,_)]) (.inr rfl) (bZ rfl) rfl rfl ((hW.dice (.refl _) hd18).more omq) (.refl _) (by(try dsimp only);omega) (by(try dsimp only);omega) rfl))
 refine iQ ?_;refine tF ?_;refine m7 ?_
 refine aA (X:=[(b5,_),(F.bw,_)]) (bd:=F.bd) rfl (ab rfl rfl rfl rfl) (bn 3 omq hW.d) rfl (fun v32 H32 at32 hle32 hd32 hp32=>?_)
 obtain⟨rfl,r32,rfl,hr32⟩:=hp32
 refine zm1 ?_
 refine af rfl ?_ ?_<;>intro c33
 ·
  refine zm2 ?_;refine au (ab rfl rfl rfl rfl) (cU 9) rfl (TL.alloc rfl (fun b7=>?_))
  refine fC ?_;refine d5 ?_;refine wN ?_;refine gP ?_
  refine ay (F:=F) (V:={V with at_:=at32}) (m:=m) [(b7,_),(b5,_)] rfl rfl (ab rfl rfl rfl rfl) (fa ⟨9,s,[],[],[], -1,none,0,0,none,0,0,none,0,0, -1⟩ ⟨hs,.nil,.nil,.nil,.nil,.nil,.nil,Nat.zero_le _,Nat.zero_le _,Nat.zero_le _⟩) (hW.dice (.refl _) hd32) omq rfl (fun v39 V39 hle39 hW39 hS39 hs39 ht39 hp39=>?_)
  dsimp only at hle39 hS39 hs39 ht39 hp39
  obtain⟨rfl,hn39⟩:=hp39
  refine TL.nil (ag (TC.ret (aD ?_)))
  exact bv (V':=V39) (X:=[(b7,_),(b5,_)]) (.inr rfl) (bZ rfl) rfl rfl (hW39.more omq) hS39 (by(try dsimp only);omega) (by(try dsimp only);omega) rfl
 refine oB ?_;refine fD ?_
 refine ay (F:=F) (V:={V with at_:=at32}) (m:=m) [(b5,_)] rfl rfl (ab rfl rfl rfl rfl) (qw cn) (hW.dice (.refl _) hd32) omq rfl (fun v44 V44 hle44 hW44 hS44 hs44 ht44 hp44=>?_)
 dsimp only at hle44 hS44 hs44 ht44 hp44
 obtain⟨p,rr,rfl,hp44,hr44⟩:=hp44
 have hG:=hW44.fx.pg p hp44
 have hrr:=hG.rl hr44
 have hn1:=hG.n1
 refine zm3 ?_;refine zm0 ?_
 refine TL.alloc rfl (fun b8=>?_)
 refine gc ?_;refine wS ?_;refine au (ab rfl rfl rfl rfl) (cU 7) rfl (TL.alloc rfl (fun b10=>?_))
 refine fC ?_;refine mg ?_;refine zm0 ?_;refine C5 ?_;refine sg ?_;refine lz ?_
 refine TD.part 7 2 rfl rfl rfl ?_ ?_
 ·
  refine C4 ?_;refine sK ?_;refine sQ ?_
  refine ao rfl (ay (F:=F) (V:=V44) (m:=m+0) [(b10,_),(b8,_),(b5,_)] rfl rfl (ab rfl rfl rfl rfl) (cF s hs) hW44 omq rfl (fun v54 V54 hle54 hW54 hS54 hs54 ht54 hp54=>?_))
  obtain⟨i54,rfl⟩:=hp54
  exact aq (S1 (S1 (S1 SN))) hle54 (zq641)
 refine C3 ?_;refine wB ?_
 refine ay (F:=F) (V:=V44) (m:=m+0) [(b10,_),(b8,_),(b5,_)] rfl rfl (ab rfl rfl rfl rfl) (cF s hs) hW44 omq rfl (fun v54 V54 hle54 hW54 hS54 hs54 ht54 hp54=>?_)
 obtain⟨i54,rfl⟩:=hp54
 refine aq (S1 (S1 (S1 SN))) hle54 (sQ ?_)
 exact zq641
theorem Bj {F:Fx}{V:WV}:
  WFn Tryz.prog F V 128 [] 20 (fun v V1=>v= .tuple #[]∧V.sn<V1.sn):=by
 refine WFn.enter Tryz.func128 Tryz.ntmps128 rfl rfl (fun m w0 hW hm=>?_)
 refine zm2 ?_;refine au (ab rfl rfl rfl rfl) (cU 3) rfl (TL.alloc rfl (fun b2=>?_))
 refine fC ?_;refine eN ?_
 refine ay (F:=F) (V:=V) (m:=m) [(b2,_)] rfl rfl (ab rfl rfl rfl rfl) (eO 0) hW omq rfl (fun v9 V9 hle9 hW9 hS9 hs9 ht9 hp9=>?_)
 obtain⟨i9,rfl⟩:=hp9
 refine zm0 ?_
 refine ay (F:=F) (V:=V9) (m:=m+1) [(b2,_)] rfl rfl (ab rfl rfl rfl rfl) (cF [110] (.inr (.inr (.inl rfl)))) hW9 omq rfl (fun v11 V11 hle11 hW11 hS11 hs11 ht11 hp11=>?_)
 obtain⟨i11,rfl⟩:=hp11
 refine ay (F:=F) (V:=V11) (m:=m+1+1) [(b2,_)] rfl rfl (ab rfl rfl rfl rfl) (fb 12 i9 i11) hW11 omq rfl (fun v12 V12 hle12 hW12 hS12 hs12 ht12 hp12=>?_)
 obtain⟨i12,rfl⟩:=hp12
 refine wN ?_;refine gP ?_
 refine ay (F:=F) (V:=V12) (m:=m+1+1+1) [(b2,_)] rfl rfl (ab rfl rfl rfl rfl) (fF ⟨3,[],[],[],[],i12,none,0,0,none,0,0,none,0,0, -1⟩ ⟨.nil,.nil,.nil,.nil,.nil,.nil,.nil,Nat.zero_le _,Nat.zero_le _,Nat.zero_le _⟩) hW12 omq rfl (fun v16 V16 hle16 hW16 hS16 hs16 ht16 hp16=>?_)
 obtain⟨rfl,hn16⟩:=hp16
 refine wC ?_;refine zm377 ?_
 obtain⟨bw3,jw3,qw3,haw3,hbw3,hjw3⟩:=hW16.s.at omq
 obtain⟨uw3,huw3,hcw3⟩:=hW16.bag.get (k:=10) (i:=(V12.sn:Int).toNat) (f:=8) hbw3 rfl hjw3 omq rfl
 obtain⟨waw3,wnw3,wcw3,rfl,hww3,hwnw3⟩:=huw3
 have hnbw3:=hW16.nb
 refine iR ?_;refine tG ?_;refine l8 ?_;refine tG ?_;refine zm7 ?_;refine aw (cM (tb:=3) rfl rfl haw3 omq omq) rfl (zm4 ?_)
 refine aW (j9 rfl hcw3 (.s2 (.skip _ .all))) rfl (iR ?_);refine tG ?_;refine aw (dj rfl rfl) rfl (dQ ?_)
 refine aC rfl rfl rfl rfl (fun b39=>?_)
 refine ao rfl (iM (enc:=SWay.cells) (t:=1) rfl rfl rfl hW16.bag hww3 (Src.own [⟨[],[],_⟩] (.here _) rfl rfl) rfl (by intro y hy;rw [List.mem_singleton.1 hy];exact SWay.all (s:=⟨[],[],_⟩) .nil .nil) zt1 (by simp only [List.length_cons,List.length_nil];omega) rfl (.s3 (.skip _ .all)) rfl (fun S40 a40 c40 B40 hS40 hN40 hT40 hB40=>?_))
 change _=_+1 at hN40
 refine aq (S0 (S1 (S1 (S1 SN)))) (Hp.le.refl _) (aw (cM (tb:=3) rfl rfl haw3 omq omq) rfl (zm4 ?_))
 refine ao rfl (dw (t:=3) (f:=8) (ct:=.sl 1) rfl rfl (hW16.bagT hS40 hN40 hB40).bag (.s3 (.skip _ .all)) (hS40.1 _ _ hbw3) rfl hjw3 omq rfl (⟨_,_,_,rfl,hT40,by simp only [List.length_cons,List.length_nil];omega⟩) rfl rfl (fun Bst1 hBst1=>?_))
 refine aq (S0 (S1 (S1 (S1 SN)))) (Hp.le.refl _) (TF.nil (ag (zm2 ?_)));refine au (ab rfl rfl rfl rfl) (cU 6) rfl (TL.alloc rfl (fun b4=>?_))
 refine fC ?_;refine tF ?_;refine lh ?_;refine wN ?_
 refine ay (F:=F) (V:={{V16 with S:=S40,B:=B40} with B:=Bst1}) (m:=m+1+1+1+1+1) [(b4,_),(b39,_),(b2,_)] rfl rfl (ab rfl rfl rfl rfl) (cF [99] (.inr (.inl rfl))) ((hW16.bagT hS40 hN40 hB40).bagB hBst1) omq rfl (fun v50 V50 hle50 hW50 hS50 hs50 ht50 hp50=>?_)
 dsimp only at hle50 hS50 hs50 ht50 hp50
 obtain⟨i50,rfl⟩:=hp50
 refine zm0 ?_
 refine ay (F:=F) (V:=V50) (m:=m+1+1+1+1+1+1) [(b4,_),(b39,_),(b2,_)] rfl rfl (ab rfl rfl rfl rfl) (Dm) hW50 omq rfl (fun v52 V52 hle52 hW52 hS52 hs52 ht52 hp52=>?_)
 obtain⟨i52,rfl⟩:=hp52
 refine aB rfl rfl rfl rfl (fun b53=>?_)
 refine w3 ?_;refine gD ?_
 refine jg (enc:=I64.cells) (t:=4) (X:=[]) (Y:=[(b4,_),(b39,_),(b2,_),(F.bw,_),(F.bd,_)]) [_,_] rfl hW52.bag rfl rfl rfl (by intro y hy;exact⟨⟨_,rfl⟩,trivial⟩) (fun Sb53 Bb53 hSb53 hNb53 hbb53 hBb53=>?_)
 refine zm0 ?_;refine gP ?_
 refine ay (F:=F) (V:={V52 with S:=Sb53,B:=Bb53}) (m:=m+1+1+1+1+1+1+3) [(b4,_),(b39,_),(b2,_)] rfl rfl (ab rfl rfl rfl rfl) (fF ⟨6,[],[],[],F.self, -1,some ⟨b53,0,none⟩,2,2,none,0,0,none,0,0, -1⟩ ⟨.nil,.nil,.nil,hW.fx.sf,(SlT.blk hbb53 le2),.nil,.nil,(by have:=hW52.n10;dsimp only at *;omega),Nat.zero_le _,Nat.zero_le _⟩) (hW52.bagA hSb53 hNb53 hBb53) omq rfl (fun v57 V57 hle57 hW57 hS57 hs57 ht57 hp57=>?_)
 dsimp only at hle57 hS57 hs57 ht57 hp57
 obtain⟨rfl,hn57⟩:=hp57
 refine gE ?_
 refine ay (F:=F) (V:=V57) (m:=m+1+1+1+1+1+1+3+1) [(b4,_),(b39,_),(b2,_)] rfl rfl (ab rfl rfl rfl rfl) (nc false) hW57 omq rfl (fun v59 V59 hle59 hW59 hS59 hs59 ht59 hp59=>?_)
 obtain⟨rfl,hn59⟩:=hp59
 refine zm1 ?_;refine eY ?_;refine zm358 ?_
 obtain⟨bw9,jw9,qw9,haw9,hbw9,hjw9⟩:=hW59.s.at omq
 obtain⟨uw9,huw9,hcw9⟩:=hW59.bag.get (k:=10) (i:=(V12.sn:Int).toNat) (f:=8) hbw9 rfl hjw9 omq rfl
 obtain⟨waw9,wnw9,wcw9,rfl,hww9,hwnw9⟩:=huw9
 have hnbw9:=hW59.nb
 refine iR ?_;refine jQ ?_;refine l8 ?_;refine jQ ?_;refine zm7 ?_;refine aw (cM (tb:=3) rfl rfl haw9 omq omq) rfl (zm4 ?_)
 refine aW (j9 rfl hcw9 (.s4 (.skip _ .all))) rfl (wu ?_)
 refine aC rfl rfl rfl rfl (fun b77=>?_)
 refine ao rfl (iM (enc:=SWay.cells) (t:=1) rfl rfl rfl hW59.bag hww9 (Src.own [⟨[],[],_⟩] (.here _) rfl rfl) rfl (by intro y hy;rw [List.mem_singleton.1 hy];exact SWay.all (s:=⟨[],[],_⟩) .nil .nil) zt1 (by simp only [List.length_cons,List.length_nil];omega) rfl (.s5 (.skip _ .all)) rfl (fun S78 a78 c78 B78 hS78 hN78 hT78 hB78=>?_))
 change _=_+1 at hN78
 refine od ?_;refine aw (cM (tb:=3) rfl rfl haw9 omq omq) rfl (zm4 ?_)
 refine ao rfl (dw (t:=3) (f:=8) (ct:=.sl 1) rfl rfl (hW59.bagT hS78 hN78 hB78).bag (.s5 (.skip _ .all)) (hS78.1 _ _ hbw9) rfl hjw9 omq rfl (⟨_,_,_,rfl,hT78,by simp only [List.length_cons,List.length_nil];omega⟩) rfl rfl (fun Bst2 hBst2=>?_))
 refine od ?_
 exact TF.nil (bv (V':={{V59 with S:=S78,B:=B78} with B:=Bst2}) (X:=[(b77,_),(b4,_),(b39,_),(b2,_)]) (.inl rfl) (bZ rfl) rfl rfl (((hW59.bagT hS78 hN78 hB78).bagB hBst2).more omq) (hS9.trans (hS11.trans (hS12.trans (hS16.trans (hS40.trans (hS50.trans (hS52.trans (hSb53.trans (hS57.trans (hS59.trans (hS78))))))))))) (by(try dsimp only);omega) (by(try dsimp only);omega) ⟨rfl,by(try dsimp only);omega⟩)
end Go.Sx
namespace Go.Sx
open Go Go.Proofs
theorem qx {F:Fx}{V:WV}{T:SLocal}(hG:TG F T)(turn arm deep:Int){K:Nat}(h0:0≤turn)(h1:turn<T.turns.length)(harm:∀t,T.turns[turn.toNat]? =some t→0≤arm∧arm<t.arms.length)(ih:∀(V:WV) (turn:Int),0≤turn→turn<T.turns.length→WFn Tryz.prog F V 69 [.int .i64 turn,.int .i64 (deep+1)] K (fun v V1=>v= .tuple #[]∧V.sn<V1.sn))(hK:K≤9000000)(hdp:0≤deep∧deep≤100):
  WFn Tryz.prog F V 131 [.int .i64 turn,.int .i64 arm,.int .i64 deep] (K+20) (fun v V1=>v= .int .i64 (V.sn:Int)∧V.sn<V1.sn):=by
 refine WFn.enter Tryz.func131 Tryz.ntmps131 rfl rfl (fun m w0 hW hm=>?_)
 have hGg:=hG.g
 have hr1:=hG.r1
 have hr0:=hG.r0
 have hty:=hW.fx.ty
 have htk:=hW.fx.tk T (List.mem_of_getElem? hGg)
 have hts:=htk.t
 have htm:=hts.max
 obtain⟨t,htx⟩:=al (l:=T.turns) h0 h1
 have hTt:=hG.ts t (List.mem_of_getElem? htx)
 have hta:=(htk.ts t (List.mem_of_getElem? htx)).a
 have ha6:=hTt.a6
 have ham:=hta.max
 have hKB:=hK
 obtain⟨q0,q1⟩:=harm t htx
 obtain⟨x,hax⟩:=al (l:=t.arms) q0 q1
 have hxm:=List.mem_of_getElem? hax
 have hxn:=hTt.nx x hxm
 refine l9 ?_;refine eZ ?_;refine fD ?_;refine TL.run (dj rfl rfl) rfl (wC ?_);refine C2 ?_;refine sP ?_;refine sP ?_;refine aw (ae rfl hty rfl omq omq) rfl (zm4 ?_)
 refine aJ (S1 (S1 SN)) (Hp.le.refl _) (fun _ _=>bh hty hGg rfl rfl) rfl (zm7 ?_)
 refine aw (ae rfl hts rfl omq omq) rfl (aJ (S1 (S1 SN)) (Hp.le.refl _) (fun _ _=>bg hts htx rfl rfl) rfl (TF.alloc rfl (fun b10=>?_)))
 refine wd ?_;refine TF.nil (ag (mi ?_));refine TL.run (ae rfl hta rfl omq omq) rfl (TL.run (bg hta hax rfl rfl) rfl (TL.alloc rfl (fun b11=>?_)))
 refine wM ?_;refine au (ab rfl rfl rfl rfl) (cU 4) rfl (TL.alloc rfl (fun b12=>?_))
 refine qb ?_;refine aT [false,true,true,true,true] [(0,1),(1,4),(2,1),(3,4),(4,1),(5,5),(6,1),(7,5),(8,1),(9,0)] kr kr (zm4 ?_)
 refine aJ (S0 (S1 (S1 (S1 (S1 SN))))) (Hp.le.refl _) (fun _ _=>aE rfl (.h1) rfl) rfl (zm4 ?_)
 refine aJ (S0 (S1 (S1 (S1 (S1 SN))))) (Hp.le.refl _) (fun _ _=>aE rfl (.here _) rfl) rfl (wb ?_);refine sO ?_;refine wb ?_;refine sO ?_;refine f9 ?_
 refine aX rfl rfl rfl (.here _) rfl rfl (jS ?_);refine TC.seq (gp ?_);refine jl ?_;refine tD ?_
 refine af rfl ?_ ?_<;>intro c57
 ·
  refine TC.skip (bq (ag (vZ ?_)))
  refine ay (F:=F) (V:=V) (m:=m) [(b12,_),(b11,_),(b10,_)] rfl rfl (ab rfl rfl rfl rfl) (fa ⟨4,[99],t.peer,x.label,[],(-1),none,0,0,none,0,0,none,0,0, -1⟩ ⟨(.inr (.inl rfl)),hTt.peer,(hTt.lb x hxm),.nil,.nil,.nil,.nil,Nat.zero_le _,Nat.zero_le _,Nat.zero_le _⟩) hW omq rfl (fun v78 V78 hle78 hW78 hS78 hs78 ht78 hp78=>?_)
  obtain⟨rfl,hn78⟩:=hp78
  refine gE ?_;refine jl ?_;refine vY ?_
  refine ay (F:=F) (V:=V78) (m:=m+1) [(b12,_),(b11,_),(b10,_)] rfl rfl (ab rfl rfl rfl rfl) (ih _ x.next hxn.1 hxn.2) hW78 omq rfl (fun v84 V84 hle84 hW84 hS84 hs84 ht84 hp84=>?_)
  obtain⟨rfl,hn84⟩:=hp84
  refine we ?_
  exact bv (V':=V84) (X:=[(b12,_),(b11,_),(b10,_)]) (.inr rfl) (ad rfl (RVal.tmp rfl)) rfl rfl (hW84.more omq) (hS78.trans (hS84)) (by(try dsimp only);omega) (by(try dsimp only);omega) ⟨rfl,by(try dsimp only);omega⟩
 refine dN ?_
 refine af rfl ?_ ?_<;>intro c59
 ·
  refine d5 ?_;refine zm5 ?_;refine jl ?_
  refine ay (F:=F) (V:=V) (m:=m) [(b12,_),(b11,_),(b10,_)] rfl rfl (ab rfl rfl rfl rfl) (qw x.cn) hW omq rfl (fun v66 V66 hle66 hW66 hS66 hs66 ht66 hp66=>?_)
  obtain⟨p,rr,rfl,hp66,hr66⟩:=hp66
  have hGp:=hW66.fx.pg p hp66
  have hrr:=hGp.rl hr66
  refine zm3 ?_;refine zm0 ?_
  refine TL.alloc rfl (fun b13=>?_)
  refine gc ?_;refine zm1 ?_;refine lW ?_;refine gP ?_;refine zm0 ?_
  refine ay (F:=F) (V:=V66) (m:=m+0) [(b13,_),(b12,_),(b11,_),(b10,_)] rfl rfl (ab rfl rfl rfl rfl) (tK p rr (hW66.fx.pk p hp66) hGp (Nat.le_trans hrr dq)) hW66 omq rfl (fun v73 V73 hle73 hW73 hS73 hs73 ht73 hp73=>?_)
  obtain⟨s73,rfl,hv73⟩:=hp73
  refine ay (F:=F) (V:=V73) (m:=m+0+12) [(b13,_),(b12,_),(b11,_),(b10,_)] rfl rfl (ab rfl rfl rfl rfl) (cF s73 hv73) hW73 omq rfl (fun v74 V74 hle74 hW74 hS74 hs74 ht74 hp74=>?_)
  obtain⟨i74,rfl⟩:=hp74
  refine w3 ?_;refine TL.nil (bq (ag (d5 ?_)))
  refine TL.run (a7 rfl (.h1) rfl) rfl (ay (F:=F) (V:=V74) (m:=m+0+12+1) [(b13,_),(b12,_),(b11,_),(b10,_)] rfl rfl (ab rfl rfl rfl rfl) (fa ⟨4,[99],t.peer,x.label,[],i74,none,0,0,none,0,0,none,0,0, -1⟩ ⟨(.inr (.inl rfl)),hTt.peer,(hTt.lb x hxm),.nil,.nil,.nil,.nil,Nat.zero_le _,Nat.zero_le _,Nat.zero_le _⟩) hW74 omq rfl (fun v78 V78 hle78 hW78 hS78 hs78 ht78 hp78=>?_))
  obtain⟨rfl,hn78⟩:=hp78
  refine gE ?_;refine se ?_;refine vY ?_
  refine ay (F:=F) (V:=V78) (m:=m+0+12+1+1) [(b13,_),(b12,_),(b11,_),(b10,_)] rfl rfl (ab rfl rfl rfl rfl) (ih _ x.next hxn.1 hxn.2) hW78 omq rfl (fun v84 V84 hle84 hW84 hS84 hs84 ht84 hp84=>?_)
  obtain⟨rfl,hn84⟩:=hp84
  refine we ?_
  exact bv (V':=V84) (X:=[(b13,_),(b12,_),(b11,_),(b10,_)]) (.inr rfl) (ad rfl (RVal.tmp rfl)) rfl rfl (hW84.more omq) (hS66.trans (hS73.trans (hS74.trans (hS78.trans (hS84))))) (by(try dsimp only);omega) (by(try dsimp only);omega) ⟨rfl,by(try dsimp only);omega⟩
 refine jk ?_;refine zm5 ?_;refine jl ?_
 refine ay (F:=F) (V:=V) (m:=m) [(b12,_),(b11,_),(b10,_)] rfl rfl (ab rfl rfl rfl rfl) (Dn x.ck) hW omq rfl (fun v55 V55 hle55 hW55 hS55 hs55 ht55 hp55=>?_)
 obtain⟨i55,rfl⟩:=hp55
 refine tw ?_;refine bq (ag (vZ ?_))
 refine ay (F:=F) (V:=V55) (m:=m+3) [(b12,_),(b11,_),(b10,_)] rfl rfl (ab rfl rfl rfl rfl) (fa ⟨4,[99],t.peer,x.label,[],i55,none,0,0,none,0,0,none,0,0, -1⟩ ⟨(.inr (.inl rfl)),hTt.peer,(hTt.lb x hxm),.nil,.nil,.nil,.nil,Nat.zero_le _,Nat.zero_le _,Nat.zero_le _⟩) hW55 omq rfl (fun v78 V78 hle78 hW78 hS78 hs78 ht78 hp78=>?_)
 obtain⟨rfl,hn78⟩:=hp78
 refine gE ?_;refine jl ?_;refine vY ?_
 refine ay (F:=F) (V:=V78) (m:=m+3+1) [(b12,_),(b11,_),(b10,_)] rfl rfl (ab rfl rfl rfl rfl) (ih _ x.next hxn.1 hxn.2) hW78 omq rfl (fun v84 V84 hle84 hW84 hS84 hs84 ht84 hp84=>?_)
 obtain⟨rfl,hn84⟩:=hp84
 refine we ?_
 exact bv (V':=V84) (X:=[(b12,_),(b11,_),(b10,_)]) (.inr rfl) (ad rfl (RVal.tmp rfl)) rfl rfl (hW84.more omq) (hS55.trans (hS78.trans (hS84))) (by(try dsimp only);omega) (by(try dsimp only);omega) ⟨rfl,by(try dsimp only);omega⟩
end Go.Sx
namespace Go.Sx
open Go Go.Proofs
theorem Bi {F:Fx}{V:WV}{T:SLocal}(hG:TG F T)(turn deep:Int){K:Nat}(h0:0≤turn)(h1:turn<T.turns.length)(ih:∀(V:WV) (turn:Int),0≤turn→turn<T.turns.length→WFn Tryz.prog F V 69 [.int .i64 turn,.int .i64 (deep+1)] K (fun v V1=>v= .tuple #[]∧V.sn<V1.sn))(hK:K≤9000000)(hdp:0≤deep∧deep≤100):
  WFn Tryz.prog F V 129 [.int .i64 turn,.int .i64 deep] (6 * (K+40)+20) (fun v V1=>v= .tuple #[]∧V.sn<V1.sn):=by
 refine WFn.enter Tryz.func129 Tryz.ntmps129 rfl rfl (fun m w0 hW hm=>?_)
 have hGg:=hG.g
 have hr1:=hG.r1
 have hr0:=hG.r0
 have hty:=hW.fx.ty
 have htk:=hW.fx.tk T (List.mem_of_getElem? hGg)
 have hts:=htk.t
 have htm:=hts.max
 obtain⟨t,htx⟩:=al (l:=T.turns) h0 h1
 have hTt:=hG.ts t (List.mem_of_getElem? htx)
 have hta:=(htk.ts t (List.mem_of_getElem? htx)).a
 have ha6:=hTt.a6
 have ham:=hta.max
 have hKB:=hK
 have hta0:=hta
 refine lz ?_;refine C2 ?_;refine sP ?_;refine sP ?_;refine aw (ae rfl hty rfl omq omq) rfl (zm4 ?_)
 refine aJ (S1 (S1 SN)) (Hp.le.refl _) (fun _ _=>bh hty hGg rfl rfl) rfl (zm7 ?_)
 refine aw (ae rfl hts rfl omq omq) rfl (aJ (S1 (S1 SN)) (Hp.le.refl _) (fun _ _=>bg hts htx rfl rfl) rfl (TF.alloc rfl (fun b6=>?_)))
 refine wd ?_;refine TF.nil (ag (zm2 ?_));refine au (ab rfl rfl rfl rfl) (cU 5) rfl (TL.alloc rfl (fun b7=>?_))
 refine qb ?_;refine aT [false,true,true,true] [(0,1),(1,4),(2,1),(3,5),(4,1),(5,0)] kr kr (zm4 ?_)
 refine aJ (S0 (S1 (S1 (S1 SN)))) (Hp.le.refl _) (fun _ _=>aE rfl (.here _) rfl) rfl (wb ?_);refine aq (S0 (S1 (S1 (S1 SN)))) (Hp.le.refl _) (f9 ?_);refine aX rfl rfl rfl (.here _) rfl rfl (jS ?_)
 refine vZ ?_
 refine ay (F:=F) (V:=V) (m:=m) [(b7,_),(b6,_)] rfl rfl (ab rfl rfl rfl rfl) (fF ⟨5,[99],t.peer,[],[], -1,none,0,0,none,0,0,none,0,0, -1⟩ ⟨(.inr (.inl rfl)),hTt.peer,.nil,.nil,.nil,.nil,.nil,Nat.zero_le _,Nat.zero_le _,Nat.zero_le _⟩) hW omq rfl (fun v34 V34 hle34 hW34 hS34 hs34 ht34 hp34=>?_)
 replace hta:=hta.le hle34
 obtain⟨rfl,hn34⟩:=hp34
 refine gB ?_;refine jI ?_
 refine r4 (V:=fun(k:Int) (V1:WV) (r:Rw)=>[(9,.int .i64 k)]) (K:=[(0,_),(2,_),(6,_),(8,_)]) (L:=fun k V1 r=>St (keys (F.L V)) w0 V.H V1.H ((b7,TStep.cells ⟨5,[99],t.peer,[],[], -1,none,0,0,none,0,0,none,0,0, -1⟩)::(b6,t.cells)::Fx.L F V1)) (I:=fun k V1 r=>WI F V1 (m+1+k.toNat * (K+40))∧(0≤k∧k≤t.arms.length)∧V.H.le V1.H∧V.S.le V1.S∧V.sn<V1.sn∧V.tn≤V1.tn) (μ:=fun k=>(t.arms.length - k).toNat) 0 V34 ⟨none,0,0⟩ ky (⟨by simpa using hW34,o2q,hle34,hS34,by omega,ht34⟩) (fun w hw=>hw) (fun k V1 r hI=>?_)
 obtain⟨hI1,⟨k0,k1⟩,hI3,hI4,hI5,hI6⟩:=hI
 replace hta:=hta0.le hI3
 refine oe ?_;refine TL.run (ai rfl rfl hta) rfl (zm1 ?_)
 refine af rfl ?_ ?_<;>intro c39
 ·
  obtain⟨x,hax⟩:=al (l:=t.arms) k0 c39
  have hxm:=List.mem_of_getElem? hax
  have hxn:=hTt.nx x hxm
  have hml:=cmul_le (c:=K+40) (n:=6) k0 omq
  have hmu:=cmul (c:=K+40) k0
  refine wo ?_;refine aT [true,true,true,true] [(0,1),(1,4),(2,1),(3,1),(4,1),(5,4),(6,1),(7,1),(8,1),(9,1),(10,4),(11,1),(12,1),(13,3),(14,5)] kr kr (vT ?_)
  refine zm7 ?_;refine aw (ae rfl hta rfl omq omq) rfl (zm4 ?_);refine aJ (S1 (S1 (S1 (S1 SN)))) (Hp.le.refl _) (fun _ _=>bh hta hax rfl rfl) rfl (iR ?_);refine zm4 ?_;refine C1 ?_
  refine aw (dj rfl rfl) rfl (dQ ?_)
  refine TF.alloc rfl (fun b10=>?_)
  refine ao rfl (gc ?_);refine sO ?_;refine TF.nil (ag (TC.seq (gp ?_)));refine sh ?_;refine zm0 ?_;refine TL.run (ae rfl hta rfl omq omq) rfl (zm5 ?_);refine zm5 ?_
  refine TL.run (pr_el2 hta hax rfl rfl) rfl (zm1 ?_)
  refine aP rfl ?_ ?_<;>intro c62
  ·
   refine d5 ?_
   refine ay (F:=F) (V:=V1) (m:=m+1+k.toNat * (K+40)) [(b10,_),(b7,_),(b6,_)] rfl rfl (ab rfl rfl rfl rfl) (tL) hI1 omq rfl (fun v64 V64 hle64 hW64 hS64 hs64 ht64 hp64=>?_)
   replace hta:=hta.le hle64
   obtain⟨s64,rfl,hv64⟩:=hp64
   refine sg ?_;refine eY ?_;refine aT [true,true,true,false,false] [(0,1),(1,1),(2,4),(3,1),(4,4),(5,1),(6,1),(7,1),(8,4),(9,5)] kr kr (o8 ?_)
   refine aJ (S1 (S1 (S1 SN))) (Hp.le.refl _) (fun _ _=>aE rfl (.here _) rfl) rfl (zm4 ?_);refine aJ (S1 (S1 (S1 SN))) (Hp.le.refl _) (fun _ _=>aE rfl (.h2) rfl) rfl (zm7 ?_)
   refine aw (ae rfl hta rfl omq omq) rfl (zm4 ?_)
   refine aJ (S1 (S1 (S1 SN))) (Hp.le.refl _) (fun _ _=>qX hta hax rfl rfl) rfl (ao rfl (ay (F:=F) (V:=V64) (m:=m+1+k.toNat * (K+40)+1) [(b10,_),(b7,_),(b6,_)] rfl rfl (ab rfl rfl rfl rfl) (Dl s64 hv64 x.ck x.cn) hW64 omq rfl (fun v75 V75 hle75 hW75 hS75 hs75 ht75 hp75=>?_)))
   replace hta:=hta.le hle75
   obtain rfl:=hp75
   refine aq (S1 (S1 (S1 SN))) hle75 (TF.nil (ag (d5 ?_)));refine se ?_;refine zm0 ?_;refine TL.run (ae rfl hta rfl omq omq) rfl (zm5 ?_);refine TL.run (bh hta hax rfl rfl) rfl (vY ?_)
   refine ay (F:=F) (V:=V75) (m:=m+1+k.toNat * (K+40)+1+12) [(b10,_),(b7,_),(b6,_)] rfl rfl (ab rfl rfl rfl rfl) (ih _ x.next hxn.1 hxn.2) hW75 omq rfl (fun v85 V85 hle85 hW85 hS85 hs85 ht85 hp85=>?_)
   obtain⟨rfl,hn85⟩:=hp85
   refine TL.nil (ag (eY ?_));refine zm359 ?_
   obtain⟨bw12,jw12,qw12,haw12,hbw12,hjw12⟩:=hW85.s.at omq
   obtain⟨uw12,huw12,hcw12⟩:=hW85.bag.get (k:=10) (i:=(V.sn:Int).toNat) (f:=8) hbw12 rfl hjw12 omq rfl
   obtain⟨waw12,wnw12,wcw12,rfl,hww12,hwnw12⟩:=huw12
   have hnbw12:=hW85.nb
   refine iR ?_;refine jQ ?_;refine l8 ?_;refine jQ ?_;refine zm7 ?_;refine zY ?_;refine zm4 ?_
   refine aW (j9 rfl hcw12 (.s4 (.skip _ .all))) rfl (aJ (S1 (S1 (S1 (S1 (S1 SN))))) (Hp.le.refl _) (fun _ _=>a7 rfl (.here _) rfl) rfl (aC rfl rfl rfl rfl (fun b102=>?_)))
   refine ao rfl (iM (enc:=SWay.cells) (t:=1) rfl rfl rfl hW85.bag hww12 (Src.own [⟨x.label,s64,_⟩] (.here _) rfl rfl) rfl (by intro y hy;rw [List.mem_singleton.1 hy];exact SWay.all (s:=⟨x.label,s64,_⟩) (hTt.lb x hxm) hv64) zt1 (by simp only [List.length_cons,List.length_nil];omega) rfl (.s5 (.skip _ .all)) rfl (fun S103 a103 c103 B103 hS103 hN103 hT103 hB103=>?_))
   change _=_+1 at hN103
   refine od ?_;refine zY ?_;refine zm4 ?_
   refine ao rfl (dw (t:=3) (f:=8) (ct:=.sl 1) rfl rfl (hW85.bagT hS103 hN103 hB103).bag (.s5 (.skip _ .all)) (hS103.1 _ _ hbw12) rfl hjw12 omq rfl (⟨_,_,_,rfl,hT103,by simp only [List.length_cons,List.length_nil];omega⟩) rfl rfl (fun Bst1 hBst1=>?_))
   refine od ?_;refine TF.nil (jP ?_)
   exact gN (k+1) ({{V85 with S:=S103,B:=B103} with B:=Bst1}) r (⟨((hW85.bagT hS103 hN103 hB103).bagB hBst1).more omq,o2q,(((hI3.trans hle64).trans hle75).trans hle85),(hI4.trans (hS64.trans (hS75.trans (hS85.trans (hS103))))),by(try dsimp only);omega,by(try dsimp only);omega⟩) ky (fun w hw=>hw.drop.drop) omq
  refine oB ?_;refine se ?_;refine zm0 ?_;refine TL.run (ae rfl hta rfl omq omq) rfl (zm5 ?_);refine TL.run (bh hta hax rfl rfl) rfl (vY ?_)
  refine ay (F:=F) (V:=V1) (m:=m+1+k.toNat * (K+40)) [(b10,_),(b7,_),(b6,_)] rfl rfl (ab rfl rfl rfl rfl) (ih _ x.next hxn.1 hxn.2) hI1 omq rfl (fun v85 V85 hle85 hW85 hS85 hs85 ht85 hp85=>?_)
  obtain⟨rfl,hn85⟩:=hp85
  refine TL.nil (ag (eY ?_));refine zm359 ?_
  obtain⟨bw12,jw12,qw12,haw12,hbw12,hjw12⟩:=hW85.s.at omq
  obtain⟨uw12,huw12,hcw12⟩:=hW85.bag.get (k:=10) (i:=(V.sn:Int).toNat) (f:=8) hbw12 rfl hjw12 omq rfl
  obtain⟨waw12,wnw12,wcw12,rfl,hww12,hwnw12⟩:=huw12
  have hnbw12:=hW85.nb
  refine iR ?_;refine jQ ?_;refine l8 ?_;refine jQ ?_;refine zm7 ?_;refine zY ?_;refine zm4 ?_
  refine aW (j9 rfl hcw12 (.s4 (.skip _ .all))) rfl (aJ (S1 (S1 (S1 (S1 (S1 SN))))) (Hp.le.refl _) (fun _ _=>a7 rfl (.here _) rfl) rfl (aC rfl rfl rfl rfl (fun b102=>?_)))
  refine ao rfl (iM (enc:=SWay.cells) (t:=1) rfl rfl rfl hW85.bag hww12 (Src.own [⟨x.label,[],_⟩] (.here _) rfl rfl) rfl (by intro y hy;rw [List.mem_singleton.1 hy];exact SWay.all (s:=⟨x.label,[],_⟩) (hTt.lb x hxm) .nil) zt1 (by simp only [List.length_cons,List.length_nil];omega) rfl (.s5 (.skip _ .all)) rfl (fun S103 a103 c103 B103 hS103 hN103 hT103 hB103=>?_))
  change _=_+1 at hN103
  refine od ?_;refine zY ?_;refine zm4 ?_
  refine ao rfl (dw (t:=3) (f:=8) (ct:=.sl 1) rfl rfl (hW85.bagT hS103 hN103 hB103).bag (.s5 (.skip _ .all)) (hS103.1 _ _ hbw12) rfl hjw12 omq rfl (⟨_,_,_,rfl,hT103,by simp only [List.length_cons,List.length_nil];omega⟩) rfl rfl (fun Bst1 hBst1=>?_))
  refine od ?_;refine TF.nil (jP ?_)
  exact gN (k+1) ({{V85 with S:=S103,B:=B103} with B:=Bst1}) r (⟨((hW85.bagT hS103 hN103 hB103).bagB hBst1).more omq,o2q,(hI3.trans hle85),(hI4.trans (hS85.trans (hS103))),by(try dsimp only);omega,by(try dsimp only);omega⟩) ky (fun w hw=>hw.drop.drop) omq
 have hml:k.toNat * (K+40)≤6 * (K+40):=Nat.mul_le_mul_right _ omq
 refine gn ?_;refine tF ?_;refine sh ?_
 refine aA (X:=[(b7,_),(b6,_),(F.bw,_)]) (bd:=F.bd) rfl (ab rfl rfl rfl rfl) (bn 3 omq hI1.d) rfl (fun v110 H110 at110 hle110 hd110 hp110=>?_)
 obtain⟨rfl,r110,rfl,hr110⟩:=hp110
 refine zm1 ?_
 refine af rfl ?_ ?_<;>intro c111
 ·
  refine tF ?_;refine se ?_;refine TL.run (dj rfl rfl) rfl (dt ?_)
  refine TL.alloc rfl (fun b11=>?_)
  refine wM ?_;refine au (ab rfl rfl rfl rfl) (cU 2) rfl (TL.alloc rfl (fun b12=>?_))
  refine fC ?_;refine d5 ?_;refine dt ?_
  refine ay (F:=F) (V:={V1 with at_:=at110}) (m:=m+1+k.toNat * (K+40)) [(b12,_),(b11,_),(b7,_),(b6,_)] rfl rfl (ab rfl rfl rfl rfl) (gR ⟨3,[],0,[108,111,115,116], -1, -1⟩ .nil (by simp [AnyNm])) (hI1.dice (.refl _) hd110) omq rfl (fun v122 V122 hle122 hW122 hS122 hs122 ht122 hp122=>?_)
  dsimp only at hle122 hS122 hs122 ht122 hp122
  obtain⟨i122,rfl⟩:=hp122
  refine wN ?_;refine gP ?_
  refine ay (F:=F) (V:=V122) (m:=m+1+k.toNat * (K+40)+1) [(b12,_),(b11,_),(b7,_),(b6,_)] rfl rfl (ab rfl rfl rfl rfl) (fa ⟨2,[],[],[],[],i122,none,0,0,none,0,0,none,0,0, -1⟩ ⟨.nil,.nil,.nil,.nil,.nil,.nil,.nil,Nat.zero_le _,Nat.zero_le _,Nat.zero_le _⟩) hW122 omq rfl (fun v126 V126 hle126 hW126 hS126 hs126 ht126 hp126=>?_)
  obtain⟨rfl,hn126⟩:=hp126
  refine gE ?_
  refine au (ab rfl rfl rfl rfl) (cU 0) rfl (ay (F:=F) (V:=V126) (m:=m+1+k.toNat * (K+40)+1+1) [(b12,_),(b11,_),(b7,_),(b6,_)] rfl rfl (ab rfl rfl rfl rfl) (fF ⟨0,[],[],[],[], -1,none,0,0,none,0,0,none,0,0, -1⟩ ⟨.nil,.nil,.nil,.nil,.nil,.nil,.nil,Nat.zero_le _,Nat.zero_le _,Nat.zero_le _⟩) hW126 omq rfl (fun v129 V129 hle129 hW129 hS129 hs129 ht129 hp129=>?_))
  obtain⟨rfl,hn129⟩:=hp129
  refine TL.nil (ag (eY ?_));refine zm378 ?_
  obtain⟨bw19,jw19,qw19,haw19,hbw19,hjw19⟩:=hW129.s.at omq
  obtain⟨uw19,huw19,hcw19⟩:=hW129.bag.get (k:=10) (i:=(V.sn:Int).toNat) (f:=8) hbw19 rfl hjw19 omq rfl
  obtain⟨waw19,wnw19,wcw19,rfl,hww19,hwnw19⟩:=huw19
  have hnbw19:=hW129.nb
  refine iR ?_;refine zm4 ?_;refine zm360 ?_;refine l8 ?_;refine zm4 ?_;refine zm360 ?_;refine zm7 ?_;refine aw (cM (tb:=3) rfl rfl haw19 omq omq) rfl (zm4 ?_)
  refine aW (j9 rfl hcw19 (.s5 (.skip _ .all))) rfl (aJ (S1 (S1 (S1 (S1 (S1 (S1 SN)))))) (Hp.le.refl _) (fun _ _=>a7 rfl (.h1) rfl) rfl (aC rfl rfl rfl rfl (fun b146=>?_)))
  refine ao rfl (iM (enc:=SWay.cells) (t:=1) rfl rfl rfl hW129.bag hww19 (Src.own [⟨[],[],_⟩] (.here _) rfl rfl) rfl (by intro y hy;rw [List.mem_singleton.1 hy];exact SWay.all (s:=⟨[],[],_⟩) .nil .nil) zt1 (by simp only [List.length_cons,List.length_nil];omega) rfl (.s6 (.skip _ .all)) rfl (fun S147 a147 c147 B147 hS147 hN147 hT147 hB147=>?_))
  change _=_+1 at hN147
  refine aq (S0 (S1 (S1 (S1 (S1 (S1 (S1 SN))))))) (Hp.le.refl _) (aw (cM (tb:=3) rfl rfl haw19 omq omq) rfl (zm4 ?_))
  refine ao rfl (dw (t:=3) (f:=8) (ct:=.sl 1) rfl rfl (hW129.bagT hS147 hN147 hB147).bag (.s6 (.skip _ .all)) (hS147.1 _ _ hbw19) rfl hjw19 omq rfl (⟨_,_,_,rfl,hT147,by simp only [List.length_cons,List.length_nil];omega⟩) rfl rfl (fun Bst1 hBst1=>?_))
  exact aq (S0 (S1 (S1 (S1 (S1 (S1 (S1 SN))))))) (Hp.le.refl _) (TF.nil (bv (V':={{V129 with S:=S147,B:=B147} with B:=Bst1}) (X:=[(b146,_),(b12,_),(b11,_),(b7,_),(b6,_)]) (.inl rfl) (bZ rfl) rfl rfl (((hW129.bagT hS147 hN147 hB147).bagB hBst1).more omq) (hI4.trans (hS122.trans (hS126.trans (hS129.trans (hS147))))) (by(try dsimp only);omega) (by(try dsimp only);omega) ⟨rfl,by(try dsimp only);omega⟩))
 exact TC.skip (bv (V':={V1 with at_:=at110}) (X:=[(b7,_),(b6,_)]) (.inl rfl) (bZ rfl) rfl rfl ((hI1.dice (.refl _) hd110).more omq) hI4 (by(try dsimp only);omega) (by(try dsimp only);omega) ⟨rfl,by(try dsimp only);omega⟩)
end Go.Sx
namespace Go.Sx
open Go Go.Proofs
theorem oI {F:Fx}{V:WV}{T:SLocal}(hG:TG F T)(turn deep:Int){K:Nat}(h0:0≤turn)(h1:turn<T.turns.length)(ih:0≤deep→deep≤4→∀(V:WV) (turn:Int),0≤turn→turn<T.turns.length→WFn Tryz.prog F V 69 [.int .i64 turn,.int .i64 (deep+1)] K (fun v V1=>v= .tuple #[]∧V.sn<V1.sn))(hK:K≤9000000)(hdp:0≤deep∧deep≤100):
  WFn Tryz.prog F V 69 [.int .i64 turn,.int .i64 deep] (6 * (K+40)+60) (fun v V1=>v= .tuple #[]∧V.sn<V1.sn):=by
 refine WFn.enter Tryz.func69 Tryz.ntmps69 rfl rfl (fun m w0 hW hm=>?_)
 have hGg:=hG.g
 have hr1:=hG.r1
 have hr0:=hG.r0
 have hty:=hW.fx.ty
 have htk:=hW.fx.tk T (List.mem_of_getElem? hGg)
 have hts:=htk.t
 have htm:=hts.max
 obtain⟨t,htx⟩:=al (l:=T.turns) h0 h1
 have hTt:=hG.ts t (List.mem_of_getElem? htx)
 have hta:=(htk.ts t (List.mem_of_getElem? htx)).a
 have ha6:=hTt.a6
 have ham:=hta.max
 have hKB:=hK
 refine lz ?_;refine C2 ?_;refine sP ?_;refine sP ?_;refine aw (ae rfl hty rfl omq omq) rfl (zm4 ?_)
 refine aJ (S1 (S1 SN)) (Hp.le.refl _) (fun _ _=>bh hty hGg rfl rfl) rfl (zm7 ?_)
 refine aw (ae rfl hts rfl omq omq) rfl (aJ (S1 (S1 SN)) (Hp.le.refl _) (fun _ _=>bg hts htx rfl rfl) rfl (TF.alloc rfl (fun b6=>?_)))
 refine wd ?_;refine TF.nil (ag (TC.block (fE ?_)));refine ly ?_
 refine af rfl ?_ ?_<;>intro c38
 ·
  refine jk ?_
  refine ay (F:=F) (V:=V) (m:=m) [(b6,_)] rfl rfl (ab rfl rfl rfl rfl) (nc true) hW omq rfl (fun v43 V43 hle43 hW43 hS43 hs43 ht43 hp43=>?_)
  obtain⟨rfl,hn43⟩:=hp43
  exact TL.nil (bq (bv (V':=V43) (X:=[(b6,_)]) (.inl rfl) (bZ rfl) rfl rfl (hW43.more omq) hS43 (by(try dsimp only);omega) (by(try dsimp only);omega) ⟨rfl,by(try dsimp only);omega⟩))
 refine im ?_
 refine aj (s:=47) rfl ?_ ?_<;>intro g47
 ·
  have q47:=of_decide_eq_true g47
  refine xc ?_
  refine aj (s:=51) rfl ?_ ?_<;>intro g51
  ·
   have q51:=of_decide_eq_true g51
   refine cQ ?_;refine az rfl rfl (cg rfl) rfl (fR ?_);refine cQ ?_;refine ly ?_
   refine af rfl ?_ ?_<;>intro c44
   ·
    refine jk ?_
    refine ay (F:=F) (V:=V) (m:=m) [(b6,_)] rfl rfl (ab rfl rfl rfl rfl) (Bj) hW omq rfl (fun v59 V59 hle59 hW59 hS59 hs59 ht59 hp59=>?_)
    obtain⟨rfl,hn59⟩:=hp59
    exact TL.nil (bq (bv (V':=V59) (X:=[(b6,_)]) (.inl rfl) (bZ rfl) rfl rfl (hW59.more omq) hS59 (by(try dsimp only);omega) (by(try dsimp only);omega) ⟨rfl,by(try dsimp only);omega⟩))
   exact zq657
  have q51:=of_decide_eq_false g51
  exact zq647
 have q47:=of_decide_eq_false g47
 refine ji ?_;refine zm3 ?_
 exact zq647
theorem tM {F:Fx}{T:SLocal}(hG:TG F T):∀(N:Nat),N≤5→∀(V:WV) (turn deep:Int),0≤turn→turn<T.turns.length→0≤deep→deep≤100→5 - deep≤N→
  WFn Tryz.prog F V 69 [.int .i64 turn,.int .i64 deep] (KB N) (fun v V1=>v= .tuple #[]∧V.sn<V1.sn)
 | 0,_,V,turn,deep,h0,h1,h2,h3,h4=>oI hG turn deep (K:=0) h0 h1 (fun _ h=>by omega) omq ⟨h2,h3⟩
 | N+1,hN,V,turn,deep,h0,h1,h2,h3,h4=>oI hG turn deep (K:=KB N) h0 h1 (fun _ h V' t' g0 g1=>tM hG N omq V' t' (deep+1) g0 g1 omq omq omq) (yP omq) ⟨h2,h3⟩
end Go.Sx
namespace Go.Sx
open Go Go.Proofs
theorem part_ok {H:Hp}{bd:Nat}{dl:Value}{at_:Int}(hd:DiceOk H dl at_){psv:Value}{ps:List SProto}(hps:RdSl H 3 SProto.cells psv ps)(hpk:∀p∈ps,ProtoOk H p)(hpg:∀p∈ps,GPr p)(hpn:0<ps.length)(p:SProto)(hp:ProtoOk H p)(hG:GPr p){tyv:Value}{tys:List SLocal}(hty:RdSl H 2 SLocal.cells tyv tys)(htk:∀l∈tys,LocalOk H l)(role:Int)(carry:Str)(h0:0≤role)(h1:role<p.roles.length)(hcr:carry.length≤1000){T:SLocal}(hTG:∀F:Fx,F.tys=tys→F.role=role→TG F T):
  DFn Tryz.prog bd dl at_ 31 [psv,.agg p.cells.toArray,tyv,.int .i64 role,gs carry] H (fun v H1 ob=>∃S q,v= .agg (GProc.cells q).toArray∧Bag H1 S ob∧GPOk H1 S q∧S.N≤10000000∧q.params=[⟨[99],5,carry⟩,⟨[110],1,[]⟩]∧(∃rr,p.roles[role.toNat]? =some rr∧q.name=p.name++rr)):=by
 obtain⟨psa,psc,rfl⟩:=hps.len
 obtain⟨tya,tyc,rfl⟩:=hty.len
 have hro:=hp.r
 have hn1:=hG.n1
 obtain⟨rr,hrx⟩:=al (l:=p.roles) h0 h1
 have hrr:=hG.rl (List.mem_of_getElem? hrx)
 have hPV:∀x∈([⟨[99],5,carry⟩,⟨[110],1,[]⟩]:List SParam),VarNm x.name∧x.cn.length≤1000:=by
  intro x hx;simp only [List.mem_cons,List.not_mem_nil,or_false] at hx;rcases hx with rfl | rfl
  · exact⟨.inr (.inl rfl),hcr⟩
  · exact⟨.inr (.inr (.inl rfl)),by simp⟩
 refine FnX.enter Tryz.func31 Tryz.ntmps31 rfl rfl (fun w0=>?_)
 refine zm2 ?_
 refine TL.box rfl rfl (fun b8=>?_)
 refine TL.alloc rfl (fun b12=>?_)
 refine TL.nil (ag (n6 ?_));refine TQ.run (a7 rfl (.h1) rfl) rfl (zO ?_)
 refine TQ.run (ae rfl hro rfl omq omq) rfl (TQ.run (aN hro hrx rfl rfl) rfl (il (ab rfl rfl rfl rfl) (j7 p rr omq omq) rfl (kV ?_)));refine eN ?_;refine qj ?_
 refine aA (X:=[(b12,_),(b8,_)]) (bd:=bd) rfl (ab rfl rfl rfl rfl) (bn 7 omq hd) rfl (fun v28 H28 at28 hle28 hd28 hp28=>?_)
 obtain⟨eH28,r28,rfl,hr28⟩:=hp28
 replace eH28:=eH28.symm;subst eH28
 have hra28:=hr28.1
 have hrb28:=hr28.2.1 omq
 refine lw ?_;refine dt ?_
 refine TL.box rfl rfl (fun b31=>?_)
 refine zm1 ?_;refine im ?_;refine dt ?_;refine dt ?_;refine dt ?_;refine dt ?_
 refine aB rfl rfl rfl rfl (fun b39=>?_)
 refine dt ?_;refine eZ ?_;refine kQ rfl rfl rfl rfl rfl (.h1) (Nat.le_of_ble_eq_true kr) rfl (gE ?_)
 refine TL.pubN (by simp [keys]) (fun H_b39 le_b39 rd_b39=>?_)
 replace hps:=hps.le le_b39
 replace hty:=hty.le le_b39
 replace hpk:=fun x hx=>(hpk x hx).le le_b39
 replace htk:=fun x hx=>(htk x hx).le le_b39
 replace hd28:=hd28.le le_b39
 have hpa:RdSl H_b39 3 SParam.cells _ ([⟨[99],5,carry⟩,⟨[110],1,[]⟩]):=RdSl.blk (cap:=2) rd_b39 (by intro x hx;rfl) kr (by show 2≤9223372036854775807;decide)
 have hW0:WI ⟨b31,bd,.slice psa ps.length psc,ps,p.name++rr,.slice (some ⟨b39,0,none⟩) 2 2,p.name++rr,.slice tya tys.length tyc,tys,role,dl⟩ ⟨H_b39,Sig.nil,none,0,0,none,0,0,0,9+r28,at28,[]⟩ 0:=⟨⟨hps,hpk,hpg,hpn,hty,htk,hG.proc hrr⟩,.nil,.nil,.nil,by simp,by have:=hr28.1;simp;omega,by have:=hr28.2.1 omq;simp;omega,hd28,by simp,by simp [Sig.nil],by simp [Sig.nil]⟩
 refine eL (.h2) (eL (.h2) (ay (F:=⟨b31,bd,.slice psa ps.length psc,ps,p.name++rr,.slice (some ⟨b39,0,none⟩) 2 2,p.name++rr,.slice tya tys.length tyc,tys,role,dl⟩) (V:=⟨H_b39,Sig.nil,none,0,0,none,0,0,0,9+r28,at28,[]⟩) (m:=0) [(b12,_),(b8,_)] rfl rfl (ab rfl rfl rfl rfl) (tM (T:=T) (hTG _ rfl rfl) 5 omq _ 0 0 omq (by have:=(hTG ⟨b31,bd,.slice psa ps.length psc,ps,p.name++rr,.slice (some ⟨b39,0,none⟩) 2 2,p.name++rr,.slice tya tys.length tyc,tys,role,dl⟩ rfl rfl).n0;omega) omq omq omq) hW0 (by have:=yP (n:=5) omq;omega) rfl (fun v44 V44 hle44 hW44 hS44 hs44 ht44 hp44=>?_)))
 replace hpa:=hpa.le hle44
 obtain⟨rfl,hn44⟩:=hp44
 refine gE ?_;refine eZ ?_;refine TL.run (jx rfl (.h2) rfl) rfl (jm ?_)
 exact aU (.inr rfl) (ad rfl (RVal.cellA rfl (.here _) rfl)) (fun w hw=>hw.drop.drop.drop) ⟨_,V44.B,rfl,hW44.d,V44.S,⟨p.name++rr,[⟨[99],5,carry⟩,⟨[110],1,[]⟩],(some ⟨b39,0,none⟩,2),V44.ta,V44.tn,V44.tc,V44.sa,V44.sn,V44.sc⟩,rfl,hW44.bag,⟨hG.proc hrr,hpa,hPV,by simp,hW44.t,hW44.s,by have:=hn44;simp at this;omega,by have:=hW44.me;have:=yP (n:=5) omq;dsimp only;omega,by have:=hW44.me;have:=yP (n:=5) omq;dsimp only;omega⟩,(by have:=hW44.nb;have:=yP (n:=5) omq;omega),rfl,_,hrx,rfl⟩
theorem yd {H:Hp}{bd:Nat}{dl:Value}{at_:Int}(hd:DiceOk H dl at_){psv:Value}{ps:List SProto}(hps:RdSl H 3 SProto.cells psv ps)(hpk:∀p∈ps,ProtoOk H p)(hpg:∀p∈ps,GPr p)(hpn:0<ps.length)(hpm:ps.length≤100):
  DFn Tryz.prog bd dl at_ 32 [psv] H (fun v H1 ob=>∃S q,v= .agg (GProc.cells q).toArray∧Bag H1 S ob∧GPOk H1 S q∧S.N≤10000000∧q.params=[]∧q.name=da):=by
 obtain⟨psa,psc,rfl⟩:=hps.len
 have hps0:=hps
 have hpk0:=hpk
 refine FnX.enter Tryz.func32 Tryz.ntmps32 rfl rfl (fun w0=>?_)
 refine zm2 ?_
 refine TL.alloc rfl (fun b4=>?_)
 refine TL.nil (ag (eN ?_));refine dt ?_
 refine TL.box rfl rfl (fun b15=>?_)
 refine lB ?_;refine dt ?_;refine eZ ?_;refine kQ rfl rfl rfl rfl rfl (.here _) (Nat.le_of_ble_eq_true kr) rfl (gE ?_)
 refine aA (X:=[(b15,_),(b4,_)]) (bd:=bd) rfl (ab rfl rfl rfl rfl) (bn 3 omq hd) rfl (fun v21 H21 at21 hle21 hd21 hp21=>?_)
 obtain⟨eH21,r21,rfl,hr21⟩:=hp21
 replace eH21:=eH21.symm;subst eH21
 have hra21:=hr21.1
 have hrb21:=hr21.2.1 omq
 refine k7 ?_
 have hW0:WI ⟨b15,bd,.slice psa ps.length psc,ps,da,.slice none 0 0,[],.slice none 0 0,[],0,dl⟩ ⟨H,Sig.nil,none,0,0,none,0,0,0,0,at21,[]⟩ 0:=⟨⟨hps,hpk,hpg,hpn,RdSl.nil,by simp,.nil⟩,.nil,.nil,.nil,by simp,by simp,by simp,hd21,by simp,by simp [Sig.nil],by simp [Sig.nil]⟩
 refine gl (.h1) (ag (jT ?_))
 refine r4 (V:=fun(k:Int) (V1:WV) (r:Rw)=>[(7,.int .i64 k)]) (K:=[(0,_),(1,_),(4,_),(5,_),(6,_)]) (L:=fun k V1 r=>St [bd] w0 H V1.H ((b4,[gs [],.slice none 0 0,.slice none 0 0,.slice none 0 0])::Fx.L ⟨b15,bd,.slice psa ps.length psc,ps,da,.slice none 0 0,[],.slice none 0 0,[],0,dl⟩ V1)) (I:=fun k V1 r=>WI ⟨b15,bd,.slice psa ps.length psc,ps,da,.slice none 0 0,[],.slice none 0 0,[],0,dl⟩ V1 (20 * k.toNat)∧(0≤k∧k≤1+r21)∧H.le V1.H∧k.toNat≤V1.sn) (μ:=fun k=>(1+r21 - k).toNat) 0 ⟨H,Sig.nil,none,0,0,none,0,0,0,0,at21,[]⟩ ⟨none,0,0⟩ ky (⟨by simpa using hW0,o2q,.refl _,by simp⟩) (fun w hw=>hw) (fun k V1 r hI=>?_)
 obtain⟨hI1,⟨k0,k1⟩,hI3,hI4⟩:=hI
 replace hps:=hps0.le hI3
 replace hpk:=fun x hx=>(hpk0 x hx).le hI3
 refine f8 ?_;refine zm1 ?_
 refine af rfl ?_ ?_<;>intro c25
 ·
  refine gv ?_;refine im ?_
  refine TL.run (ai rfl rfl hps) rfl (aA (X:=[(b4,_),(b15,_)]) (bd:=bd) rfl (ab rfl rfl rfl rfl) (bn (ps.length:Int) omq hI1.d) rfl (fun v32 H32 at32 hle32 hd32 hp32=>?_))
  obtain⟨rfl,r32,rfl,hr32⟩:=hp32
  have hra32:=hr32.1
  have hrb32:=hr32.2.1 omq
  obtain⟨p,hpx⟩:=al (l:=ps) hra32 hrb32
  have hpm_:=List.mem_of_getElem? hpx
  have hp:=hpk p hpm_
  have hG:=hpg p hpm_
  have hn1:=hG.n1
  have hro:=hp.r
  have hr2:=hG.r2
  have hr5:=hG.r5
  refine TL.run (ae rfl hps rfl omq omq) rfl (TL.run (bg hps hpx rfl rfl) rfl (TL.alloc rfl (fun b8=>?_)))
  refine qb ?_;refine aT [true,true,false,false] [(0,1),(1,4),(2,1),(3,1),(4,4),(5,1),(6,5),(7,1),(8,2),(9,1)] kr kr (ot ?_);refine o8 ?_;refine vR ?_
  refine aw (ai rfl rfl hro) rfl (ao rfl (aA (X:=[(b8,_),(b4,_),(b15,_)]) (bd:=bd) rfl (ab rfl rfl rfl rfl) (bn (p.roles.length:Int) omq (hI1.dice (.refl _) hd32).d) rfl (fun v41 H41 at41 hle41 hd41 hp41=>?_)))
  obtain⟨rfl,r41,rfl,hr41⟩:=hp41
  have hra41:=hr41.1
  have hrb41:=hr41.2.1 omq
  obtain⟨rr,hrx⟩:=al (l:=p.roles) hra41 hrb41
  have hrr:=hG.rl (List.mem_of_getElem? hrx)
  refine aq (S1 (S1 SN)) (Hp.le.refl _) (wr ?_);refine aW (aN hro hrx rfl rfl) rfl (zm7 ?_);refine TF.nil (ag (vZ ?_));refine zm0 ?_
  refine ay (F:=⟨b15,bd,.slice psa ps.length psc,ps,da,.slice none 0 0,[],.slice none 0 0,[],0,dl⟩) (V:={{V1 with at_:=at32} with at_:=at41}) (m:=20 * k.toNat) [(b8,_),(b4,_)] rfl rfl (ab rfl rfl rfl rfl) (tK p rr hp hG (Nat.le_trans hrr dq)) ((hI1.dice (.refl _) hd32).dice (.refl _) hd41) omq rfl (fun v47 V47 hle47 hW47 hS47 hs47 ht47 hp47=>?_)
  dsimp only at hle47 hS47 hs47 ht47 hp47
  obtain⟨s47,rfl,hv47⟩:=hp47
  refine wS ?_;refine au (ab rfl rfl rfl rfl) (cU 7) rfl (TL.alloc rfl (fun b11=>?_))
  refine fC ?_;refine f8 ?_;refine qt ?_;refine zm1 ?_
  refine af rfl ?_ ?_<;>intro c52
  ·
   refine TC.region (au (ab rfl rfl rfl rfl) (cU 6) rfl (fC ?_));refine mg ?_;refine zm0 ?_;refine C5 ?_;refine sg ?_;refine lz ?_
   refine TD.part 7 2 rfl rfl rfl ?_ ?_
   ·
    refine C4 ?_;refine sK ?_;refine sQ ?_
    refine ao rfl (ay (F:=⟨b15,bd,.slice psa ps.length psc,ps,da,.slice none 0 0,[],.slice none 0 0,[],0,dl⟩) (V:=V47) (m:=20 * k.toNat+12) [(b11,_),(b8,_),(b4,_)] rfl rfl (ab rfl rfl rfl rfl) (cF s47 hv47) hW47 omq rfl (fun v60 V60 hle60 hW60 hS60 hs60 ht60 hp60=>?_))
    obtain⟨i60,rfl⟩:=hp60
    exact aq (S1 (S1 (S1 SN))) hle60 (zq942)
   refine C3 ?_;refine wB ?_
   refine ay (F:=⟨b15,bd,.slice psa ps.length psc,ps,da,.slice none 0 0,[],.slice none 0 0,[],0,dl⟩) (V:=V47) (m:=20 * k.toNat+12) [(b11,_),(b8,_),(b4,_)] rfl rfl (ab rfl rfl rfl rfl) (cF s47 hv47) hW47 omq rfl (fun v60 V60 hle60 hW60 hS60 hs60 ht60 hp60=>?_)
   obtain⟨i60,rfl⟩:=hp60
   refine aq (S1 (S1 (S1 SN))) hle60 (sQ ?_)
   exact zq942
  refine de ?_;refine mg ?_;refine zm0 ?_;refine C5 ?_;refine sg ?_;refine lz ?_
  refine TD.part 7 2 rfl rfl rfl ?_ ?_
  ·
   refine C4 ?_;refine sK ?_;refine sQ ?_
   refine ao rfl (ay (F:=⟨b15,bd,.slice psa ps.length psc,ps,da,.slice none 0 0,[],.slice none 0 0,[],0,dl⟩) (V:=V47) (m:=20 * k.toNat+12) [(b11,_),(b8,_),(b4,_)] rfl rfl (ab rfl rfl rfl rfl) (cF s47 hv47) hW47 omq rfl (fun v60 V60 hle60 hW60 hS60 hs60 ht60 hp60=>?_))
   obtain⟨i60,rfl⟩:=hp60
   exact aq (S1 (S1 (S1 SN))) hle60 (zq921)
  refine C3 ?_;refine wB ?_
  refine ay (F:=⟨b15,bd,.slice psa ps.length psc,ps,da,.slice none 0 0,[],.slice none 0 0,[],0,dl⟩) (V:=V47) (m:=20 * k.toNat+12) [(b11,_),(b8,_),(b4,_)] rfl rfl (ab rfl rfl rfl rfl) (cF s47 hv47) hW47 omq rfl (fun v60 V60 hle60 hW60 hS60 hs60 ht60 hp60=>?_)
  obtain⟨i60,rfl⟩:=hp60
  refine aq (S1 (S1 (S1 SN))) hle60 (sQ ?_)
  exact zq921
 refine gn ?_;refine tF ?_;refine TL.run (jx rfl (.h1) rfl) rfl (jm ?_)
 exact aU (.inr rfl) (ad rfl (RVal.cellA rfl (.here _) rfl)) (fun w hw=>hw.drop.drop) ⟨_,V1.B,rfl,hI1.d,V1.S,⟨da,[],(none,0),V1.ta,V1.tn,V1.tc,V1.sa,V1.sn,V1.sc⟩,rfl,hI1.bag,⟨by simp [PNm,da],RdSl.nil,by simp,by simp,hI1.t,hI1.s,by dsimp only;omega,by have:=hI1.me;dsimp only;omega,by have:=hI1.me;dsimp only;omega⟩,(by have:=hI1.nb;omega),rfl,rfl⟩
end Go.Sx
namespace Go.Sx
open Go Go.Proofs
theorem yh {H:Hp}{lv:Value}{l:List Int}(hl:RdSl H 1 I64.cells lv l)(hm:l.length≤1000000000000):
  FnO Tryz.prog 11 [lv] H (fun v H1 ob=>∃ps qs S pv psv ob1 B,v= .agg #[psv,.slice none 0 0,pv]∧ob=ob1++B∧RdSl H1 3 SProto.cells psv ps∧PsOk H1 ps∧OwnSl 4 GProc.cells pv qs ob1∧Bag H1 S B∧(∀x∈qs,GPOk H1 S x)∧S.N≤10000000∧1≤qs.length∧qs.length≤11):=by
 refine FnO.enter Tryz.func11 Tryz.ntmps11 rfl rfl (fun w0=>?_)
 refine zm2 ?_
 refine TL.alloc rfl (fun b2=>?_)
 refine gE ?_
 refine cV (ab rfl rfl rfl rfl) (New_ok hl hm) rfl (fun v11 H11 ob11 hle11 hp11=>?_)
 obtain⟨bd,dl,rfl,rfl,hd⟩:=hp11
 refine lB ?_
 refine aA (X:=[(b2,_)]) (bd:=bd) rfl (ab rfl rfl rfl rfl) (sB hd) rfl (fun v13 H13 at13 hle13 hd13 hp13=>?_)
 obtain⟨hle13_,ps,hps,hPs⟩:=hp13
 obtain⟨psa,psc,rfl⟩:=hps.len
 refine dt ?_
 refine TL.alloc rfl (fun b4=>?_)
 refine fC ?_;refine jT ?_
 refine TC.loop (ι:=PSt) (V:=fun q=>[(5,.int .i64 q.k)]) (K:=[(2,_),(3,_),(4,_)]) (L:=fun q=>St [] w0 H q.h ((b4,[.slice psa ps.length psc,.slice none 0 0,q.v])::(b2,[.slice none 0 0,.slice none 0 0,.slice none 0 0])::(bd,[dl,.int .i64 q.a])::(q.ob++q.B))) (I:=fun q=>(0≤q.k∧q.k≤ps.length)∧PInv H13 dl (5 * q.k) q) (μ:=fun q=>(ps.length - q.k).toNat) (i:=⟨0,H13,at13,Sig.nil,.slice none 0 0,[],[],[]⟩) ky ⟨⟨by show(0:Int)≤0;omega,by show(0:Int)≤_;omega⟩,⟨.refl _,hd13,.nil,.nil,by simp,by simp [Sig.nil],by simp⟩⟩ (fun w hw=>hw) (fun q hI=>?_)
 obtain⟨⟨k0q,k1q⟩,hIq⟩:=hI
 have hpsq:=hps.le hIq.le
 have hPsq:=hPs.le hIq.le
 refine sS ?_;refine TL.run (ai rfl rfl hpsq) rfl (zm1 ?_)
 refine af rfl ?_ ?_<;>intro c19
 ·
  obtain⟨p,hpx⟩:=al (l:=ps) k0q c19
  have hpm:=List.mem_of_getElem? hpx
  have hG:=hPs.pg p hpm
  refine gv ?_;refine mi ?_
  refine TL.run (ae rfl hpsq rfl omq omq) rfl (TL.run (bg hpsq hpx rfl rfl) rfl (TL.call (ab rfl rfl rfl rfl) (uh p (hPsq.pk p hpm) (by have:=hG.n1;omega) (fun r hr=>by have:=hG.rs r hr;omega)) rfl (fun v28 H28 hle28 hp28=>?_)))
  obtain⟨lv28,rfl,hok28,hno28⟩:=hp28
  obtain⟨ls,hL28⟩:=LsG.of hG hok28 hno28
  obtain⟨la,lc,rfl⟩:=hL28.r.len
  refine qj ?_;refine zm3 ?_;refine zm1 ?_;refine jI ?_
  refine TC.loop (ι:=PSt) (V:=fun r=>[(9,.int .i64 r.k)]) (K:=[(2,_),(3,_),(4,_),(5,_),(6,_),(15,_),(16,_),(17,_),(18,_),(19,_),(22,_),(23,_),(24,_),(25,_),(26,_),(27,_),(28,_),(29,_),(30,_),(31,_)]) (L:=fun r=>St [] w0 H r.h ((b4,[.slice psa ps.length psc,.slice none 0 0,r.v])::(b2,[.slice none 0 0,.slice none 0 0,.slice none 0 0])::(bd,[dl,.int .i64 r.a])::(r.ob++r.B))) (I:=fun r=>(0≤r.k∧r.k≤ls.length)∧PInv H28 dl (5 * q.k+r.k) r) (μ:=fun r=>(ls.length - r.k).toNat) (i:={q with k:=0,h:=H28}) ky ⟨⟨by show(0:Int)≤0;omega,by show(0:Int)≤_;omega⟩,⟨.refl _,hIq.d.le hle28,hIq.o,hIq.b.leH hle28,fun x hx=>(hIq.g x hx).le hle28 (.refl _),hIq.N,by have:=hIq.n;show(q.qs.length:Int)≤5 * q.k+0;omega⟩⟩ (fun w hw=>hw) (fun r hI=>?_)
  obtain⟨⟨k0r,k1r⟩,hIr⟩:=hI
  have hLr:=hL28.le hIr.le
  have hpsr:=hpsq.le (hle28.trans hIr.le)
  have hPsr:=hPsq.le (hle28.trans hIr.le)
  refine f8 ?_;refine TL.run (ai rfl rfl hLr.r) rfl (zm1 ?_)
  refine af rfl ?_ ?_<;>intro c35
  ·
   obtain⟨l0,hlx⟩:=al (l:=ls) k0r c35
   refine zU ?_;refine zm379 ?_;refine ot ?_;refine o8 ?_;refine vR ?_;refine ot ?_;refine zm7 ?_
   refine aw (ae rfl hpsr rfl omq omq) rfl (aJ (S1 (S1 SN)) (Hp.le.refl _) (fun _ _=>bg hpsr hpx rfl rfl) rfl (wH ?_))
   refine aw (ae rfl hLr.r rfl omq omq) rfl (zm4 ?_)
   refine aJ (S1 (S1 SN)) (Hp.le.refl _) (fun _ _=>bh hLr.r hlx rfl rfl) rfl (ao rfl (rV (X:=[(b4,_),(b2,_)]) (Y:=r.ob++r.B) (bd:=bd) rfl (ab rfl rfl rfl rfl) (part_ok hIr.d hpsr hPsr.pk hPsr.pg hPsr.pn.1 p (hPsr.pk p hpm) hG hLr.r (fun l h=>(hLr.l l h).1) r.k _ k0r (by have:=hLr.n;omega) (hLr.l _ (List.mem_of_getElem? hlx)).2 (hLr.g r.k _ k0r hlx)) rfl (fun v55 H55 at55 ob55 hle55 hd55 hp55=>?_)))
   obtain⟨S55,q55,rfl,hB55,hq55,hN55b,_,_⟩:=hp55
   refine aV (jy [(b4,_),(b2,_),(bd,_)]) (yJ (fun hN55=>?_))
   have hnd55:((r.B++ob55).map (·.1)).Nodup:=Ey hN55
   refine aq (S1 (S1 SN)) hle55 (aC rfl rfl rfl rfl (fun b56=>?_))
   refine ao rfl (TL.append (enc:=GProc.cells) rfl rfl rfl hIr.o (Src.own [q55] (.here _) rfl rfl) (by have:=hIr.n;have:=hPs.pn.2;have:=hL28.n;have:=hG.r5;simp only [List.length_cons,List.length_nil];omega) rfl (.s4 (.app _)) rfl (fun a57 c57 ob57 hO57=>?_))
   refine aq (S0 (S1 (S1 SN))) hle55 (wv ?_);refine TF.back (TF.nil (bq (ag ?_)));refine TC.region (zm0 ?_);refine TL.run (fk rfl rfl omq (by have:=hL28.n;have:=hG.r5;omega)) rfl (dP ?_)
   exact aQ (⟨r.k+1,H55,at55,r.S.un S55,_,r.qs++[q55],ob57,r.B++ob55⟩:PSt) ⟨⟨by show 0≤r.k+1;omega,by show r.k+1≤(ls.length:Int);omega⟩,hIr.add hle55 hd55 hO57 hB55 hq55 hnd55 hN55b (by show _≤5 * q.k+(r.k+1);omega)⟩ ky (fun w hw=>hw.drop) (by show(_ - (r.k+1)).toNat<(_ - r.k).toNat;omega)
  refine TC.exit (bQ (bQ (dc ?_)));refine bq (ag (TC.region (zm0 ?_)));refine TL.run (fk rfl rfl omq (by have:=hPs.pn.2;omega)) rfl (dP ?_)
  exact aQ ({r with k:=q.k+1}:PSt) ⟨⟨by show 0≤q.k+1;omega,by show q.k+1≤(ps.length:Int);omega⟩,⟨(hIq.le.trans hle28).trans hIr.le,hIr.d,hIr.o,hIr.b,hIr.g,hIr.N,by have:=hIr.n;have:=hL28.n;have:=hG.r5;show(r.qs.length:Int)≤5 * (q.k+1);omega⟩⟩ ky (fun w hw=>hw) (by show(_ - (q.k+1)).toNat<(_ - q.k).toNat;omega)
 refine gC ?_;refine eY ?_;refine aT [true,true,false] [(0,1),(1,4),(2,1),(3,1),(4,4),(5,5),(6,3),(7,5),(8,1),(9,0)] kr kr (ot ?_);refine o8 ?_;refine vR ?_
 refine ao rfl (rV (X:=[(b4,_),(b2,_)]) (Y:=q.ob++q.B) (bd:=bd) rfl (ab rfl rfl rfl rfl) (yd hIq.d hpsq hPsq.pk hPsq.pg hPsq.pn.1 (by have:=hPsq.pn.2;omega)) rfl (fun v64 H64 at64 ob64 hle64 hd64 hp64=>?_))
 obtain⟨S64,q64,rfl,hB64,hq64,hN64b,_,_⟩:=hp64
 refine aV (jy [(b4,_),(b2,_),(bd,_)]) (yJ (fun hN64=>?_))
 have hnd64:((q.B++ob64).map (·.1)).Nodup:=Ey hN64
 refine aq (S1 (S1 SN)) hle64 (aC rfl rfl rfl rfl (fun b65=>?_))
 refine ao rfl (TL.append (enc:=GProc.cells) rfl rfl rfl hIq.o (Src.own [q64] (.here _) rfl rfl) (by have:=hIq.n;have:=hPs.pn.2;simp only [List.length_cons,List.length_nil];omega) rfl (.s4 (.app _)) rfl (fun a66 c66 ob66 hO66=>?_))
 refine aq (S0 (S1 (S1 SN))) hle64 (wv ?_);refine jS ?_;refine mg ?_;refine wG ?_
 have hF:PInv H13 dl 11 ⟨0,H64,at64,q.S.un S64,_,q.qs++[q64],ob66,q.B++ob64⟩:=hIq.add hle64 hd64 hO66 hB64 hq64 hnd64 hN64b (by have:=hPs.pn.2;omega)
 exact ez (.inr rfl) (ad rfl (RVal.cellA rfl (.h2) rfl)) (.s3 (.skip _ .all)) ⟨ps,_,_,_,_,ob66,q.B++ob64,rfl,rfl,hpsq.le hle64,hPsq.le hle64,hF.o,hF.b,hF.g,hF.N,by simp,by have h:((q.qs++[q64]).length:Int)≤11:=hF.n;show(q.qs++[q64]).length≤11;omega⟩
end Go.Sx
namespace Go.Sx
open Go Go.Proofs
theorem zp {H:Hp}{lv:Value}{l:List Int}(hl:RdSl H 1 I64.cells lv l)(hm:l.length≤1000000000000)(wh what:Int):
  Fn Tryz.prog 10 [lv,.int .i64 wh,.int .i64 what] H (fun v H1=>∃pg:SProg,v= .agg pg.cells.toArray∧ProgOk H1 pg∧GenP pg):=by
 have one0:=hl.isOne
 refine Fn.enter Tryz.func10 Tryz.ntmps10 rfl rfl (fun w0=>?_)
 refine zm2 ?_
 refine TL.alloc rfl (fun b6=>?_)
 refine gE ?_
 refine cV (ab rfl rfl rfl rfl) (yh hl hm) rfl (fun v12 H12 ob12 hle12 hp12=>?_)
 obtain⟨ps,qs,S,pv,psv,ob1,B,rfl,rfl,hps,hPs,hO,hB,hq,hN,hn1,hn11⟩:=hp12
 obtain⟨psa,psc,rfl⟩:=hps.len
 obtain⟨pva,pvc,rfl⟩:=hO.form
 refine TL.alloc rfl (fun b7=>?_)
 refine fC ?_;refine d5 ?_;refine TL.run (dC rfl) rfl (fD ?_)
 refine TL.run (bC rfl rfl hO) rfl (TL.run (dC rfl) rfl (TL.run (fX rfl rfl (by rw [jU omq omq];omega)) rfl (TL.run (dC rfl) rfl ?_)));refine dP ?_
 have hk:=kb wh (n:=(qs.length:Int)) omq omq
 generalize hkE:IntKind.i64.wrap ((IntKind.u64.wrap wh).tmod (IntKind.u64.wrap (qs.length:Int)))=k at hk ⊢
 obtain⟨q,hqx⟩:=al (l:=qs) hk.1 hk.2
 have hgq:=hq q (List.mem_of_getElem? hqx)
 have hs0:=hgq.s0
 have hrl5:rolesL.length=5:=rfl
 have hll4:labelsL.length=4:=rfl
 have hsl:=hgq.sl
 obtain⟨bs,js,ms,hsa,hsS,hsj⟩:=hgq.s.at hs0
 refine ag (d5 ?_);refine vX ?_;refine fD ?_;refine zm0 ?_;refine TL.run (bN rfl rfl hO omq omq) rfl (zm5 ?_)
 refine TL.run (PR.to (ef rfl hO (.s2 (.app _)) hqx rfl) (rfl:_=Value.slice q.sa q.sn q.sc)) rfl (TL.run (dj rfl rfl) rfl (TL.run (dC rfl) rfl (TL.run (fX rfl rfl (by rw [jU omq omq];omega)) rfl ?_)))
 refine TL.run (dC rfl) rfl (dP ?_)
 have hm2:=kb ((IntKind.u64.wrap wh).tdiv 32) (n:=(q.sn:Int)) omq omq
 generalize hmE:IntKind.i64.wrap ((IntKind.u64.wrap ((IntKind.u64.wrap wh).tdiv 32)).tmod (IntKind.u64.wrap (q.sn:Int)))=m at hm2 ⊢
 refine ag (mi ?_);refine TL.run (bN rfl rfl hO omq omq) rfl (zm5 ?_);refine TL.run (PR.to (ef rfl hO (.s2 (.app _)) hqx rfl) (rfl:_=Value.slice q.sa q.sn q.sc)) rfl (zm0 ?_)
 refine TL.run (cM rfl rfl hsa omq omq) rfl (tz ?_);refine TL.run (dC rfl) rfl (TL.run (fX rfl rfl omq) rfl (tD ?_))
 refine af rfl ?_ ?_<;>intro c50
 ·
  refine jk ?_;refine eZ ?_
  refine dw (t:=3) (f:=1) rfl rfl hB (.s2 (.past ob1 .all)) hsS rfl hsj omq rfl ⟨_,rfl,.inr (.inr (.inr (.inl rfl)))⟩ rfl rfl (fun B1 hB1=>?_)
  refine o7 ?_
  refine TX.pubO hO (.s2 (.app _)) sq (fun H2 hle2 hR=>?_)
  refine TX.pubB (hB1.leH hle2) (.skip _ (.skip _ .all)) sq (fun H3 hle3 hBH=>?_)
  exact iN
 refine dN ?_
 refine af rfl ?_ ?_<;>intro c55
 ·
  refine jk ?_
  refine TL.call (ab rfl rfl rfl rfl) (ia) rfl (fun v58 H58 hle58 hp58=>?_)
  have hro58:=hp58
  replace hps:=hps.le hle58
  replace hPs:=hPs.le hle58
  replace hB:=hB.leH hle58
  replace hq:=fun x hx=>(hq x hx).le hle58 (.refl _)
  refine zm0 ?_;refine vX ?_;refine TL.run (fX rfl rfl omq) rfl (TL.run (dC rfl) rfl ?_)
  have hp63:=D9 ((IntKind.u64.wrap what).tdiv 12) (n:=5) omq omq
  obtain⟨rx,hrx⟩:=al (l:=rolesL) hp63.1 hp63.2
  refine TL.run (ae rfl hro58 rfl omq omq) rfl (TL.run (aN hro58 hrx rfl rfl) rfl (eZ ?_))
  refine dw (t:=3) (f:=2) rfl rfl hB (.s2 (.past ob1 .all)) hsS rfl hsj omq rfl ⟨_,rfl,zF hrx⟩ rfl rfl (fun B2 hB2=>?_)
  refine o7 ?_
  refine TX.pubO hO (.s2 (.app _)) sq (fun H2 hle2 hR=>?_)
  refine TX.pubB (hB2.leH hle2) (.skip _ (.skip _ .all)) sq (fun H3 hle3 hBH=>?_)
  exact iN
 refine dN ?_
 refine af rfl ?_ ?_<;>intro c68
 ·
  refine jk ?_
  refine TL.call (ab rfl rfl rfl rfl) (dY) rfl (fun v71 H71 hle71 hp71=>?_)
  have hla71:=hp71
  replace hps:=hps.le hle71
  replace hPs:=hPs.le hle71
  replace hB:=hB.leH hle71
  replace hq:=fun x hx=>(hq x hx).le hle71 (.refl _)
  refine zm0 ?_;refine vX ?_;refine TL.run (fX rfl rfl omq) rfl (TL.run (dC rfl) rfl ?_)
  have hp76:=D9 ((IntKind.u64.wrap what).tdiv 12) (n:=4) omq omq
  obtain⟨lx,hlx⟩:=al (l:=labelsL) hp76.1 hp76.2
  refine TL.run (ae rfl hla71 rfl omq omq) rfl (TL.run (aN hla71 hlx rfl rfl) rfl (eZ ?_))
  refine dw (t:=3) (f:=3) rfl rfl hB (.s2 (.past ob1 .all)) hsS rfl hsj omq rfl ⟨_,rfl,yH hlx⟩ rfl rfl (fun B3 hB3=>?_)
  refine o7 ?_
  refine TX.pubO hO (.s2 (.app _)) sq (fun H2 hle2 hR=>?_)
  refine TX.pubB (hB3.leH hle2) (.skip _ (.skip _ .all)) sq (fun H3 hle3 hBH=>?_)
  exact iN
 refine dN ?_
 refine af rfl ?_ ?_<;>intro c81
 ·
  refine lW ?_;refine eZ ?_
  refine dw (t:=3) (f:=9) rfl rfl hB (.s2 (.past ob1 .all)) hsS rfl hsj omq rfl ⟨_,rfl⟩ rfl rfl (fun B9 hB9=>?_)
  refine o7 ?_
  refine TX.pubO hO (.s2 (.app _)) sq (fun H2 hle2 hR=>?_)
  refine TX.pubB (hB9.leH hle2) (.skip _ (.skip _ .all)) sq (fun H3 hle3 hBH=>?_)
  exact iN
 refine dN ?_
 refine af rfl ?_ ?_<;>intro c87
 ·
  refine lW ?_;refine vX ?_;refine TL.run (fX rfl rfl omq) rfl (TL.run (dC rfl) rfl (eZ ?_))
  refine dw (t:=3) (f:=0) rfl rfl hB (.s2 (.past ob1 .all)) hsS rfl hsj omq rfl ⟨_,rfl⟩ rfl rfl (fun B0 hB0=>?_)
  refine o7 ?_
  refine TX.pubO hO (.s2 (.app _)) sq (fun H2 hle2 hR=>?_)
  refine TX.pubB (hB0.leH hle2) (.skip _ (.skip _ .all)) sq (fun H3 hle3 hBH=>?_)
  exact iN
 refine dN ?_
 refine af rfl ?_ ?_<;>intro c97
 ·
  refine lW ?_;refine vX ?_;refine TL.run (fX rfl rfl omq) rfl (TL.run (dC rfl) rfl (qt ?_));refine eZ ?_
  refine dw (t:=3) (f:=5) rfl rfl hB (.s2 (.past ob1 .all)) hsS rfl hsj omq rfl ⟨_,rfl⟩ rfl rfl (fun B5 hB5=>?_)
  refine o7 ?_
  refine TX.pubO hO (.s2 (.app _)) sq (fun H2 hle2 hR=>?_)
  refine TX.pubB (hB5.leH hle2) (.skip _ (.skip _ .all)) sq (fun H3 hle3 hBH=>?_)
  exact iN
 refine dN ?_
 refine af rfl ?_ ?_<;>intro c108
 ·
  refine jk ?_;refine eZ ?_
  refine dw (t:=3) (f:=4) rfl rfl hB (.s2 (.past ob1 .all)) hsS rfl hsj omq rfl ⟨_,rfl,by simp [PNm]⟩ rfl rfl (fun B4 hB4=>?_)
  refine o7 ?_
  refine TX.pubO hO (.s2 (.app _)) sq (fun H2 hle2 hR=>?_)
  refine TX.pubB (hB4.leH hle2) (.skip _ (.skip _ .all)) sq (fun H3 hle3 hBH=>?_)
  exact iN
 refine dN ?_
 refine af rfl ?_ ?_<;>intro c113
 ·
  refine zm2 ?_
  obtain⟨u_hcell,⟨wa,wn,wc,rfl,hws,hwn⟩,hcell⟩:=hB.get (t:=3) (f:=8) hsS rfl hsj (i:=m.toNat) omq rfl
  refine zm0 ?_;refine eZ ?_;refine zX ?_;refine TL.run (dj rfl rfl) rfl (zm1 ?_)
  refine af rfl ?_ ?_<;>intro c120
  ·
   refine TC.region ?_
   obtain⟨wa2,hwe,hws2⟩:=hws.tail (k:=3) omq rfl
   refine zm3 ?_;refine eZ ?_;refine zX ?_;refine TL.run (PR.to (uj rfl rfl omq omq) hwe) rfl (eZ ?_)
   refine dw (t:=3) (f:=8) rfl rfl hB (.s2 (.past ob1 .all)) hsS rfl hsj omq rfl ⟨_,_,_,rfl,hws2,by omega⟩ rfl rfl (fun B8 hB8=>?_)
   refine o7 ?_
   refine TX.pubO hO (.s2 (.app _)) sq (fun H2 hle2 hR=>?_)
   refine TX.pubB (hB8.leH hle2) (.skip _ (.skip _ .all)) sq (fun H3 hle3 hBH=>?_)
   exact iN
  refine TC.skip (CV ?_)
  refine TX.pubO hO (.s2 (.app _)) sq (fun H2 hle2 hR=>?_)
  refine TX.pubB (hB.leH hle2) (.skip _ (.skip _ .all)) sq (fun H3 hle3 hBH=>?_)
  exact iN
 refine dN ?_
 refine af rfl ?_ ?_<;>intro c129
 ·
  refine zm2 ?_
  obtain⟨u_hcell,⟨ca,cn,cc,rfl,hcs,hcn⟩,hcell⟩:=hB.get (t:=3) (f:=7) hsS rfl hsj (i:=m.toNat) omq rfl
  refine zm0 ?_;refine eZ ?_;refine zX ?_;refine TL.run (dj rfl rfl) rfl (zm1 ?_)
  refine af rfl ?_ ?_<;>intro c136
  ·
   refine TC.region ?_
   obtain⟨bc,jc,mc,hca,hcS,hcj⟩:=hcs.at omq
   refine zm0 ?_;refine eZ ?_;refine zX ?_;refine TL.run (cM rfl rfl hca omq omq) rfl (zm5 ?_)
   refine dw (t:=2) (f:=0) rfl rfl hB (.s2 (.past ob1 .all)) hcS rfl hcj (by show(0:Int).toNat<cn;simp;omega) rfl ⟨_,rfl,by simp [AnyNm]⟩ rfl rfl (fun B0c hB0c=>?_)
   refine o7 ?_
   refine TX.pubO hO (.s2 (.app _)) sq (fun H2 hle2 hR=>?_)
   refine TX.pubB (hB0c.leH hle2) (.skip _ (.skip _ .all)) sq (fun H3 hle3 hBH=>?_)
   exact iN
  refine TC.skip (CV ?_)
  refine TX.pubO hO (.s2 (.app _)) sq (fun H2 hle2 hR=>?_)
  refine TX.pubB (hB.leH hle2) (.skip _ (.skip _ .all)) sq (fun H3 hle3 hBH=>?_)
  exact iN
 refine dN ?_
 refine af rfl ?_ ?_<;>intro c143
 ·
  refine jk ?_;refine eZ ?_
  refine dw (t:=3) (f:=6) rfl rfl hB (.s2 (.past ob1 .all)) hsS rfl hsj omq rfl ⟨_,_,_,rfl,.nil,Nat.zero_le _⟩ rfl rfl (fun B6 hB6=>?_)
  refine o7 ?_
  refine TX.pubO hO (.s2 (.app _)) sq (fun H2 hle2 hR=>?_)
  refine TX.pubB (hB6.leH hle2) (.skip _ (.skip _ .all)) sq (fun H3 hle3 hBH=>?_)
  exact iN
 refine dN ?_
 refine af rfl ?_ ?_<;>intro c148
 ·
  refine lW ?_;refine zm3 ?_;refine eZ ?_
  refine dw (t:=3) (f:=0) rfl rfl hB (.s2 (.past ob1 .all)) hsS rfl hsj omq rfl ⟨_,rfl⟩ rfl rfl (fun B0a hB0a=>?_)
  refine eZ ?_
  refine dw (t:=3) (f:=1) rfl rfl hB0a (.s2 (.past ob1 .all)) hsS rfl hsj omq rfl ⟨_,rfl,.nil⟩ rfl rfl (fun B1b hB1b=>?_)
  refine eZ ?_
  refine dw (t:=3) (f:=5) rfl rfl hB1b (.s2 (.past ob1 .all)) hsS rfl hsj omq rfl ⟨_,rfl⟩ rfl rfl (fun B5d hB5d=>?_)
  refine eZ ?_
  refine dw (t:=3) (f:=9) rfl rfl hB5d (.s2 (.past ob1 .all)) hsS rfl hsj omq rfl ⟨_,rfl⟩ rfl rfl (fun B9e hB9e=>?_)
  refine o7 ?_
  refine TX.pubO hO (.s2 (.app _)) sq (fun H2 hle2 hR=>?_)
  refine TX.pubB (hB9e.leH hle2) (.skip _ (.skip _ .all)) sq (fun H3 hle3 hBH=>?_)
  exact iN
 refine pO ?_;refine zm0 ?_;refine TL.run (bN rfl rfl hO omq omq) rfl (zm5 ?_)
 refine f5 (a:=q) (a':={q with params:=[],pp:=(none,0)}) rfl rfl hO (.s2 (.app _)) hqx rfl rfl rfl rfl (fun ob1b hogb hO2=>?_)
 have hq2:∀x∈qs.set k.toNat {q with params:=[],pp:=(none,0)},GPOk H12 S x:=fun x hx=>by
  rcases List.mem_or_eq_of_mem_set hx with hx | rfl
  · exact hq x hx
  · have h9:=hq q (List.mem_of_getElem? hqx);exact⟨h9.nm,RdSl.nil,by simp,by simp,h9.t,h9.s,h9.s0,h9.tl,h9.sl⟩
 refine o7 ?_
 refine TX.pubO hO2 (.s2 (.app _)) sq (fun H2 hle2 hR=>?_)
 refine TX.pubB (hB.leH hle2) (.skip _ (.skip _ .all)) sq (fun H3 hle3 hBH=>?_)
 obtain⟨pg,hv,hpo,hgp,_,_⟩:=yt hBH (hR.le hle3) (fun x hx=>(hq2 x hx).le (hle2.trans hle3) (.refl _)) (hps.le (hle2.trans hle3)) ((hPs.le (hle2.trans hle3)).pk) hN (by first | omega | (simp;omega)) (by first | omega | (simp;omega))
 exact aR (.inr rfl) (ad rfl (RVal.cellA rfl (.h1) rfl)) ⟨pg,hv,hpo,hgp⟩
end Go.Sx
namespace Go.Sx
open Go
theorem fY {α β:Type}{f:α→β}{a b:List α}{k:Int}{x:α}(h:a.map f=b.map f)(hx:a[k.toNat]? =some x):∃y,b[k.toNat]? =some y∧f x=f y:=by
 have h1:(b.map f)[k.toNat]? =some (f x):=by rw [← h,List.getElem?_map,hx];rfl
 rw [List.getElem?_map] at h1
 cases hb:b[k.toNat]? with
 | none=>rw [hb] at h1;simp at h1
 | some y=>rw [hb] at h1;simp at h1;exact⟨y,rfl,h1.symm⟩
theorem fl {α β:Type}{f:α→β}{a b:List α}(h:a.map f=b.map f):(a.length:Int)=b.length:=by
 have:=congrArg List.length h;simp at this;omega
theorem cast_eq {x y:SCast}(h:x.bare=y.bare):x.role=y.role∧x.proc=y.proc∧x.args=y.args:=by
 unfold SCast.bare at h;simp at h;exact h
theorem step_eq {a b:SStep}(h:a.bare=b.bare):a.kind=b.kind∧a.name=b.name∧a.peer=b.peer∧a.label=b.label∧a.proc=b.proc∧a.term=b.term∧a.next=b.next∧a.args=b.args∧a.casts.map SCast.bare=b.casts.map SCast.bare∧a.ways=b.ways:=by
 unfold SStep.bare at h
 obtain⟨_,_,_,_,_,_,_,_,_,_,_,_,_⟩:=a
 obtain⟨_,_,_,_,_,_,_,_,_,_,_,_,_⟩:=b
 simp at h ⊢
 simp_all
theorem proc_eq {a b:SProc}(h:a.bare=b.bare):a.name=b.name∧a.params=b.params∧a.terms=b.terms∧a.steps.map SStep.bare=b.steps.map SStep.bare:=by
 unfold SProc.bare at h
 obtain⟨_,_,_,_,_,_,_⟩:=a
 obtain⟨_,_,_,_,_,_,_⟩:=b
 simp at h ⊢
 simp_all
theorem turn_eq {a b:STurn}(h:SArms.bare a=SArms.bare b):a.kind=b.kind∧a.peer=b.peer∧a.arms=b.arms:=by
 unfold SArms.bare at h
 obtain⟨_,_,_,_⟩:=a
 obtain⟨_,_,_,_⟩:=b
 simp at h ⊢
 simp_all
theorem Eu {a b:SLocal}(h:a.bare=b.bare):a.name=b.name∧a.turns.map SArms.bare=b.turns.map SArms.bare:=by
 unfold SLocal.bare at h
 obtain⟨_,_,_⟩:=a
 obtain⟨_,_,_⟩:=b
 simp at h ⊢
 simp_all
theorem BN {a b:SPoint}(h:a.bare=b.bare):a.frm=b.frm∧a.to=b.to∧a.arms=b.arms:=by
 unfold SPoint.bare at h
 obtain⟨_,_,_,_⟩:=a
 obtain⟨_,_,_,_⟩:=b
 simp at h ⊢
 simp_all
theorem DY {a b:SProto}(h:a.bare=b.bare):a.name=b.name∧a.roles=b.roles∧a.points.map SPoint.bare=b.points.map SPoint.bare:=by
 unfold SProto.bare at h
 obtain⟨_,_,_,_,_⟩:=a
 obtain⟨_,_,_,_,_⟩:=b
 simp at h ⊢
 simp_all
end Go.Sx
namespace Go.Sx
open Go Go.Proofs
theorem eqTerm (t:Term):ie Tryz.prog 4 45 t.cells t.cells=some true:=by
 have h:ie Tryz.prog 4 45 t.cells t.cells=some ((t.kind==t.kind)&&(((ByteArray.mk t.name.toArray).toList==(ByteArray.mk t.name.toArray).toList)&&((t.n==t.n)&&(((ByteArray.mk t.text.toArray).toList==(ByteArray.mk t.text.toArray).toList)&&((t.l==t.l)&&((t.r==t.r)&&true)))))):=by kernel_rfl
 rw [h];simp
theorem eqWay (t:SWay):ie Tryz.prog 4 66 t.cells t.cells=some true:=by
 have h:ie Tryz.prog 4 66 t.cells t.cells=some (((ByteArray.mk t.label.toArray).toList==(ByteArray.mk t.label.toArray).toList)&&(((ByteArray.mk t.name.toArray).toList==(ByteArray.mk t.name.toArray).toList)&&((t.next==t.next)&&true))):=by kernel_rfl
 rw [h];simp
theorem eqArm (t:SArm):ie Tryz.prog 4 175 t.cells t.cells=some true:=by
 have h:ie Tryz.prog 4 175 t.cells t.cells=some (((ByteArray.mk t.label.toArray).toList==(ByteArray.mk t.label.toArray).toList)&&(((t.ck==t.ck)&&(((ByteArray.mk t.cn.toArray).toList==(ByteArray.mk t.cn.toArray).toList)&&true))&&((t.next==t.next)&&true))):=by kernel_rfl
 rw [h];simp
theorem eqParam (t:SParam):ie Tryz.prog 4 42 t.cells t.cells=some true:=by
 have h:ie Tryz.prog 4 42 t.cells t.cells=some (((ByteArray.mk t.name.toArray).toList==(ByteArray.mk t.name.toArray).toList)&&(((t.ck==t.ck)&&(((ByteArray.mk t.cn.toArray).toList==(ByteArray.mk t.cn.toArray).toList)&&true))&&true)):=by kernel_rfl
 rw [h];simp
theorem lq {H:Hp}{l:List Int}{va vb:Value}(ha:RdSl H 1 I64.cells va l)(hb:RdSl H 1 I64.cells vb l):
  FnS Tryz.prog 144 [va,vb] H (.bool true):=by
 have hma:=ha.max
 obtain⟨aa,ac,rfl⟩:=ha.len
 obtain⟨ba,bc,rfl⟩:=hb.len
 refine FnS.enter Tryz.func144 Tryz.ntmps144 rfl rfl (fun w0=>?_)
 refine oq ?_
 refine aP rfl ?_ ?_<;>intro c10
 · exact absurd rfl c10
 refine m9 ?_
 refine TC.loop (V:=fun k=>[(5,.int .i64 k)]) (K:=[(0,_),(1,_),(4,_)]) (L:=fun k=>_) (I:=fun k=>0≤k∧k≤l.length) (μ:=fun k=>(l.length - k).toNat) (i:=(0:Int)) ky o2q (fun w hw=>hw) (fun k hI=>?_)
 refine oo ?_
 refine af rfl ?_ ?_<;>intro c14
 ·
  obtain⟨x,hx⟩:=al (l:=l) hI.1 c14
  refine oi ?_;refine TQ.run (aN ha hx rfl rfl) rfl (oh ?_);refine TQ.run (aN hb hx rfl rfl) rfl (kV ?_)
  refine aP rfl ?_ ?_<;>intro c25
  · exact absurd rfl c25
  exact io
 refine ga ?_
 exact ar (.inr rfl) (ad rfl (RVal.tmp rfl)) rfl
theorem ph {H:Hp}{l:List Str}{va vb:Value}(ha:RdSl H 1 Str.cells va l)(hb:RdSl H 1 Str.cells vb l):
  FnS Tryz.prog 88 [va,vb] H (.bool true):=by
 have hma:=ha.max
 obtain⟨aa,ac,rfl⟩:=ha.len
 obtain⟨ba,bc,rfl⟩:=hb.len
 refine FnS.enter Tryz.func88 Tryz.ntmps88 rfl rfl (fun w0=>?_)
 refine oq ?_
 refine aP rfl ?_ ?_<;>intro c10
 · exact absurd rfl c10
 refine m9 ?_
 refine TC.loop (V:=fun k=>[(5,.int .i64 k)]) (K:=[(0,_),(1,_),(4,_)]) (L:=fun k=>_) (I:=fun k=>0≤k∧k≤l.length) (μ:=fun k=>(l.length - k).toNat) (i:=(0:Int)) ky o2q (fun w hw=>hw) (fun k hI=>?_)
 refine oo ?_
 refine af rfl ?_ ?_<;>intro c14
 ·
  obtain⟨x,hx⟩:=al (l:=l) hI.1 c14
  refine oi ?_;refine TQ.run (aN ha hx rfl rfl) rfl (oh ?_);refine TQ.run (aN hb hx rfl rfl) rfl (TQ.run (bW rfl rfl rfl) rfl (TQ.nil (ag ?_)))
  refine aP rfl ?_ ?_<;>intro c25
  · exact absurd rfl c25
  exact io
 refine ga ?_
 exact ar (.inr rfl) (ad rfl (RVal.tmp rfl)) rfl
theorem j6 {H:Hp}{l:List SArm}{va vb:Value}(ha:RdSl H 4 SArm.cells va l)(hb:RdSl H 4 SArm.cells vb l):
  FnS Tryz.prog 89 [va,vb] H (.bool true):=by
 have hma:=ha.max
 obtain⟨aa,ac,rfl⟩:=ha.len
 obtain⟨ba,bc,rfl⟩:=hb.len
 refine FnS.enter Tryz.func89 Tryz.ntmps89 rfl rfl (fun w0=>?_)
 refine oq ?_
 refine aP rfl ?_ ?_<;>intro c10
 · exact absurd rfl c10
 refine m9 ?_
 refine TC.loop (V:=fun k=>[(5,.int .i64 k)]) (K:=[(0,_),(1,_),(4,_)]) (L:=fun k=>_) (I:=fun k=>0≤k∧k≤l.length) (μ:=fun k=>(l.length - k).toNat) (i:=(0:Int)) ky o2q (fun w hw=>hw) (fun k hI=>?_)
 refine oo ?_
 refine af rfl ?_ ?_<;>intro c14
 ·
  obtain⟨x,hx⟩:=al (l:=l) hI.1 c14
  refine oi ?_;refine TQ.run (bg ha hx rfl rfl) rfl (oh ?_);refine TQ.run (bg hb hx rfl rfl) rfl (TQ.run (lL (r:=true) rfl rfl kr kr (eqArm x)) rfl (TQ.nil (ag ?_)))
  refine TC.cond rfl ?_ ?_<;>intro c25
  · exact absurd c25 dq
  exact io
 refine ga ?_
 exact ar (.inr rfl) (ad rfl (RVal.tmp rfl)) rfl
theorem rA {H:Hp}{l:List Term}{va vb:Value}(ha:RdSl H 6 Term.cells va l)(hb:RdSl H 6 Term.cells vb l):
  FnS Tryz.prog 90 [va,vb] H (.bool true):=by
 have hma:=ha.max
 obtain⟨aa,ac,rfl⟩:=ha.len
 obtain⟨ba,bc,rfl⟩:=hb.len
 refine FnS.enter Tryz.func90 Tryz.ntmps90 rfl rfl (fun w0=>?_)
 refine oq ?_
 refine aP rfl ?_ ?_<;>intro c10
 · exact absurd rfl c10
 refine m9 ?_
 refine TC.loop (V:=fun k=>[(5,.int .i64 k)]) (K:=[(0,_),(1,_),(4,_)]) (L:=fun k=>_) (I:=fun k=>0≤k∧k≤l.length) (μ:=fun k=>(l.length - k).toNat) (i:=(0:Int)) ky o2q (fun w hw=>hw) (fun k hI=>?_)
 refine oo ?_
 refine af rfl ?_ ?_<;>intro c14
 ·
  obtain⟨x,hx⟩:=al (l:=l) hI.1 c14
  refine oi ?_;refine TQ.run (bg ha hx rfl rfl) rfl (oh ?_);refine TQ.run (bg hb hx rfl rfl) rfl (TQ.run (lL (r:=true) rfl rfl kr kr (eqTerm x)) rfl (TQ.nil (ag ?_)))
  refine TC.cond rfl ?_ ?_<;>intro c25
  · exact absurd c25 dq
  exact io
 refine ga ?_
 exact ar (.inr rfl) (ad rfl (RVal.tmp rfl)) rfl
theorem sD {H:Hp}{l:List SWay}{va vb:Value}(ha:RdSl H 3 SWay.cells va l)(hb:RdSl H 3 SWay.cells vb l):
  FnS Tryz.prog 146 [va,vb] H (.bool true):=by
 have hma:=ha.max
 obtain⟨aa,ac,rfl⟩:=ha.len
 obtain⟨ba,bc,rfl⟩:=hb.len
 refine FnS.enter Tryz.func146 Tryz.ntmps146 rfl rfl (fun w0=>?_)
 refine oq ?_
 refine aP rfl ?_ ?_<;>intro c10
 · exact absurd rfl c10
 refine m9 ?_
 refine TC.loop (V:=fun k=>[(5,.int .i64 k)]) (K:=[(0,_),(1,_),(4,_)]) (L:=fun k=>_) (I:=fun k=>0≤k∧k≤l.length) (μ:=fun k=>(l.length - k).toNat) (i:=(0:Int)) ky o2q (fun w hw=>hw) (fun k hI=>?_)
 refine oo ?_
 refine af rfl ?_ ?_<;>intro c14
 ·
  obtain⟨x,hx⟩:=al (l:=l) hI.1 c14
  refine oi ?_;refine TQ.run (bg ha hx rfl rfl) rfl (oh ?_);refine TQ.run (bg hb hx rfl rfl) rfl (TQ.run (lL (r:=true) rfl rfl kr kr (eqWay x)) rfl (TQ.nil (ag ?_)))
  refine TC.cond rfl ?_ ?_<;>intro c25
  · exact absurd c25 dq
  exact io
 refine ga ?_
 exact ar (.inr rfl) (ad rfl (RVal.tmp rfl)) rfl
theorem rz {H:Hp}{a b:List SCast}{va vb:Value}(ha:RdSl H 3 SCast.cells va a)(hb:RdSl H 3 SCast.cells vb b)(hA:CsAll H a)(hB:CsAll H b)(he:a.map SCast.bare=b.map SCast.bare):
  FnS Tryz.prog 145 [va,vb] H (.bool true):=by
 have hma:=ha.max
 have hel:=fl he
 obtain⟨aa,ac,rfl⟩:=ha.len
 obtain⟨ba,bc,rfl⟩:=hb.len
 refine FnS.enter Tryz.func145 Tryz.ntmps145 rfl rfl (fun w0=>?_)
 refine oq ?_
 refine aP rfl ?_ ?_<;>intro c10
 · exact absurd hel c10
 refine m9 ?_
 refine TC.loop (V:=fun k=>[(5,.int .i64 k)]) (K:=[(0,_),(1,_),(4,_)]) (L:=fun k=>_) (I:=fun k=>0≤k∧k≤a.length) (μ:=fun k=>(a.length - k).toNat) (i:=(0:Int)) ky o2q (fun w hw=>hw) (fun k hI=>?_)
 refine oo ?_
 refine af rfl ?_ ?_<;>intro c14
 ·
  obtain⟨x,hx⟩:=al (l:=a) hI.1 c14
  obtain⟨y,hy,hxy⟩:=fY he hx
  have hf:=cast_eq hxy
  have hlb:=iK hy
  have hax:=hA x (List.mem_of_getElem? hx)
  have hby:=(hB y (List.mem_of_getElem? hy)).cast hf.2.2.symm
  refine oi ?_;refine fP ?_;refine TQ.run (bh ha hx rfl rfl) rfl (oh ?_);refine fP ?_
  refine TQ.run (bh hb hy rfl rfl) rfl (TQ.run (bW rfl rfl rfl) rfl (TQ.run (aF rfl) rfl (eK (s:=28) rfl (fun g28=>?_) (fun g28=>?_))))
  ·
   have q28:=aO g28
   exact absurd hf.1 q28
  have q28:=aK g28
  refine lg ?_;refine zW ?_;refine iC ?_;refine bi rfl rfl (bh ha hx rfl rfl) rfl (lg ?_);refine zV ?_;refine iC ?_
  refine bi rfl rfl (bh hb hy rfl rfl) rfl (bi rfl rfl (bW rfl rfl rfl) rfl (lV ?_))
  refine eK (s:=41) rfl ?_ ?_<;>intro g41
  ·
   have q41:=aO g41
   exact absurd hf.2.1 q41
  have q41:=aK g41
  refine lg ?_;refine zW ?_;refine iC ?_;refine bi rfl rfl (bh ha hx rfl rfl) rfl (lg ?_);refine zV ?_;refine iC ?_
  refine bi rfl rfl (bh hb hy rfl rfl) rfl (jf rfl rfl (ab rfl rfl rfl rfl) (lq hax hby) rfl (wD ?_))
  refine TC.cond rfl ?_ ?_<;>intro c54
  · exact absurd c54 dq
  exact io
 refine ga ?_
 exact ar (.inr rfl) (ad rfl (RVal.tmp rfl)) rfl
theorem pf {H:Hp}{a b:List STurn}{va vb:Value}(ha:RdSl H 3 STurn.cells va a)(hb:RdSl H 3 STurn.cells vb b)(hA:TuAll H a)(hB:TuAll H b)(he:a.map SArms.bare=b.map SArms.bare):
  FnS Tryz.prog 44 [va,vb] H (.bool true):=by
 have hma:=ha.max
 have hel:=fl he
 obtain⟨aa,ac,rfl⟩:=ha.len
 obtain⟨ba,bc,rfl⟩:=hb.len
 refine FnS.enter Tryz.func44 Tryz.ntmps44 rfl rfl (fun w0=>?_)
 refine oq ?_
 refine aP rfl ?_ ?_<;>intro c10
 · exact absurd hel c10
 refine m9 ?_
 refine TC.loop (V:=fun k=>[(5,.int .i64 k)]) (K:=[(0,_),(1,_),(4,_)]) (L:=fun k=>_) (I:=fun k=>0≤k∧k≤a.length) (μ:=fun k=>(a.length - k).toNat) (i:=(0:Int)) ky o2q (fun w hw=>hw) (fun k hI=>?_)
 refine oo ?_
 refine af rfl ?_ ?_<;>intro c14
 ·
  obtain⟨x,hx⟩:=al (l:=a) hI.1 c14
  obtain⟨y,hy,hxy⟩:=fY he hx
  have hf:=turn_eq hxy
  have hlb:=iK hy
  have hax:=(hA x (List.mem_of_getElem? hx)).a
  have hby:=((hB y (List.mem_of_getElem? hy)).a).cast hf.2.2.symm
  refine oi ?_;refine fP ?_;refine TQ.run (bh ha hx rfl rfl) rfl (oh ?_);refine fP ?_;refine TQ.run (bh hb hy rfl rfl) rfl (lV ?_)
  refine eK (s:=28) rfl ?_ ?_<;>intro g28
  ·
   have q28:=aO g28
   exact absurd hf.1 q28
  have q28:=aK g28
  refine lg ?_;refine zW ?_;refine iC ?_;refine bi rfl rfl (bh ha hx rfl rfl) rfl (lg ?_);refine zV ?_;refine iC ?_
  refine bi rfl rfl (bh hb hy rfl rfl) rfl (bi rfl rfl (bW rfl rfl rfl) rfl (lV ?_))
  refine eK (s:=41) rfl ?_ ?_<;>intro g41
  ·
   have q41:=aO g41
   exact absurd hf.2.1 q41
  have q41:=aK g41
  refine lg ?_;refine zW ?_;refine iC ?_;refine bi rfl rfl (bh ha hx rfl rfl) rfl (lg ?_);refine zV ?_;refine iC ?_
  refine bi rfl rfl (bh hb hy rfl rfl) rfl (jf rfl rfl (ab rfl rfl rfl rfl) (j6 hax hby) rfl (wD ?_))
  refine TC.cond rfl ?_ ?_<;>intro c54
  · exact absurd c54 dq
  exact io
 refine ga ?_
 exact ar (.inr rfl) (ad rfl (RVal.tmp rfl)) rfl
end Go.Sx
