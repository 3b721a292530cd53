import Derived.Test.YtjnlogbbcceaoaaGreatL14
set_option linter.all false
set_option maxRecDepth 100000
set_option maxHeartbeats 32000000
namespace Go.Sx
open Go Go.Proofs
theorem jG {H : Hp} (p : SProto) (r : Str) (h1 : p.name.length ≤ 1000) (h2 : r.length ≤ 1000) :
  FnS Tryz.prog 68 [.agg p.cells.toArray, gs r] H (gs (p.name ++ r)) := by
 refine FnS.enter Tryz.func68 Tryz.ntmps68 rfl rfl (fun w0 => ?_)
 refine zm2 ?_
 refine TL.box rfl rfl (fun b2 => ?_)
 refine zm1 ?_; refine lG ?_; refine TL.run (dU rfl rfl (by omega)) rfl ?_; refine eh ?_
 exact ax (.inr rfl) (ae rfl (RVal.tmp rfl)) rfl
theorem sP {F : Fx} {V : WV} (p : SProto) (role : Str) (hp : ProtoOk V.H p) (hG : GPr p) (hr : AnyNm role) :
  WFn Tryz.prog F V 70 [.agg p.cells.toArray, gs role] 12 (fun v V1 => ∃ s, v = gs s ∧ VarNm s) := by
 refine WFn.enter Tryz.func70 Tryz.ntmps70 rfl rfl (fun m w0 hW hm => ?_)
 have hro := hp.r
 have hmx := hro.max
 have hr5 := hG.r5
 have hn1 := hG.n1
 refine zm2 ?_
 refine TL.box rfl rfl (fun b4 => ?_)
 refine vN ?_; refine ay (ab rfl rfl rfl rfl) (da 8) rfl (TL.alloc rfl (fun b7 => ?_))
 refine py ?_; refine aU [false, true, false, false] [(0, 1), (2, 1), (3, 4), (4, 1), (1, 5), (5, 1), (6, 5), (7, 1), (8, 5), (9, 1), (10, 0)] (by kernel_rfl) (by kernel_rfl) ?_; refine oo ?_
 refine aH (S0 (S1 SN)) (Hp.le.refl _) (fun _ _ => aD rfl (.here _) rfl) rfl ?_; refine zm5 ?_
 refine ar rfl (aA (F := F) (V := V) (m := m) [(b7, _), (b4, _)] rfl rfl (ab rfl rfl rfl rfl) (sQ) hW (by omega) rfl (fun v11 V11 hle11 hW11 hS11 hs11 ht11 hp11 => ?_))
 replace hro := hro.le hle11
 obtain ⟨s11, rfl, hv11⟩ := hp11
 refine au (S0 (S1 SN)) hle11 ?_; refine u7 ?_; refine au (S0 (S1 SN)) hle11 ?_; refine u7 ?_; refine au (S0 (S1 SN)) hle11 ?_; refine fR ?_; refine ju ?_; refine jr ?_; refine mA ?_
 refine rq (V := fun (k : Int) (V1 : WV) (r : Rw) => [(8, .int .i64 k)]) (K := [(0, _), (2, _), (4, _), (6, _), (7, _)]) (L := fun k V1 r => St (keys (F.L V)) w0 V.H V1.H ((b7, TStep.cells ⟨8, s11, role, p.name, [], -1, none, 0, 0, r.a, r.n, r.c, none, 0, 0, -1⟩) :: (b4, p.cells) :: Fx.L F V1)) (I := fun k V1 r => WI F V1 (m + 1 + 2 * k.toNat) ∧ (0 ≤ k ∧ k ≤ p.roles.length) ∧ V.H.le V1.H ∧ V.S.le V1.S ∧ V.sn ≤ V1.sn ∧ V.tn ≤ V1.tn ∧ SlT V1.S 2 r.a r.n r.c ∧ r.n ≤ k.toNat) (μ := fun k => (p.roles.length - k).toNat) 0 V11 ⟨none, 0, 0⟩ ky (⟨by simpa using hW11, ⟨by omega, by omega⟩, hle11, hS11, hs11, ht11, .nil, by simp⟩) (fun w hw => hw) (fun k V1 r hI => ?_)
 obtain ⟨hI1, ⟨k0, k1⟩, hI3, hI4, hI5, hI6, hI7, hI8⟩ := hI
 replace hro := hp.r.le hI3
 refine nv ?_; refine TL.run (ai rfl rfl hro) rfl ?_; refine zm1 ?_
 refine ag rfl (fun c22 => ?_) (fun c22 => ?_)
 ·
  obtain ⟨rr, hrx⟩ := ao (l := p.roles) k0 c22
  have hrr := hG.rl (List.mem_of_getElem? hrx)
  refine jm ?_; refine gS ?_; refine zm0 ?_; refine TL.run (af rfl hro rfl (by omega) (by omega)) rfl (TL.run (aM hro hrx rfl rfl) rfl ?_); refine vY ?_
  refine aW rfl (fun c31 => ?_) (fun c31 => ?_)
  ·
   refine eP ?_; refine zm385 ?_; refine nC ?_; refine zm4 ?_; refine rZ ?_; refine zm5 ?_; refine vo ?_
   refine aH (S1 (S1 SN)) (Hp.le.refl _) (fun _ _ => aM hro hrx rfl rfl) rfl (aH (S1 (S1 SN)) (Hp.le.refl _) (fun _ _ => bu rfl (.there _ (.here _)) rfl) rfl ?_); refine zm4 ?_; refine rZ ?_; refine zm5 ?_
   refine vo ?_; refine aH (S1 (S1 SN)) (Hp.le.refl _) (fun _ _ => aM hro hrx rfl rfl) rfl ?_; refine ly ?_; refine lE ?_
   refine my (ab rfl rfl rfl rfl) (jG p rr (by omega) (by omega)) rfl (ar rfl (aC (X := [(b7, _), (b4, _), (F.bw, _)]) (bd := F.bd) rfl (ab rfl rfl rfl rfl) (bq 4 (by omega) hI1.d) rfl (fun v51 H51 at51 hle51 hd51 hp51 => ?_)))
   obtain ⟨rfl, r51, rfl, hr51⟩ := hp51
   refine au (S1 (S1 SN)) (Hp.le.refl _) (ar rfl (aA (F := F) (V := { V1 with at_ := at51 }) (m := m + 1 + 2 * k.toNat) [(b7, _), (b4, _)] rfl rfl (ab rfl rfl rfl rfl) (eK _) (hI1.dice (.refl _) hd51) (by omega) rfl (fun v52 V52 hle52 hW52 hS52 hs52 ht52 hp52 => ?_)))
   dsimp only at hle52 hS52 hs52 ht52 hp52
   obtain ⟨i52, rfl⟩ := hp52
   refine au (S1 (S1 SN)) hle52 (aE rfl rfl rfl rfl (fun b53 => ?_))
   refine dZ ?_
   refine aE rfl rfl rfl rfl (fun b55 => ?_)
   refine ar rfl (iQ (enc := I64.cells) (t := 4) (X := [(b55, _)]) (Y := [(b7, _), (b4, _), (F.bw, _), (F.bd, _)]) [_] rfl hW52.bag rfl rfl rfl (by intro y hy; exact ⟨⟨_, rfl⟩, trivial⟩) (fun Sb53 Bb53 hSb53 hNb53 hbb53 hBb53 => ?_))
   refine ip (enc := TCast.cells) (t := 2) rfl rfl rfl (hW52.bagA hSb53 hNb53 hBb53).bag (hI7.le (hS52.trans (hSb53))) (Src.own [⟨rr, p.name ++ rr, some ⟨b53, 0, none⟩, 1, 1⟩] (.here _) rfl rfl) rfl (by intro y hy; rw [List.mem_singleton.1 hy]; exact TCast.all (s := ⟨rr, p.name ++ rr, some ⟨b53, 0, none⟩, 1, 1⟩) (Nat.le_trans hrr (by decide)) (hG.proc hrr) (SlT.blk hbb53 (by show 1 ≤ 9223372036854775807; decide)) (by have := hW52.n10; dsimp only at *; omega)) zt2 (by simp only [List.length_cons, List.length_nil]; omega) rfl (.skip _ (.skip _ (.skip _ (.skip _ (.skip _ .all))))) rfl (fun S56 a56 c56 B56 hS56 hN56 hT56 hB56 => ?_)
   change _ = _ + 1 at hN56
   refine au (S0 (S1 (S1 SN))) hle52 ?_; refine pA ?_; refine sj ?_
   exact gC (k + 1) ({ { V52 with S := Sb53, B := Bb53 } with S := S56, B := B56 }) ⟨a56, r.n + 1, c56⟩ (⟨((hW52.bagA hSb53 hNb53 hBb53).bagT hS56 hN56 hB56).more (by omega), ⟨by omega, by omega⟩, hI3.trans hle52, (hI4.trans (hS52.trans (hSb53.trans (hS56)))), by dsimp only; omega, by dsimp only; omega, hT56, by dsimp only; omega⟩) ky (fun w hw => hw.drop) (by omega)
  refine ig ?_
  exact gC (k + 1) V1 r (⟨hI1.more (by omega), ⟨by omega, by omega⟩, hI3, hI4, hI5, hI6, hI7, by omega⟩) ky (fun w hw => hw) (by omega)
 refine fL ?_; refine u6 ?_
 refine aA (F := F) (V := V1) (m := m + 1 + 2 * k.toNat) [(b7, _), (b4, _)] rfl rfl (ab rfl rfl rfl rfl) (eX ⟨8, s11, role, p.name, [], -1, none, 0, 0, r.a, r.n, r.c, none, 0, 0, -1⟩ ⟨hv11, hr, by simp only [AnyNm]; omega, .nil, .nil, hI7, .nil, Nat.zero_le _, by have := hI1.n10; dsimp only; omega, Nat.zero_le _⟩) hI1 (by omega) rfl (fun v60 V60 hle60 hW60 hS60 hs60 ht60 hp60 => ?_)
 obtain ⟨rfl, hn60⟩ := hp60
 refine TL.nil (ad ?_); refine fw ?_; refine eh ?_
 exact bE (V' := V60) (X := [(b7, _), (b4, _)]) (.inr rfl) (ae rfl (RVal.tmp rfl)) rfl rfl (hW60.more (by omega)) (hI4.trans (hS60)) (by (try dsimp only); omega) (by (try dsimp only); omega) ⟨_, rfl, hv11⟩
end Go.Sx
namespace Go.Sx
open Go Go.Proofs
theorem BW {F : Fx} {V : WV} (s : Str) (hs : VarNm s) (ck : Int) (cn : Str) :
  WFn Tryz.prog F V 178 [gs s, .agg #[.int .i64 ck, gs cn]] 12 (fun v V1 => v = .tuple #[]) := by
 refine WFn.enter Tryz.func178 Tryz.ntmps178 rfl rfl (fun m w0 hW hm => ?_)
 refine zm2 ?_
 refine TL.box rfl rfl (fun b5 => ?_)
 refine TL.nil (ad (TC.seq ?_)); refine oY ?_
 refine aW rfl (fun c13 => ?_) (fun c13 => ?_)
 ·
  refine kI ?_; refine eU ?_; refine oZ ?_
  refine aC (X := [(b5, _), (F.bw, _)]) (bd := F.bd) rfl (ab rfl rfl rfl rfl) (bq 3 (by omega) hW.d) rfl (fun v18 H18 at18 hle18 hd18 hp18 => ?_)
  obtain ⟨rfl, r18, rfl, hr18⟩ := hp18
  refine zm1 ?_
  refine ag rfl (fun c19 => ?_) (fun c19 => ?_)
  ·
   refine zm2 ?_; refine ay (ab rfl rfl rfl rfl) (da 2) rfl (TL.alloc rfl (fun b6 => ?_))
   refine fu ?_; refine eJ ?_
   refine aA (F := F) (V := { V with at_ := at18 }) (m := m) [(b6, _), (b5, _)] rfl rfl (ab rfl rfl rfl rfl) (cJ s hs) (hW.dice (.refl _) hd18) (by omega) rfl (fun v23 V23 hle23 hW23 hS23 hs23 ht23 hp23 => ?_)
   dsimp only at hle23 hS23 hs23 ht23 hp23
   obtain ⟨i23, rfl⟩ := hp23
   refine mD ?_; refine ve ?_
   refine aA (F := F) (V := V23) (m := m + 1) [(b6, _), (b5, _)] rfl rfl (ab rfl rfl rfl rfl) (eX ⟨2, [], [], [], [], i23, none, 0, 0, none, 0, 0, none, 0, 0, -1⟩ ⟨.nil, .nil, .nil, .nil, .nil, .nil, .nil, Nat.zero_le _, Nat.zero_le _, Nat.zero_le _⟩) hW23 (by omega) rfl (fun v27 V27 hle27 hW27 hS27 hs27 ht27 hp27 => ?_)
   obtain ⟨rfl, hn27⟩ := hp27
   refine TL.nil (ad (TC.ret (al ?_)))
   exact bE (V' := V27) (X := [(b6, _), (b5, _)]) (.inr rfl) (cg rfl) rfl rfl (hW27.more (by omega)) (hS23.trans (hS27)) (by (try dsimp only); omega) (by (try dsimp only); omega) rfl
  refine d3 ?_
  exact TC.ret (al (bE (V' := { V with at_ := at18 }) (X := [(b5, _)]) (.inr rfl) (cg rfl) rfl rfl ((hW.dice (.refl _) hd18).more (by omega)) (.refl _) (by (try dsimp only); omega) (by (try dsimp only); omega) rfl))
 refine iS ?_; refine sH ?_; refine oZ ?_
 refine aC (X := [(b5, _), (F.bw, _)]) (bd := F.bd) rfl (ab rfl rfl rfl rfl) (bq 3 (by omega) hW.d) rfl (fun v32 H32 at32 hle32 hd32 hp32 => ?_)
 obtain ⟨rfl, r32, rfl, hr32⟩ := hp32
 refine zm1 ?_
 refine ag rfl (fun c33 => ?_) (fun c33 => ?_)
 ·
  refine zm2 ?_; refine ay (ab rfl rfl rfl rfl) (da 9) rfl (TL.alloc rfl (fun b7 => ?_))
  refine fu ?_; refine d7 ?_; refine vG ?_; refine f2 ?_
  refine aA (F := F) (V := { V with at_ := at32 }) (m := m) [(b7, _), (b5, _)] rfl rfl (ab rfl rfl rfl rfl) (eX ⟨9, s, [], [], [], -1, none, 0, 0, none, 0, 0, none, 0, 0, -1⟩ ⟨hs, .nil, .nil, .nil, .nil, .nil, .nil, Nat.zero_le _, Nat.zero_le _, Nat.zero_le _⟩) (hW.dice (.refl _) hd32) (by omega) rfl (fun v39 V39 hle39 hW39 hS39 hs39 ht39 hp39 => ?_)
  dsimp only at hle39 hS39 hs39 ht39 hp39
  obtain ⟨rfl, hn39⟩ := hp39
  refine TL.nil (ad (TC.ret (al ?_)))
  exact bE (V' := V39) (X := [(b7, _), (b5, _)]) (.inr rfl) (cg rfl) rfl rfl (hW39.more (by omega)) hS39 (by (try dsimp only); omega) (by (try dsimp only); omega) rfl
 refine lC ?_; refine fz ?_
 refine aA (F := F) (V := { V with at_ := at32 }) (m := m) [(b5, _)] rfl rfl (ab rfl rfl rfl rfl) (pU cn) (hW.dice (.refl _) hd32) (by omega) rfl (fun v44 V44 hle44 hW44 hS44 hs44 ht44 hp44 => ?_)
 dsimp only at hle44 hS44 hs44 ht44 hp44
 obtain ⟨p, rr, rfl, hp44, hr44⟩ := hp44
 have hG := hW44.fx.pg p hp44
 have hrr := hG.rl hr44
 have hn1 := hG.n1
 refine zm3 ?_; refine zm0 ?_
 refine TL.alloc rfl (fun b8 => ?_)
 refine fN ?_; refine vN ?_; refine ay (ab rfl rfl rfl rfl) (da 7) rfl (TL.alloc rfl (fun b10 => ?_))
 refine pG ?_; refine k9 ?_; refine zm0 ?_; refine BF ?_; refine mD ?_; refine k6 ?_
 refine TD.part 7 2 rfl rfl rfl ?_ ?_
 ·
  refine BE ?_; refine rR ?_; refine rY ?_
  refine ar rfl (aA (F := F) (V := V44) (m := m + 0) [(b10, _), (b8, _), (b5, _)] rfl rfl (ab rfl rfl rfl rfl) (cJ s hs) hW44 (by omega) rfl (fun v54 V54 hle54 hW54 hS54 hs54 ht54 hp54 => ?_))
  obtain ⟨i54, rfl⟩ := hp54
  exact au (S1 (S1 (S1 SN))) hle54 (zq641)
 refine BD ?_; refine vw ?_
 refine aA (F := F) (V := V44) (m := m + 0) [(b10, _), (b8, _), (b5, _)] rfl rfl (ab rfl rfl rfl rfl) (cJ s hs) hW44 (by omega) rfl (fun v54 V54 hle54 hW54 hS54 hs54 ht54 hp54 => ?_)
 obtain ⟨i54, rfl⟩ := hp54
 refine au (S1 (S1 (S1 SN))) hle54 ?_; refine rY ?_
 exact zq641
theorem z8 {F : Fx} {V : WV}  :
  WFn Tryz.prog F V 128 [] 20 (fun v V1 => v = .tuple #[] ∧ V.sn < V1.sn) := by
 refine WFn.enter Tryz.func128 Tryz.ntmps128 rfl rfl (fun m w0 hW hm => ?_)
 refine zm2 ?_; refine ay (ab rfl rfl rfl rfl) (da 3) rfl (TL.alloc rfl (fun b2 => ?_))
 refine fu ?_; refine eJ ?_
 refine aA (F := F) (V := V) (m := m) [(b2, _)] rfl rfl (ab rfl rfl rfl rfl) (eK 0) hW (by omega) rfl (fun v9 V9 hle9 hW9 hS9 hs9 ht9 hp9 => ?_)
 obtain ⟨i9, rfl⟩ := hp9
 refine zm0 ?_
 refine aA (F := F) (V := V9) (m := m + 1) [(b2, _)] rfl rfl (ab rfl rfl rfl rfl) (cJ [110] (.inr (.inr (.inl rfl)))) hW9 (by omega) rfl (fun v11 V11 hle11 hW11 hS11 hs11 ht11 hp11 => ?_)
 obtain ⟨i11, rfl⟩ := hp11
 refine aA (F := F) (V := V11) (m := m + 1 + 1) [(b2, _)] rfl rfl (ab rfl rfl rfl rfl) (eY 12 i9 i11) hW11 (by omega) rfl (fun v12 V12 hle12 hW12 hS12 hs12 ht12 hp12 => ?_)
 obtain ⟨i12, rfl⟩ := hp12
 refine vG ?_; refine f2 ?_
 refine aA (F := F) (V := V12) (m := m + 1 + 1 + 1) [(b2, _)] rfl rfl (ab rfl rfl rfl rfl) (fA ⟨3, [], [], [], [], i12, none, 0, 0, none, 0, 0, none, 0, 0, -1⟩ ⟨.nil, .nil, .nil, .nil, .nil, .nil, .nil, Nat.zero_le _, Nat.zero_le _, Nat.zero_le _⟩) hW12 (by omega) rfl (fun v16 V16 hle16 hW16 hS16 hs16 ht16 hp16 => ?_)
 obtain ⟨rfl, hn16⟩ := hp16
 refine vx ?_; refine zm386 ?_
 obtain ⟨bw3, jw3, qw3, haw3, hbw3, hjw3⟩ := hW16.s.at (by omega)
 obtain ⟨uw3, huw3, hcw3⟩ := hW16.bag.get (k := 10) (i := (V12.sn : Int).toNat) (f := 8) hbw3 rfl hjw3 (by omega) rfl
 obtain ⟨waw3, wnw3, wcw3, rfl, hww3, hwnw3⟩ := huw3
 have hnbw3 := hW16.nb
 refine iA ?_; refine sI ?_; refine ly ?_; refine sI ?_; refine zm5 ?_; refine az (cU (tb := 3) rfl rfl haw3 (by omega) (by omega)) rfl ?_; refine zm4 ?_
 refine a7 (jI rfl hcw3 (.skip _ (.skip _ (.skip _ .all)))) rfl ?_; refine iA ?_; refine sI ?_; refine az (dv rfl rfl) rfl ?_; refine dZ ?_
 refine aE rfl rfl rfl rfl (fun b39 => ?_)
 refine ar rfl (ip (enc := SWay.cells) (t := 1) rfl rfl rfl hW16.bag hww3 (Src.own [⟨[], [], _⟩] (.here _) rfl rfl) rfl (by intro y hy; rw [List.mem_singleton.1 hy]; exact SWay.all (s := ⟨[], [], _⟩) .nil .nil) zt1 (by simp only [List.length_cons, List.length_nil]; omega) rfl (.skip _ (.skip _ (.skip _ (.skip _ .all)))) rfl (fun S40 a40 c40 B40 hS40 hN40 hT40 hB40 => ?_))
 change _ = _ + 1 at hN40
 refine au (S0 (S1 (S1 (S1 SN)))) (Hp.le.refl _) (az (cU (tb := 3) rfl rfl haw3 (by omega) (by omega)) rfl ?_); refine zm4 ?_
 refine ar rfl (dB (t := 3) (f := 8) (ct := .sl 1) rfl rfl (hW16.bagT hS40 hN40 hB40).bag (.skip _ (.skip _ (.skip _ (.skip _ .all)))) (hS40.1 _ _ hbw3) rfl hjw3 (by omega) rfl (⟨_, _, _, rfl, hT40, by simp only [List.length_cons, List.length_nil]; omega⟩) rfl rfl (fun Bst1 hBst1 => ?_))
 refine au (S0 (S1 (S1 (S1 SN)))) (Hp.le.refl _) (TF.nil (ad ?_)); refine zm2 ?_; refine ay (ab rfl rfl rfl rfl) (da 6) rfl (TL.alloc rfl (fun b4 => ?_))
 refine fu ?_; refine sH ?_; refine kv ?_; refine vG ?_
 refine aA (F := F) (V := { { V16 with S := S40, B := B40 } with B := Bst1 }) (m := m + 1 + 1 + 1 + 1 + 1) [(b4, _), (b39, _), (b2, _)] rfl rfl (ab rfl rfl rfl rfl) (cJ [99] (.inr (.inl rfl))) ((hW16.bagT hS40 hN40 hB40).bagB hBst1) (by omega) rfl (fun v50 V50 hle50 hW50 hS50 hs50 ht50 hp50 => ?_)
 dsimp only at hle50 hS50 hs50 ht50 hp50
 obtain ⟨i50, rfl⟩ := hp50
 refine zm0 ?_
 refine aA (F := F) (V := V50) (m := m + 1 + 1 + 1 + 1 + 1 + 1) [(b4, _), (b39, _), (b2, _)] rfl rfl (ab rfl rfl rfl rfl) (BX) hW50 (by omega) rfl (fun v52 V52 hle52 hW52 hS52 hs52 ht52 hp52 => ?_)
 obtain ⟨i52, rfl⟩ := hp52
 refine aB rfl rfl rfl rfl (fun b53 => ?_)
 refine vV ?_; refine gV ?_
 refine iQ (enc := I64.cells) (t := 4) (X := []) (Y := [(b4, _), (b39, _), (b2, _), (F.bw, _), (F.bd, _)]) [_, _] rfl hW52.bag rfl rfl rfl (by intro y hy; exact ⟨⟨_, rfl⟩, trivial⟩) (fun Sb53 Bb53 hSb53 hNb53 hbb53 hBb53 => ?_)
 refine zm0 ?_; refine f2 ?_
 refine aA (F := F) (V := { V52 with S := Sb53, B := Bb53 }) (m := m + 1 + 1 + 1 + 1 + 1 + 1 + 3) [(b4, _), (b39, _), (b2, _)] rfl rfl (ab rfl rfl rfl rfl) (fA ⟨6, [], [], [], F.self, -1, some ⟨b53, 0, none⟩, 2, 2, none, 0, 0, none, 0, 0, -1⟩ ⟨.nil, .nil, .nil, hW.fx.sf, (SlT.blk hbb53 le2), .nil, .nil, (by have := hW52.n10; dsimp only at *; omega), Nat.zero_le _, Nat.zero_le _⟩) (hW52.bagA hSb53 hNb53 hBb53) (by omega) rfl (fun v57 V57 hle57 hW57 hS57 hs57 ht57 hp57 => ?_)
 dsimp only at hle57 hS57 hs57 ht57 hp57
 obtain ⟨rfl, hn57⟩ := hp57
 refine gE ?_
 refine aA (F := F) (V := V57) (m := m + 1 + 1 + 1 + 1 + 1 + 1 + 3 + 1) [(b4, _), (b39, _), (b2, _)] rfl rfl (ab rfl rfl rfl rfl) (mF false) hW57 (by omega) rfl (fun v59 V59 hle59 hW59 hS59 hs59 ht59 hp59 => ?_)
 obtain ⟨rfl, hn59⟩ := hp59
 refine zm1 ?_; refine eP ?_; refine zm367 ?_
 obtain ⟨bw9, jw9, qw9, haw9, hbw9, hjw9⟩ := hW59.s.at (by omega)
 obtain ⟨uw9, huw9, hcw9⟩ := hW59.bag.get (k := 10) (i := (V12.sn : Int).toNat) (f := 8) hbw9 rfl hjw9 (by omega) rfl
 obtain ⟨waw9, wnw9, wcw9, rfl, hww9, hwnw9⟩ := huw9
 have hnbw9 := hW59.nb
 refine iA ?_; refine jp ?_; refine ly ?_; refine jp ?_; refine zm5 ?_; refine az (cU (tb := 3) rfl rfl haw9 (by omega) (by omega)) rfl ?_; refine zm4 ?_
 refine a7 (jI rfl hcw9 (.skip _ (.skip _ (.skip _ (.skip _ (.skip _ .all)))))) rfl ?_; refine vr ?_
 refine aE rfl rfl rfl rfl (fun b77 => ?_)
 refine ar rfl (ip (enc := SWay.cells) (t := 1) rfl rfl rfl hW59.bag hww9 (Src.own [⟨[], [], _⟩] (.here _) rfl rfl) rfl (by intro y hy; rw [List.mem_singleton.1 hy]; exact SWay.all (s := ⟨[], [], _⟩) .nil .nil) zt1 (by simp only [List.length_cons, List.length_nil]; omega) rfl (.skip _ (.skip _ (.skip _ (.skip _ (.skip _ (.skip _ .all)))))) rfl (fun S78 a78 c78 B78 hS78 hN78 hT78 hB78 => ?_))
 change _ = _ + 1 at hN78
 refine nu ?_; refine az (cU (tb := 3) rfl rfl haw9 (by omega) (by omega)) rfl ?_; refine zm4 ?_
 refine ar rfl (dB (t := 3) (f := 8) (ct := .sl 1) rfl rfl (hW59.bagT hS78 hN78 hB78).bag (.skip _ (.skip _ (.skip _ (.skip _ (.skip _ (.skip _ .all)))))) (hS78.1 _ _ hbw9) rfl hjw9 (by omega) rfl (⟨_, _, _, rfl, hT78, by simp only [List.length_cons, List.length_nil]; omega⟩) rfl rfl (fun Bst2 hBst2 => ?_))
 refine nu ?_
 exact TF.nil (bE (V' := { { V59 with S := S78, B := B78 } with B := Bst2 }) (X := [(b77, _), (b4, _), (b39, _), (b2, _)]) (.inl rfl) (cg rfl) rfl rfl (((hW59.bagT hS78 hN78 hB78).bagB hBst2).more (by omega)) (hS9.trans (hS11.trans (hS12.trans (hS16.trans (hS40.trans (hS50.trans (hS52.trans (hSb53.trans (hS57.trans (hS59.trans (hS78))))))))))) (by (try dsimp only); omega) (by (try dsimp only); omega) ⟨rfl, by (try dsimp only); omega⟩)
end Go.Sx
namespace Go.Sx
open Go Go.Proofs
theorem pV {F : Fx} {V : WV} {T : SLocal} (hG : TG F T) (turn arm deep : Int) {K : Nat} (h0 : 0 ≤ turn) (h1 : turn < T.turns.length) (harm : ∀ t, T.turns[turn.toNat]? = some t → 0 ≤ arm ∧ arm < t.arms.length) (ih : ∀ (V : WV) (turn : Int), 0 ≤ turn → turn < T.turns.length → WFn Tryz.prog F V 69 [.int .i64 turn, .int .i64 (deep + 1)] K (fun v V1 => v = .tuple #[] ∧ V.sn < V1.sn)) (hK : K ≤ 9000000) (hdp : 0 ≤ deep ∧ deep ≤ 100) :
  WFn Tryz.prog F V 131 [.int .i64 turn, .int .i64 arm, .int .i64 deep] (K + 20) (fun v V1 => v = .int .i64 (V.sn : Int) ∧ V.sn < V1.sn) := by
 refine WFn.enter Tryz.func131 Tryz.ntmps131 rfl rfl (fun m w0 hW hm => ?_)
 have hGg := hG.g
 have hr1 := hG.r1
 have hr0 := hG.r0
 have hty := hW.fx.ty
 have htk := hW.fx.tk T (List.mem_of_getElem? hGg)
 have hts := htk.t
 have htm := hts.max
 obtain ⟨t, htx⟩ := ao (l := T.turns) h0 h1
 have hTt := hG.ts t (List.mem_of_getElem? htx)
 have hta := (htk.ts t (List.mem_of_getElem? htx)).a
 have ha6 := hTt.a6
 have ham := hta.max
 have hKB := hK
 obtain ⟨q0, q1⟩ := harm t htx
 obtain ⟨x, hax⟩ := ao (l := t.arms) q0 q1
 have hxm := List.mem_of_getElem? hax
 have hxn := hTt.nx x hxm
 refine lz ?_; refine eU ?_; refine fz ?_; refine TL.run (dv rfl rfl) rfl ?_; refine vx ?_; refine BC ?_; refine rX ?_; refine rX ?_; refine az (af rfl hty rfl (by omega) (by omega)) rfl ?_
 refine zm4 ?_; refine aH (S1 (S1 SN)) (Hp.le.refl _) (fun _ _ => br hty hGg rfl rfl) rfl ?_; refine zm5 ?_
 refine az (af rfl hts rfl (by omega) (by omega)) rfl (aH (S1 (S1 SN)) (Hp.le.refl _) (fun _ _ => bh hts htx rfl rfl) rfl (TF.alloc rfl (fun b10 => ?_)))
 refine u9 ?_; refine TF.nil (ad ?_); refine lG ?_; refine TL.run (af rfl hta rfl (by omega) (by omega)) rfl (TL.run (bh hta hax rfl rfl) rfl (TL.alloc rfl (fun b11 => ?_)))
 refine pG ?_; refine ay (ab rfl rfl rfl rfl) (da 4) rfl (TL.alloc rfl (fun b12 => ?_))
 refine py ?_; refine aU [false, true, true, true, true] [(0, 1), (1, 4), (2, 1), (3, 4), (4, 1), (5, 5), (6, 1), (7, 5), (8, 1), (9, 0)] (by kernel_rfl) (by kernel_rfl) ?_; refine zm4 ?_
 refine aH (S0 (S1 (S1 (S1 (S1 SN))))) (Hp.le.refl _) (fun _ _ => aD rfl (.there _ (.here _)) rfl) rfl ?_; refine zm4 ?_
 refine aH (S0 (S1 (S1 (S1 (S1 SN))))) (Hp.le.refl _) (fun _ _ => aD rfl (.here _) rfl) rfl ?_; refine u7 ?_; refine rW ?_; refine u7 ?_; refine rW ?_; refine fR ?_; refine ju ?_; refine jr ?_
 refine TC.seq ?_; refine gr ?_; refine iz ?_; refine sF ?_
 refine ag rfl (fun c57 => ?_) (fun c57 => ?_)
 ·
  refine TC.skip (bA (ad ?_)); refine u6 ?_
  refine aA (F := F) (V := V) (m := m) [(b12, _), (b11, _), (b10, _)] rfl rfl (ab rfl rfl rfl rfl) (eX ⟨4, [99], t.peer, x.label, [], (-1), none, 0, 0, none, 0, 0, none, 0, 0, -1⟩ ⟨(.inr (.inl rfl)), hTt.peer, (hTt.lb x hxm), .nil, .nil, .nil, .nil, Nat.zero_le _, Nat.zero_le _, Nat.zero_le _⟩) hW (by omega) rfl (fun v78 V78 hle78 hW78 hS78 hs78 ht78 hp78 => ?_)
  obtain ⟨rfl, hn78⟩ := hp78
  refine gE ?_; refine iz ?_; refine u5 ?_
  refine aA (F := F) (V := V78) (m := m + 1) [(b12, _), (b11, _), (b10, _)] rfl rfl (ab rfl rfl rfl rfl) (ih _ x.next hxn.1 hxn.2) hW78 (by omega) rfl (fun v84 V84 hle84 hW84 hS84 hs84 ht84 hp84 => ?_)
  obtain ⟨rfl, hn84⟩ := hp84
  refine vd ?_
  exact bE (V' := V84) (X := [(b12, _), (b11, _), (b10, _)]) (.inr rfl) (ae rfl (RVal.tmp rfl)) rfl rfl (hW84.more (by omega)) (hS78.trans (hS84)) (by (try dsimp only); omega) (by (try dsimp only); omega) ⟨rfl, by (try dsimp only); omega⟩
 refine dN ?_
 refine ag rfl (fun c59 => ?_) (fun c59 => ?_)
 ·
  refine d7 ?_; refine zm7 ?_; refine iz ?_
  refine aA (F := F) (V := V) (m := m) [(b12, _), (b11, _), (b10, _)] rfl rfl (ab rfl rfl rfl rfl) (pU x.cn) hW (by omega) rfl (fun v66 V66 hle66 hW66 hS66 hs66 ht66 hp66 => ?_)
  obtain ⟨p, rr, rfl, hp66, hr66⟩ := hp66
  have hGp := hW66.fx.pg p hp66
  have hrr := hGp.rl hr66
  refine zm3 ?_; refine zm0 ?_
  refine TL.alloc rfl (fun b13 => ?_)
  refine fN ?_; refine zm1 ?_; refine jh ?_; refine f2 ?_; refine zm0 ?_
  refine aA (F := F) (V := V66) (m := m + 0) [(b13, _), (b12, _), (b11, _), (b10, _)] rfl rfl (ab rfl rfl rfl rfl) (sP p rr (hW66.fx.pk p hp66) hGp (Nat.le_trans hrr (by decide))) hW66 (by omega) rfl (fun v73 V73 hle73 hW73 hS73 hs73 ht73 hp73 => ?_)
  obtain ⟨s73, rfl, hv73⟩ := hp73
  refine aA (F := F) (V := V73) (m := m + 0 + 12) [(b13, _), (b12, _), (b11, _), (b10, _)] rfl rfl (ab rfl rfl rfl rfl) (cJ s73 hv73) hW73 (by omega) rfl (fun v74 V74 hle74 hW74 hS74 hs74 ht74 hp74 => ?_)
  obtain ⟨i74, rfl⟩ := hp74
  refine vV ?_; refine TL.nil (bA (ad ?_)); refine d7 ?_; refine k9 ?_
  refine aA (F := F) (V := V74) (m := m + 0 + 12 + 1) [(b13, _), (b12, _), (b11, _), (b10, _)] rfl rfl (ab rfl rfl rfl rfl) (eX ⟨4, [99], t.peer, x.label, [], i74, none, 0, 0, none, 0, 0, none, 0, 0, -1⟩ ⟨(.inr (.inl rfl)), hTt.peer, (hTt.lb x hxm), .nil, .nil, .nil, .nil, Nat.zero_le _, Nat.zero_le _, Nat.zero_le _⟩) hW74 (by omega) rfl (fun v78 V78 hle78 hW78 hS78 hs78 ht78 hp78 => ?_)
  obtain ⟨rfl, hn78⟩ := hp78
  refine gE ?_; refine k8 ?_; refine u5 ?_
  refine aA (F := F) (V := V78) (m := m + 0 + 12 + 1 + 1) [(b13, _), (b12, _), (b11, _), (b10, _)] rfl rfl (ab rfl rfl rfl rfl) (ih _ x.next hxn.1 hxn.2) hW78 (by omega) rfl (fun v84 V84 hle84 hW84 hS84 hs84 ht84 hp84 => ?_)
  obtain ⟨rfl, hn84⟩ := hp84
  refine vd ?_
  exact bE (V' := V84) (X := [(b13, _), (b12, _), (b11, _), (b10, _)]) (.inr rfl) (ae rfl (RVal.tmp rfl)) rfl rfl (hW84.more (by omega)) (hS66.trans (hS73.trans (hS74.trans (hS78.trans (hS84))))) (by (try dsimp only); omega) (by (try dsimp only); omega) ⟨rfl, by (try dsimp only); omega⟩
 refine iw ?_; refine zm7 ?_; refine iz ?_
 refine aA (F := F) (V := V) (m := m) [(b12, _), (b11, _), (b10, _)] rfl rfl (ab rfl rfl rfl rfl) (BY x.ck) hW (by omega) rfl (fun v55 V55 hle55 hW55 hS55 hs55 ht55 hp55 => ?_)
 obtain ⟨i55, rfl⟩ := hp55
 refine sA ?_; refine bA (ad ?_); refine u6 ?_
 refine aA (F := F) (V := V55) (m := m + 3) [(b12, _), (b11, _), (b10, _)] rfl rfl (ab rfl rfl rfl rfl) (eX ⟨4, [99], t.peer, x.label, [], i55, none, 0, 0, none, 0, 0, none, 0, 0, -1⟩ ⟨(.inr (.inl rfl)), hTt.peer, (hTt.lb x hxm), .nil, .nil, .nil, .nil, Nat.zero_le _, Nat.zero_le _, Nat.zero_le _⟩) hW55 (by omega) rfl (fun v78 V78 hle78 hW78 hS78 hs78 ht78 hp78 => ?_)
 obtain ⟨rfl, hn78⟩ := hp78
 refine gE ?_; refine iz ?_; refine u5 ?_
 refine aA (F := F) (V := V78) (m := m + 3 + 1) [(b12, _), (b11, _), (b10, _)] rfl rfl (ab rfl rfl rfl rfl) (ih _ x.next hxn.1 hxn.2) hW78 (by omega) rfl (fun v84 V84 hle84 hW84 hS84 hs84 ht84 hp84 => ?_)
 obtain ⟨rfl, hn84⟩ := hp84
 refine vd ?_
 exact bE (V' := V84) (X := [(b12, _), (b11, _), (b10, _)]) (.inr rfl) (ae rfl (RVal.tmp rfl)) rfl rfl (hW84.more (by omega)) (hS55.trans (hS78.trans (hS84))) (by (try dsimp only); omega) (by (try dsimp only); omega) ⟨rfl, by (try dsimp only); omega⟩
end Go.Sx
namespace Go.Sx
open Go Go.Proofs
theorem z7 {F : Fx} {V : WV} {T : SLocal} (hG : TG F T) (turn deep : Int) {K : Nat} (h0 : 0 ≤ turn) (h1 : turn < T.turns.length) (ih : ∀ (V : WV) (turn : Int), 0 ≤ turn → turn < T.turns.length → WFn Tryz.prog F V 69 [.int .i64 turn, .int .i64 (deep + 1)] K (fun v V1 => v = .tuple #[] ∧ V.sn < V1.sn)) (hK : K ≤ 9000000) (hdp : 0 ≤ deep ∧ deep ≤ 100) :
  WFn Tryz.prog F V 129 [.int .i64 turn, .int .i64 deep] (6 * (K + 40) + 20) (fun v V1 => v = .tuple #[] ∧ V.sn < V1.sn) := by
 refine WFn.enter Tryz.func129 Tryz.ntmps129 rfl rfl (fun m w0 hW hm => ?_)
 have hGg := hG.g
 have hr1 := hG.r1
 have hr0 := hG.r0
 have hty := hW.fx.ty
 have htk := hW.fx.tk T (List.mem_of_getElem? hGg)
 have hts := htk.t
 have htm := hts.max
 obtain ⟨t, htx⟩ := ao (l := T.turns) h0 h1
 have hTt := hG.ts t (List.mem_of_getElem? htx)
 have hta := (htk.ts t (List.mem_of_getElem? htx)).a
 have ha6 := hTt.a6
 have ham := hta.max
 have hKB := hK
 have hta0 := hta
 refine k6 ?_; refine BC ?_; refine rX ?_; refine rX ?_; refine az (af rfl hty rfl (by omega) (by omega)) rfl ?_; refine zm4 ?_
 refine aH (S1 (S1 SN)) (Hp.le.refl _) (fun _ _ => br hty hGg rfl rfl) rfl ?_; refine zm5 ?_
 refine az (af rfl hts rfl (by omega) (by omega)) rfl (aH (S1 (S1 SN)) (Hp.le.refl _) (fun _ _ => bh hts htx rfl rfl) rfl (TF.alloc rfl (fun b6 => ?_)))
 refine u9 ?_; refine TF.nil (ad ?_); refine zm2 ?_; refine ay (ab rfl rfl rfl rfl) (da 5) rfl (TL.alloc rfl (fun b7 => ?_))
 refine py ?_; refine aU [false, true, true, true] [(0, 1), (1, 4), (2, 1), (3, 5), (4, 1), (5, 0)] (by kernel_rfl) (by kernel_rfl) ?_; refine zm4 ?_
 refine aH (S0 (S1 (S1 (S1 SN)))) (Hp.le.refl _) (fun _ _ => aD rfl (.here _) rfl) rfl ?_; refine u7 ?_; refine au (S0 (S1 (S1 (S1 SN)))) (Hp.le.refl _) ?_; refine fR ?_; refine ju ?_; refine jr ?_
 refine u6 ?_
 refine aA (F := F) (V := V) (m := m) [(b7, _), (b6, _)] rfl rfl (ab rfl rfl rfl rfl) (fA ⟨5, [99], t.peer, [], [], -1, none, 0, 0, none, 0, 0, none, 0, 0, -1⟩ ⟨(.inr (.inl rfl)), hTt.peer, .nil, .nil, .nil, .nil, .nil, Nat.zero_le _, Nat.zero_le _, Nat.zero_le _⟩) hW (by omega) rfl (fun v34 V34 hle34 hW34 hS34 hs34 ht34 hp34 => ?_)
 replace hta := hta.le hle34
 obtain ⟨rfl, hn34⟩ := hp34
 refine iv ?_; refine jg ?_
 refine rq (V := fun (k : Int) (V1 : WV) (r : Rw) => [(9, .int .i64 k)]) (K := [(0, _), (2, _), (6, _), (8, _)]) (L := fun k V1 r => St (keys (F.L V)) w0 V.H V1.H ((b7, TStep.cells ⟨5, [99], t.peer, [], [], -1, none, 0, 0, none, 0, 0, none, 0, 0, -1⟩) :: (b6, t.cells) :: Fx.L F V1)) (I := fun k V1 r => WI F V1 (m + 1 + k.toNat * (K + 40)) ∧ (0 ≤ k ∧ k ≤ t.arms.length) ∧ V.H.le V1.H ∧ V.S.le V1.S ∧ V.sn < V1.sn ∧ V.tn ≤ V1.tn) (μ := fun k => (t.arms.length - k).toNat) 0 V34 ⟨none, 0, 0⟩ ky (⟨by simpa using hW34, ⟨by omega, by omega⟩, hle34, hS34, by omega, ht34⟩) (fun w hw => hw) (fun k V1 r hI => ?_)
 obtain ⟨hI1, ⟨k0, k1⟩, hI3, hI4, hI5, hI6⟩ := hI
 replace hta := hta0.le hI3
 refine nv ?_; refine TL.run (ai rfl rfl hta) rfl ?_; refine zm1 ?_
 refine ag rfl (fun c39 => ?_) (fun c39 => ?_)
 ·
  obtain ⟨x, hax⟩ := ao (l := t.arms) k0 c39
  have hxm := List.mem_of_getElem? hax
  have hxn := hTt.nx x hxm
  have hml := cmul_le (c := K + 40) (n := 6) k0 (by omega)
  have hmu := cmul (c := K + 40) k0
  refine vm ?_; refine aU [true, true, true, true] [(0, 1), (1, 4), (2, 1), (3, 1), (4, 1), (5, 4), (6, 1), (7, 1), (8, 1), (9, 1), (10, 4), (11, 1), (12, 1), (13, 3), (14, 5)] (by kernel_rfl) (by kernel_rfl) ?_
  refine uY ?_; refine zm5 ?_; refine az (af rfl hta rfl (by omega) (by omega)) rfl ?_; refine zm4 ?_; refine aH (S1 (S1 (S1 (S1 SN)))) (Hp.le.refl _) (fun _ _ => br hta hax rfl rfl) rfl ?_; refine iA ?_
  refine zm4 ?_; refine BB ?_; refine az (dv rfl rfl) rfl ?_; refine dZ ?_
  refine TF.alloc rfl (fun b10 => ?_)
  refine ar rfl ?_; refine fN ?_; refine rW ?_; refine TF.nil (ad (TC.seq ?_)); refine vM ?_; refine zm0 ?_; refine TL.run (af rfl hta rfl (by omega) (by omega)) rfl ?_; refine zm7 ?_; refine zm7 ?_
  refine TL.run (pr_el2 hta hax rfl rfl) rfl ?_; refine zm1 ?_
  refine aW rfl (fun c62 => ?_) (fun c62 => ?_)
  ·
   refine d7 ?_
   refine aA (F := F) (V := V1) (m := m + 1 + k.toNat * (K + 40)) [(b10, _), (b7, _), (b6, _)] rfl rfl (ab rfl rfl rfl rfl) (sQ) hI1 (by omega) rfl (fun v64 V64 hle64 hW64 hS64 hs64 ht64 hp64 => ?_)
   replace hta := hta.le hle64
   obtain ⟨s64, rfl, hv64⟩ := hp64
   refine mD ?_; refine eP ?_; refine aU [true, true, true, false, false] [(0, 1), (1, 1), (2, 4), (3, 1), (4, 4), (5, 1), (6, 1), (7, 1), (8, 4), (9, 5)] (by kernel_rfl) (by kernel_rfl) ?_; refine oo ?_
   refine aH (S1 (S1 (S1 SN))) (Hp.le.refl _) (fun _ _ => aD rfl (.here _) rfl) rfl ?_; refine zm4 ?_; refine aH (S1 (S1 (S1 SN))) (Hp.le.refl _) (fun _ _ => aD rfl (.there _ (.there _ (.here _))) rfl) rfl ?_
   refine zm5 ?_; refine az (af rfl hta rfl (by omega) (by omega)) rfl ?_; refine zm4 ?_
   refine aH (S1 (S1 (S1 SN))) (Hp.le.refl _) (fun _ _ => mV hta hax rfl rfl) rfl (ar rfl (aA (F := F) (V := V64) (m := m + 1 + k.toNat * (K + 40) + 1) [(b10, _), (b7, _), (b6, _)] rfl rfl (ab rfl rfl rfl rfl) (BW s64 hv64 x.ck x.cn) hW64 (by omega) rfl (fun v75 V75 hle75 hW75 hS75 hs75 ht75 hp75 => ?_)))
   replace hta := hta.le hle75
   obtain rfl := hp75
   refine au (S1 (S1 (S1 SN))) hle75 (TF.nil (ad ?_)); refine d7 ?_; refine k8 ?_; refine zm0 ?_; refine TL.run (af rfl hta rfl (by omega) (by omega)) rfl ?_; refine zm7 ?_
   refine TL.run (br hta hax rfl rfl) rfl ?_; refine u5 ?_
   refine aA (F := F) (V := V75) (m := m + 1 + k.toNat * (K + 40) + 1 + 12) [(b10, _), (b7, _), (b6, _)] rfl rfl (ab rfl rfl rfl rfl) (ih _ x.next hxn.1 hxn.2) hW75 (by omega) rfl (fun v85 V85 hle85 hW85 hS85 hs85 ht85 hp85 => ?_)
   obtain ⟨rfl, hn85⟩ := hp85
   refine TL.nil (ad ?_); refine eP ?_; refine zm368 ?_
   obtain ⟨bw12, jw12, qw12, haw12, hbw12, hjw12⟩ := hW85.s.at (by omega)
   obtain ⟨uw12, huw12, hcw12⟩ := hW85.bag.get (k := 10) (i := (V.sn : Int).toNat) (f := 8) hbw12 rfl hjw12 (by omega) rfl
   obtain ⟨waw12, wnw12, wcw12, rfl, hww12, hwnw12⟩ := huw12
   have hnbw12 := hW85.nb
   refine iA ?_; refine jp ?_; refine ly ?_; refine jp ?_; refine zm5 ?_; refine yL ?_; refine zm4 ?_
   refine a7 (jI rfl hcw12 (.skip _ (.skip _ (.skip _ (.skip _ (.skip _ .all)))))) rfl (aH (S1 (S1 (S1 (S1 (S1 SN))))) (Hp.le.refl _) (fun _ _ => bu rfl (.here _) rfl) rfl (aE rfl rfl rfl rfl (fun b102 => ?_)))
   refine ar rfl (ip (enc := SWay.cells) (t := 1) rfl rfl rfl hW85.bag hww12 (Src.own [⟨x.label, s64, _⟩] (.here _) rfl rfl) rfl (by intro y hy; rw [List.mem_singleton.1 hy]; exact SWay.all (s := ⟨x.label, s64, _⟩) (hTt.lb x hxm) hv64) zt1 (by simp only [List.length_cons, List.length_nil]; omega) rfl (.skip _ (.skip _ (.skip _ (.skip _ (.skip _ (.skip _ .all)))))) rfl (fun S103 a103 c103 B103 hS103 hN103 hT103 hB103 => ?_))
   change _ = _ + 1 at hN103
   refine nu ?_; refine yL ?_; refine zm4 ?_
   refine ar rfl (dB (t := 3) (f := 8) (ct := .sl 1) rfl rfl (hW85.bagT hS103 hN103 hB103).bag (.skip _ (.skip _ (.skip _ (.skip _ (.skip _ (.skip _ .all)))))) (hS103.1 _ _ hbw12) rfl hjw12 (by omega) rfl (⟨_, _, _, rfl, hT103, by simp only [List.length_cons, List.length_nil]; omega⟩) rfl rfl (fun Bst1 hBst1 => ?_))
   refine nu ?_; refine TF.nil ?_; refine li ?_
   exact gC (k + 1) ({ { V85 with S := S103, B := B103 } with B := Bst1 }) r (⟨((hW85.bagT hS103 hN103 hB103).bagB hBst1).more (by omega), ⟨by omega, by omega⟩, (((hI3.trans hle64).trans hle75).trans hle85), (hI4.trans (hS64.trans (hS75.trans (hS85.trans (hS103))))), by (try dsimp only); omega, by (try dsimp only); omega⟩) ky (fun w hw => hw.drop.drop) (by omega)
  refine lC ?_; refine k8 ?_; refine zm0 ?_; refine TL.run (af rfl hta rfl (by omega) (by omega)) rfl ?_; refine zm7 ?_; refine TL.run (br hta hax rfl rfl) rfl ?_; refine u5 ?_
  refine aA (F := F) (V := V1) (m := m + 1 + k.toNat * (K + 40)) [(b10, _), (b7, _), (b6, _)] rfl rfl (ab rfl rfl rfl rfl) (ih _ x.next hxn.1 hxn.2) hI1 (by omega) rfl (fun v85 V85 hle85 hW85 hS85 hs85 ht85 hp85 => ?_)
  obtain ⟨rfl, hn85⟩ := hp85
  refine TL.nil (ad ?_); refine eP ?_; refine zm368 ?_
  obtain ⟨bw12, jw12, qw12, haw12, hbw12, hjw12⟩ := hW85.s.at (by omega)
  obtain ⟨uw12, huw12, hcw12⟩ := hW85.bag.get (k := 10) (i := (V.sn : Int).toNat) (f := 8) hbw12 rfl hjw12 (by omega) rfl
  obtain ⟨waw12, wnw12, wcw12, rfl, hww12, hwnw12⟩ := huw12
  have hnbw12 := hW85.nb
  refine iA ?_; refine jp ?_; refine ly ?_; refine jp ?_; refine zm5 ?_; refine yL ?_; refine zm4 ?_
  refine a7 (jI rfl hcw12 (.skip _ (.skip _ (.skip _ (.skip _ (.skip _ .all)))))) rfl (aH (S1 (S1 (S1 (S1 (S1 SN))))) (Hp.le.refl _) (fun _ _ => bu rfl (.here _) rfl) rfl (aE rfl rfl rfl rfl (fun b102 => ?_)))
  refine ar rfl (ip (enc := SWay.cells) (t := 1) rfl rfl rfl hW85.bag hww12 (Src.own [⟨x.label, [], _⟩] (.here _) rfl rfl) rfl (by intro y hy; rw [List.mem_singleton.1 hy]; exact SWay.all (s := ⟨x.label, [], _⟩) (hTt.lb x hxm) .nil) zt1 (by simp only [List.length_cons, List.length_nil]; omega) rfl (.skip _ (.skip _ (.skip _ (.skip _ (.skip _ (.skip _ .all)))))) rfl (fun S103 a103 c103 B103 hS103 hN103 hT103 hB103 => ?_))
  change _ = _ + 1 at hN103
  refine nu ?_; refine yL ?_; refine zm4 ?_
  refine ar rfl (dB (t := 3) (f := 8) (ct := .sl 1) rfl rfl (hW85.bagT hS103 hN103 hB103).bag (.skip _ (.skip _ (.skip _ (.skip _ (.skip _ (.skip _ .all)))))) (hS103.1 _ _ hbw12) rfl hjw12 (by omega) rfl (⟨_, _, _, rfl, hT103, by simp only [List.length_cons, List.length_nil]; omega⟩) rfl rfl (fun Bst1 hBst1 => ?_))
  refine nu ?_; refine TF.nil ?_; refine li ?_
  exact gC (k + 1) ({ { V85 with S := S103, B := B103 } with B := Bst1 }) r (⟨((hW85.bagT hS103 hN103 hB103).bagB hBst1).more (by omega), ⟨by omega, by omega⟩, (hI3.trans hle85), (hI4.trans (hS85.trans (hS103))), by (try dsimp only); omega, by (try dsimp only); omega⟩) ky (fun w hw => hw.drop.drop) (by omega)
 have hml : k.toNat * (K + 40) ≤ 6 * (K + 40) := Nat.mul_le_mul_right _ (by omega)
 refine fL ?_; refine sH ?_; refine no ?_
 refine aC (X := [(b7, _), (b6, _), (F.bw, _)]) (bd := F.bd) rfl (ab rfl rfl rfl rfl) (bq 3 (by omega) hI1.d) rfl (fun v110 H110 at110 hle110 hd110 hp110 => ?_)
 obtain ⟨rfl, r110, rfl, hr110⟩ := hp110
 refine zm1 ?_
 refine ag rfl (fun c111 => ?_) (fun c111 => ?_)
 ·
  refine sH ?_; refine k8 ?_; refine TL.run (dv rfl rfl) rfl ?_; refine dy ?_
  refine TL.alloc rfl (fun b11 => ?_)
  refine pG ?_; refine ay (ab rfl rfl rfl rfl) (da 2) rfl (TL.alloc rfl (fun b12 => ?_))
  refine fu ?_; refine d7 ?_; refine dy ?_
  refine aA (F := F) (V := { V1 with at_ := at110 }) (m := m + 1 + k.toNat * (K + 40)) [(b12, _), (b11, _), (b7, _), (b6, _)] rfl rfl (ab rfl rfl rfl rfl) (gF ⟨3, [], 0, [108, 111, 115, 116], -1, -1⟩ .nil (by simp [AnyNm])) (hI1.dice (.refl _) hd110) (by omega) rfl (fun v122 V122 hle122 hW122 hS122 hs122 ht122 hp122 => ?_)
  dsimp only at hle122 hS122 hs122 ht122 hp122
  obtain ⟨i122, rfl⟩ := hp122
  refine vG ?_; refine f2 ?_
  refine aA (F := F) (V := V122) (m := m + 1 + k.toNat * (K + 40) + 1) [(b12, _), (b11, _), (b7, _), (b6, _)] rfl rfl (ab rfl rfl rfl rfl) (eX ⟨2, [], [], [], [], i122, none, 0, 0, none, 0, 0, none, 0, 0, -1⟩ ⟨.nil, .nil, .nil, .nil, .nil, .nil, .nil, Nat.zero_le _, Nat.zero_le _, Nat.zero_le _⟩) hW122 (by omega) rfl (fun v126 V126 hle126 hW126 hS126 hs126 ht126 hp126 => ?_)
  obtain ⟨rfl, hn126⟩ := hp126
  refine gE ?_
  refine ay (ab rfl rfl rfl rfl) (da 0) rfl (aA (F := F) (V := V126) (m := m + 1 + k.toNat * (K + 40) + 1 + 1) [(b12, _), (b11, _), (b7, _), (b6, _)] rfl rfl (ab rfl rfl rfl rfl) (fA ⟨0, [], [], [], [], -1, none, 0, 0, none, 0, 0, none, 0, 0, -1⟩ ⟨.nil, .nil, .nil, .nil, .nil, .nil, .nil, Nat.zero_le _, Nat.zero_le _, Nat.zero_le _⟩) hW126 (by omega) rfl (fun v129 V129 hle129 hW129 hS129 hs129 ht129 hp129 => ?_))
  obtain ⟨rfl, hn129⟩ := hp129
  refine TL.nil (ad ?_); refine eP ?_; refine zm387 ?_
  obtain ⟨bw19, jw19, qw19, haw19, hbw19, hjw19⟩ := hW129.s.at (by omega)
  obtain ⟨uw19, huw19, hcw19⟩ := hW129.bag.get (k := 10) (i := (V.sn : Int).toNat) (f := 8) hbw19 rfl hjw19 (by omega) rfl
  obtain ⟨waw19, wnw19, wcw19, rfl, hww19, hwnw19⟩ := huw19
  have hnbw19 := hW129.nb
  refine iA ?_; refine zm4 ?_; refine zm369 ?_; refine ly ?_; refine zm4 ?_; refine zm369 ?_; refine zm5 ?_; refine az (cU (tb := 3) rfl rfl haw19 (by omega) (by omega)) rfl ?_; refine zm4 ?_
  refine a7 (jI rfl hcw19 (.skip _ (.skip _ (.skip _ (.skip _ (.skip _ (.skip _ .all))))))) rfl (aH (S1 (S1 (S1 (S1 (S1 (S1 SN)))))) (Hp.le.refl _) (fun _ _ => bu rfl (.there _ (.here _)) rfl) rfl (aE rfl rfl rfl rfl (fun b146 => ?_)))
  refine ar rfl (ip (enc := SWay.cells) (t := 1) rfl rfl rfl hW129.bag hww19 (Src.own [⟨[], [], _⟩] (.here _) rfl rfl) rfl (by intro y hy; rw [List.mem_singleton.1 hy]; exact SWay.all (s := ⟨[], [], _⟩) .nil .nil) zt1 (by simp only [List.length_cons, List.length_nil]; omega) rfl (.skip _ (.skip _ (.skip _ (.skip _ (.skip _ (.skip _ (.skip _ .all))))))) rfl (fun S147 a147 c147 B147 hS147 hN147 hT147 hB147 => ?_))
  change _ = _ + 1 at hN147
  refine au (S0 (S1 (S1 (S1 (S1 (S1 (S1 SN))))))) (Hp.le.refl _) (az (cU (tb := 3) rfl rfl haw19 (by omega) (by omega)) rfl ?_); refine zm4 ?_
  refine ar rfl (dB (t := 3) (f := 8) (ct := .sl 1) rfl rfl (hW129.bagT hS147 hN147 hB147).bag (.skip _ (.skip _ (.skip _ (.skip _ (.skip _ (.skip _ (.skip _ .all))))))) (hS147.1 _ _ hbw19) rfl hjw19 (by omega) rfl (⟨_, _, _, rfl, hT147, by simp only [List.length_cons, List.length_nil]; omega⟩) rfl rfl (fun Bst1 hBst1 => ?_))
  exact au (S0 (S1 (S1 (S1 (S1 (S1 (S1 SN))))))) (Hp.le.refl _) (TF.nil (bE (V' := { { V129 with S := S147, B := B147 } with B := Bst1 }) (X := [(b146, _), (b12, _), (b11, _), (b7, _), (b6, _)]) (.inl rfl) (cg rfl) rfl rfl (((hW129.bagT hS147 hN147 hB147).bagB hBst1).more (by omega)) (hI4.trans (hS122.trans (hS126.trans (hS129.trans (hS147))))) (by (try dsimp only); omega) (by (try dsimp only); omega) ⟨rfl, by (try dsimp only); omega⟩))
 exact TC.skip (bE (V' := { V1 with at_ := at110 }) (X := [(b7, _), (b6, _)]) (.inl rfl) (cg rfl) rfl rfl ((hI1.dice (.refl _) hd110).more (by omega)) hI4 (by (try dsimp only); omega) (by (try dsimp only); omega) ⟨rfl, by (try dsimp only); omega⟩)
end Go.Sx
namespace Go.Sx
open Go Go.Proofs
theorem nQ {F : Fx} {V : WV} {T : SLocal} (hG : TG F T) (turn deep : Int) {K : Nat} (h0 : 0 ≤ turn) (h1 : turn < T.turns.length) (ih : 0 ≤ deep → deep ≤ 4 → ∀ (V : WV) (turn : Int), 0 ≤ turn → turn < T.turns.length → WFn Tryz.prog F V 69 [.int .i64 turn, .int .i64 (deep + 1)] K (fun v V1 => v = .tuple #[] ∧ V.sn < V1.sn)) (hK : K ≤ 9000000) (hdp : 0 ≤ deep ∧ deep ≤ 100) :
  WFn Tryz.prog F V 69 [.int .i64 turn, .int .i64 deep] (6 * (K + 40) + 60) (fun v V1 => v = .tuple #[] ∧ V.sn < V1.sn) := by
 refine WFn.enter Tryz.func69 Tryz.ntmps69 rfl rfl (fun m w0 hW hm => ?_)
 have hGg := hG.g
 have hr1 := hG.r1
 have hr0 := hG.r0
 have hty := hW.fx.ty
 have htk := hW.fx.tk T (List.mem_of_getElem? hGg)
 have hts := htk.t
 have htm := hts.max
 obtain ⟨t, htx⟩ := ao (l := T.turns) h0 h1
 have hTt := hG.ts t (List.mem_of_getElem? htx)
 have hta := (htk.ts t (List.mem_of_getElem? htx)).a
 have ha6 := hTt.a6
 have ham := hta.max
 have hKB := hK
 refine k6 ?_; refine BC ?_; refine rX ?_; refine rX ?_; refine az (af rfl hty rfl (by omega) (by omega)) rfl ?_; refine zm4 ?_
 refine aH (S1 (S1 SN)) (Hp.le.refl _) (fun _ _ => br hty hGg rfl rfl) rfl ?_; refine zm5 ?_
 refine az (af rfl hts rfl (by omega) (by omega)) rfl (aH (S1 (S1 SN)) (Hp.le.refl _) (fun _ _ => bh hts htx rfl rfl) rfl (TF.alloc rfl (fun b6 => ?_)))
 refine u9 ?_; refine TF.nil (ad (TC.block ?_)); refine fw ?_; refine kK ?_
 refine ag rfl (fun c38 => ?_) (fun c38 => ?_)
 ·
  refine iw ?_
  refine aA (F := F) (V := V) (m := m) [(b6, _)] rfl rfl (ab rfl rfl rfl rfl) (mF true) hW (by omega) rfl (fun v43 V43 hle43 hW43 hS43 hs43 ht43 hp43 => ?_)
  obtain ⟨rfl, hn43⟩ := hp43
  exact TL.nil (bA (bE (V' := V43) (X := [(b6, _)]) (.inl rfl) (cg rfl) rfl rfl (hW43.more (by omega)) hS43 (by (try dsimp only); omega) (by (try dsimp only); omega) ⟨rfl, by (try dsimp only); omega⟩))
 refine gU ?_
 refine aj (s := 47) rfl (fun g47 => ?_) (fun g47 => ?_)
 ·
  have q47 := of_decide_eq_true g47
  refine BQ ?_
  refine aj (s := 51) rfl (fun g51 => ?_) (fun g51 => ?_)
  ·
   have q51 := of_decide_eq_true g51
   refine cN ?_; refine aw rfl rfl (cr rfl) rfl ?_; refine fM ?_; refine cN ?_; refine kK ?_
   refine ag rfl (fun c44 => ?_) (fun c44 => ?_)
   ·
    refine iw ?_
    refine aA (F := F) (V := V) (m := m) [(b6, _)] rfl rfl (ab rfl rfl rfl rfl) (z8) hW (by omega) rfl (fun v59 V59 hle59 hW59 hS59 hs59 ht59 hp59 => ?_)
    obtain ⟨rfl, hn59⟩ := hp59
    exact TL.nil (bA (bE (V' := V59) (X := [(b6, _)]) (.inl rfl) (cg rfl) rfl rfl (hW59.more (by omega)) hS59 (by (try dsimp only); omega) (by (try dsimp only); omega) ⟨rfl, by (try dsimp only); omega⟩))
   exact zq657
  have q51 := of_decide_eq_false g51
  exact zq647
 have q47 := of_decide_eq_false g47
 refine lh ?_; refine zm3 ?_
 exact zq647
theorem sR {F : Fx} {T : SLocal} (hG : TG F T) : ∀ (N : Nat), N ≤ 5 → ∀ (V : WV) (turn deep : Int), 0 ≤ turn → turn < T.turns.length → 0 ≤ deep → deep ≤ 100 → 5 - deep ≤ N →
  WFn Tryz.prog F V 69 [.int .i64 turn, .int .i64 deep] (KB N) (fun v V1 => v = .tuple #[] ∧ V.sn < V1.sn)
 | 0, _, V, turn, deep, h0, h1, h2, h3, h4 => nQ hG turn deep (K := 0) h0 h1 (fun _ h => by omega) (by omega) ⟨h2, h3⟩
 | N + 1, hN, V, turn, deep, h0, h1, h2, h3, h4 => nQ hG turn deep (K := KB N) h0 h1 (fun _ h V' t' g0 g1 => sR hG N (by omega) V' t' (deep + 1) g0 g1 (by omega) (by omega) (by omega)) (xK (by omega)) ⟨h2, h3⟩
end Go.Sx
namespace Go.Sx
open Go Go.Proofs
theorem part_ok {H : Hp} {bd : Nat} {dl : Value} {at_ : Int} (hd : DiceOk H dl at_) {psv : Value} {ps : List SProto} (hps : RdSl H 3 SProto.cells psv ps) (hpk : ∀ p ∈ ps, ProtoOk H p) (hpg : ∀ p ∈ ps, GPr p) (hpn : 0 < ps.length) (p : SProto) (hp : ProtoOk H p) (hG : GPr p) {tyv : Value} {tys : List SLocal} (hty : RdSl H 2 SLocal.cells tyv tys) (htk : ∀ l ∈ tys, LocalOk H l) (role : Int) (carry : Str) (h0 : 0 ≤ role) (h1 : role < p.roles.length) (hcr : carry.length ≤ 1000) {T : SLocal} (hTG : ∀ F : Fx, F.tys = tys → F.role = role → TG F T) :
  DFn Tryz.prog bd dl at_ 31 [psv, .agg p.cells.toArray, tyv, .int .i64 role, gs carry] H (fun v H1 ob => ∃ S q, v = .agg (GProc.cells q).toArray ∧ Bag H1 S ob ∧ GPOk H1 S q ∧ S.N ≤ 10000000 ∧ q.params = [⟨[99], 5, carry⟩, ⟨[110], 1, []⟩] ∧ (∃ rr, p.roles[role.toNat]? = some rr ∧ q.name = p.name ++ rr)) := by
 obtain ⟨psa, psc, rfl⟩ := hps.len
 obtain ⟨tya, tyc, rfl⟩ := hty.len
 have hro := hp.r
 have hn1 := hG.n1
 obtain ⟨rr, hrx⟩ := ao (l := p.roles) h0 h1
 have hrr := hG.rl (List.mem_of_getElem? hrx)
 have hPV : ∀ x ∈ ([⟨[99], 5, carry⟩, ⟨[110], 1, []⟩] : List SParam), VarNm x.name ∧ x.cn.length ≤ 1000 := by
  intro x hx; simp only [List.mem_cons, List.not_mem_nil, or_false] at hx; rcases hx with rfl | rfl
  · exact ⟨.inr (.inl rfl), hcr⟩
  · exact ⟨.inr (.inr (.inl rfl)), by simp⟩
 refine FnX.enter Tryz.func31 Tryz.ntmps31 rfl rfl (fun w0 => ?_)
 refine zm2 ?_
 refine TL.box rfl rfl (fun b8 => ?_)
 refine TL.alloc rfl (fun b12 => ?_)
 refine TL.nil (ad ?_); refine nn ?_; refine TQ.run (bu rfl (.there _ (.here _)) rfl) rfl ?_; refine yD ?_
 refine TQ.run (af rfl hro rfl (by omega) (by omega)) rfl (TQ.run (aM hro hrx rfl rfl) rfl (gR (ab rfl rfl rfl rfl) (jG p rr (by omega) (by omega)) rfl ?_)); refine kL ?_; refine eJ ?_
 refine pK ?_
 refine aC (X := [(b12, _), (b8, _)]) (bd := bd) rfl (ab rfl rfl rfl rfl) (bq 7 (by omega) hd) rfl (fun v28 H28 at28 hle28 hd28 hp28 => ?_)
 obtain ⟨eH28, r28, rfl, hr28⟩ := hp28
 replace eH28 := eH28.symm; subst eH28
 have hra28 := hr28.1
 have hrb28 := hr28.2.1 (by omega)
 refine kJ ?_; refine dy ?_
 refine TL.box rfl rfl (fun b31 => ?_)
 refine zm1 ?_; refine gU ?_; refine dy ?_; refine dy ?_; refine dy ?_; refine dy ?_
 refine aB rfl rfl rfl rfl (fun b39 => ?_)
 refine dy ?_; refine eU ?_; refine kh rfl rfl rfl rfl rfl (.there _ (.here _)) (Nat.le_of_ble_eq_true (by kernel_rfl)) rfl ?_; refine gE ?_
 refine TL.pubN (by simp [keys]) (fun H_b39 le_b39 rd_b39 => ?_)
 replace hps := hps.le le_b39
 replace hty := hty.le le_b39
 replace hpk := fun x hx => (hpk x hx).le le_b39
 replace htk := fun x hx => (htk x hx).le le_b39
 replace hd28 := hd28.le le_b39
 have hpa : RdSl H_b39 3 SParam.cells _ ([⟨[99], 5, carry⟩, ⟨[110], 1, []⟩]) := RdSl.blk (cap := 2) rd_b39 (by intro x hx; rfl) (by kernel_rfl) (by show 2 ≤ 9223372036854775807; decide)
 have hW0 : WI ⟨b31, bd, .slice psa ps.length psc, ps, p.name ++ rr, .slice (some ⟨b39, 0, none⟩) 2 2, p.name ++ rr, .slice tya tys.length tyc, tys, role, dl⟩ ⟨H_b39, Sig.nil, none, 0, 0, none, 0, 0, 0, 9 + r28, at28, []⟩ 0 := ⟨⟨hps, hpk, hpg, hpn, hty, htk, hG.proc hrr⟩, .nil, .nil, .nil, by simp, by have := hr28.1; simp; omega, by have := hr28.2.1 (by omega); simp; omega, hd28, by simp, by simp [Sig.nil], by simp [Sig.nil]⟩
 refine eI (.there _ (.there _ (.here _))) (eI (.there _ (.there _ (.here _))) (aA (F := ⟨b31, bd, .slice psa ps.length psc, ps, p.name ++ rr, .slice (some ⟨b39, 0, none⟩) 2 2, p.name ++ rr, .slice tya tys.length tyc, tys, role, dl⟩) (V := ⟨H_b39, Sig.nil, none, 0, 0, none, 0, 0, 0, 9 + r28, at28, []⟩) (m := 0) [(b12, _), (b8, _)] rfl rfl (ab rfl rfl rfl rfl) (sR (T := T) (hTG _ rfl rfl) 5 (by omega) _ 0 0 (by omega) (by have := (hTG ⟨b31, bd, .slice psa ps.length psc, ps, p.name ++ rr, .slice (some ⟨b39, 0, none⟩) 2 2, p.name ++ rr, .slice tya tys.length tyc, tys, role, dl⟩ rfl rfl).n0; omega) (by omega) (by omega) (by omega)) hW0 (by have := xK (n := 5) (by omega); omega) rfl (fun v44 V44 hle44 hW44 hS44 hs44 ht44 hp44 => ?_)))
 replace hpa := hpa.le hle44
 obtain ⟨rfl, hn44⟩ := hp44
 refine gE ?_; refine eU ?_; refine TL.run (iZ rfl (.there _ (.there _ (.here _))) rfl) rfl ?_; refine iU ?_
 exact aY (.inr rfl) (ae rfl (RVal.cellA rfl (.here _) rfl)) (fun w hw => hw.drop.drop.drop) ⟨_, V44.B, rfl, hW44.d, V44.S, ⟨p.name ++ rr, [⟨[99], 5, carry⟩, ⟨[110], 1, []⟩], (some ⟨b39, 0, none⟩, 2), V44.ta, V44.tn, V44.tc, V44.sa, V44.sn, V44.sc⟩, rfl, hW44.bag, ⟨hG.proc hrr, hpa, hPV, by simp, hW44.t, hW44.s, by have := hn44; simp at this; omega, by have := hW44.me; have := xK (n := 5) (by omega); dsimp only; omega, by have := hW44.me; have := xK (n := 5) (by omega); dsimp only; omega⟩, (by have := hW44.nb; have := xK (n := 5) (by omega); omega), rfl, _, hrx, rfl⟩
theorem w6 {H : Hp} {bd : Nat} {dl : Value} {at_ : Int} (hd : DiceOk H dl at_) {psv : Value} {ps : List SProto} (hps : RdSl H 3 SProto.cells psv ps) (hpk : ∀ p ∈ ps, ProtoOk H p) (hpg : ∀ p ∈ ps, GPr p) (hpn : 0 < ps.length) (hpm : ps.length ≤ 100) :
  DFn Tryz.prog bd dl at_ 32 [psv] H (fun v H1 ob => ∃ S q, v = .agg (GProc.cells q).toArray ∧ Bag H1 S ob ∧ GPOk H1 S q ∧ S.N ≤ 10000000 ∧ q.params = [] ∧ q.name = di) := by
 obtain ⟨psa, psc, rfl⟩ := hps.len
 have hps0 := hps
 have hpk0 := hpk
 refine FnX.enter Tryz.func32 Tryz.ntmps32 rfl rfl (fun w0 => ?_)
 refine zm2 ?_
 refine TL.alloc rfl (fun b4 => ?_)
 refine TL.nil (ad ?_); refine eJ ?_; refine dy ?_
 refine TL.box rfl rfl (fun b15 => ?_)
 refine kM ?_; refine dy ?_; refine eU ?_; refine kh rfl rfl rfl rfl rfl (.here _) (Nat.le_of_ble_eq_true (by kernel_rfl)) rfl ?_; refine gE ?_
 refine aC (X := [(b15, _), (b4, _)]) (bd := bd) rfl (ab rfl rfl rfl rfl) (bq 3 (by omega) hd) rfl (fun v21 H21 at21 hle21 hd21 hp21 => ?_)
 obtain ⟨eH21, r21, rfl, hr21⟩ := hp21
 replace eH21 := eH21.symm; subst eH21
 have hra21 := hr21.1
 have hrb21 := hr21.2.1 (by omega)
 refine kr ?_
 have hW0 : WI ⟨b15, bd, .slice psa ps.length psc, ps, di, .slice none 0 0, [], .slice none 0 0, [], 0, dl⟩ ⟨H, Sig.nil, none, 0, 0, none, 0, 0, 0, 0, at21, []⟩ 0 := ⟨⟨hps, hpk, hpg, hpn, RdSl.nil, by simp, .nil⟩, .nil, .nil, .nil, by simp, by simp, by simp, hd21, by simp, by simp [Sig.nil], by simp [Sig.nil]⟩
 refine gc (.there _ (.here _)) (ad ?_); refine mA ?_
 refine rq (V := fun (k : Int) (V1 : WV) (r : Rw) => [(7, .int .i64 k)]) (K := [(0, _), (1, _), (4, _), (5, _), (6, _)]) (L := fun k V1 r => St [bd] w0 H V1.H ((b4, [gs [], .slice none 0 0, .slice none 0 0, .slice none 0 0]) :: Fx.L ⟨b15, bd, .slice psa ps.length psc, ps, di, .slice none 0 0, [], .slice none 0 0, [], 0, dl⟩ V1)) (I := fun k V1 r => WI ⟨b15, bd, .slice psa ps.length psc, ps, di, .slice none 0 0, [], .slice none 0 0, [], 0, dl⟩ V1 (20 * k.toNat) ∧ (0 ≤ k ∧ k ≤ 1 + r21) ∧ H.le V1.H ∧ k.toNat ≤ V1.sn) (μ := fun k => (1 + r21 - k).toNat) 0 ⟨H, Sig.nil, none, 0, 0, none, 0, 0, 0, 0, at21, []⟩ ⟨none, 0, 0⟩ ky (⟨by simpa using hW0, ⟨by omega, by omega⟩, .refl _, by simp⟩) (fun w hw => hw) (fun k V1 r hI => ?_)
 obtain ⟨hI1, ⟨k0, k1⟩, hI3, hI4⟩ := hI
 replace hps := hps0.le hI3
 replace hpk := fun x hx => (hpk0 x hx).le hI3
 refine f4 ?_; refine zm1 ?_
 refine ag rfl (fun c25 => ?_) (fun c25 => ?_)
 ·
  refine jm ?_; refine gU ?_
  refine TL.run (ai rfl rfl hps) rfl (aC (X := [(b4, _), (b15, _)]) (bd := bd) rfl (ab rfl rfl rfl rfl) (bq (ps.length : Int) (by omega) hI1.d) rfl (fun v32 H32 at32 hle32 hd32 hp32 => ?_))
  obtain ⟨rfl, r32, rfl, hr32⟩ := hp32
  have hra32 := hr32.1
  have hrb32 := hr32.2.1 (by omega)
  obtain ⟨p, hpx⟩ := ao (l := ps) hra32 hrb32
  have hpm_ := List.mem_of_getElem? hpx
  have hp := hpk p hpm_
  have hG := hpg p hpm_
  have hn1 := hG.n1
  have hro := hp.r
  have hr2 := hG.r2
  have hr5 := hG.r5
  refine TL.run (af rfl hps rfl (by omega) (by omega)) rfl (TL.run (bh hps hpx rfl rfl) rfl (TL.alloc rfl (fun b8 => ?_)))
  refine py ?_; refine aU [true, true, false, false] [(0, 1), (1, 4), (2, 1), (3, 1), (4, 4), (5, 1), (6, 5), (7, 1), (8, 2), (9, 1)] (by kernel_rfl) (by kernel_rfl) ?_; refine nC ?_; refine oo ?_; refine uX ?_
  refine az (ai rfl rfl hro) rfl (ar rfl (aC (X := [(b8, _), (b4, _), (b15, _)]) (bd := bd) rfl (ab rfl rfl rfl rfl) (bq (p.roles.length : Int) (by omega) (hI1.dice (.refl _) hd32).d) rfl (fun v41 H41 at41 hle41 hd41 hp41 => ?_)))
  obtain ⟨rfl, r41, rfl, hr41⟩ := hp41
  have hra41 := hr41.1
  have hrb41 := hr41.2.1 (by omega)
  obtain ⟨rr, hrx⟩ := ao (l := p.roles) hra41 hrb41
  have hrr := hG.rl (List.mem_of_getElem? hrx)
  refine au (S1 (S1 SN)) (Hp.le.refl _) ?_; refine vo ?_; refine a7 (aM hro hrx rfl rfl) rfl ?_; refine zm5 ?_; refine TF.nil (ad ?_); refine u6 ?_; refine zm0 ?_
  refine aA (F := ⟨b15, bd, .slice psa ps.length psc, ps, di, .slice none 0 0, [], .slice none 0 0, [], 0, dl⟩) (V := { { V1 with at_ := at32 } with at_ := at41 }) (m := 20 * k.toNat) [(b8, _), (b4, _)] rfl rfl (ab rfl rfl rfl rfl) (sP p rr hp hG (Nat.le_trans hrr (by decide))) ((hI1.dice (.refl _) hd32).dice (.refl _) hd41) (by omega) rfl (fun v47 V47 hle47 hW47 hS47 hs47 ht47 hp47 => ?_)
  dsimp only at hle47 hS47 hs47 ht47 hp47
  obtain ⟨s47, rfl, hv47⟩ := hp47
  refine vN ?_; refine ay (ab rfl rfl rfl rfl) (da 7) rfl (TL.alloc rfl (fun b11 => ?_))
  refine fu ?_; refine f4 ?_; refine pP ?_; refine zm1 ?_
  refine ag rfl (fun c52 => ?_) (fun c52 => ?_)
  ·
   refine TC.region (ay (ab rfl rfl rfl rfl) (da 6) rfl ?_); refine pG ?_; refine k9 ?_; refine zm0 ?_; refine BF ?_; refine mD ?_; refine k6 ?_
   refine TD.part 7 2 rfl rfl rfl ?_ ?_
   ·
    refine BE ?_; refine rR ?_; refine rY ?_
    refine ar rfl (aA (F := ⟨b15, bd, .slice psa ps.length psc, ps, di, .slice none 0 0, [], .slice none 0 0, [], 0, dl⟩) (V := V47) (m := 20 * k.toNat + 12) [(b11, _), (b8, _), (b4, _)] rfl rfl (ab rfl rfl rfl rfl) (cJ s47 hv47) hW47 (by omega) rfl (fun v60 V60 hle60 hW60 hS60 hs60 ht60 hp60 => ?_))
    obtain ⟨i60, rfl⟩ := hp60
    exact au (S1 (S1 (S1 SN))) hle60 (zq942)
   refine BD ?_; refine vw ?_
   refine aA (F := ⟨b15, bd, .slice psa ps.length psc, ps, di, .slice none 0 0, [], .slice none 0 0, [], 0, dl⟩) (V := V47) (m := 20 * k.toNat + 12) [(b11, _), (b8, _), (b4, _)] rfl rfl (ab rfl rfl rfl rfl) (cJ s47 hv47) hW47 (by omega) rfl (fun v60 V60 hle60 hW60 hS60 hs60 ht60 hp60 => ?_)
   obtain ⟨i60, rfl⟩ := hp60
   refine au (S1 (S1 (S1 SN))) hle60 ?_; refine rY ?_
   exact zq942
  refine pQ ?_; refine k9 ?_; refine zm0 ?_; refine BF ?_; refine mD ?_; refine k6 ?_
  refine TD.part 7 2 rfl rfl rfl ?_ ?_
  ·
   refine BE ?_; refine rR ?_; refine rY ?_
   refine ar rfl (aA (F := ⟨b15, bd, .slice psa ps.length psc, ps, di, .slice none 0 0, [], .slice none 0 0, [], 0, dl⟩) (V := V47) (m := 20 * k.toNat + 12) [(b11, _), (b8, _), (b4, _)] rfl rfl (ab rfl rfl rfl rfl) (cJ s47 hv47) hW47 (by omega) rfl (fun v60 V60 hle60 hW60 hS60 hs60 ht60 hp60 => ?_))
   obtain ⟨i60, rfl⟩ := hp60
   exact au (S1 (S1 (S1 SN))) hle60 (zq921)
  refine BD ?_; refine vw ?_
  refine aA (F := ⟨b15, bd, .slice psa ps.length psc, ps, di, .slice none 0 0, [], .slice none 0 0, [], 0, dl⟩) (V := V47) (m := 20 * k.toNat + 12) [(b11, _), (b8, _), (b4, _)] rfl rfl (ab rfl rfl rfl rfl) (cJ s47 hv47) hW47 (by omega) rfl (fun v60 V60 hle60 hW60 hS60 hs60 ht60 hp60 => ?_)
  obtain ⟨i60, rfl⟩ := hp60
  refine au (S1 (S1 (S1 SN))) hle60 ?_; refine rY ?_
  exact zq921
 refine fL ?_; refine sH ?_; refine TL.run (iZ rfl (.there _ (.here _)) rfl) rfl ?_; refine iU ?_
 exact aY (.inr rfl) (ae rfl (RVal.cellA rfl (.here _) rfl)) (fun w hw => hw.drop.drop) ⟨_, V1.B, rfl, hI1.d, V1.S, ⟨di, [], (none, 0), V1.ta, V1.tn, V1.tc, V1.sa, V1.sn, V1.sc⟩, rfl, hI1.bag, ⟨by simp [PNm, di], RdSl.nil, by simp, by simp, hI1.t, hI1.s, by dsimp only; omega, by have := hI1.me; dsimp only; omega, by have := hI1.me; dsimp only; omega⟩, (by have := hI1.nb; omega), rfl, rfl⟩
end Go.Sx
namespace Go.Sx
open Go Go.Proofs
theorem nZ {H : Hp} {lv : Value} {l : List Int} (hl : RdSl H 1 I64.cells lv l) (hm : l.length ≤ 1000000000000) :
  FnO Tryz.prog 11 [lv] H (fun v H1 ob => ∃ ps qs S pv psv ob1 B, v = .agg #[psv, .slice none 0 0, pv] ∧ ob = ob1 ++ B ∧ RdSl H1 3 SProto.cells psv ps ∧ PsOk H1 ps ∧ OwnSl 4 GProc.cells pv qs ob1 ∧ Bag H1 S B ∧ (∀ x ∈ qs, GPOk H1 S x) ∧ S.N ≤ 10000000 ∧ 1 ≤ qs.length ∧ qs.length ≤ 11) := by
 refine FnO.enter Tryz.func11 Tryz.ntmps11 rfl rfl (fun w0 => ?_)
 refine zm2 ?_
 refine TL.alloc rfl (fun b2 => ?_)
 refine gE ?_
 refine cS (ab rfl rfl rfl rfl) (New_ok hl hm) rfl (fun v11 H11 ob11 hle11 hp11 => ?_)
 obtain ⟨bd, dl, rfl, rfl, hd⟩ := hp11
 refine kM ?_
 refine aC (X := [(b2, _)]) (bd := bd) rfl (ab rfl rfl rfl rfl) (rI hd) rfl (fun v13 H13 at13 hle13 hd13 hp13 => ?_)
 obtain ⟨hle13_, ps, hps, hPs⟩ := hp13
 obtain ⟨psa, psc, rfl⟩ := hps.len
 refine dy ?_
 refine TL.alloc rfl (fun b4 => ?_)
 refine fu ?_; refine mA ?_
 refine TC.loop (ι := PSt) (V := fun q => [(5, .int .i64 q.k)]) (K := [(2, _), (3, _), (4, _)]) (L := fun q => St [] w0 H q.h ((b4, [.slice psa ps.length psc, .slice none 0 0, q.v]) :: (b2, [.slice none 0 0, .slice none 0 0, .slice none 0 0]) :: (bd, [dl, .int .i64 q.a]) :: (q.ob ++ q.B))) (I := fun q => (0 ≤ q.k ∧ q.k ≤ ps.length) ∧ PInv H13 dl (5 * q.k) q) (μ := fun q => (ps.length - q.k).toNat) (i := ⟨0, H13, at13, Sig.nil, .slice none 0 0, [], [], []⟩) ky ⟨⟨by show (0 : Int) ≤ 0; omega, by show (0 : Int) ≤ _; omega⟩, ⟨.refl _, hd13, .nil, .nil, by simp, by simp [Sig.nil], by simp⟩⟩ (fun w hw => hw) (fun q hI => ?_)
 obtain ⟨⟨k0q, k1q⟩, hIq⟩ := hI
 have hpsq := hps.le hIq.le
 have hPsq := hPs.le hIq.le
 refine pq ?_; refine TL.run (ai rfl rfl hpsq) rfl ?_; refine zm1 ?_
 refine ag rfl (fun c19 => ?_) (fun c19 => ?_)
 ·
  obtain ⟨p, hpx⟩ := ao (l := ps) k0q c19
  have hpm := List.mem_of_getElem? hpx
  have hG := hPs.pg p hpm
  refine jm ?_; refine lG ?_
  refine TL.run (af rfl hpsq rfl (by omega) (by omega)) rfl (TL.run (bh hpsq hpx rfl rfl) rfl (TL.call (ab rfl rfl rfl rfl) (tq p (hPsq.pk p hpm) (by have := hG.n1; omega) (fun r hr => by have := hG.rs r hr; omega)) rfl (fun v28 H28 hle28 hp28 => ?_)))
  obtain ⟨lv28, rfl, hok28, hno28⟩ := hp28
  obtain ⟨ls, hL28⟩ := LsG.of hG hok28 hno28
  obtain ⟨la, lc, rfl⟩ := hL28.r.len
  refine pK ?_; refine zm3 ?_; refine zm1 ?_; refine jg ?_
  refine TC.loop (ι := PSt) (V := fun r => [(9, .int .i64 r.k)]) (K := [(2, _), (3, _), (4, _), (5, _), (6, _), (15, _), (16, _), (17, _), (18, _), (19, _), (22, _), (23, _), (24, _), (25, _), (26, _), (27, _), (28, _), (29, _), (30, _), (31, _)]) (L := fun r => St [] w0 H r.h ((b4, [.slice psa ps.length psc, .slice none 0 0, r.v]) :: (b2, [.slice none 0 0, .slice none 0 0, .slice none 0 0]) :: (bd, [dl, .int .i64 r.a]) :: (r.ob ++ r.B))) (I := fun r => (0 ≤ r.k ∧ r.k ≤ ls.length) ∧ PInv H28 dl (5 * q.k + r.k) r) (μ := fun r => (ls.length - r.k).toNat) (i := { q with k := 0, h := H28 }) ky ⟨⟨by show (0 : Int) ≤ 0; omega, by show (0 : Int) ≤ _; omega⟩, ⟨.refl _, hIq.d.le hle28, hIq.o, hIq.b.leH hle28, fun x hx => (hIq.g x hx).le hle28 (.refl _), hIq.N, by have := hIq.n; show (q.qs.length : Int) ≤ 5 * q.k + 0; omega⟩⟩ (fun w hw => hw) (fun r hI => ?_)
  obtain ⟨⟨k0r, k1r⟩, hIr⟩ := hI
  have hLr := hL28.le hIr.le
  have hpsr := hpsq.le (hle28.trans hIr.le)
  have hPsr := hPsq.le (hle28.trans hIr.le)
  refine f4 ?_; refine TL.run (ai rfl rfl hLr.r) rfl ?_; refine zm1 ?_
  refine ag rfl (fun c35 => ?_) (fun c35 => ?_)
  ·
   obtain ⟨l0, hlx⟩ := ao (l := ls) k0r c35
   refine ph ?_; refine zm388 ?_; refine nC ?_; refine oo ?_; refine uX ?_; refine nC ?_; refine zm5 ?_
   refine az (af rfl hpsr rfl (by omega) (by omega)) rfl (aH (S1 (S1 SN)) (Hp.le.refl _) (fun _ _ => bh hpsr hpx rfl rfl) rfl ?_); refine vB ?_
   refine az (af rfl hLr.r rfl (by omega) (by omega)) rfl ?_; refine zm4 ?_
   refine aH (S1 (S1 SN)) (Hp.le.refl _) (fun _ _ => br hLr.r hlx rfl rfl) rfl (ar rfl (ri (X := [(b4, _), (b2, _)]) (Y := r.ob ++ r.B) (bd := bd) rfl (ab rfl rfl rfl rfl) (part_ok hIr.d hpsr hPsr.pk hPsr.pg hPsr.pn.1 p (hPsr.pk p hpm) hG hLr.r (fun l h => (hLr.l l h).1) r.k _ k0r (by have := hLr.n; omega) (hLr.l _ (List.mem_of_getElem? hlx)).2 (hLr.g r.k _ k0r hlx)) rfl (fun v55 H55 at55 ob55 hle55 hd55 hp55 => ?_)))
   obtain ⟨S55, q55, rfl, hB55, hq55, hN55b, _, _⟩ := hp55
   refine aT (i2 [(b4, _), (b2, _), (bd, _)]) (xD (fun hN55 => ?_))
   have hnd55 : ((r.B ++ ob55).map (·.1)).Nodup := Dm hN55
   refine au (S1 (S1 SN)) hle55 (aE rfl rfl rfl rfl (fun b56 => ?_))
   refine ar rfl (TL.append (enc := GProc.cells) rfl rfl rfl hIr.o (Src.own [q55] (.here _) rfl rfl) (by have := hIr.n; have := hPs.pn.2; have := hL28.n; have := hG.r5; simp only [List.length_cons, List.length_nil]; omega) rfl (.skip _ (.skip _ (.skip _ (.skip _ (.app _))))) rfl (fun a57 c57 ob57 hO57 => ?_))
   refine au (S0 (S1 (S1 SN))) hle55 ?_; refine pA ?_; refine TF.back (TF.nil (bA (ad ?_))); refine TC.region ?_; refine zm0 ?_
   refine TL.run (dc rfl rfl (by omega) (by have := hL28.n; have := hG.r5; omega)) rfl ?_; refine dP ?_
   exact aR (⟨r.k + 1, H55, at55, r.S.un S55, _, r.qs ++ [q55], ob57, r.B ++ ob55⟩ : PSt) ⟨⟨by show 0 ≤ r.k + 1; omega, by show r.k + 1 ≤ (ls.length : Int); omega⟩, hIr.add hle55 hd55 hO57 hB55 hq55 hnd55 hN55b (by show _ ≤ 5 * q.k + (r.k + 1); omega)⟩ ky (fun w hw => hw.drop) (by show (_ - (r.k + 1)).toNat < (_ - r.k).toNat; omega)
  refine TC.exit (bv (bv (bS ?_))); refine bA (ad (TC.region ?_)); refine zm0 ?_; refine TL.run (dc rfl rfl (by omega) (by have := hPs.pn.2; omega)) rfl ?_; refine dP ?_
  exact aR ({ r with k := q.k + 1 } : PSt) ⟨⟨by show 0 ≤ q.k + 1; omega, by show q.k + 1 ≤ (ps.length : Int); omega⟩, ⟨(hIq.le.trans hle28).trans hIr.le, hIr.d, hIr.o, hIr.b, hIr.g, hIr.N, by have := hIr.n; have := hL28.n; have := hG.r5; show (r.qs.length : Int) ≤ 5 * (q.k + 1); omega⟩⟩ ky (fun w hw => hw) (by show (_ - (q.k + 1)).toNat < (_ - q.k).toNat; omega)
 refine iy ?_; refine eP ?_; refine aU [true, true, false] [(0, 1), (1, 4), (2, 1), (3, 1), (4, 4), (5, 5), (6, 3), (7, 5), (8, 1), (9, 0)] (by kernel_rfl) (by kernel_rfl) ?_; refine nC ?_; refine oo ?_
 refine uX ?_
 refine ar rfl (ri (X := [(b4, _), (b2, _)]) (Y := q.ob ++ q.B) (bd := bd) rfl (ab rfl rfl rfl rfl) (w6 hIq.d hpsq hPsq.pk hPsq.pg hPsq.pn.1 (by have := hPsq.pn.2; omega)) rfl (fun v64 H64 at64 ob64 hle64 hd64 hp64 => ?_))
 obtain ⟨S64, q64, rfl, hB64, hq64, hN64b, _, _⟩ := hp64
 refine aT (i2 [(b4, _), (b2, _), (bd, _)]) (xD (fun hN64 => ?_))
 have hnd64 : ((q.B ++ ob64).map (·.1)).Nodup := Dm hN64
 refine au (S1 (S1 SN)) hle64 (aE rfl rfl rfl rfl (fun b65 => ?_))
 refine ar rfl (TL.append (enc := GProc.cells) rfl rfl rfl hIq.o (Src.own [q64] (.here _) rfl rfl) (by have := hIq.n; have := hPs.pn.2; simp only [List.length_cons, List.length_nil]; omega) rfl (.skip _ (.skip _ (.skip _ (.skip _ (.app _))))) rfl (fun a66 c66 ob66 hO66 => ?_))
 refine au (S0 (S1 (S1 SN))) hle64 ?_; refine pA ?_; refine jr ?_; refine zm2 ?_; refine k9 ?_; refine vA ?_
 have hF : PInv H13 dl 11 ⟨0, H64, at64, q.S.un S64, _, q.qs ++ [q64], ob66, q.B ++ ob64⟩ := hIq.add hle64 hd64 hO66 hB64 hq64 hnd64 hN64b (by have := hPs.pn.2; omega)
 exact ez (.inr rfl) (ae rfl (RVal.cellA rfl (.there _ (.there _ (.here _))) rfl)) (.skip _ (.skip _ (.skip _ (.skip _ .all)))) ⟨ps, _, _, _, _, ob66, q.B ++ ob64, rfl, rfl, hpsq.le hle64, hPsq.le hle64, hF.o, hF.b, hF.g, hF.N, by simp, by have h : ((q.qs ++ [q64]).length : Int) ≤ 11 := hF.n; show (q.qs ++ [q64]).length ≤ 11; omega⟩
end Go.Sx
namespace Go.Sx
open Go Go.Proofs
theorem yg {H : Hp} {lv : Value} {l : List Int} (hl : RdSl H 1 I64.cells lv l) (hm : l.length ≤ 1000000000000) (wh what : Int) :
  Fn Tryz.prog 10 [lv, .int .i64 wh, .int .i64 what] H (fun v H1 => ∃ pg : SProg, v = .agg pg.cells.toArray ∧ ProgOk H1 pg ∧ GenP pg) := by
 have one0 := hl.isOne
 refine Fn.enter Tryz.func10 Tryz.ntmps10 rfl rfl (fun w0 => ?_)
 refine zm2 ?_
 refine TL.alloc rfl (fun b6 => ?_)
 refine gE ?_
 refine cS (ab rfl rfl rfl rfl) (nZ hl hm) rfl (fun v12 H12 ob12 hle12 hp12 => ?_)
 obtain ⟨ps, qs, S, pv, psv, ob1, B, rfl, rfl, hps, hPs, hO, hB, hq, hN, hn1, hn11⟩ := hp12
 obtain ⟨psa, psc, rfl⟩ := hps.len
 obtain ⟨pva, pvc, rfl⟩ := hO.form
 refine TL.alloc rfl (fun b7 => ?_)
 refine fu ?_; refine d7 ?_; refine TL.run (dw rfl) rfl ?_; refine fz ?_
 refine TL.run (bG rfl rfl hO) rfl (TL.run (dw rfl) rfl (TL.run (fE rfl rfl (by rw [jv (by omega) (by omega)]; omega)) rfl (TL.run (dw rfl) rfl ?_))); refine dP ?_
 have hk := jJ wh (n := (qs.length : Int)) (by omega) (by omega)
 generalize hkE : IntKind.i64.wrap ((IntKind.u64.wrap wh).tmod (IntKind.u64.wrap (qs.length : Int))) = k at hk ⊢
 obtain ⟨q, hqx⟩ := ao (l := qs) hk.1 hk.2
 have hgq := hq q (List.mem_of_getElem? hqx)
 have hs0 := hgq.s0
 have hrl5 : rolesL.length = 5 := rfl
 have hll4 : labelsL.length = 4 := rfl
 have hsl := hgq.sl
 obtain ⟨bs, js, ms, hsa, hsS, hsj⟩ := hgq.s.at hs0
 refine ad ?_; refine d7 ?_; refine u4 ?_; refine fz ?_; refine zm0 ?_; refine TL.run (cv rfl rfl hO (by omega) (by omega)) rfl ?_; refine zm7 ?_
 refine TL.run (PR.to (dO rfl hO (.skip _ (.skip _ (.app _))) hqx rfl) (rfl : _ = Value.slice q.sa q.sn q.sc)) rfl (TL.run (dv rfl rfl) rfl (TL.run (dw rfl) rfl (TL.run (fE rfl rfl (by rw [jv (by omega) (by omega)]; omega)) rfl ?_)))
 refine TL.run (dw rfl) rfl ?_; refine dP ?_
 have hm2 := jJ ((IntKind.u64.wrap wh).tdiv 32) (n := (q.sn : Int)) (by omega) (by omega)
 generalize hmE : IntKind.i64.wrap ((IntKind.u64.wrap ((IntKind.u64.wrap wh).tdiv 32)).tmod (IntKind.u64.wrap (q.sn : Int))) = m at hm2 ⊢
 refine ad ?_; refine lG ?_; refine TL.run (cv rfl rfl hO (by omega) (by omega)) rfl ?_; refine zm7 ?_
 refine TL.run (PR.to (dO rfl hO (.skip _ (.skip _ (.app _))) hqx rfl) (rfl : _ = Value.slice q.sa q.sn q.sc)) rfl ?_; refine zm0 ?_; refine TL.run (cU rfl rfl hsa (by omega) (by omega)) rfl ?_; refine sC ?_
 refine TL.run (dw rfl) rfl (TL.run (fE rfl rfl (by omega)) rfl ?_); refine sF ?_
 refine ag rfl (fun c50 => ?_) (fun c50 => ?_)
 ·
  refine iw ?_; refine eU ?_
  refine dB (t := 3) (f := 1) rfl rfl hB (.skip _ (.skip _ (.past ob1 .all))) hsS rfl hsj (by omega) rfl ⟨_, rfl, .inr (.inr (.inr (.inl rfl)))⟩ rfl rfl (fun B1 hB1 => ?_)
  refine om ?_
  refine TX.pubO hO (.skip _ (.skip _ (.app _))) (by simp) (fun H2 hle2 hR => ?_)
  refine TX.pubB (hB1.leH hle2) (.skip _ (.skip _ .all)) (by simp) (fun H3 hle3 hBH => ?_)
  exact ir
 refine dN ?_
 refine ag rfl (fun c55 => ?_) (fun c55 => ?_)
 ·
  refine iw ?_
  refine TL.call (ab rfl rfl rfl rfl) (gM) rfl (fun v58 H58 hle58 hp58 => ?_)
  have hro58 := hp58
  replace hps := hps.le hle58
  replace hPs := hPs.le hle58
  replace hB := hB.leH hle58
  replace hq := fun x hx => (hq x hx).le hle58 (.refl _)
  refine zm0 ?_; refine u4 ?_; refine TL.run (fE rfl rfl (by omega)) rfl (TL.run (dw rfl) rfl ?_)
  have hp63 := CX ((IntKind.u64.wrap what).tdiv 12) (n := 5) (by omega) (by omega)
  obtain ⟨rx, hrx⟩ := ao (l := rolesL) hp63.1 hp63.2
  refine TL.run (af rfl hro58 rfl (by omega) (by omega)) rfl (TL.run (aM hro58 hrx rfl rfl) rfl ?_); refine eU ?_
  refine dB (t := 3) (f := 2) rfl rfl hB (.skip _ (.skip _ (.past ob1 .all))) hsS rfl hsj (by omega) rfl ⟨_, rfl, yv hrx⟩ rfl rfl (fun B2 hB2 => ?_)
  refine om ?_
  refine TX.pubO hO (.skip _ (.skip _ (.app _))) (by simp) (fun H2 hle2 hR => ?_)
  refine TX.pubB (hB2.leH hle2) (.skip _ (.skip _ .all)) (by simp) (fun H3 hle3 hBH => ?_)
  exact ir
 refine dN ?_
 refine ag rfl (fun c68 => ?_) (fun c68 => ?_)
 ·
  refine iw ?_
  refine TL.call (ab rfl rfl rfl rfl) (d5) rfl (fun v71 H71 hle71 hp71 => ?_)
  have hla71 := hp71
  replace hps := hps.le hle71
  replace hPs := hPs.le hle71
  replace hB := hB.leH hle71
  replace hq := fun x hx => (hq x hx).le hle71 (.refl _)
  refine zm0 ?_; refine u4 ?_; refine TL.run (fE rfl rfl (by omega)) rfl (TL.run (dw rfl) rfl ?_)
  have hp76 := CX ((IntKind.u64.wrap what).tdiv 12) (n := 4) (by omega) (by omega)
  obtain ⟨lx, hlx⟩ := ao (l := labelsL) hp76.1 hp76.2
  refine TL.run (af rfl hla71 rfl (by omega) (by omega)) rfl (TL.run (aM hla71 hlx rfl rfl) rfl ?_); refine eU ?_
  refine dB (t := 3) (f := 3) rfl rfl hB (.skip _ (.skip _ (.past ob1 .all))) hsS rfl hsj (by omega) rfl ⟨_, rfl, xz hlx⟩ rfl rfl (fun B3 hB3 => ?_)
  refine om ?_
  refine TX.pubO hO (.skip _ (.skip _ (.app _))) (by simp) (fun H2 hle2 hR => ?_)
  refine TX.pubB (hB3.leH hle2) (.skip _ (.skip _ .all)) (by simp) (fun H3 hle3 hBH => ?_)
  exact ir
 refine dN ?_
 refine ag rfl (fun c81 => ?_) (fun c81 => ?_)
 ·
  refine jh ?_; refine eU ?_
  refine dB (t := 3) (f := 9) rfl rfl hB (.skip _ (.skip _ (.past ob1 .all))) hsS rfl hsj (by omega) rfl ⟨_, rfl⟩ rfl rfl (fun B9 hB9 => ?_)
  refine om ?_
  refine TX.pubO hO (.skip _ (.skip _ (.app _))) (by simp) (fun H2 hle2 hR => ?_)
  refine TX.pubB (hB9.leH hle2) (.skip _ (.skip _ .all)) (by simp) (fun H3 hle3 hBH => ?_)
  exact ir
 refine dN ?_
 refine ag rfl (fun c87 => ?_) (fun c87 => ?_)
 ·
  refine jh ?_; refine u4 ?_; refine TL.run (fE rfl rfl (by omega)) rfl (TL.run (dw rfl) rfl ?_); refine eU ?_
  refine dB (t := 3) (f := 0) rfl rfl hB (.skip _ (.skip _ (.past ob1 .all))) hsS rfl hsj (by omega) rfl ⟨_, rfl⟩ rfl rfl (fun B0 hB0 => ?_)
  refine om ?_
  refine TX.pubO hO (.skip _ (.skip _ (.app _))) (by simp) (fun H2 hle2 hR => ?_)
  refine TX.pubB (hB0.leH hle2) (.skip _ (.skip _ .all)) (by simp) (fun H3 hle3 hBH => ?_)
  exact ir
 refine dN ?_
 refine ag rfl (fun c97 => ?_) (fun c97 => ?_)
 ·
  refine jh ?_; refine u4 ?_; refine TL.run (fE rfl rfl (by omega)) rfl (TL.run (dw rfl) rfl ?_); refine pP ?_; refine eU ?_
  refine dB (t := 3) (f := 5) rfl rfl hB (.skip _ (.skip _ (.past ob1 .all))) hsS rfl hsj (by omega) rfl ⟨_, rfl⟩ rfl rfl (fun B5 hB5 => ?_)
  refine om ?_
  refine TX.pubO hO (.skip _ (.skip _ (.app _))) (by simp) (fun H2 hle2 hR => ?_)
  refine TX.pubB (hB5.leH hle2) (.skip _ (.skip _ .all)) (by simp) (fun H3 hle3 hBH => ?_)
  exact ir
 refine dN ?_
 refine ag rfl (fun c108 => ?_) (fun c108 => ?_)
 ·
  refine iw ?_; refine eU ?_
  refine dB (t := 3) (f := 4) rfl rfl hB (.skip _ (.skip _ (.past ob1 .all))) hsS rfl hsj (by omega) rfl ⟨_, rfl, by simp [PNm]⟩ rfl rfl (fun B4 hB4 => ?_)
  refine om ?_
  refine TX.pubO hO (.skip _ (.skip _ (.app _))) (by simp) (fun H2 hle2 hR => ?_)
  refine TX.pubB (hB4.leH hle2) (.skip _ (.skip _ .all)) (by simp) (fun H3 hle3 hBH => ?_)
  exact ir
 refine dN ?_
 refine ag rfl (fun c113 => ?_) (fun c113 => ?_)
 ·
  refine zm2 ?_
  obtain ⟨u_hcell, ⟨wa, wn, wc, rfl, hws, hwn⟩, hcell⟩ := hB.get (t := 3) (f := 8) hsS rfl hsj (i := m.toNat) (by omega) rfl
  refine zm0 ?_; refine eU ?_; refine yK ?_; refine TL.run (dv rfl rfl) rfl ?_; refine zm1 ?_
  refine ag rfl (fun c120 => ?_) (fun c120 => ?_)
  ·
   refine TC.region ?_
   obtain ⟨wa2, hwe, hws2⟩ := hws.tail (k := 3) (by omega) rfl
   refine zm3 ?_; refine eU ?_; refine yK ?_; refine TL.run (PR.to (tu rfl rfl (by omega) (by omega)) hwe) rfl ?_; refine eU ?_
   refine dB (t := 3) (f := 8) rfl rfl hB (.skip _ (.skip _ (.past ob1 .all))) hsS rfl hsj (by omega) rfl ⟨_, _, _, rfl, hws2, by omega⟩ rfl rfl (fun B8 hB8 => ?_)
   refine om ?_
   refine TX.pubO hO (.skip _ (.skip _ (.app _))) (by simp) (fun H2 hle2 hR => ?_)
   refine TX.pubB (hB8.leH hle2) (.skip _ (.skip _ .all)) (by simp) (fun H3 hle3 hBH => ?_)
   exact ir
  refine TC.skip ?_; refine Bv ?_
  refine TX.pubO hO (.skip _ (.skip _ (.app _))) (by simp) (fun H2 hle2 hR => ?_)
  refine TX.pubB (hB.leH hle2) (.skip _ (.skip _ .all)) (by simp) (fun H3 hle3 hBH => ?_)
  exact ir
 refine dN ?_
 refine ag rfl (fun c129 => ?_) (fun c129 => ?_)
 ·
  refine zm2 ?_
  obtain ⟨u_hcell, ⟨ca, cn, cc, rfl, hcs, hcn⟩, hcell⟩ := hB.get (t := 3) (f := 7) hsS rfl hsj (i := m.toNat) (by omega) rfl
  refine zm0 ?_; refine eU ?_; refine yK ?_; refine TL.run (dv rfl rfl) rfl ?_; refine zm1 ?_
  refine ag rfl (fun c136 => ?_) (fun c136 => ?_)
  ·
   refine TC.region ?_
   obtain ⟨bc, jc, mc, hca, hcS, hcj⟩ := hcs.at (by omega)
   refine zm0 ?_; refine eU ?_; refine yK ?_; refine TL.run (cU rfl rfl hca (by omega) (by omega)) rfl ?_; refine zm7 ?_
   refine dB (t := 2) (f := 0) rfl rfl hB (.skip _ (.skip _ (.past ob1 .all))) hcS rfl hcj (by show (0 : Int).toNat < cn; simp; omega) rfl ⟨_, rfl, by simp [AnyNm]⟩ rfl rfl (fun B0c hB0c => ?_)
   refine om ?_
   refine TX.pubO hO (.skip _ (.skip _ (.app _))) (by simp) (fun H2 hle2 hR => ?_)
   refine TX.pubB (hB0c.leH hle2) (.skip _ (.skip _ .all)) (by simp) (fun H3 hle3 hBH => ?_)
   exact ir
  refine TC.skip ?_; refine Bv ?_
  refine TX.pubO hO (.skip _ (.skip _ (.app _))) (by simp) (fun H2 hle2 hR => ?_)
  refine TX.pubB (hB.leH hle2) (.skip _ (.skip _ .all)) (by simp) (fun H3 hle3 hBH => ?_)
  exact ir
 refine dN ?_
 refine ag rfl (fun c143 => ?_) (fun c143 => ?_)
 ·
  refine iw ?_; refine eU ?_
  refine dB (t := 3) (f := 6) rfl rfl hB (.skip _ (.skip _ (.past ob1 .all))) hsS rfl hsj (by omega) rfl ⟨_, _, _, rfl, .nil, Nat.zero_le _⟩ rfl rfl (fun B6 hB6 => ?_)
  refine om ?_
  refine TX.pubO hO (.skip _ (.skip _ (.app _))) (by simp) (fun H2 hle2 hR => ?_)
  refine TX.pubB (hB6.leH hle2) (.skip _ (.skip _ .all)) (by simp) (fun H3 hle3 hBH => ?_)
  exact ir
 refine dN ?_
 refine ag rfl (fun c148 => ?_) (fun c148 => ?_)
 ·
  refine pF ?_; refine eU ?_
  refine dB (t := 3) (f := 0) rfl rfl hB (.skip _ (.skip _ (.past ob1 .all))) hsS rfl hsj (by omega) rfl ⟨_, rfl⟩ rfl rfl (fun B0a hB0a => ?_)
  refine eU ?_
  refine dB (t := 3) (f := 1) rfl rfl hB0a (.skip _ (.skip _ (.past ob1 .all))) hsS rfl hsj (by omega) rfl ⟨_, rfl, .nil⟩ rfl rfl (fun B1b hB1b => ?_)
  refine eU ?_
  refine dB (t := 3) (f := 5) rfl rfl hB1b (.skip _ (.skip _ (.past ob1 .all))) hsS rfl hsj (by omega) rfl ⟨_, rfl⟩ rfl rfl (fun B5d hB5d => ?_)
  refine eU ?_
  refine dB (t := 3) (f := 9) rfl rfl hB5d (.skip _ (.skip _ (.past ob1 .all))) hsS rfl hsj (by omega) rfl ⟨_, rfl⟩ rfl rfl (fun B9e hB9e => ?_)
  refine om ?_
  refine TX.pubO hO (.skip _ (.skip _ (.app _))) (by simp) (fun H2 hle2 hR => ?_)
  refine TX.pubB (hB9e.leH hle2) (.skip _ (.skip _ .all)) (by simp) (fun H3 hle3 hBH => ?_)
  exact ir
 refine oX ?_; refine zm0 ?_; refine TL.run (cv rfl rfl hO (by omega) (by omega)) rfl ?_; refine zm7 ?_
 refine fq (a := q) (a' := { q with params := [], pp := (none, 0) }) rfl rfl hO (.skip _ (.skip _ (.app _))) hqx rfl rfl rfl rfl (fun ob1b hogb hO2 => ?_)
 have hq2 : ∀ x ∈ qs.set k.toNat { q with params := [], pp := (none, 0) }, GPOk H12 S x := fun x hx => by
  rcases List.mem_or_eq_of_mem_set hx with hx | rfl
  · exact hq x hx
  · have h9 := hq q (List.mem_of_getElem? hqx); exact ⟨h9.nm, RdSl.nil, by simp, by simp, h9.t, h9.s, h9.s0, h9.tl, h9.sl⟩
 refine om ?_
 refine TX.pubO hO2 (.skip _ (.skip _ (.app _))) (by simp) (fun H2 hle2 hR => ?_)
 refine TX.pubB (hB.leH hle2) (.skip _ (.skip _ .all)) (by simp) (fun H3 hle3 hBH => ?_)
 obtain ⟨pg, hv, hpo, hgp, _, _⟩ := qU hBH (hR.le hle3) (fun x hx => (hq2 x hx).le (hle2.trans hle3) (.refl _)) (hps.le (hle2.trans hle3)) ((hPs.le (hle2.trans hle3)).pk) hN (by first | omega | (simp; omega)) (by first | omega | (simp; omega))
 exact aQ (.inr rfl) (ae rfl (RVal.cellA rfl (.there _ (.here _)) rfl)) ⟨pg, hv, hpo, hgp⟩
end Go.Sx
namespace Go.Sx
open Go Go.Proofs
theorem ma {H : Hp} (s : Str) (hs : s.length ≤ 1000) :
  FnS Tryz.prog 76 [gs s] H (gs (nmS s)) := by
 refine FnS.enter Tryz.func76 Tryz.ntmps76 rfl rfl (fun w0 => ?_)
 refine ln ?_; refine TL.run (bV rfl rfl rfl) rfl (TL.nil (ad (ag rfl (fun c4 => ?_) (fun c4 => ?_))))
 · refine nl ?_; exact al (ax (.inr rfl) (ae rfl (RVal.tmp rfl)) (by unfold nmS; first | (rw [if_neg c4]; rfl) | (rw [if_pos c4, c4])))
 refine lC ?_; refine TL.run (dU rfl rfl (by simp; omega)) rfl ?_; refine eh ?_
 exact ax (.inr rfl) (ae rfl (RVal.tmp rfl)) (by unfold nmS; first | (rw [if_neg c4]; rfl) | (rw [if_pos c4, c4]))
end Go.Sx
