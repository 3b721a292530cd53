import Derived.Test.YtjnlogbbcceaoaaGreatK12
set_option linter.all false
set_option maxRecDepth 100000
namespace Go.Sx
open Go Go.Proofs
set_option maxHeartbeats 8000000 in
theorem wHears_ok {F : Fx} {V : WV} {T : SLocal} (hG : TG F T) (turn deep : Int) {K : Nat} (h0 : 0 ≤ turn) (h1 : turn < T.turns.length) (ih : ∀ (V : WV) (turn : Int), 0 ≤ turn → turn < T.turns.length → WFn Tryz.prog F V 69 [.int .i64 turn, .int .i64 (deep + 1)] K (fun v V1 => v = .tuple #[] ∧ V.sn < V1.sn)) (hK : K ≤ 9000000) (hdp : 0 ≤ deep ∧ deep ≤ 100) :
  WFn Tryz.prog F V 129 [.int .i64 turn, .int .i64 deep] (6 * (K + 40) + 20) (fun v V1 => v = .tuple #[] ∧ V.sn < V1.sn) := by
 refine WFn.enter Tryz.func129 Tryz.ntmps129 rfl rfl (fun m w0 hW hm => ?_)
 have hGg := hG.g
 have hr1 := hG.r1
 have hr0 := hG.r0
 have hty := hW.fx.ty
 have htk := hW.fx.tk T (List.mem_of_getElem? hGg)
 have hts := htk.t
 have htm := hts.max
 obtain ⟨t, htx⟩ := getSome (l := T.turns) h0 h1
 have hTt := hG.ts t (List.mem_of_getElem? htx)
 have hta := (htk.ts t (List.mem_of_getElem? htx)).a
 have ha6 := hTt.a6
 have ham := hta.max
 have hKB := hK
 have hta0 := hta
 refine zm61 ?_; refine zm348 ?_; refine zm207 ?_; refine zm207 ?_; refine zm349 ?_; refine zm3 ?_; refine zm350 ?_; refine zm5 ?_; refine zm351 ?_; refine zm352 ?_
 refine TF.alloc rfl (fun b6 => ?_)
 refine zm259 ?_; refine TF.nil (TX.seqN ?_); refine zm4 ?_; refine TL.callS (enters rfl rfl rfl rfl) (mBare_ok 5) rfl (TL.alloc rfl (fun b7 => ?_))
 refine zm158 ?_; refine TD.leafR [false, true, true, true] [(0, 1), (1, 4), (2, 1), (3, 5), (4, 1), (5, 0)] (by kernel_rfl) (by kernel_rfl) ?_; refine zm3 ?_
 refine TF.read (S0 (S1 (S1 (S1 SN)))) (Hp.le.refl _) (fun _ _ => pr_own1 rfl (.here _) rfl) rfl ?_; refine zm260 ?_; refine zm242 ?_; refine zm31 ?_; refine zm204 ?_; refine zm49 ?_; refine zm30 ?_; refine zm19 ?_
 refine TL.callW (F := F) (V := V) (m := m) [(b7, _), (b6, _)] rfl rfl (enters rfl rfl rfl rfl) (wStep_ok ⟨5, [99], t.peer, [], [], -1, none, 0, 0, none, 0, 0, none, 0, 0, -1⟩ ⟨(.inr (.inl rfl)), hTt.peer, .nil, .nil, .nil, .nil, .nil, Nat.zero_le _, Nat.zero_le _, Nat.zero_le _⟩) hW (by omega) rfl (fun v34 V34 hle34 hW34 hS34 hs34 ht34 hp34 => ?_)
 replace hta := hta.le hle34
 obtain ⟨rfl, hn34⟩ := hp34
 refine zm156 ?_
 refine TC.loopW (V := fun (k : Int) (V1 : WV) (r : Rw) => [(9, .int .i64 k)]) (K := [(0, _), (2, _), (6, _), (8, _)]) (L := fun k V1 r => St (keys (F.L V)) w0 V.H V1.H ((b7, TStep.cells ⟨5, [99], t.peer, [], [], -1, none, 0, 0, none, 0, 0, none, 0, 0, -1⟩) :: (b6, t.cells) :: Fx.L F V1)) (I := fun k V1 r => WI F V1 (m + 1 + k.toNat * (K + 40)) ∧ (0 ≤ k ∧ k ≤ t.arms.length) ∧ V.H.le V1.H ∧ V.S.le V1.S ∧ V.sn < V1.sn ∧ V.tn ≤ V1.tn) (μ := fun k => (t.arms.length - k).toNat) 0 V34 ⟨none, 0, 0⟩ ⟨rfl, rfl, rfl, rfl, rfl, trivial⟩ (⟨by simpa using hW34, ⟨by omega, by omega⟩, hle34, hS34, by omega, ht34⟩) (fun w hw => hw) (fun k V1 r hI => ?_)
 obtain ⟨hI1, ⟨k0, k1⟩, hI3, hI4, hI5, hI6⟩ := hI
 replace hta := hta0.le hI3
 refine zm261 ?_; refine TL.run (pr_lenSl rfl rfl hta) rfl ?_; refine zm2 ?_
 refine TC.condD rfl (fun c39 => ?_) (fun c39 => ?_)
 ·
  obtain ⟨x, hax⟩ := getSome (l := t.arms) k0 c39
  have hxm := List.mem_of_getElem? hax
  have hxn := hTt.nx x hxm
  have hml := cmul_le (c := K + 40) (n := 6) k0 (by omega)
  have hmu := cmul (c := K + 40) k0
  refine zm162 ?_; refine zm471 ?_; refine zm291 ?_; refine zm5 ?_; refine TF.pure (pr_indexSl rfl hta rfl (by omega) (by omega)) rfl ?_; refine zm3 ?_
  refine TF.read (S1 (S1 (S1 (S1 SN)))) (Hp.le.refl _) (fun _ _ => pr_el1 hta hax rfl rfl) rfl ?_; refine zm45 ?_; refine zm3 ?_; refine zm353 ?_; refine TF.pure (pr_lenS rfl rfl) rfl ?_; refine zm18 ?_
  refine TF.alloc rfl (fun b10 => ?_)
  refine zm7 ?_; refine zm39 ?_; refine zm208 ?_; refine TF.nil (TX.seqN ?_); refine zm88 ?_; refine zm62 ?_; refine zm0 ?_; refine zm304 ?_; refine zm6 ?_; refine zm6 ?_; refine TL.run (pr_el2 hta hax rfl rfl) rfl ?_; refine zm2 ?_
  refine TC.condND rfl (fun c62 => ?_) (fun c62 => ?_)
  ·
   refine zm30 ?_
   refine TL.callW (F := F) (V := V1) (m := m + 1 + k.toNat * (K + 40)) [(b10, _), (b7, _), (b6, _)] rfl rfl (enters rfl rfl rfl rfl) (wFresh_ok) hI1 (by omega) rfl (fun v64 V64 hle64 hW64 hS64 hs64 ht64 hp64 => ?_)
   replace hta := hta.le hle64
   obtain ⟨s64, rfl, hv64⟩ := hp64
   refine zm63 ?_; refine zm25 ?_; refine zm472 ?_; refine zm47 ?_; refine TF.read (S1 (S1 (S1 SN))) (Hp.le.refl _) (fun _ _ => pr_own1 rfl (.here _) rfl) rfl ?_; refine zm3 ?_
   refine TF.read (S1 (S1 (S1 SN))) (Hp.le.refl _) (fun _ _ => pr_own1 rfl (.there _ (.there _ (.here _))) rfl) rfl ?_; refine zm5 ?_; refine TF.pure (pr_indexSl rfl hta rfl (by omega) (by omega)) rfl ?_; refine zm3 ?_
   refine TF.read (S1 (S1 (S1 SN))) (Hp.le.refl _) (fun _ _ => pr_elQ hta hax rfl rfl) rfl ?_; refine zm7 ?_
   refine TL.callW (F := F) (V := V64) (m := m + 1 + k.toNat * (K + 40) + 1) [(b10, _), (b7, _), (b6, _)] rfl rfl (enters rfl rfl rfl rfl) (wTook_ok s64 hv64 x.ck x.cn) hW64 (by omega) rfl (fun v75 V75 hle75 hW75 hS75 hs75 ht75 hp75 => ?_)
   replace hta := hta.le hle75
   obtain rfl := hp75
   refine TF.back5 (S1 (S1 (S1 SN))) hle75 (TF.nil (TX.seqN ?_)); refine zm30 ?_; refine zm62 ?_; refine zm0 ?_; refine zm304 ?_; refine zm6 ?_; refine TL.run (pr_el1 hta hax rfl rfl) rfl ?_; refine zm0 ?_; refine zm16 ?_
   refine TL.callW (F := F) (V := V75) (m := m + 1 + k.toNat * (K + 40) + 1 + 12) [(b10, _), (b7, _), (b6, _)] rfl rfl (enters rfl rfl rfl rfl) (ih _ x.next hxn.1 hxn.2) hW75 (by omega) rfl (fun v85 V85 hle85 hW85 hS85 hs85 ht85 hp85 => ?_)
   obtain ⟨rfl, hn85⟩ := hp85
   refine zm33 ?_; refine zm25 ?_; refine zm404 ?_
   obtain ⟨bw12, jw12, qw12, haw12, hbw12, hjw12⟩ := hW85.s.at (by omega)
   obtain ⟨uw12, huw12, hcw12⟩ := hW85.bag.get (k := 10) (i := (V.sn : Int).toNat) (f := 8) hbw12 rfl hjw12 (by omega) rfl
   obtain ⟨waw12, wnw12, wcw12, rfl, hww12, hwnw12⟩ := huw12
   have hnbw12 := hW85.nb
   refine zm45 ?_; refine zm64 ?_; refine zm106 ?_; refine zm64 ?_; refine zm5 ?_; refine zm305 ?_; refine zm3 ?_; refine zm405 ?_; refine zm406 ?_
   refine TF.bslice rfl rfl rfl rfl (fun b102 => ?_)
   refine zm7 ?_
   refine TL.apT (enc := SWay.cells) (t := 1) rfl rfl rfl hW85.bag hww12 (Src.own [⟨x.label, s64, _⟩] (.here _) rfl rfl) rfl (by intro y hy; rw [List.mem_singleton.1 hy]; exact SWay.all (s := ⟨x.label, s64, _⟩) (hTt.lb x hxm) hv64) zt1 (by simp only [List.length_cons, List.length_nil]; omega) rfl (.skip _ (.skip _ (.skip _ (.skip _ (.skip _ (.skip _ .all)))))) rfl (fun S103 a103 c103 B103 hS103 hN103 hT103 hB103 => ?_)
   change _ = _ + 1 at hN103
   refine zm129 ?_; refine zm305 ?_; refine zm203 ?_
   refine TL.stR (t := 3) (f := 8) (ct := .sl 1) rfl rfl (hW85.bagT hS103 hN103 hB103).bag (.skip _ (.skip _ (.skip _ (.skip _ (.skip _ (.skip _ .all)))))) (hS103.1 _ _ hbw12) rfl hjw12 (by omega) rfl (⟨_, _, _, rfl, hT103, by simp only [List.length_cons, List.length_nil]; omega⟩) rfl rfl (fun Bst1 hBst1 => ?_)
   refine zm129 ?_; refine TF.nil ?_; refine zm188 ?_
   exact TX.roundW (k + 1) ({ { V85 with S := S103, B := B103 } with B := Bst1 }) r (⟨((hW85.bagT hS103 hN103 hB103).bagB hBst1).more (by omega), ⟨by omega, by omega⟩, (((hI3.trans hle64).trans hle75).trans hle85), (hI4.trans (hS64.trans (hS75.trans (hS85.trans (hS103))))), by (try dsimp only); omega, by (try dsimp only); omega⟩) ⟨rfl, rfl, rfl, rfl, rfl, trivial⟩ (fun w hw => hw.drop.drop) (by omega)
  ·
   refine zm103 ?_; refine zm62 ?_; refine zm0 ?_; refine zm304 ?_; refine zm6 ?_; refine TL.run (pr_el1 hta hax rfl rfl) rfl ?_; refine zm0 ?_; refine zm16 ?_
   refine TL.callW (F := F) (V := V1) (m := m + 1 + k.toNat * (K + 40)) [(b10, _), (b7, _), (b6, _)] rfl rfl (enters rfl rfl rfl rfl) (ih _ x.next hxn.1 hxn.2) hI1 (by omega) rfl (fun v85 V85 hle85 hW85 hS85 hs85 ht85 hp85 => ?_)
   obtain ⟨rfl, hn85⟩ := hp85
   refine zm33 ?_; refine zm25 ?_; refine zm404 ?_
   obtain ⟨bw12, jw12, qw12, haw12, hbw12, hjw12⟩ := hW85.s.at (by omega)
   obtain ⟨uw12, huw12, hcw12⟩ := hW85.bag.get (k := 10) (i := (V.sn : Int).toNat) (f := 8) hbw12 rfl hjw12 (by omega) rfl
   obtain ⟨waw12, wnw12, wcw12, rfl, hww12, hwnw12⟩ := huw12
   have hnbw12 := hW85.nb
   refine zm45 ?_; refine zm64 ?_; refine zm106 ?_; refine zm64 ?_; refine zm5 ?_; refine zm305 ?_; refine zm3 ?_; refine zm405 ?_; refine zm406 ?_
   refine TF.bslice rfl rfl rfl rfl (fun b102 => ?_)
   refine zm7 ?_
   refine TL.apT (enc := SWay.cells) (t := 1) rfl rfl rfl hW85.bag hww12 (Src.own [⟨x.label, [], _⟩] (.here _) rfl rfl) rfl (by intro y hy; rw [List.mem_singleton.1 hy]; exact SWay.all (s := ⟨x.label, [], _⟩) (hTt.lb x hxm) .nil) zt1 (by simp only [List.length_cons, List.length_nil]; omega) rfl (.skip _ (.skip _ (.skip _ (.skip _ (.skip _ (.skip _ .all)))))) rfl (fun S103 a103 c103 B103 hS103 hN103 hT103 hB103 => ?_)
   change _ = _ + 1 at hN103
   refine zm129 ?_; refine zm305 ?_; refine zm203 ?_
   refine TL.stR (t := 3) (f := 8) (ct := .sl 1) rfl rfl (hW85.bagT hS103 hN103 hB103).bag (.skip _ (.skip _ (.skip _ (.skip _ (.skip _ (.skip _ .all)))))) (hS103.1 _ _ hbw12) rfl hjw12 (by omega) rfl (⟨_, _, _, rfl, hT103, by simp only [List.length_cons, List.length_nil]; omega⟩) rfl rfl (fun Bst1 hBst1 => ?_)
   refine zm129 ?_; refine TF.nil ?_; refine zm188 ?_
   exact TX.roundW (k + 1) ({ { V85 with S := S103, B := B103 } with B := Bst1 }) r (⟨((hW85.bagT hS103 hN103 hB103).bagB hBst1).more (by omega), ⟨by omega, by omega⟩, (hI3.trans hle85), (hI4.trans (hS85.trans (hS103))), by (try dsimp only); omega, by (try dsimp only); omega⟩) ⟨rfl, rfl, rfl, rfl, rfl, trivial⟩ (fun w hw => hw.drop.drop) (by omega)
 ·
  have hml : k.toNat * (K + 40) ≤ 6 * (K + 40) := Nat.mul_le_mul_right _ (by omega)
  refine zm176 ?_; refine zm54 ?_; refine zm62 ?_
  refine TL.callD0 (X := [(b7, _), (b6, _), (F.bw, _)]) (bd := F.bd) rfl (enters rfl rfl rfl rfl) (Pick_ok 3 (by omega) hI1.d) rfl (fun v110 H110 at110 hle110 hd110 hp110 => ?_)
  obtain ⟨rfl, r110, rfl, hr110⟩ := hp110
  refine zm2 ?_
  refine TC.condD rfl (fun c111 => ?_) (fun c111 => ?_)
  ·
   refine zm30 ?_; refine zm73 ?_; refine zm62 ?_; refine zm113 ?_; refine zm14 ?_
   refine TL.alloc rfl (fun b11 => ?_)
   refine zm122 ?_; refine TL.callS (enters rfl rfl rfl rfl) (mBare_ok 2) rfl (TL.alloc rfl (fun b12 => ?_))
   refine zm26 ?_; refine zm30 ?_; refine zm14 ?_
   refine TL.callW (F := F) (V := { V1 with at_ := at110 }) (m := m + 1 + k.toNat * (K + 40)) [(b12, _), (b11, _), (b7, _), (b6, _)] rfl rfl (enters rfl rfl rfl rfl) (wTerm_ok ⟨3, [], 0, [108, 111, 115, 116], -1, -1⟩ .nil (by simp [AnyNm])) (hI1.dice (.refl _) hd110) (by omega) rfl (fun v122 V122 hle122 hW122 hS122 hs122 ht122 hp122 => ?_)
   dsimp only at hle122 hS122 hs122 ht122 hp122
   obtain ⟨i122, rfl⟩ := hp122
   refine zm178 ?_; refine zm19 ?_
   refine TL.callW (F := F) (V := V122) (m := m + 1 + k.toNat * (K + 40) + 1) [(b12, _), (b11, _), (b7, _), (b6, _)] rfl rfl (enters rfl rfl rfl rfl) (wThen_ok ⟨2, [], [], [], [], i122, none, 0, 0, none, 0, 0, none, 0, 0, -1⟩ ⟨.nil, .nil, .nil, .nil, .nil, .nil, .nil, Nat.zero_le _, Nat.zero_le _, Nat.zero_le _⟩) hW122 (by omega) rfl (fun v126 V126 hle126 hW126 hS126 hs126 ht126 hp126 => ?_)
   obtain ⟨rfl, hn126⟩ := hp126
   refine zm41 ?_; refine zm344 ?_
   refine TL.callW (F := F) (V := V126) (m := m + 1 + k.toNat * (K + 40) + 1 + 1) [(b12, _), (b11, _), (b7, _), (b6, _)] rfl rfl (enters rfl rfl rfl rfl) (wStep_ok ⟨0, [], [], [], [], -1, none, 0, 0, none, 0, 0, none, 0, 0, -1⟩ ⟨.nil, .nil, .nil, .nil, .nil, .nil, .nil, Nat.zero_le _, Nat.zero_le _, Nat.zero_le _⟩) hW126 (by omega) rfl (fun v129 V129 hle129 hW129 hS129 hs129 ht129 hp129 => ?_)
   obtain ⟨rfl, hn129⟩ := hp129
   refine zm33 ?_; refine zm25 ?_; refine zm473 ?_
   obtain ⟨bw19, jw19, qw19, haw19, hbw19, hjw19⟩ := hW129.s.at (by omega)
   obtain ⟨uw19, huw19, hcw19⟩ := hW129.bag.get (k := 10) (i := (V.sn : Int).toNat) (f := 8) hbw19 rfl hjw19 (by omega) rfl
   obtain ⟨waw19, wnw19, wcw19, rfl, hww19, hwnw19⟩ := huw19
   have hnbw19 := hW129.nb
   refine zm45 ?_; refine zm3 ?_; refine zm407 ?_; refine zm106 ?_; refine zm3 ?_; refine zm407 ?_; refine zm5 ?_; refine zm408 ?_; refine zm3 ?_
   refine TF.still (pr_bag rfl hcw19 (.skip _ (.skip _ (.skip _ (.skip _ (.skip _ (.skip _ .all))))))) rfl (TF.read (S1 (S1 (S1 (S1 (S1 (S1 SN)))))) (Hp.le.refl _) (fun _ _ => pr_ownA rfl (.there _ (.here _)) rfl) rfl (TF.bslice rfl rfl rfl rfl (fun b146 => ?_)))
   refine zm7 ?_
   refine TL.apT (enc := SWay.cells) (t := 1) rfl rfl rfl hW129.bag hww19 (Src.own [⟨[], [], _⟩] (.here _) rfl rfl) rfl (by intro y hy; rw [List.mem_singleton.1 hy]; exact SWay.all (s := ⟨[], [], _⟩) .nil .nil) zt1 (by simp only [List.length_cons, List.length_nil]; omega) rfl (.skip _ (.skip _ (.skip _ (.skip _ (.skip _ (.skip _ (.skip _ .all))))))) rfl (fun S147 a147 c147 B147 hS147 hN147 hT147 hB147 => ?_)
   change _ = _ + 1 at hN147
   refine TF.back5 (S0 (S1 (S1 (S1 (S1 (S1 (S1 SN))))))) (Hp.le.refl _) ?_; refine zm408 ?_; refine zm203 ?_
   refine TL.stR (t := 3) (f := 8) (ct := .sl 1) rfl rfl (hW129.bagT hS147 hN147 hB147).bag (.skip _ (.skip _ (.skip _ (.skip _ (.skip _ (.skip _ (.skip _ .all))))))) (hS147.1 _ _ hbw19) rfl hjw19 (by omega) rfl (⟨_, _, _, rfl, hT147, by simp only [List.length_cons, List.length_nil]; omega⟩) rfl rfl (fun Bst1 hBst1 => ?_)
   exact TF.back5 (S0 (S1 (S1 (S1 (S1 (S1 (S1 SN))))))) (Hp.le.refl _) (TF.nil (TX.finW (V' := { { V129 with S := S147, B := B147 } with B := Bst1 }) (X := [(b146, _), (b12, _), (b11, _), (b7, _), (b6, _)]) (.inl rfl) (results0 rfl) rfl rfl (((hW129.bagT hS147 hN147 hB147).bagB hBst1).more (by omega)) (hI4.trans (hS122.trans (hS126.trans (hS129.trans (hS147))))) (by (try dsimp only); omega) (by (try dsimp only); omega) ⟨rfl, by (try dsimp only); omega⟩))
  · exact TC.skip (TX.finW (V' := { V1 with at_ := at110 }) (X := [(b7, _), (b6, _)]) (.inl rfl) (results0 rfl) rfl rfl ((hI1.dice (.refl _) hd110).more (by omega)) hI4 (by (try dsimp only); omega) (by (try dsimp only); omega) ⟨rfl, by (try dsimp only); omega⟩)
end Go.Sx
namespace Go.Sx
open Go Go.Proofs
set_option maxHeartbeats 16000000 in
theorem wBlock_step {F : Fx} {V : WV} {T : SLocal} (hG : TG F T) (turn deep : Int) {K : Nat} (h0 : 0 ≤ turn) (h1 : turn < T.turns.length) (ih : 0 ≤ deep → deep ≤ 4 → ∀ (V : WV) (turn : Int), 0 ≤ turn → turn < T.turns.length → WFn Tryz.prog F V 69 [.int .i64 turn, .int .i64 (deep + 1)] K (fun v V1 => v = .tuple #[] ∧ V.sn < V1.sn)) (hK : K ≤ 9000000) (hdp : 0 ≤ deep ∧ deep ≤ 100) :
  WFn Tryz.prog F V 69 [.int .i64 turn, .int .i64 deep] (6 * (K + 40) + 60) (fun v V1 => v = .tuple #[] ∧ V.sn < V1.sn) := by
 refine WFn.enter Tryz.func69 Tryz.ntmps69 rfl rfl (fun m w0 hW hm => ?_)
 have hGg := hG.g
 have hr1 := hG.r1
 have hr0 := hG.r0
 have hty := hW.fx.ty
 have htk := hW.fx.tk T (List.mem_of_getElem? hGg)
 have hts := htk.t
 have htm := hts.max
 obtain ⟨t, htx⟩ := getSome (l := T.turns) h0 h1
 have hTt := hG.ts t (List.mem_of_getElem? htx)
 have hta := (htk.ts t (List.mem_of_getElem? htx)).a
 have ha6 := hTt.a6
 have ham := hta.max
 have hKB := hK
 refine zm61 ?_; refine zm348 ?_; refine zm207 ?_; refine zm207 ?_; refine zm349 ?_; refine zm3 ?_; refine zm350 ?_; refine zm5 ?_; refine zm351 ?_; refine zm352 ?_
 refine TF.alloc rfl (fun b6 => ?_)
 refine zm259 ?_; refine TF.nil (TX.seqN (TC.block ?_)); refine zm58 ?_; refine zm60 ?_
 refine TC.condD rfl (fun c38 => ?_) (fun c38 => ?_)
 ·
  refine zm66 ?_
  refine TL.callW (F := F) (V := V) (m := m) [(b6, _)] rfl rfl (enters rfl rfl rfl rfl) (wClose_ok true) hW (by omega) rfl (fun v43 V43 hle43 hW43 hS43 hs43 ht43 hp43 => ?_)
  obtain ⟨rfl, hn43⟩ := hp43
  exact TL.nil (TX.blkN (TX.finW (V' := V43) (X := [(b6, _)]) (.inl rfl) (results0 rfl) rfl rfl (hW43.more (by omega)) hS43 (by (try dsimp only); omega) (by (try dsimp only); omega) ⟨rfl, by (try dsimp only); omega⟩))
 ·
  refine zm40 ?_
  refine TL.split (s := 47) rfl (fun g47 => ?_) (fun g47 => ?_)
  ·
   have q47 := of_decide_eq_true g47
   refine zm8 ?_; refine zm17 ?_
   refine TL.split (s := 51) rfl (fun g51 => ?_) (fun g51 => ?_)
   ·
    have q51 := of_decide_eq_true g51
    refine zm8 ?_; refine TL.gdY rfl rfl (pr_nil rfl) rfl ?_; refine zm36 ?_; refine zm8 ?_; refine zm60 ?_
    refine TC.condD rfl (fun c44 => ?_) (fun c44 => ?_)
    ·
     refine zm66 ?_
     refine TL.callW (F := F) (V := V) (m := m) [(b6, _)] rfl rfl (enters rfl rfl rfl rfl) (wAgain_ok) hW (by omega) rfl (fun v59 V59 hle59 hW59 hS59 hs59 ht59 hp59 => ?_)
     obtain ⟨rfl, hn59⟩ := hp59
     exact TL.nil (TX.blkN (TX.finW (V' := V59) (X := [(b6, _)]) (.inl rfl) (results0 rfl) rfl rfl (hW59.more (by omega)) hS59 (by (try dsimp only); omega) (by (try dsimp only); omega) ⟨rfl, by (try dsimp only); omega⟩))
    · exact zq2034
   ·
    have q51 := of_decide_eq_false g51
    exact zq2325
  ·
   have q47 := of_decide_eq_false g47
   refine zm168 ?_
   exact zq2325
theorem wBlock_ok {F : Fx} {T : SLocal} (hG : TG F T) : ∀ (N : Nat), N ≤ 5 → ∀ (V : WV) (turn deep : Int), 0 ≤ turn → turn < T.turns.length → 0 ≤ deep → deep ≤ 100 → 5 - deep ≤ N →
  WFn Tryz.prog F V 69 [.int .i64 turn, .int .i64 deep] (KB N) (fun v V1 => v = .tuple #[] ∧ V.sn < V1.sn)
 | 0, _, V, turn, deep, h0, h1, h2, h3, h4 => wBlock_step hG turn deep (K := 0) h0 h1 (fun _ h => by omega) (by omega) ⟨h2, h3⟩
 | N + 1, hN, V, turn, deep, h0, h1, h2, h3, h4 => wBlock_step hG turn deep (K := KB N) h0 h1 (fun _ h V' t' g0 g1 => wBlock_ok hG N (by omega) V' t' (deep + 1) g0 g1 (by omega) (by omega) (by omega)) (KB_le (by omega)) ⟨h2, h3⟩
end Go.Sx
namespace Go.Sx
open Go Go.Proofs
set_option maxHeartbeats 4000000 in
theorem part_ok {H : Hp} {bd : Nat} {dl : Value} {at_ : Int} (hd : DiceOk H dl at_) {psv : Value} {ps : List SProto} (hps : RdSl H 3 SProto.cells psv ps) (hpk : ∀ p ∈ ps, ProtoOk H p) (hpg : ∀ p ∈ ps, GPr p) (hpn : 0 < ps.length) (p : SProto) (hp : ProtoOk H p) (hG : GPr p) {tyv : Value} {tys : List SLocal} (hty : RdSl H 2 SLocal.cells tyv tys) (htk : ∀ l ∈ tys, LocalOk H l) (role : Int) (carry : Str) (h0 : 0 ≤ role) (h1 : role < p.roles.length) (hcr : carry.length ≤ 1000) {T : SLocal} (hTG : ∀ F : Fx, F.tys = tys → F.role = role → TG F T) :
  DFn Tryz.prog bd dl at_ 31 [psv, .agg p.cells.toArray, tyv, .int .i64 role, gs carry] H (fun v H1 ob => ∃ S q, v = .agg (GProc.cells q).toArray ∧ Bag H1 S ob ∧ GPOk H1 S q ∧ S.N ≤ 10000000 ∧ q.params = [⟨[99], 5, carry⟩, ⟨[110], 1, []⟩] ∧ (∃ rr, p.roles[role.toNat]? = some rr ∧ q.name = p.name ++ rr)) := by
 obtain ⟨psa, psc, rfl⟩ := hps.len
 obtain ⟨tya, tyc, rfl⟩ := hty.len
 have hro := hp.r
 have hn1 := hG.n1
 obtain ⟨rr, hrx⟩ := getSome (l := p.roles) h0 h1
 have hrr := hG.rl (List.mem_of_getElem? hrx)
 have hPV : ∀ x ∈ ([⟨[99], 5, carry⟩, ⟨[110], 1, []⟩] : List SParam), VarNm x.name ∧ x.cn.length ≤ 1000 := by
  intro x hx; simp only [List.mem_cons, List.not_mem_nil, or_false] at hx; rcases hx with rfl | rfl
  · exact ⟨.inr (.inl rfl), hcr⟩
  · exact ⟨.inr (.inr (.inl rfl)), by simp⟩
 refine FnX.enter Tryz.func31 Tryz.ntmps31 rfl rfl (fun w0 => ?_)
 refine zm4 ?_
 refine TL.box rfl rfl (fun b8 => ?_)
 refine TL.alloc rfl (fun b12 => ?_)
 refine zm33 ?_; refine zm150 ?_; refine TQ.run (pr_ownA rfl (.there _ (.here _)) rfl) rfl ?_; refine zm110 ?_; refine zm301 ?_; refine zm92 ?_
 refine TQ.run (pr_indexSl rfl hro rfl (by omega) (by omega)) rfl (TQ.run (pr_el0 hro hrx rfl rfl) rfl (TQ.callS (enters rfl rfl rfl rfl) (procName_ok p rr (by omega) (by omega)) rfl ?_)); refine zm79 ?_; refine zm24 ?_
 refine zm139 ?_
 refine TL.callD0 (X := [(b12, _), (b8, _)]) (bd := bd) rfl (enters rfl rfl rfl rfl) (Pick_ok 7 (by omega) hd) rfl (fun v28 H28 at28 hle28 hd28 hp28 => ?_)
 obtain ⟨eH28, r28, rfl, hr28⟩ := hp28
 replace eH28 := eH28.symm; subst eH28
 have hra28 := hr28.1
 have hrb28 := hr28.2.1 (by omega)
 refine zm16 ?_; refine zm14 ?_
 refine TL.box rfl rfl (fun b31 => ?_)
 refine zm2 ?_; refine zm40 ?_; refine zm14 ?_; refine zm14 ?_; refine zm14 ?_; refine zm14 ?_
 refine TL.bslice rfl rfl rfl rfl (fun b39 => ?_)
 refine zm14 ?_; refine zm73 ?_; refine TL.storeG rfl rfl rfl rfl rfl (.there _ (.here _)) (Nat.le_of_ble_eq_true (by kernel_rfl)) rfl ?_; refine zm41 ?_
 refine TL.pubN (by simp [keys]) (fun H_b39 le_b39 rd_b39 => ?_)
 replace hps := hps.le le_b39
 replace hty := hty.le le_b39
 replace hpk := fun x hx => (hpk x hx).le le_b39
 replace htk := fun x hx => (htk x hx).le le_b39
 replace hd28 := hd28.le le_b39
 have hpa : RdSl H_b39 3 SParam.cells _ ([⟨[99], 5, carry⟩, ⟨[110], 1, []⟩]) := RdSl.blk (cap := 2) rd_b39 (by intro x hx; rfl) (by kernel_rfl) (by show 2 ≤ 9223372036854775807; decide)
 have hW0 : WI ⟨b31, bd, .slice psa ps.length psc, ps, p.name ++ rr, .slice (some ⟨b39, 0, none⟩) 2 2, p.name ++ rr, .slice tya tys.length tyc, tys, role, dl⟩ ⟨H_b39, Sig.nil, none, 0, 0, none, 0, 0, 0, 9 + r28, at28, []⟩ 0 := ⟨⟨hps, hpk, hpg, hpn, hty, htk, hG.proc hrr⟩, .nil, .nil, .nil, by simp, by have := hr28.1; simp; omega, by have := hr28.2.1 (by omega); simp; omega, hd28, by simp, by simp [Sig.nil], by simp [Sig.nil]⟩
 refine zm268 ?_; refine zm268 ?_
 refine TL.callW (F := ⟨b31, bd, .slice psa ps.length psc, ps, p.name ++ rr, .slice (some ⟨b39, 0, none⟩) 2 2, p.name ++ rr, .slice tya tys.length tyc, tys, role, dl⟩) (V := ⟨H_b39, Sig.nil, none, 0, 0, none, 0, 0, 0, 9 + r28, at28, []⟩) (m := 0) [(b12, _), (b8, _)] rfl rfl (enters rfl rfl rfl rfl) (wBlock_ok (T := T) (hTG _ rfl rfl) 5 (by omega) _ 0 0 (by omega) (by have := (hTG ⟨b31, bd, .slice psa ps.length psc, ps, p.name ++ rr, .slice (some ⟨b39, 0, none⟩) 2 2, p.name ++ rr, .slice tya tys.length tyc, tys, role, dl⟩ rfl rfl).n0; omega) (by omega) (by omega) (by omega)) hW0 (by have := KB_le (n := 5) (by omega); omega) rfl (fun v44 V44 hle44 hW44 hS44 hs44 ht44 hp44 => ?_)
 replace hpa := hpa.le hle44
 obtain ⟨rfl, hn44⟩ := hp44
 refine zm41 ?_; refine zm73 ?_; refine TL.run (pr_ownQ rfl (.there _ (.there _ (.here _))) rfl) rfl ?_; refine zm67 ?_
 exact TX.finX (.inr rfl) (results1 rfl (RVal.cellA rfl (.here _) rfl)) (fun w hw => hw.drop.drop.drop) ⟨_, V44.B, rfl, hW44.d, V44.S, ⟨p.name ++ rr, [⟨[99], 5, carry⟩, ⟨[110], 1, []⟩], (some ⟨b39, 0, none⟩, 2), V44.ta, V44.tn, V44.tc, V44.sa, V44.sn, V44.sc⟩, rfl, hW44.bag, ⟨hG.proc hrr, hpa, hPV, by simp, hW44.t, hW44.s, by have := hn44; simp at this; omega, by have := hW44.me; have := KB_le (n := 5) (by omega); dsimp only; omega, by have := hW44.me; have := KB_le (n := 5) (by omega); dsimp only; omega⟩, (by have := hW44.nb; have := KB_le (n := 5) (by omega); omega), rfl, _, hrx, rfl⟩
set_option maxHeartbeats 8000000 in
theorem mainProc_ok {H : Hp} {bd : Nat} {dl : Value} {at_ : Int} (hd : DiceOk H dl at_) {psv : Value} {ps : List SProto} (hps : RdSl H 3 SProto.cells psv ps) (hpk : ∀ p ∈ ps, ProtoOk H p) (hpg : ∀ p ∈ ps, GPr p) (hpn : 0 < ps.length) (hpm : ps.length ≤ 100) :
  DFn Tryz.prog bd dl at_ 32 [psv] H (fun v H1 ob => ∃ S q, v = .agg (GProc.cells q).toArray ∧ Bag H1 S ob ∧ GPOk H1 S q ∧ S.N ≤ 10000000 ∧ q.params = [] ∧ q.name = sMain) := by
 obtain ⟨psa, psc, rfl⟩ := hps.len
 have hps0 := hps
 have hpk0 := hpk
 refine FnX.enter Tryz.func32 Tryz.ntmps32 rfl rfl (fun w0 => ?_)
 refine zm4 ?_
 refine TL.alloc rfl (fun b4 => ?_)
 refine zm33 ?_; refine zm24 ?_; refine zm14 ?_
 refine TL.box rfl rfl (fun b15 => ?_)
 refine zm53 ?_; refine zm14 ?_; refine zm73 ?_; refine TL.storeG rfl rfl rfl rfl rfl (.here _) (Nat.le_of_ble_eq_true (by kernel_rfl)) rfl ?_; refine zm41 ?_
 refine TL.callD0 (X := [(b15, _), (b4, _)]) (bd := bd) rfl (enters rfl rfl rfl rfl) (Pick_ok 3 (by omega) hd) rfl (fun v21 H21 at21 hle21 hd21 hp21 => ?_)
 obtain ⟨eH21, r21, rfl, hr21⟩ := hp21
 replace eH21 := eH21.symm; subst eH21
 have hra21 := hr21.1
 have hrb21 := hr21.2.1 (by omega)
 refine zm276 ?_
 have hW0 : WI ⟨b15, bd, .slice psa ps.length psc, ps, sMain, .slice none 0 0, [], .slice none 0 0, [], 0, dl⟩ ⟨H, Sig.nil, none, 0, 0, none, 0, 0, 0, 0, at21, []⟩ 0 := ⟨⟨hps, hpk, hpg, hpn, RdSl.nil, by simp, .nil⟩, .nil, .nil, .nil, by simp, by simp, by simp, hd21, by simp, by simp [Sig.nil], by simp [Sig.nil]⟩
 refine TX.front (.there _ (.here _)) (TX.seqN ?_); refine zm55 ?_
 refine TC.loopW (V := fun (k : Int) (V1 : WV) (r : Rw) => [(7, .int .i64 k)]) (K := [(0, _), (1, _), (4, _), (5, _), (6, _)]) (L := fun k V1 r => St [bd] w0 H V1.H ((b4, [gs [], .slice none 0 0, .slice none 0 0, .slice none 0 0]) :: Fx.L ⟨b15, bd, .slice psa ps.length psc, ps, sMain, .slice none 0 0, [], .slice none 0 0, [], 0, dl⟩ V1)) (I := fun k V1 r => WI ⟨b15, bd, .slice psa ps.length psc, ps, sMain, .slice none 0 0, [], .slice none 0 0, [], 0, dl⟩ V1 (20 * k.toNat) ∧ (0 ≤ k ∧ k ≤ 1 + r21) ∧ H.le V1.H ∧ k.toNat ≤ V1.sn) (μ := fun k => (1 + r21 - k).toNat) 0 ⟨H, Sig.nil, none, 0, 0, none, 0, 0, 0, 0, at21, []⟩ ⟨none, 0, 0⟩ ⟨rfl, rfl, rfl, rfl, rfl, rfl, trivial⟩ (⟨by simpa using hW0, ⟨by omega, by omega⟩, .refl _, by simp⟩) (fun w hw => hw) (fun k V1 r hI => ?_)
 obtain ⟨hI1, ⟨k0, k1⟩, hI3, hI4⟩ := hI
 replace hps := hps0.le hI3
 replace hpk := fun x hx => (hpk0 x hx).le hI3
 refine zm133 ?_
 refine TC.condD rfl (fun c25 => ?_) (fun c25 => ?_)
 ·
  refine zm164 ?_; refine zm40 ?_
  refine TL.run (pr_lenSl rfl rfl hps) rfl (TL.callD0 (X := [(b4, _), (b15, _)]) (bd := bd) rfl (enters rfl rfl rfl rfl) (Pick_ok (ps.length : Int) (by omega) hI1.d) rfl (fun v32 H32 at32 hle32 hd32 hp32 => ?_))
  obtain ⟨rfl, r32, rfl, hr32⟩ := hp32
  have hra32 := hr32.1
  have hrb32 := hr32.2.1 (by omega)
  obtain ⟨p, hpx⟩ := getSome (l := ps) hra32 hrb32
  have hpm_ := List.mem_of_getElem? hpx
  have hp := hpk p hpm_
  have hG := hpg p hpm_
  have hn1 := hG.n1
  have hro := hp.r
  have hr2 := hG.r2
  have hr5 := hG.r5
  refine TL.run (pr_indexSl rfl hps rfl (by omega) (by omega)) rfl (TL.run (pr_elA hps hpx rfl rfl) rfl (TL.alloc rfl (fun b8 => ?_)))
  refine zm158 ?_; refine zm474 ?_; refine zm124 ?_; refine zm47 ?_; refine zm354 ?_; refine TF.pure (pr_lenSl rfl rfl hro) rfl ?_; refine zm7 ?_
  refine TL.callD0 (X := [(b8, _), (b4, _), (b15, _)]) (bd := bd) rfl (enters rfl rfl rfl rfl) (Pick_ok (p.roles.length : Int) (by omega) (hI1.dice (.refl _) hd32).d) rfl (fun v41 H41 at41 hle41 hd41 hp41 => ?_)
  obtain ⟨rfl, r41, rfl, hr41⟩ := hp41
  have hra41 := hr41.1
  have hrb41 := hr41.2.1 (by omega)
  obtain ⟨rr, hrx⟩ := getSome (l := p.roles) hra41 hrb41
  have hrr := hG.rl (List.mem_of_getElem? hrx)
  refine zm262 ?_; refine zm253 ?_; refine TF.still (pr_el0 hro hrx rfl rfl) rfl ?_; refine zm201 ?_; refine zm30 ?_; refine zm19 ?_; refine zm0 ?_
  refine TL.callW (F := ⟨b15, bd, .slice psa ps.length psc, ps, sMain, .slice none 0 0, [], .slice none 0 0, [], 0, dl⟩) (V := { { V1 with at_ := at32 } with at_ := at41 }) (m := 20 * k.toNat) [(b8, _), (b4, _)] rfl rfl (enters rfl rfl rfl rfl) (wOpens_ok p rr hp hG (Nat.le_trans hrr (by decide))) ((hI1.dice (.refl _) hd32).dice (.refl _) hd41) (by omega) rfl (fun v47 V47 hle47 hW47 hS47 hs47 ht47 hp47 => ?_)
  dsimp only at hle47 hS47 hs47 ht47 hp47
  obtain ⟨s47, rfl, hv47⟩ := hp47
  refine zm100 ?_; refine TL.callS (enters rfl rfl rfl rfl) (mBare_ok 7) rfl (TL.alloc rfl (fun b11 => ?_))
  refine zm26 ?_; refine zm32 ?_; refine zm154 ?_; refine zm2 ?_
  refine TC.condD rfl (fun c52 => ?_) (fun c52 => ?_)
  ·
   refine TC.region (TL.callS (enters rfl rfl rfl rfl) (mBare_ok 6) rfl ?_); refine zm122 ?_; refine zm70 ?_; refine zm0 ?_; refine zm345 ?_; refine zm63 ?_; refine zm61 ?_
   refine TD.part 7 2 rfl rfl rfl ?_ ?_
   ·
    refine zm346 ?_; refine zm244 ?_; refine zm206 ?_; refine zm7 ?_
    refine TL.callW (F := ⟨b15, bd, .slice psa ps.length psc, ps, sMain, .slice none 0 0, [], .slice none 0 0, [], 0, dl⟩) (V := V47) (m := 20 * k.toNat + 12) [(b11, _), (b8, _), (b4, _)] rfl rfl (enters rfl rfl rfl rfl) (wName_ok s47 hv47) hW47 (by omega) rfl (fun v60 V60 hle60 hW60 hS60 hs60 ht60 hp60 => ?_)
    obtain ⟨i60, rfl⟩ := hp60
    refine zm209 ?_
    exact zq2335
   ·
    refine zm347 ?_; refine zm245 ?_
    refine TL.callW (F := ⟨b15, bd, .slice psa ps.length psc, ps, sMain, .slice none 0 0, [], .slice none 0 0, [], 0, dl⟩) (V := V47) (m := 20 * k.toNat + 12) [(b11, _), (b8, _), (b4, _)] rfl rfl (enters rfl rfl rfl rfl) (wName_ok s47 hv47) hW47 (by omega) rfl (fun v60 V60 hle60 hW60 hS60 hs60 ht60 hp60 => ?_)
    obtain ⟨i60, rfl⟩ := hp60
    refine zm209 ?_; refine zm206 ?_
    exact zq2335
  ·
   refine zm69 ?_; refine zm70 ?_; refine zm0 ?_; refine zm345 ?_; refine zm63 ?_; refine zm61 ?_
   refine TD.part 7 2 rfl rfl rfl ?_ ?_
   ·
    refine zm346 ?_; refine zm244 ?_; refine zm206 ?_; refine zm7 ?_
    refine TL.callW (F := ⟨b15, bd, .slice psa ps.length psc, ps, sMain, .slice none 0 0, [], .slice none 0 0, [], 0, dl⟩) (V := V47) (m := 20 * k.toNat + 12) [(b11, _), (b8, _), (b4, _)] rfl rfl (enters rfl rfl rfl rfl) (wName_ok s47 hv47) hW47 (by omega) rfl (fun v60 V60 hle60 hW60 hS60 hs60 ht60 hp60 => ?_)
    obtain ⟨i60, rfl⟩ := hp60
    refine zm209 ?_
    exact zq2378
   ·
    refine zm347 ?_; refine zm245 ?_
    refine TL.callW (F := ⟨b15, bd, .slice psa ps.length psc, ps, sMain, .slice none 0 0, [], .slice none 0 0, [], 0, dl⟩) (V := V47) (m := 20 * k.toNat + 12) [(b11, _), (b8, _), (b4, _)] rfl rfl (enters rfl rfl rfl rfl) (wName_ok s47 hv47) hW47 (by omega) rfl (fun v60 V60 hle60 hW60 hS60 hs60 ht60 hp60 => ?_)
    obtain ⟨i60, rfl⟩ := hp60
    refine zm209 ?_; refine zm206 ?_
    exact zq2378
 ·
  refine zm176 ?_; refine zm73 ?_; refine TL.run (pr_ownQ rfl (.there _ (.here _)) rfl) rfl ?_; refine zm67 ?_
  exact TX.finX (.inr rfl) (results1 rfl (RVal.cellA rfl (.here _) rfl)) (fun w hw => hw.drop.drop) ⟨_, V1.B, rfl, hI1.d, V1.S, ⟨sMain, [], (none, 0), V1.ta, V1.tn, V1.tc, V1.sa, V1.sn, V1.sc⟩, rfl, hI1.bag, ⟨by simp [PNm, sMain], RdSl.nil, by simp, by simp, hI1.t, hI1.s, by dsimp only; omega, by have := hI1.me; dsimp only; omega, by have := hI1.me; dsimp only; omega⟩, (by have := hI1.nb; omega), rfl, rfl⟩
end Go.Sx
namespace Go.Sx
open Go
theorem whereL_some : ∀ {l : List (List Int)} {x : List Int} {k : Nat}, whereL l x = some k → k < l.length
  | [], x, k, h => by simp [whereL] at h
  | y :: r, x, k, h => by
    unfold whereL at h
    split at h
    · simp at h; subst h; simp
    · rw [Option.map_eq_some_iff] at h
      obtain ⟨j, hj, rfl⟩ := h
      have := whereL_some hj
      simp; omega
theorem lookS_at {p : SProto} {role : Str} {sets : List (List Int)} {frm : List Int} (h40 : sets.length ≤ 40) (h : (lookS p role sets frm).2.1 = 0) :
    0 ≤ (lookS p role sets frm).1 ∧ (lookS p role sets frm).1 < (lookS p role sets frm).2.2.length ∧ (lookS p role sets frm).2.2.length ≤ 40 := by
  unfold lookS at h ⊢
  split at h
  · simp at h
  · rename_i hc
    rw [if_neg hc]
    split at h
    · rename_i i hi
      have := whereL_some hi
      dsimp only
      omega
    · rename_i hi
      split at h
      · simp at h
      · rename_i hn
        rw [if_neg hn]
        simp only [List.length_append, List.length_cons, List.length_nil]
        omega
def ArmIn (n B : Nat) (a : SArm) : Prop := (0 ≤ a.next ∧ a.next < (n : Int)) ∧ a.label.length ≤ B
theorem ArmIn.up {n m B : Nat} {a : SArm} (h : ArmIn n B a) (hm : n ≤ m) : ArmIn m B a := ⟨⟨h.1.1, by have := h.1.2; omega⟩, h.2⟩
theorem turnA_all {p : SProto} {role : Str} {set : List Int} {B : Nat} : ∀ (l : List Str) (sets : List (List Int)) (acc : List SArm), sets.length ≤ 40 → (∀ a ∈ acc, ArmIn sets.length B a) → (∀ lb ∈ l, lb.length ≤ B) → (turnA p role set l sets acc).2.1 = 0 →
    (turnA p role set l sets acc).1.length = acc.length + l.length ∧ (turnA p role set l sets acc).2.2.length ≤ 40 ∧ ∀ a ∈ (turnA p role set l sets acc).1, ArmIn (turnA p role set l sets acc).2.2.length B a
  | [], sets, acc, h40, ha, _, _ => ⟨rfl, h40, ha⟩
  | lb :: r, sets, acc, h40, ha, hl, h0 => by
    unfold turnA at h0 ⊢
    have hat := @lookS_at p role sets (carS p set lb).2.2.1 h40
    have hge := @lookS_ge p role sets (carS p set lb).2.2.1
    generalize lookS p role sets (carS p set lb).2.2.1 = q at h0 hat hge ⊢
    obtain ⟨ix, e, s'⟩ := q
    dsimp only at h0 hat hge ⊢
    by_cases hb : e ≠ 0
    · rw [if_pos hb] at h0
      exact absurd h0 hb
    · rw [if_neg hb] at h0 ⊢
      obtain ⟨h1, h2, h3⟩ := hat (Decidable.of_not_not hb)
      have hacc : ∀ a ∈ acc ++ [(⟨lb, (carS p set lb).1, (carS p set lb).2.1, ix⟩ : SArm)], ArmIn s'.length B a := all_snoc (fun a hm => (ha a hm).up hge) ⟨⟨h1, h2⟩, hl lb (by simp)⟩
      obtain ⟨h4, h5, h6⟩ := turnA_all r s' _ h3 hacc (fun x hx => hl x (by simp [hx])) h0
      refine ⟨?_, h5, h6⟩
      rw [h4]; simp only [List.length_append, List.length_cons, List.length_nil]; omega
theorem putS_mem : ∀ {l : List Str} {s x : Str}, x ∈ putS l s → x = s ∨ x ∈ l
  | [], s, x, h => by simp [putS] at h; exact .inl h
  | y :: r, s, x, h => by
    unfold putS at h
    split at h
    · rcases List.mem_cons.1 h with rfl | h
      · exact .inr (by simp)
      · rcases putS_mem h with h | h
        · exact .inl h
        · exact .inr (by simp [h])
    · split at h
      · exact .inr h
      · rcases List.mem_cons.1 h with rfl | h
        · exact .inl rfl
        · exact .inr h
theorem foldput_mem : ∀ {o i : List Str} {x : Str}, x ∈ o.foldl putS i → x ∈ o ∨ x ∈ i
  | [], i, x, h => .inr h
  | y :: r, i, x, h => by
    rcases foldput_mem (o := r) (i := putS i y) h with h | h
    · exact .inl (by simp [h])
    · rcases putS_mem h with h | h
      · exact .inl (by simp [h])
      · exact .inr h
theorem labA_mem : ∀ {l : List SArm} {o : List Str} {x : Str}, x ∈ labA o l → x ∈ o ∨ ∃ a ∈ l, x = a.label
  | [], o, x, h => .inl h
  | a :: r, o, x, h => by
    have h : x ∈ labA (o.foldl putS [a.label]) r := h
    rcases labA_mem h with h | ⟨b, hb, e⟩
    · rcases foldput_mem h with h | h
      · exact .inl h
      · exact .inr ⟨a, by simp, by simpa using h⟩
    · exact .inr ⟨b, by simp [hb], e⟩
theorem labP_mem {p : SProto} : ∀ {l : List Int} {o : List Str} {x : Str}, x ∈ labP p o l → x ∈ o ∨ ∃ q ∈ p.points, ∃ a ∈ q.arms, x = a.label
  | [], o, x, h => .inl h
  | j :: r, o, x, h => by
    have h : x ∈ labP p (match p.points[j.toNat]? with | some x => labA o x.arms | none => o) r := h
    rcases labP_mem h with h | h
    · split at h
      · rename_i q hq
        rcases labA_mem h with h | ⟨a, ha, e⟩
        · exact .inl h
        · exact .inr ⟨q, List.mem_of_getElem? hq, a, ha, e⟩
      · exact .inl h
    · exact .inr h
theorem putS_ne (l : List Str) (s : Str) : putS l s ≠ [] := by
  cases l with
  | nil => simp [putS]
  | cons x r =>
    unfold putS
    split
    · simp
    · split <;> simp
theorem foldput_ne : ∀ {o i : List Str}, i ≠ [] → o.foldl putS i ≠ []
  | [], _, h => h
  | y :: r, i, _ => foldput_ne (o := r) (i := putS i y) (putS_ne _ _)
theorem labA_ne : ∀ {l : List SArm} {o : List Str}, o ≠ [] ∨ l ≠ [] → labA o l ≠ []
  | [], o, h => by
    rcases h with h | h
    · exact h
    · exact absurd rfl h
  | a :: r, o, _ => labA_ne (l := r) (o := o.foldl putS [a.label]) (.inl (foldput_ne (by simp)))
theorem labP_ne {p : SProto} : ∀ {l : List Int} {o : List Str}, (o ≠ [] ∨ ∃ j ∈ l, ∃ q, p.points[j.toNat]? = some q ∧ q.arms ≠ []) → labP p o l ≠ []
  | [], o, h => by
    rcases h with h | ⟨j, hj, _⟩
    · exact h
    · simp at hj
  | j :: r, o, h => by
    refine labP_ne (l := r) (o := match p.points[j.toNat]? with | some x => labA o x.arms | none => o) ?_
    rcases h with h | ⟨k, hk, q, hq, ha⟩
    · refine .inl ?_
      split
      · exact labA_ne (.inl h)
      · exact h
    · rcases List.mem_cons.1 hk with rfl | hk
      · refine .inl ?_
        rw [hq]
        exact labA_ne (.inr ha)
      · exact .inr ⟨k, hk, q, hq, ha⟩
theorem wHeadF_peer {p : SProto} {role : Str} {B : Nat} (hB : ∀ x ∈ p.points, x.frm.length ≤ B ∧ x.to.length ≤ B) : ∀ (l : List Int) (i : Nat) (kind : Int) (peer : Str), peer.length ≤ B → (wHeadF p role i kind peer l).2.1.length ≤ B
  | [], _, _, _, h => h
  | j :: r, i, kind, peer, h => by
    unfold wHeadF
    split
    · exact h
    · rename_i x hx
      have hb := hB x (List.mem_of_getElem? hx)
      have hp : (if x.to = role then x.frm else x.to).length ≤ B := by
        split
        · exact hb.1
        · exact hb.2
      generalize (if x.to = role then x.frm else x.to) = pe at hp ⊢
      generalize (if x.to = role then (2 : Int) else 1) = ke
      by_cases hc : 0 < i ∧ ¬ (ke = kind ∧ pe = peer)
      · rw [if_pos hc]; simp
      · rw [if_neg hc]; exact wHeadF_peer hB r _ _ _ hp
theorem may_le {s : Str} (h : nameMay s = true) : s.length ≤ 12 ∧ s ≠ [] := by
  unfold nameMay at h
  split at h
  · cases h
  · split at h
    · cases h
    · rename_i h1 h2
      refine ⟨by omega, fun e => ?_⟩
      subst e; simp at h1
theorem RPOk.lens {p : SProto} (h : RPOk p) {x : SPoint} (hx : x ∈ p.points) : (x.frm.length ≤ 1000 ∧ x.to.length ≤ 1000) ∧ (∀ a ∈ x.arms, a.label.length ≤ 1000) ∧ (x.frm ≠ [] ∨ x.to ≠ [] → x.arms ≠ []) := by
  have hp := h.pt x hx
  unfold rPointB emptyP pointM hasS armsB at hp
  simp only [Bool.or_eq_true, Bool.and_eq_true, decide_eq_true_eq] at hp
  rcases hp with ⟨h1, h2, h3⟩ | ⟨⟨h1, h2, _⟩, ⟨h3, _⟩, h5, _⟩
  · refine ⟨by rw [h1, h2]; simp, fun a ha => ?_, fun hh => ?_⟩
    · rw [List.length_eq_zero_iff.1 (show x.arms.length = 0 by omega)] at ha; simp at ha
    · rcases hh with hh | hh
      · exact absurd h1 hh
      · exact absurd h2 hh
  · have e1 := (may_le (h.rn _ h1)).1
    have e2 := (may_le (h.rn _ h2)).1
    refine ⟨by omega, fun a ha => ?_, fun _ e => ?_⟩
    · have := List.all_eq_true.1 h5 a ha
      unfold armB at this
      simp only [Bool.and_eq_true] at this
      have := (may_le this.1).1
      omega
    · rw [e] at h3; simp at h3
def TTok (n : Nat) (t : TT) : Prop := t.2.1.length ≤ 1000 ∧ t.2.2.length ≤ 6 ∧ (t.1 ≠ 0 → t.1 ≠ 2 → 1 ≤ t.2.2.length) ∧ ∀ a ∈ t.2.2, ArmIn n 1000 a
theorem TTok.up {n m : Nat} {t : TT} (h : TTok n t) (hm : n ≤ m) : TTok m t := ⟨h.1, h.2.1, h.2.2.1, fun a ha => (h.2.2.2 a ha).up hm⟩
theorem tt0 {n : Nat} : TTok n (0, [], []) := ⟨by simp, by simp, by simp, by simp⟩
theorem turnS_all {p : SProto} {role : Str} (hP : RPOk p) (hr : role ≠ []) {sets : List (List Int)} {set : List Int} (h40 : sets.length ≤ 40) (hin : ∀ j ∈ set, inP p role j = true) (h0 : (turnS p role sets set).2.1 = 0) :
    (turnS p role sets set).2.2.length ≤ 40 ∧ TTok (turnS p role sets set).2.2.length (turnS p role sets set).1 := by
  unfold turnS at h0 ⊢
  by_cases c1 : set.length = 0
  · rw [if_pos c1]; exact ⟨h40, tt0⟩
  rw [if_neg c1] at h0 ⊢
  by_cases c2 : (wHeadS p role set).2.2 ≠ 0
  · rw [if_pos c2]; exact ⟨h40, tt0⟩
  rw [if_neg c2] at h0 ⊢
  by_cases c3 : (wHeadS p role set).1 = 1 ∧ alikeS p set = false
  · rw [if_pos c3]; exact ⟨h40, tt0⟩
  rw [if_neg c3] at h0 ⊢
  by_cases c4 : 6 < (labS p set).length
  · rw [if_pos c4]; exact ⟨h40, tt0⟩
  rw [if_neg c4] at h0 ⊢
  by_cases c5 : (labS p set).all (carB p set) = false
  · rw [if_pos c5]; exact ⟨h40, tt0⟩
  rw [if_neg c5] at h0 ⊢
  by_cases c6 : (turnA p role set (labS p set) sets []).2.1 ≠ 0
  · rw [if_pos c6] at h0; exact absurd h0 c6
  rw [if_neg c6]
  obtain ⟨h1, h2, h3⟩ := turnA_all (B := 1000) (labS p set) sets [] h40 (by simp) (fun lb hlb => by
    rcases labP_mem hlb with h | ⟨q, hq, a, ha, rfl⟩
    · simp at h
    · exact (hP.lens hq).2.1 a ha) (Decidable.of_not_not c6)
  refine ⟨h2, ?_, ?_, fun _ _ => ?_, h3⟩
  · exact wHeadF_peer (fun x hx => (hP.lens hx).1) set 0 0 [] (by simp)
  · dsimp only; rw [h1]; simp only [List.length_nil]; omega
  · dsimp only; rw [h1]
    have : labS p set ≠ [] := by
      refine labP_ne (.inr ?_)
      obtain ⟨j, r, e⟩ : ∃ j r, set = j :: r := by
        cases set with
        | nil => exact absurd rfl c1
        | cons j r => exact ⟨j, r, rfl⟩
      have hj := hin j (by rw [e]; simp)
      unfold inP at hj
      split at hj
      · rename_i x hx
        refine ⟨j, by rw [e]; simp, x, hx, (hP.lens (List.mem_of_getElem? hx)).2.2 ?_⟩
        unfold withinB at hj
        simp only [Bool.or_eq_true, decide_eq_true_eq] at hj
        rcases hj with h | h
        · exact .inl (by rw [h]; exact hr)
        · exact .inr (by rw [h]; exact hr)
      · cases hj
    have := List.length_pos_iff.2 this
    simp only [List.length_nil]; omega
def InP (p : SProto) (role : Str) (sets : List (List Int)) : Prop := ∀ s ∈ sets, ∀ j ∈ s, inP p role j = true
theorem lookS_in {p : SProto} {role : Str} {sets : List (List Int)} {frm : List Int} (h : InP p role sets) : InP p role (lookS p role sets frm).2.2 := by
  unfold lookS
  split
  · exact h
  · split
    · exact h
    · split
      · exact h
      · exact all_snoc h (fun j hj => (List.mem_filter.1 hj).2)
theorem turnA_in {p : SProto} {role : Str} {set : List Int} : ∀ (l : List Str) (sets : List (List Int)) (acc : List SArm), InP p role sets → InP p role (turnA p role set l sets acc).2.2
  | [], _, _, h => h
  | lb :: r, sets, acc, h => by
    unfold turnA
    split
    · exact lookS_in h
    · exact turnA_in r _ _ (lookS_in h)
theorem turnS_in {p : SProto} {role : Str} {set : List Int} {sets : List (List Int)} (h : InP p role sets) : InP p role (turnS p role sets set).2.2 := by
  unfold turnS
  split; · exact h
  split; · exact h
  split; · exact h
  split; · exact h
  split; · exact h
  split; · exact turnA_in _ _ _ h
  exact turnA_in _ _ _ h
theorem rolW_all {p : SProto} {role : Str} (hP : RPOk p) (hr : role ≠ []) : ∀ (f i : Nat) (sets : List (List Int)) (acc : List TT), sets.length ≤ 40 → i ≤ sets.length → 41 ≤ i + f → acc.length = i → (∀ t ∈ acc, TTok sets.length t) → InP p role sets → (rolW p role f i sets acc).1 = 0 →
    sets.length ≤ (rolW p role f i sets acc).2.length ∧ ∀ t ∈ (rolW p role f i sets acc).2, TTok (rolW p role f i sets acc).2.length t
  | 0, i, sets, acc, h40, hi, hf, _, _, _, _ => by omega
  | f + 1, i, sets, acc, h40, hi, hf, hac, hT, hI, h0 => by
    cases hs : sets[i]? with
    | none =>
      have hle := List.getElem?_eq_none_iff.1 hs
      rw [rolW_end hle]
      have : acc.length = sets.length := by omega
      dsimp only
      rw [this]
      exact ⟨Nat.le_refl _, hT⟩
    | some s =>
      have hlt := (List.getElem?_eq_some_iff.1 hs).1
      by_cases hb : (turnS p role sets s).2.1 ≠ 0
      · rw [rolW_bad hs hb] at h0; exact absurd h0 hb
      · rw [rolW_next hs hb] at h0 ⊢
        obtain ⟨h1, h2⟩ := turnS_all hP hr h40 (hI s (List.mem_of_getElem? hs)) (Decidable.of_not_not hb)
        have hge := @turnS_ge p role s sets
        have hin := @turnS_in p role s sets hI
        generalize (turnS p role sets s).2.2 = s' at *
        generalize (turnS p role sets s).1 = t' at *
        obtain ⟨h3, h4⟩ := rolW_all hP hr f (i + 1) s' (acc ++ [t']) h1 (by omega) (by omega) (by simp [hac]) (all_snoc (fun t ht => (hT t ht).up hge) h2) hin h0
        exact ⟨by omega, h4⟩
theorem roleS_all {p : SProto} {role : Str} (h0 : (roleS p role).1 = 0) : 0 < (roleS p role).2.length ∧ ∀ t ∈ (roleS p role).2, TTok (roleS p role).2.length t := by
  unfold roleS at h0 ⊢
  by_cases c1 : (rProtoB p && hasS p.roles role) = false
  · rw [if_pos c1] at h0; cases h0
  rw [if_neg c1] at h0 ⊢
  by_cases c2 : (lookS p role [] [0]).2.1 ≠ 0
  · rw [if_pos c2] at h0; exact absurd h0 c2
  rw [if_neg c2] at h0 ⊢
  have c1 : rProtoB p = true ∧ hasS p.roles role = true := by simpa using c1
  have hP := RPOk.of c1.1
  have hr := (may_le (hP.rn role (of_decide_eq_true c1.2))).2
  obtain ⟨h1, h2, h3⟩ := @lookS_at p role [] [0] (by simp) (Decidable.of_not_not c2)
  obtain ⟨h4, h5⟩ := rolW_all hP hr 41 0 _ [] h3 (by omega) (by omega) rfl (by simp) (lookS_in (by intro s hs; simp at hs)) h0
  exact ⟨by omega, h5⟩
theorem rAllF_all {p : SProto} : ∀ (l : List Str) (i : Nat), (rAllF p i l).1 = 0 → ∀ r ∈ l, (roleS p r).1 = 0
  | [], _, _, r, hr => by simp at hr
  | x :: l, i, h, r, hr => by
    unfold rAllF at h
    split at h
    · rename_i hb; exact absurd h hb
    · rename_i hb
      rcases List.mem_cons.1 hr with rfl | hr
      · exact Decidable.of_not_not hb
      · exact rAllF_all l _ h r hr
theorem allE_all {p : SProto} (h : (allE p).1 = 0) : ∀ r ∈ p.roles, (roleS p r).1 = 0 := by
  unfold allE at h
  split at h
  · cases h
  · exact rAllF_all _ _ h
theorem LsOk.tg {H : Hp} {p : SProto} {ls : List SLocal} (h : LsOk H p p.roles.length ls) (hz : (allE p).1 = 0) {k : Int} (h0 : 0 ≤ k) {T : SLocal} (hk : ls[k.toNat]? = some T) : ∀ F : Fx, F.tys = ls → F.role = k → TG F T := by
  intro F hF hR
  obtain ⟨r, hr, hnm, hok, htt⟩ := h.at_ _ _ hk
  obtain ⟨h1, h2⟩ := roleS_all (allE_all hz r (List.mem_of_getElem? hr))
  rw [← htt, List.length_map] at h1
  rw [← htt, List.length_map] at h2
  refine ⟨by rw [hR]; exact h0, by rw [hR, hF]; have := (List.getElem?_eq_some_iff.1 hk).1; omega, by rw [hR, hF]; exact hk, h1, fun t ht => ?_⟩
  obtain ⟨a1, a2, a3, a4⟩ := h2 (tt t) (List.mem_map.2 ⟨t, ht, rfl⟩)
  exact ⟨a1, a2, a3, fun a ha => (a4 a ha).2, fun a ha => (a4 a ha).1⟩
def Sig.un (S S' : Sig) : Sig := ⟨fun b => match S.f b with | .some x => .some x | .none => S'.f b, max S.N S'.N⟩
theorem Sig.le_un {S S' : Sig} : S.le (S.un S') := ⟨fun b x h => by show (match S.f b with | .some x => .some x | .none => S'.f b) = some x; rw [h], Nat.le_max_left _ _⟩
theorem Bag.un_le {H : Hp} {S S' : Sig} {B B' : Blks} (h : Bag H S B) (h' : Bag H S' B') (hd : ((B ++ B').map (·.1)).Nodup) : S'.le (S.un S') := by
  refine ⟨fun b x hx => ?_, Nat.le_max_right _ _⟩
  show (match S.f b with | .some x => .some x | .none => S'.f b) = some x
  cases e : S.f b with
  | none => exact hx
  | some y =>
    obtain ⟨c1, m1⟩ := h.mem b y.1 y.2 e
    obtain ⟨c2, m2⟩ := h'.mem b x.1 x.2 hx
    rw [List.map_append, List.nodup_append] at hd
    exact absurd rfl (hd.2.2 b (List.mem_map.2 ⟨_, m1, rfl⟩) b (List.mem_map.2 ⟨_, m2, rfl⟩))
theorem Bag.un {H : Hp} {S S' : Sig} {B B' : Blks} (h : Bag H S B) (h' : Bag H S' B') (hd : ((B ++ B').map (·.1)).Nodup) : Bag H (S.un S') (B ++ B') := by
  have hle := h.un_le h' hd
  refine ⟨fun q hq => ?_, fun b t m hs => ?_⟩
  · rcases List.mem_append.1 hq with hq | hq
    · obtain ⟨t, m, h1, h2, h3⟩ := h.ty q hq
      refine ⟨t, m, Sig.le_un.1 _ _ h1, h2, fun o u hu => ?_⟩
      obtain ⟨ct, h4, h5⟩ := h3 o u hu
      exact ⟨ct, h4, h5.le (.refl H) Sig.le_un⟩
    · obtain ⟨t, m, h1, h2, h3⟩ := h'.ty q hq
      refine ⟨t, m, hle.1 _ _ h1, h2, fun o u hu => ?_⟩
      obtain ⟨ct, h4, h5⟩ := h3 o u hu
      exact ⟨ct, h4, h5.le (.refl H) hle⟩
  · have hs : (match S.f b with | .some x => .some x | .none => S'.f b) = some (t, m) := hs
    cases e : S.f b with
    | none =>
      rw [e] at hs
      obtain ⟨cs, hc⟩ := h'.mem b t m hs
      exact ⟨cs, List.mem_append_right _ hc⟩
    | some y =>
      rw [e] at hs
      cases hs
      obtain ⟨cs, hc⟩ := h.mem b t m e
      exact ⟨cs, List.mem_append_left _ hc⟩
structure PSt where
  k : Int
  h : Hp
  a : Int
  S : Sig
  v : Value
  qs : List GProc
  ob : Blks
  B : Blks
structure PInv (H : Hp) (dl : Value) (m : Int) (q : PSt) : Prop where
  le : H.le q.h
  d : DiceOk q.h dl q.a
  o : OwnSl 4 GProc.cells q.v q.qs q.ob
  b : Bag q.h q.S q.B
  g : ∀ x ∈ q.qs, GPOk q.h q.S x
  N : q.S.N ≤ 10000000
  n : (q.qs.length : Int) ≤ m
theorem PInv.add {H h' : Hp} {dl : Value} {m m' k a' : Int} {q : PSt} {S' : Sig} {v' : Value} {x : GProc} {ob' B' : Blks} (h : PInv H dl m q) (hl : q.h.le h') (hd : DiceOk h' dl a') (hO : OwnSl 4 GProc.cells v' (q.qs ++ [x]) ob') (hB : Bag h' S' B') (hx : GPOk h' S' x) (hnd : ((q.B ++ B').map (·.1)).Nodup) (hN : S'.N ≤ 10000000) (hm : m + 1 ≤ m') :
    PInv H dl m' ⟨k, h', a', q.S.un S', v', q.qs ++ [x], ob', q.B ++ B'⟩ :=
  ⟨h.le.trans hl, hd, hO, (h.b.leH hl).un hB hnd, all_snoc (fun y hy => (h.g y hy).le hl Sig.le_un) (hx.le (.refl _) ((h.b.leH hl).un_le hB hnd)), Nat.max_le.2 ⟨h.N, hN⟩, by
    have := h.n
    simp only [List.length_append, List.length_cons, List.length_nil]; omega⟩
structure LsG (H : Hp) (p : SProto) (lv : Value) (ls : List SLocal) : Prop where
  r : RdSl H 2 SLocal.cells lv ls
  n : ls.length ≤ p.roles.length
  l : ∀ l ∈ ls, LocalOk H l ∧ l.name.length ≤ 1000
  g : ∀ (k : Int) (T : SLocal), 0 ≤ k → ls[k.toNat]? = some T → ∀ F : Fx, F.tys = ls → F.role = k → TG F T
theorem LsG.of {H : Hp} {p : SProto} {lv : Value} (hG : GPr p) (h1 : (allE p).1 = 0 → ∃ ls, RdSl H 2 SLocal.cells lv ls ∧ LsOk H p p.roles.length ls) (h2 : (allE p).1 ≠ 0 → lv = .slice none 0 0) : ∃ ls, LsG H p lv ls := by
  by_cases h : (allE p).1 = 0
  · obtain ⟨ls, hr, hk⟩ := h1 h
    refine ⟨ls, hr, by have := hk.len; omega, fun l hl => ?_, fun k T k0 hT => hk.tg h k0 hT⟩
    obtain ⟨i, hi⟩ := List.getElem?_of_mem hl
    obtain ⟨r, hr, hn, hok, _⟩ := hk.at_ i l hi
    refine ⟨hok, ?_⟩
    have e1 := hG.rs r (List.mem_of_getElem? hr)
    have e2 := hG.n1
    rw [hn]; simp only [List.length_append, List.length_cons, List.length_nil]; omega
  · rw [h2 h]
    exact ⟨[], .nil, by simp, by simp, fun k T _ hT => by simp at hT⟩
theorem LsG.le {H H' : Hp} {p : SProto} {lv : Value} {ls : List SLocal} (h : LsG H p lv ls) (hl : H.le H') : LsG H' p lv ls := ⟨h.r.le hl, h.n, fun l hm => ⟨(h.l l hm).1.le hl, (h.l l hm).2⟩, h.g⟩
theorem TL.keysN {P : Program} {n : Nat} {ops : Array Oper} {Q : Exit → Act → World → Prop} {E : Env} {M : List Nat} {w0 : World} {H0 H : Hp} {L : Blks} {l : List Oper} (h : (L.map (·.1)).Nodup → TL P n ops Q l E (St M w0 H0 H L)) : TL P n ops Q l E (St M w0 H0 H L) :=
  fun a w he hw => h hw.nd a w he hw
theorem keysN4 {x y z : Nat × List Value} {A B : Blks} (h : ((x :: y :: z :: (A ++ B)).map (·.1)).Nodup) : (B.map (·.1)).Nodup :=
  h.sublist ((((((List.sublist_append_right A B).cons z).cons y).cons x)).map _)
end Go.Sx
namespace Go.Sx
open Go Go.Proofs
set_option maxHeartbeats 4000000 in
theorem mProgram_ok {H : Hp} {lv : Value} {l : List Int} (hl : RdSl H 1 I64.cells lv l) (hm : l.length ≤ 1000000000000) :
  FnO Tryz.prog 11 [lv] H (fun v H1 ob => ∃ ps qs S pv psv ob1 B, v = .agg #[psv, .slice none 0 0, pv] ∧ ob = ob1 ++ B ∧ RdSl H1 3 SProto.cells psv ps ∧ PsOk H1 ps ∧ OwnSl 4 GProc.cells pv qs ob1 ∧ Bag H1 S B ∧ (∀ x ∈ qs, GPOk H1 S x) ∧ S.N ≤ 10000000 ∧ 1 ≤ qs.length ∧ qs.length ≤ 11) := by
 refine FnO.enter Tryz.func11 Tryz.ntmps11 rfl rfl (fun w0 => ?_)
 refine zm4 ?_
 refine TL.alloc rfl (fun b2 => ?_)
 refine zm41 ?_
 refine TL.callO (enters rfl rfl rfl rfl) (New_ok hl hm) rfl (fun v11 H11 ob11 hle11 hp11 => ?_)
 obtain ⟨bd, dl, rfl, rfl, hd⟩ := hp11
 refine zm53 ?_
 refine TL.callD0 (X := [(b2, _)]) (bd := bd) rfl (enters rfl rfl rfl rfl) (mProtocols_ok hd) rfl (fun v13 H13 at13 hle13 hd13 hp13 => ?_)
 obtain ⟨hle13_, ps, hps, hPs⟩ := hp13
 obtain ⟨psa, psc, rfl⟩ := hps.len
 refine zm14 ?_
 refine TL.alloc rfl (fun b4 => ?_)
 refine zm26 ?_; refine zm55 ?_
 refine TC.loop (ι := PSt) (V := fun q => [(5, .int .i64 q.k)]) (K := [(2, _), (3, _), (4, _)]) (L := fun q => St [] w0 H q.h ((b4, [.slice psa ps.length psc, .slice none 0 0, q.v]) :: (b2, [.slice none 0 0, .slice none 0 0, .slice none 0 0]) :: (bd, [dl, .int .i64 q.a]) :: (q.ob ++ q.B))) (I := fun q => (0 ≤ q.k ∧ q.k ≤ ps.length) ∧ PInv H13 dl (5 * q.k) q) (μ := fun q => (ps.length - q.k).toNat) (i := ⟨0, H13, at13, Sig.nil, .slice none 0 0, [], [], []⟩) ⟨rfl, rfl, rfl, rfl, trivial⟩ ⟨⟨by show (0 : Int) ≤ 0; omega, by show (0 : Int) ≤ _; omega⟩, ⟨.refl _, hd13, .nil, .nil, by simp, by simp [Sig.nil], by simp⟩⟩ (fun w hw => hw) (fun q hI => ?_)
 obtain ⟨⟨k0q, k1q⟩, hIq⟩ := hI
 have hpsq := hps.le hIq.le
 have hPsq := hPs.le hIq.le
 refine zm93 ?_; refine TL.run (pr_lenSl rfl rfl hpsq) rfl ?_; refine zm2 ?_
 refine TC.condD rfl (fun c19 => ?_) (fun c19 => ?_)
 ·
  obtain ⟨p, hpx⟩ := getSome (l := ps) k0q c19
  have hpm := List.mem_of_getElem? hpx
  have hG := hPs.pg p hpm
  refine zm15 ?_; refine zm200 ?_
  refine TL.run (pr_indexSl rfl hpsq rfl (by omega) (by omega)) rfl (TL.run (pr_elA hpsq hpx rfl rfl) rfl (TL.call (enters rfl rfl rfl rfl) (r6_All_ok p (hPsq.pk p hpm) (by have := hG.n1; omega) (fun r hr => by have := hG.rs r hr; omega)) rfl (fun v28 H28 hle28 hp28 => ?_)))
  obtain ⟨lv28, rfl, hok28, hno28⟩ := hp28
  obtain ⟨ls, hL28⟩ := LsG.of hG hok28 hno28
  obtain ⟨la, lc, rfl⟩ := hL28.r.len
  refine zm139 ?_; refine zm9 ?_; refine zm2 ?_; refine zm94 ?_
  refine TC.loop (ι := PSt) (V := fun r => [(9, .int .i64 r.k)]) (K := [(2, _), (3, _), (4, _), (5, _), (6, _), (15, _), (16, _), (17, _), (18, _), (19, _), (22, _), (23, _), (24, _), (25, _), (26, _), (27, _), (28, _), (29, _), (30, _), (31, _)]) (L := fun r => St [] w0 H r.h ((b4, [.slice psa ps.length psc, .slice none 0 0, r.v]) :: (b2, [.slice none 0 0, .slice none 0 0, .slice none 0 0]) :: (bd, [dl, .int .i64 r.a]) :: (r.ob ++ r.B))) (I := fun r => (0 ≤ r.k ∧ r.k ≤ ls.length) ∧ PInv H28 dl (5 * q.k + r.k) r) (μ := fun r => (ls.length - r.k).toNat) (i := { q with k := 0, h := H28 }) ⟨rfl, rfl, rfl, rfl, rfl, rfl, rfl, rfl, rfl, rfl, rfl, rfl, rfl, rfl, rfl, rfl, rfl, rfl, rfl, rfl, rfl, trivial⟩ ⟨⟨by show (0 : Int) ≤ 0; omega, by show (0 : Int) ≤ _; omega⟩, ⟨.refl _, hIq.d.le hle28, hIq.o, hIq.b.leH hle28, fun x hx => (hIq.g x hx).le hle28 (.refl _), hIq.N, by have := hIq.n; show (q.qs.length : Int) ≤ 5 * q.k + 0; omega⟩⟩ (fun w hw => hw) (fun r hI => ?_)
  obtain ⟨⟨k0r, k1r⟩, hIr⟩ := hI
  have hLr := hL28.le hIr.le
  have hpsr := hpsq.le (hle28.trans hIr.le)
  have hPsr := hPsq.le (hle28.trans hIr.le)
  refine zm32 ?_; refine TL.run (pr_lenSl rfl rfl hLr.r) rfl ?_; refine zm2 ?_
  refine TC.condD rfl (fun c35 => ?_) (fun c35 => ?_)
  ·
   obtain ⟨l0, hlx⟩ := getSome (l := ls) k0r c35
   refine zm290 ?_; refine zm475 ?_; refine zm124 ?_; refine zm47 ?_; refine zm354 ?_; refine zm124 ?_; refine zm5 ?_
   refine TF.pure (pr_indexSl rfl hpsr rfl (by omega) (by omega)) rfl (TF.read (S1 (S1 SN)) (Hp.le.refl _) (fun _ _ => pr_elA hpsr hpx rfl rfl) rfl ?_); refine zm238 ?_
   refine TF.pure (pr_indexSl rfl hLr.r rfl (by omega) (by omega)) rfl ?_; refine zm3 ?_; refine TF.read (S1 (S1 SN)) (Hp.le.refl _) (fun _ _ => pr_el1 hLr.r hlx rfl rfl) rfl ?_; refine zm7 ?_
   refine TL.callD (X := [(b4, _), (b2, _)]) (Y := r.ob ++ r.B) (bd := bd) rfl (enters rfl rfl rfl rfl) (part_ok hIr.d hpsr hPsr.pk hPsr.pg hPsr.pn.1 p (hPsr.pk p hpm) hG hLr.r (fun l h => (hLr.l l h).1) r.k _ k0r (by have := hLr.n; omega) (hLr.l _ (List.mem_of_getElem? hlx)).2 (hLr.g r.k _ k0r hlx)) rfl (fun v55 H55 at55 ob55 hle55 hd55 hp55 => ?_)
   obtain ⟨S55, q55, rfl, hB55, hq55, hN55b, _, _⟩ := hp55
   refine TL.permL (perm_nest2 [(b4, _), (b2, _), (bd, _)]) (TL.keysN (fun hN55 => ?_))
   have hnd55 : ((r.B ++ ob55).map (·.1)).Nodup := keysN4 hN55
   refine TF.back5 (S1 (S1 SN)) hle55 (TF.bslice rfl rfl rfl rfl (fun b56 => ?_))
   refine zm7 ?_
   refine TL.append (enc := GProc.cells) rfl rfl rfl hIr.o (Src.own [q55] (.here _) rfl rfl) (by have := hIr.n; have := hPs.pn.2; have := hL28.n; have := hG.r5; simp only [List.length_cons, List.length_nil]; omega) rfl (.skip _ (.skip _ (.skip _ (.skip _ (.app _))))) rfl (fun a57 c57 ob57 hO57 => ?_)
   refine TF.back5 (S0 (S1 (S1 SN))) hle55 ?_; refine zm31 ?_; refine zm74 ?_; refine TF.back (TF.nil (TX.blkN (TX.seqN ?_))); refine TC.region ?_; refine zm0 ?_
   refine TL.run (pr_add rfl rfl (by omega) (by have := hL28.n; have := hG.r5; omega)) rfl ?_; refine zm37 ?_
   exact TX.round (⟨r.k + 1, H55, at55, r.S.un S55, _, r.qs ++ [q55], ob57, r.B ++ ob55⟩ : PSt) ⟨⟨by show 0 ≤ r.k + 1; omega, by show r.k + 1 ≤ (ls.length : Int); omega⟩, hIr.add hle55 hd55 hO57 hB55 hq55 hnd55 hN55b (by show _ ≤ 5 * q.k + (r.k + 1); omega)⟩ ⟨rfl, rfl, rfl, rfl, rfl, rfl, rfl, rfl, rfl, rfl, rfl, rfl, rfl, rfl, rfl, rfl, rfl, rfl, rfl, rfl, rfl, trivial⟩ (fun w hw => hw.drop) (by show (_ - (r.k + 1)).toNat < (_ - r.k).toNat; omega)
  ·
   refine TC.exit (TX.thenE (TX.thenE (TX.blkHit ?_))); refine TX.blkN (TX.seqN (TC.region ?_)); refine zm0 ?_; refine TL.run (pr_add rfl rfl (by omega) (by have := hPs.pn.2; omega)) rfl ?_; refine zm37 ?_
   exact TX.round ({ r with k := q.k + 1 } : PSt) ⟨⟨by show 0 ≤ q.k + 1; omega, by show q.k + 1 ≤ (ps.length : Int); omega⟩, ⟨(hIq.le.trans hle28).trans hIr.le, hIr.d, hIr.o, hIr.b, hIr.g, hIr.N, by have := hIr.n; have := hL28.n; have := hG.r5; show (r.qs.length : Int) ≤ 5 * (q.k + 1); omega⟩⟩ ⟨rfl, rfl, rfl, rfl, trivial⟩ (fun w hw => hw) (by show (_ - (q.k + 1)).toNat < (_ - q.k).toNat; omega)
 ·
  refine zm38 ?_; refine zm61 ?_; refine zm476 ?_; refine zm124 ?_; refine zm47 ?_; refine zm354 ?_; refine zm7 ?_
  refine TL.callD (X := [(b4, _), (b2, _)]) (Y := q.ob ++ q.B) (bd := bd) rfl (enters rfl rfl rfl rfl) (mainProc_ok hIq.d hpsq hPsq.pk hPsq.pg hPsq.pn.1 (by have := hPsq.pn.2; omega)) rfl (fun v64 H64 at64 ob64 hle64 hd64 hp64 => ?_)
  obtain ⟨S64, q64, rfl, hB64, hq64, hN64b, _, _⟩ := hp64
  refine TL.permL (perm_nest2 [(b4, _), (b2, _), (bd, _)]) (TL.keysN (fun hN64 => ?_))
  have hnd64 : ((q.B ++ ob64).map (·.1)).Nodup := keysN4 hN64
  refine TF.back5 (S1 (S1 SN)) hle64 (TF.bslice rfl rfl rfl rfl (fun b65 => ?_))
  refine zm7 ?_
  refine TL.append (enc := GProc.cells) rfl rfl rfl hIq.o (Src.own [q64] (.here _) rfl rfl) (by have := hIq.n; have := hPs.pn.2; simp only [List.length_cons, List.length_nil]; omega) rfl (.skip _ (.skip _ (.skip _ (.skip _ (.app _))))) rfl (fun a66 c66 ob66 hO66 => ?_)
  refine TF.back5 (S0 (S1 (S1 SN))) hle64 ?_; refine zm31 ?_; refine zm74 ?_; refine zm49 ?_; refine zm4 ?_; refine zm70 ?_; refine zm239 ?_
  have hF : PInv H13 dl 11 ⟨0, H64, at64, q.S.un S64, _, q.qs ++ [q64], ob66, q.B ++ ob64⟩ := hIq.add hle64 hd64 hO66 hB64 hq64 hnd64 hN64b (by have := hPs.pn.2; omega)
  exact TX.finO (.inr rfl) (results1 rfl (RVal.cellA rfl (.there _ (.there _ (.here _))) rfl)) (.skip _ (.skip _ (.skip _ (.skip _ .all)))) ⟨ps, _, _, _, _, ob66, q.B ++ ob64, rfl, rfl, hpsq.le hle64, hPsq.le hle64, hF.o, hF.b, hF.g, hF.N, by simp, by have h : ((q.qs ++ [q64]).length : Int) ≤ 11 := hF.n; show (q.qs ++ [q64]).length ≤ 11; omega⟩
end Go.Sx
namespace Go.Sx
open Go
structure GenC (N : Nat) (c : SCast) : Prop where
  r : AnyNm c.role
  p : PNm c.proc
  a : c.args.length ≤ N
structure GenW (w : SWay) : Prop where
  l : AnyNm w.label
  n : VarNm w.name
structure GenS (N : Nat) (s : SStep) : Prop where
  name : VarNm s.name
  peer : AnyNm s.peer
  label : AnyNm s.label
  proc : PNm s.proc
  an : s.args.length ≤ N
  cn : s.casts.length ≤ N
  wn : s.ways.length ≤ N
  c : ∀ c ∈ s.casts, GenC N c
  w : ∀ w ∈ s.ways, GenW w
structure GenQ (N : Nat) (q : SProc) : Prop where
  nm : PNm q.name
  pv : ∀ x ∈ q.params, VarNm x.name ∧ x.cn.length ≤ 1000
  pl : q.params.length ≤ 2
  s0 : 0 < q.steps.length
  tl : q.terms.length ≤ 10000000
  sl : q.steps.length ≤ 10000000
  t : ∀ t ∈ q.terms, VarNm t.name ∧ AnyNm t.text
  s : ∀ s ∈ q.steps, GenS N s
theorem AllT.one {H : Hp} {S : Sig} {c : CT} {cs : List CT} {vs : List Value} (h : AllT H S (c :: cs) vs) : ∃ v r, vs = v :: r ∧ CTy H S c v ∧ AllT H S cs r := by
  cases vs with
  | nil => exact h.elim
  | cons v r => exact ⟨v, r, rfl, h.1, h.2⟩
theorem AllT.none {H : Hp} {S : Sig} {vs : List Value} (h : AllT H S [] vs) : vs = [] := by
  cases vs with
  | nil => rfl
  | cons v r => exact h.elim
theorem gdec_int {H : Hp} {S : Sig} {cs : List Value} (h : AllT H S (ctOf 4) cs) : ∃ x : Int, cs = I64.cells x ∧ True := by
  obtain ⟨v, r, rfl, h1, h2⟩ := h.one
  rw [h2.none]
  obtain ⟨i, rfl⟩ := h1
  exact ⟨i, rfl, trivial⟩
theorem gdec_term {H : Hp} {S : Sig} {cs : List Value} (h : AllT H S (ctOf 0) cs) : ∃ t : Term, cs = t.cells ∧ VarNm t.name ∧ AnyNm t.text := by
  obtain ⟨v1, _, rfl, ⟨k, rfl⟩, g1⟩ := h.one
  obtain ⟨v2, _, rfl, ⟨n, rfl, hn⟩, g2⟩ := g1.one
  obtain ⟨v3, _, rfl, ⟨i, rfl⟩, g3⟩ := g2.one
  obtain ⟨v4, _, rfl, ⟨x, rfl, hx⟩, g4⟩ := g3.one
  obtain ⟨v5, _, rfl, ⟨l, rfl⟩, g5⟩ := g4.one
  obtain ⟨v6, _, rfl, ⟨r, rfl⟩, g6⟩ := g5.one
  rw [g6.none]
  exact ⟨⟨k, n, i, x, l, r⟩, rfl, hn, hx⟩
theorem gdec_way {H : Hp} {S : Sig} {cs : List Value} (h : AllT H S (ctOf 1) cs) : ∃ w : SWay, cs = w.cells ∧ GenW w := by
  obtain ⟨v1, _, rfl, ⟨k, rfl, hk⟩, g1⟩ := h.one
  obtain ⟨v2, _, rfl, ⟨n, rfl, hn⟩, g2⟩ := g1.one
  obtain ⟨v3, _, rfl, ⟨i, rfl⟩, g3⟩ := g2.one
  rw [g3.none]
  exact ⟨⟨k, n, i⟩, rfl, hk, hn⟩
theorem gdec_cast {H : Hp} {S : Sig} (hB : BagH H S) {cs : List Value} (h : AllT H S (ctOf 2) cs) : ∃ c : SCast, cs = c.cells ∧ GenC S.N c ∧ RdSl H 1 I64.cells (.slice c.ap.1 c.args.length c.ap.2) c.args := by
  obtain ⟨v1, _, rfl, ⟨k, rfl, hk⟩, g1⟩ := h.one
  obtain ⟨v2, _, rfl, ⟨n, rfl, hn⟩, g2⟩ := g1.one
  obtain ⟨v3, _, rfl, ⟨a, m, c, rfl, hs, hm⟩, g3⟩ := g2.one
  rw [g3.none]
  obtain ⟨xs, hl, hr, _⟩ := hs.list (enc := I64.cells) (p := fun _ => True) rfl hB (fun cs h => gdec_int h)
  subst hl
  exact ⟨⟨k, n, xs, (a, c)⟩, rfl, ⟨hk, hn, hm⟩, hr⟩
theorem gdec_step {H : Hp} {S : Sig} (hB : BagH H S) {cs : List Value} (h : AllT H S (ctOf 3) cs) : ∃ s : SStep, cs = s.cells ∧ GenS S.N s ∧ StepOk H s := by
  obtain ⟨v1, _, rfl, ⟨k, rfl⟩, g1⟩ := h.one
  obtain ⟨v2, _, rfl, ⟨nm, rfl, hnm⟩, g2⟩ := g1.one
  obtain ⟨v3, _, rfl, ⟨pe, rfl, hpe⟩, g3⟩ := g2.one
  obtain ⟨v4, _, rfl, ⟨la, rfl, hla⟩, g4⟩ := g3.one
  obtain ⟨v5, _, rfl, ⟨pr, rfl, hpr⟩, g5⟩ := g4.one
  obtain ⟨v6, _, rfl, ⟨tm, rfl⟩, g6⟩ := g5.one
  obtain ⟨v7, _, rfl, ⟨aa, an, ac, rfl, has, han⟩, g7⟩ := g6.one
  obtain ⟨v8, _, rfl, ⟨ca, cn, cc, rfl, hcs, hcn⟩, g8⟩ := g7.one
  obtain ⟨v9, _, rfl, ⟨wa, wn, wc, rfl, hws, hwn⟩, g9⟩ := g8.one
  obtain ⟨v10, _, rfl, ⟨nx, rfl⟩, g10⟩ := g9.one
  rw [g10.none]
  obtain ⟨A, hl1, hr1, _⟩ := has.list (enc := I64.cells) (p := fun _ => True) rfl hB (fun cs h => gdec_int h)
  obtain ⟨C, hl2, hr2, hC⟩ := hcs.list (enc := SCast.cells) (p := fun c => GenC S.N c ∧ RdSl H 1 I64.cells (.slice c.ap.1 c.args.length c.ap.2) c.args) rfl hB (fun cs h => gdec_cast hB h)
  obtain ⟨W, hl3, hr3, hW⟩ := hws.list (enc := SWay.cells) (p := GenW) rfl hB (fun cs h => gdec_way h)
  subst hl1 hl2 hl3
  exact ⟨⟨k, nm, pe, la, pr, tm, A, (aa, ac), C, (ca, cc), W, (wa, wc), nx⟩, rfl, ⟨hnm, hpe, hla, hpr, han, hcn, hwn, fun c hc => (hC c hc).1, hW⟩, ⟨hr1, hr2, fun c hc => (hC c hc).2, hr3⟩⟩
theorem AnyNm.cn {s : Str} (h : s.length ≤ 1000) : s.length ≤ 4294960000 := by omega
theorem gdec_proc {H : Hp} {S : Sig} (hB : BagH H S) {q : GProc} (h : GPOk H S q) : ∃ p : SProc, q.cells = p.cells ∧ p.name = q.name ∧ p.params = q.params ∧ GenQ S.N p ∧ ProcOk H p := by
  obtain ⟨T, hl1, hr1, hT⟩ := h.t.list (enc := Term.cells) (p := fun t => VarNm t.name ∧ AnyNm t.text) rfl hB (fun cs h => gdec_term h)
  obtain ⟨L, hl2, hr2, hL⟩ := h.s.list (enc := SStep.cells) (p := fun s => GenS S.N s ∧ StepOk H s) rfl hB (fun cs h => gdec_step hB h)
  obtain ⟨nm, params, pp, ta, tn, tc, sa, sn, sc⟩ := q
  have h1 := h.nm; have h2 := h.pa; have h3 := h.pv; have h4 := h.pl; have h5 := h.s0; have h6 := h.tl; have h7 := h.sl
  dsimp only at *
  subst hl1 hl2
  refine ⟨⟨nm, params, pp, T, (ta, tc), L, (sa, sc)⟩, rfl, rfl, rfl, ⟨h1, h3, h4, h5, h6, h7, hT, fun s hs => (hL s hs).1⟩, ⟨h2, fun x hx => AnyNm.cn (h3 x hx).2, by show params.length ≤ _; omega, hr1, fun t ht => ?_, hr2, fun s hs => (hL s hs).2⟩⟩
  have := (hT t ht).1.len
  omega
theorem gdec_procs {H : Hp} {S : Sig} (hB : BagH H S) : ∀ (qs : List GProc), (∀ x ∈ qs, GPOk H S x) → ∃ ps : List SProc, qs.map GProc.cells = ps.map SProc.cells ∧ ps.map (·.name) = qs.map (·.name) ∧ ∀ p ∈ ps, GenQ S.N p ∧ ProcOk H p
  | [], _ => ⟨[], rfl, rfl, by simp⟩
  | q :: r, h => by
    obtain ⟨p, h1, h2, _, h3, h4⟩ := gdec_proc hB (h q (by simp))
    obtain ⟨ps, h5, h6, h7⟩ := gdec_procs hB r (fun x hx => h x (by simp [hx]))
    refine ⟨p :: ps, by simp [h1, h5], by simp [h2, h6], fun x hx => ?_⟩
    rcases List.mem_cons.1 hx with rfl | hx
    · exact ⟨h3, h4⟩
    · exact h7 x hx
theorem recell2 {α β : Type} {H : Hp} {k : Nat} {enc : α → List Value} {enc' : β → List Value} {v : Value} {l : List α} {l' : List β} (h : RdSl H k enc v l) (e : l.map enc = l'.map enc') : RdSl H k enc' v l' := by
  have hl : l'.length = l.length := by have := congrArg List.length e; simpa using this.symm
  refine ⟨by rw [hl]; exact h.len, by rw [hl]; exact h.max, fun hne => ?_, fun i x hx j u hu => ?_, fun a n c hv => by rw [hl]; exact h.room a n c hv⟩
  · rw [hl]; exact h.addr (fun e0 => hne (List.length_eq_zero_iff.1 (by rw [hl, e0]; rfl)))
  · have h1 : (l.map enc)[i]? = some (enc' x) := by rw [e, List.getElem?_map, hx]; rfl
    rw [List.getElem?_map] at h1
    cases hy : l[i]? with
    | none => rw [hy] at h1; simp at h1
    | some y =>
      rw [hy] at h1
      simp only [Option.map_some, Option.some.injEq] at h1
      exact h.get i y hy j u (by rw [h1]; exact hu)
structure GenP (P : SProg) : Prop where
  l : P.locals = []
  n1 : 1 ≤ P.procs.length
  n11 : P.procs.length ≤ 11
  q : ∀ q ∈ P.procs, GenQ 10000000 q
theorem GenS.up {N M : Nat} {s : SStep} (h : GenS N s) (hm : N ≤ M) : GenS M s :=
  ⟨h.name, h.peer, h.label, h.proc, Nat.le_trans h.an hm, Nat.le_trans h.cn hm, Nat.le_trans h.wn hm, fun c hc => ⟨(h.c c hc).r, (h.c c hc).p, Nat.le_trans (h.c c hc).a hm⟩, h.w⟩
theorem GenQ.up {N M : Nat} {q : SProc} (h : GenQ N q) (hm : N ≤ M) : GenQ M q := ⟨h.nm, h.pv, h.pl, h.s0, h.tl, h.sl, h.t, fun s hs => (h.s s hs).up hm⟩
theorem GenP.sz {P : SProg} (h : GenP P) : ∀ q ∈ P.procs, WaySz q := fun q hq s hs => Nat.le_trans ((h.q q hq).s s hs).wn (by decide)
theorem gen_prog {H : Hp} {S : Sig} {qs : List GProc} {pv psv : Value} {ps : List SProto} (hB : BagH H S) (hq : RdSl H 4 GProc.cells pv qs) (hg : ∀ x ∈ qs, GPOk H S x) (hps : RdSl H 3 SProto.cells psv ps) (hpo : ∀ p ∈ ps, ProtoOk H p) (hN : S.N ≤ 10000000) (h1 : 1 ≤ qs.length) (h11 : qs.length ≤ 11) :
    ∃ P : SProg, .agg #[psv, .slice none 0 0, pv] = Value.agg P.cells.toArray ∧ ProgOk H P ∧ GenP P ∧ P.protos = ps ∧ P.procs.map (·.name) = qs.map (·.name) := by
  obtain ⟨procs, h2, h3, h4⟩ := gdec_procs hB qs hg
  have hr := recell2 (enc' := SProc.cells) hq h2
  have hl : procs.length = qs.length := by have := congrArg List.length h2; simpa using this.symm
  obtain ⟨pa, pc, rfl⟩ := hr.len
  obtain ⟨sa, sc, rfl⟩ := hps.len
  exact ⟨⟨ps, (sa, sc), [], (none, 0), procs, (pa, pc)⟩, rfl, ⟨hps, hpo, RdSl.nil, by simp, hr, fun q hq => (h4 q hq).2⟩, ⟨rfl, by dsimp only; omega, by dsimp only; omega, fun q hq => (h4 q hq).1.up hN⟩, rfl, h3⟩
section
variable {P : Program} {n : Nat} {ops : Array Oper} {Q : Exit → Act → World → Prop} {E : Env} {M : List Nat} {w0 : World} {H0 H : Hp} {L : Blks} {C : World → Prop}
theorem TX.pubB {S : Sig} {B : Blks} {F : Blks → Blks} {q : Act → World → Prop} (hB : Bag H S B) (hU : Tl B L F) (hM : ∀ p ∈ B, p.1 ∉ M) (h : ∀ H', H.le H' → BagH H' S → TX n q E (St M w0 H0 H' (F []))) : TX n q E (St M w0 H0 H L) := by
  intro a w he hw
  obtain ⟨H', h1, h2, h3⟩ := St.pubB hB hU hM hw
  exact h H' h1 h2 a w he h3
theorem TL.pubB {S : Sig} {B : Blks} {F : Blks → Blks} {l : List Oper} (hB : Bag H S B) (hU : Tl B L F) (hM : ∀ p ∈ B, p.1 ∉ M) (h : ∀ H', H.le H' → BagH H' S → TL P n ops Q l E (St M w0 H0 H' (F []))) : TL P n ops Q l E (St M w0 H0 H L) := by
  intro a w he hw
  obtain ⟨H', h1, h2, h3⟩ := St.pubB hB hU hM hw
  exact h H' h1 h2 a w he h3
end
end Go.Sx
namespace Go.Sx
open Go Go.Proofs
set_option maxHeartbeats 4000000 in
theorem k_Roots_ok {H : Hp} (s : SStep) (hs : StepOk H s) (hl : s.args.length ≤ 6 ∧ s.casts.length ≤ 4 ∧ ∀ c ∈ s.casts, c.args.length ≤ 6) :
  FnO Tryz.prog 22 [.agg s.cells.toArray] H (fun v H1 ob => H1 = H ∧ OwnSl 1 I64.cells v (rootsS s) ob) := by
 have hc := hs.c
 have ha := hs.a
 obtain ⟨hl1, hl2, hl3⟩ := hl
 refine FnO.enter Tryz.func22 Tryz.ntmps22 rfl rfl (fun w0 => ?_)
 refine zm4 ?_
 refine TL.box rfl rfl (fun b1 => ?_)
 refine zm2 ?_; refine zm142 ?_; refine zm138 ?_
 refine TC.condND rfl (fun c7 => ?_) (fun c7 => ?_)
 ·
  refine zm52 ?_
  refine TL.bslice rfl rfl rfl rfl (fun b11 => ?_)
  refine TL.append (enc := I64.cells) rfl rfl rfl (OwnSl.nil (enc := I64.cells)) (Src.own [s.term] (.here _) rfl rfl) (by simp) rfl (.new _ rfl) rfl (fun a12 c12 ob12 hO12 => ?_)
  refine zm53 ?_; refine zm20 ?_
  refine TL.append (enc := I64.cells) rfl rfl rfl hO12 (Src.sl ha) (by simp; omega) rfl (.skip _ (.skip _ .all)) rfl (fun a16 c16 ob16 hO16 => ?_)
  refine zm156 ?_
  refine TC.loop4 (V := fun k v ob H1 => [(3, v), (4, .int .i64 k)]) (K := [(1, _), (2, _)]) (L := fun k v ob H1 => St [] w0 H H ((b11, _) :: (b1, _) :: ob)) (I := fun k v ob H1 => (0 ≤ k ∧ k ≤ s.casts.length) ∧ OwnSl 1 I64.cells v (rHd s ++ (s.casts.take k.toNat).flatMap (·.args)) ob ∧ ((s.casts.take k.toNat).flatMap (·.args)).length ≤ 6 * k.toNat) (μ := fun k => (s.casts.length - k).toNat) 0 _ ob16 H ⟨rfl, rfl, rfl, rfl, trivial⟩ ⟨⟨by omega, by omega⟩, hO16.cast (by first | (rw [rHd_T c7]; simp) | (rw [rHd_F c7]; simp)), by simp⟩ (fun w hw => hw) (fun k v ob H1 hI => ?_)
  obtain ⟨⟨k0, k1⟩, hO, hfl⟩ := hI
  obtain ⟨va, vc, rfl⟩ := hO.form
  refine zm261 ?_; refine zm137 ?_; refine zm2 ?_
  refine TC.condD rfl (fun c21 => ?_) (fun c21 => ?_)
  ·
   obtain ⟨x, hx⟩ := getSome (l := s.casts) k0 c21
   have hxa := hs.cs x (List.mem_of_getElem? hx)
   have hx6 := hl3 x (List.mem_of_getElem? hx)
   refine zm164 ?_; refine zm66 ?_; refine zm89 ?_; refine zm177 ?_; refine zm6 ?_
   refine TL.run (pr_el1 hc hx rfl rfl) rfl (TL.append (enc := I64.cells) rfl rfl rfl hO (Src.sl hxa) (by have hh := rHd_len s; simp only [List.length_append]; omega) rfl (.skip _ (.skip _ .all)) rfl (fun a31 c31 ob31 hO31 => ?_))
   exact zq2421
  ·
   refine zm87 ?_
   exact TX.finO (.inr rfl) (results1 rfl (RVal.tmp rfl)) (.skip _ (.skip _ .all)) ⟨rfl, hO.cast (by rw [take_all c21 k0, roots_hd])⟩
 ·
  refine zm103 ?_; refine zm51 ?_
  refine TL.append (enc := I64.cells) rfl rfl rfl (OwnSl.nil (enc := I64.cells)) (Src.sl ha) (by simp; omega) rfl (.new _ rfl) rfl (fun a16 c16 ob16 hO16 => ?_)
  refine zm156 ?_
  refine TC.loop4 (V := fun k v ob H1 => [(3, v), (4, .int .i64 k)]) (K := [(1, _), (2, _)]) (L := fun k v ob H1 => St [] w0 H H ((b1, _) :: ob)) (I := fun k v ob H1 => (0 ≤ k ∧ k ≤ s.casts.length) ∧ OwnSl 1 I64.cells v (rHd s ++ (s.casts.take k.toNat).flatMap (·.args)) ob ∧ ((s.casts.take k.toNat).flatMap (·.args)).length ≤ 6 * k.toNat) (μ := fun k => (s.casts.length - k).toNat) 0 _ ob16 H ⟨rfl, rfl, rfl, rfl, trivial⟩ ⟨⟨by omega, by omega⟩, hO16.cast (by first | (rw [rHd_T c7]; simp) | (rw [rHd_F c7]; simp)), by simp⟩ (fun w hw => hw) (fun k v ob H1 hI => ?_)
  obtain ⟨⟨k0, k1⟩, hO, hfl⟩ := hI
  obtain ⟨va, vc, rfl⟩ := hO.form
  refine zm93 ?_; refine zm137 ?_; refine zm2 ?_
  refine TC.condD rfl (fun c21 => ?_) (fun c21 => ?_)
  ·
   obtain ⟨x, hx⟩ := getSome (l := s.casts) k0 c21
   have hxa := hs.cs x (List.mem_of_getElem? hx)
   have hx6 := hl3 x (List.mem_of_getElem? hx)
   refine zm164 ?_; refine zm52 ?_; refine zm0 ?_; refine zm177 ?_; refine zm6 ?_
   refine TL.run (pr_el1 hc hx rfl rfl) rfl (TL.append (enc := I64.cells) rfl rfl rfl hO (Src.sl hxa) (by have hh := rHd_len s; simp only [List.length_append]; omega) rfl (.skip _ .all) rfl (fun a31 c31 ob31 hO31 => ?_))
   exact zq2421
  ·
   refine zm87 ?_
   exact TX.finO (.inr rfl) (results1 rfl (RVal.tmp rfl)) (.skip _ .all) ⟨rfl, hO.cast (by rw [take_all c21 k0, roots_hd])⟩
end Go.Sx
