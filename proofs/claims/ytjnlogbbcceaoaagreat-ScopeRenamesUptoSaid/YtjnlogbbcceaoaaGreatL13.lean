import Derived.Test.YtjnlogbbcceaoaaGreatL12
set_option linter.all false
set_option maxRecDepth 100000
set_option maxHeartbeats 32000000
namespace Go.Sx
open Go Go.Proofs
theorem w9 {H : Hp} {bd : Nat} {dl : Value} {at_ : Int} (hd : DiceOk H dl at_) {tv : Value} {types : List Str} (hty : RdSl H 1 Str.cells tv types) (htn : ∀ s ∈ types, TyNm s) (htl : types.length ≤ 100) (name : Str) :
  DFn Tryz.prog bd dl at_ 168 [gs name, .int .i64 2, tv] H (fun v H1 ob => ob = [] ∧ (H.le H1 ∧ ∃ p : SProto, v = .agg p.cells.toArray ∧ ProtoOk H1 p ∧ p.name = name ∧ p.roles = rolesL.take 2)) := by
 have hrl : (rolesL.take (2 : Int).toNat).length = 2 := rfl
 refine FnX.enter Tryz.func168 Tryz.ntmps168 rfl rfl (fun w0 => ?_)
 refine zm2 ?_
 refine TL.alloc rfl (fun b8 => ?_)
 refine gE ?_
 refine TL.call (ab rfl rfl rfl rfl) (gM) rfl (fun v19 H19 hle19 hp19 => ?_)
 replace hd := hd.le hle19
 replace hty := hty.le hle19
 have hro19 := hp19
 obtain ⟨ra19, rc19, rfl⟩ := hro19.len
 have hcp : 5 ≤ rc19 := hro19.room _ _ _ rfl
 have hsl := hro19.sliced (i := 0) (j := (2 : Int).toNat) (by omega) (by decide)
 have hle0 := hle19
 refine zm0 ?_; refine vt ?_
 refine TL.append (enc := Str.cells) rfl rfl rfl (OwnSl.nil (enc := Str.cells)) (Src.sl hsl) (by simp only [List.length_drop, List.length_nil]; omega) rfl (.new _ rfl) rfl (fun a22 c22 ob22 hO22 => ?_)
 refine dy ?_
 refine TL.alloc rfl (fun b9 => ?_)
 refine sk ?_
 refine dX (X := [(b9, _), (b8, _), (bd, _)]) hO22 rfl (by simp [keys]) (fun HR leR hR => ?_)
 replace hd := hd.le leR
 replace hty := hty.le leR
 replace hle0 := hle0.trans leR
 have hrs0 : RdSl HR 1 Str.cells (.slice a22 (rolesL.take (2 : Int).toNat).length c22) (rolesL.take (2 : Int).toNat) := hR
 have hty1 := hty
 have hleR := hle0
 refine ad (rm (V := fun (q : Q4) => [(10, gs q.a), (11, gs q.b)]) (K := [(0, _), (2, _), (3, _), (8, _), (9, _)]) ky (L := fun (q : Q4) => St (keys [(bd, [dl, .int .i64 at_])]) w0 H q.h [(b9, [gs name, .slice a22 (rolesL.take (2 : Int).toNat).length c22, .slice none 0 0]), (b8, [gs [], .slice none 0 0, .slice none 0 0]), (bd, [dl, .int .i64 q.at_])]) (I := fun (q : Q4) => DiceOk q.h dl q.at_ ∧ HR.le q.h) ?_ ?_)
 · exact Bg
 intro q hI
 obtain ⟨hI1, hI2⟩ := hI
 have hty := hty1.le hI2
 have hrs := hrs0.le hI2
 have hle := hleR.trans hI2
 refine d7 ?_
 refine aC (X := [(b9, _), (b8, _)]) (bd := bd) rfl (ab rfl rfl rfl rfl) (bq 2 (by omega) hI1) rfl (fun v36 H36 at36 hle36 hd36 hp36 => ?_)
 obtain ⟨eH36, r36, rfl, hr36⟩ := hp36
 replace eH36 := eH36.symm; subst eH36
 have hra36 := hr36.1
 have hrb36 := hr36.2.1 (by omega)
 refine kK ?_; refine d7 ?_
 refine aC (X := [(b9, _), (b8, _)]) (bd := bd) rfl (ab rfl rfl rfl rfl) (f8 hd36) rfl (fun v39 H39 at39 hle39 hd39 hp39 => ?_)
 obtain ⟨eH39, k39, rfl, hk39⟩ := hp39
 replace eH39 := eH39.symm; subst eH39
 refine TL.alloc rfl (fun b13 => ?_)
 refine py ?_; refine BK ?_; refine uY ?_; refine si ?_; refine si ?_; refine zm5 ?_; refine yU ?_; refine dZ ?_; refine vr ?_
 refine aE rfl rfl rfl rfl (fun b55 => ?_)
 refine dZ ?_
 refine aE rfl rfl rfl rfl (fun b57 => ?_)
 refine ar rfl (TL.append (enc := SPoint.cells) rfl rfl rfl (OwnSl.nil (enc := SPoint.cells)) (Src.own [⟨_, _, [⟨[], 0, [], 0⟩, ⟨[], 0, [], 0⟩], (some ⟨b55, 0, none⟩, 2)⟩] (.here _) rfl rfl) (by simp) rfl (.new _ rfl) rfl (fun a58 c58 ob58 hO58 => ?_))
 refine au (S0 (S0 (S1 (S1 (S1 (S1 SN)))))) (Hp.le.refl _) ?_; refine fR ?_; refine lB ?_; refine jr ?_; refine mA ?_; refine TC.rounds 1 ?_; refine yH ?_; refine dG rfl ?_; refine iy ?_; refine kj ?_
 refine ag rfl (fun c93 => ?_) (fun c93 => ?_)
 ·
  refine eP ?_; refine zm376 ?_; refine jp ?_; refine jp ?_; refine zm5 ?_; refine az (gi rfl rfl (by omega) (by omega)) rfl ?_; refine lj ?_; refine sh ?_; refine jp ?_; refine lj ?_; refine sh ?_
  refine zm5 ?_; refine ar rfl (aC (X := [(b57, _), (b55, _), (b13, _), (b9, _), (b8, _)]) (bd := bd) rfl (ab rfl rfl rfl rfl) (f8 hd39) rfl (fun v107 H107 at107 hle107 hd107 hp107 => ?_))
  obtain ⟨eH107, k107, rfl, hk107⟩ := hp107
  replace eH107 := eH107.symm; subst eH107
  refine au (S1 (S1 (S1 (S1 (S1 SN))))) (Hp.le.refl _) ?_; refine dZ ?_
  refine aE rfl rfl rfl rfl (fun b109 => ?_)
  refine dZ ?_
  refine aE rfl rfl rfl rfl (fun b111 => ?_)
  refine ar rfl (TL.append (enc := SPoint.cells) rfl rfl rfl hO58 (Src.own [⟨_, _, [⟨[], 0, [], 0⟩], (some ⟨b109, 0, none⟩, 1)⟩] (.here _) rfl rfl) (by simp) rfl (.skip _ (.skip _ (.skip _ (.skip _ (.skip _ (.skip _ (.skip _ (.skip _ .all)))))))) rfl (fun a112 c112 ob112 hO112 => ?_))
  refine au (S0 (S0 (S1 (S1 (S1 (S1 (S1 SN))))))) (Hp.le.refl _) ?_; refine fR ?_; refine vq ?_; refine jr ?_; refine gr ?_; refine px ?_; refine TL.run (bG rfl rfl hO112) rfl ?_; refine tZ ?_
  refine px ?_; refine TL.run (cv rfl rfl hO112 (by simp) (by simp)) rfl ?_; refine zm7 ?_
  refine TL.run (PR.to (dO rfl hO112 (.skip _ (.skip _ (.skip _ (.skip _ (.skip _ (.skip _ (.skip _ (.skip _ .all)))))))) rfl rfl) (rfl : _ = Value.slice (some ⟨b55, 0, none⟩) 2 2)) rfl ?_; refine sg ?_; refine lB ?_
  refine pw ?_; refine TC.rounds 1 ?_; refine yH ?_; refine dG rfl ?_; refine pI ?_; refine px ?_; refine dy ?_
  refine aB rfl rfl rfl rfl (fun b170 => ?_)
  refine TL.append (enc := SPoint.cells) rfl rfl rfl hO112 (Src.own [fH] (.here _) rfl rfl) (by simp) rfl (.skip _ (.skip _ (.skip _ (.skip _ (.skip _ (.skip _ (.skip _ (.skip _ (.skip _ .all))))))))) rfl (fun a171 c171 ob171 hO171 => ?_)
  refine zm7 ?_; refine bz rfl rfl rfl (.there _ (.there _ (.there _ (.there _ (.there _ (.there _ (.here _))))))) rfl rfl ?_; refine gV ?_
  refine TL.run (bu rfl (.there _ (.there _ (.there _ (.there _ (.there _ (.there _ (.here _))))))) rfl) rfl (cF rfl rfl rfl rfl rfl (.there _ (.there _ (.there _ (.there _ (.there _ (.there _ (.there _ (.here _)))))))) rfl rfl (TL.nil (ad ?_)))
  refine TC.ret ?_; refine vp ?_
  refine cH (by simp [keys]) (fun H_b55 le_b55 rd_b55 => ?_)
  replace hrs := hrs.le le_b55
  replace hle := hle.trans le_b55
  replace hd107 := hd107.le le_b55
  obtain ⟨l_b55, n_b55, hA_b55, z_b55⟩ := jY rd_b55 (by first | simp | (have := hc82.len htn; omega)) (by first | simp | (have := hc82.len htn; omega))
  refine nB ?_
  refine cH (by simp [keys]) (fun H_b109 le_b109 rd_b109 => ?_)
  replace hrs := hrs.le le_b109
  replace hle := hle.trans le_b109
  replace hd107 := hd107.le le_b109
  replace hA_b55 := hA_b55.le le_b109
  obtain ⟨l_b109, n_b109, hA_b109, z_b109⟩ := ec rd_b109 (by first | simp | (have := hc82.len htn; omega))
  refine dX (X := [(b170, _), (b111, _), (b57, _), (b13, _), (b9, _), (b8, _), (bd, _)]) hO171 rfl (by simp [keys]) (fun H2 hle2 hP => ?_)
  replace hrs := hrs.le hle2
  replace hle := hle.trans hle2
  replace hd107 := hd107.le hle2
  replace hA_b55 := hA_b55.le hle2
  replace hA_b109 := hA_b109.le hle2
  have hP2 := hP.recell (l' := [⟨[97], [98], l_b55, (some ⟨b55, 0, none⟩, 2)⟩, ⟨[98], [97], l_b109, (some ⟨b109, 0, none⟩, 1)⟩, fH]) (by simp only [List.nil_append, List.cons_append, List.map_cons, List.map_nil, SPoint.cells, n_b55, n_b109]; rfl)
  have hPK : ∀ x ∈ ([⟨[97], [98], l_b55, (some ⟨b55, 0, none⟩, 2)⟩, ⟨[98], [97], l_b109, (some ⟨b109, 0, none⟩, 1)⟩, fH] : List SPoint), PointOk H2 x := by
   intro x hx; simp only [List.mem_cons, List.not_mem_nil, or_false] at hx
   rcases hx with rfl | rfl | rfl
   · exact ⟨by show RdSl H2 4 SArm.cells (.slice (some ⟨b55, 0, none⟩) l_b55.length _) l_b55; rw [n_b55]; exact hA_b55, z_b55⟩
   · exact ⟨by show RdSl H2 4 SArm.cells (.slice (some ⟨b109, 0, none⟩) l_b109.length _) l_b109; rw [n_b109]; exact hA_b109, z_b109⟩
   · exact i6
  exact aY (.inr rfl) (ae rfl (RVal.cellA rfl (.there _ (.there _ (.there _ (.there _ (.there _ (.here _)))))) rfl)) (fun w hw => hw.drop.drop.drop.drop.drop.drop) ⟨_, [], rfl, hd107, rfl, hle, ⟨name, (rolesL.take (2 : Int).toNat), (a22, c22), [⟨[97], [98], l_b55, (some ⟨b55, 0, none⟩, 2)⟩, ⟨[98], [97], l_b109, (some ⟨b109, 0, none⟩, 1)⟩, fH], (a171, c171)⟩, rfl, ⟨hrs, hP2, hPK⟩, rfl, rfl⟩
 refine gr ?_; refine kv ?_; refine TL.run (bG rfl rfl hO58) rfl (TL.run (gi rfl rfl (by simp) (by simp)) rfl ?_); refine zm1 ?_; refine TC.region ?_; refine zm7 ?_; refine kv ?_; refine zm0 ?_
 refine TL.run (cv rfl rfl hO58 (by simp) (by simp)) rfl ?_; refine zm7 ?_; refine zm355 ?_; refine yG ?_; refine mz ?_; refine vL ?_; refine kv ?_; refine TL.run (bG rfl rfl hO58) rfl ?_; refine tZ ?_
 refine kv ?_; refine TL.run (cv rfl rfl hO58 (by simp) (by simp)) rfl ?_; refine zm7 ?_; refine zm355 ?_; refine sg ?_; refine mz ?_; refine pw ?_; refine TC.rounds 1 ?_; refine yH ?_; refine dG rfl ?_
 refine pI ?_; refine kv ?_; refine dy ?_
 refine aB rfl rfl rfl rfl (fun b170 => ?_)
 refine TL.append (enc := SPoint.cells) rfl rfl rfl hO58 (Src.own [fH] (.here _) rfl rfl) (by simp) rfl (.skip _ (.skip _ (.skip _ (.skip _ (.skip _ (.skip _ (.skip _ .all))))))) rfl (fun a171 c171 ob171 hO171 => ?_)
 refine zm7 ?_; refine bz rfl rfl rfl (.there _ (.there _ (.there _ (.there _ (.here _))))) rfl rfl ?_; refine gV ?_; refine TL.run (bu rfl (.there _ (.there _ (.there _ (.there _ (.here _))))) rfl) rfl ?_
 refine lA ?_; refine nB ?_
 refine cH (by simp [keys]) (fun H_b55 le_b55 rd_b55 => ?_)
 replace hrs := hrs.le le_b55
 replace hle := hle.trans le_b55
 replace hd39 := hd39.le le_b55
 obtain ⟨l_b55, n_b55, hA_b55, z_b55⟩ := jY rd_b55 (by first | simp | (have := hc82.len htn; omega)) (by first | simp | (have := hc82.len htn; omega))
 refine dX (X := [(b170, _), (b57, _), (b13, _), (b9, _), (b8, _), (bd, _)]) hO171 rfl (by simp [keys]) (fun H2 hle2 hP => ?_)
 replace hrs := hrs.le hle2
 replace hle := hle.trans hle2
 replace hd39 := hd39.le hle2
 replace hA_b55 := hA_b55.le hle2
 have hP2 := hP.recell (l' := [⟨[97], [98], l_b55, (some ⟨b55, 0, none⟩, 2)⟩, fH]) (by simp only [List.nil_append, List.cons_append, List.map_cons, List.map_nil, SPoint.cells, n_b55]; rfl)
 have hPK : ∀ x ∈ ([⟨[97], [98], l_b55, (some ⟨b55, 0, none⟩, 2)⟩, fH] : List SPoint), PointOk H2 x := by
  intro x hx; simp only [List.mem_cons, List.not_mem_nil, or_false] at hx
  rcases hx with rfl | rfl
  · exact ⟨by show RdSl H2 4 SArm.cells (.slice (some ⟨b55, 0, none⟩) l_b55.length _) l_b55; rw [n_b55]; exact hA_b55, z_b55⟩
  · exact i6
 exact aY (.inr rfl) (ae rfl (RVal.cellA rfl (.there _ (.there _ (.there _ (.there _ (.here _))))) rfl)) (fun w hw => hw.drop.drop.drop.drop.drop) ⟨_, [], rfl, hd39, rfl, hle, ⟨name, (rolesL.take (2 : Int).toNat), (a22, c22), [⟨[97], [98], l_b55, (some ⟨b55, 0, none⟩, 2)⟩, fH], (a171, c171)⟩, rfl, ⟨hrs, hP2, hPK⟩, rfl, rfl⟩
theorem w8 {H : Hp} {bd : Nat} {dl : Value} {at_ : Int} (hd : DiceOk H dl at_) {tv : Value} {types : List Str} (hty : RdSl H 1 Str.cells tv types) (htn : ∀ s ∈ types, TyNm s) (htl : types.length ≤ 100) (name : Str) :
  DFn Tryz.prog bd dl at_ 168 [gs name, .int .i64 3, tv] H (fun v H1 ob => ob = [] ∧ (H.le H1 ∧ ∃ p : SProto, v = .agg p.cells.toArray ∧ ProtoOk H1 p ∧ p.name = name ∧ p.roles = rolesL.take 3)) := by
 have hrl : (rolesL.take (3 : Int).toNat).length = 3 := rfl
 refine FnX.enter Tryz.func168 Tryz.ntmps168 rfl rfl (fun w0 => ?_)
 refine zm2 ?_
 refine TL.alloc rfl (fun b8 => ?_)
 refine gE ?_
 refine TL.call (ab rfl rfl rfl rfl) (gM) rfl (fun v19 H19 hle19 hp19 => ?_)
 replace hd := hd.le hle19
 replace hty := hty.le hle19
 have hro19 := hp19
 obtain ⟨ra19, rc19, rfl⟩ := hro19.len
 have hcp : 5 ≤ rc19 := hro19.room _ _ _ rfl
 have hsl := hro19.sliced (i := 0) (j := (3 : Int).toNat) (by omega) (by decide)
 have hle0 := hle19
 refine zm0 ?_; refine vt ?_
 refine TL.append (enc := Str.cells) rfl rfl rfl (OwnSl.nil (enc := Str.cells)) (Src.sl hsl) (by simp only [List.length_drop, List.length_nil]; omega) rfl (.new _ rfl) rfl (fun a22 c22 ob22 hO22 => ?_)
 refine dy ?_
 refine TL.alloc rfl (fun b9 => ?_)
 refine sk ?_
 refine dX (X := [(b9, _), (b8, _), (bd, _)]) hO22 rfl (by simp [keys]) (fun HR leR hR => ?_)
 replace hd := hd.le leR
 replace hty := hty.le leR
 replace hle0 := hle0.trans leR
 have hrs0 : RdSl HR 1 Str.cells (.slice a22 (rolesL.take (3 : Int).toNat).length c22) (rolesL.take (3 : Int).toNat) := hR
 have hty1 := hty
 have hleR := hle0
 refine ad (rm (V := fun (q : Q4) => [(10, gs q.a), (11, gs q.b)]) (K := [(0, _), (2, _), (3, _), (8, _), (9, _)]) ky (L := fun (q : Q4) => St (keys [(bd, [dl, .int .i64 at_])]) w0 H q.h [(b9, [gs name, .slice a22 (rolesL.take (3 : Int).toNat).length c22, .slice none 0 0]), (b8, [gs [], .slice none 0 0, .slice none 0 0]), (bd, [dl, .int .i64 q.at_])]) (I := fun (q : Q4) => DiceOk q.h dl q.at_ ∧ HR.le q.h) ?_ ?_)
 · exact Bg
 intro q hI
 obtain ⟨hI1, hI2⟩ := hI
 have hty := hty1.le hI2
 have hrs := hrs0.le hI2
 have hle := hleR.trans hI2
 refine d7 ?_
 refine aC (X := [(b9, _), (b8, _)]) (bd := bd) rfl (ab rfl rfl rfl rfl) (bq 2 (by omega) hI1) rfl (fun v36 H36 at36 hle36 hd36 hp36 => ?_)
 obtain ⟨eH36, r36, rfl, hr36⟩ := hp36
 replace eH36 := eH36.symm; subst eH36
 have hra36 := hr36.1
 have hrb36 := hr36.2.1 (by omega)
 refine kK ?_; refine d7 ?_
 refine aC (X := [(b9, _), (b8, _)]) (bd := bd) rfl (ab rfl rfl rfl rfl) (f8 hd36) rfl (fun v39 H39 at39 hle39 hd39 hp39 => ?_)
 obtain ⟨eH39, k39, rfl, hk39⟩ := hp39
 replace eH39 := eH39.symm; subst eH39
 refine TL.alloc rfl (fun b13 => ?_)
 refine py ?_; refine BK ?_; refine uY ?_; refine si ?_; refine si ?_; refine zm5 ?_; refine yU ?_; refine dZ ?_; refine vr ?_
 refine aE rfl rfl rfl rfl (fun b55 => ?_)
 refine dZ ?_
 refine aE rfl rfl rfl rfl (fun b57 => ?_)
 refine ar rfl (TL.append (enc := SPoint.cells) rfl rfl rfl (OwnSl.nil (enc := SPoint.cells)) (Src.own [⟨_, _, [⟨[], 0, [], 0⟩, ⟨[], 0, [], 0⟩], (some ⟨b55, 0, none⟩, 2)⟩] (.here _) rfl rfl) (by simp) rfl (.new _ rfl) rfl (fun a58 c58 ob58 hO58 => ?_))
 refine au (S0 (S0 (S1 (S1 (S1 (S1 SN)))))) (Hp.le.refl _) ?_; refine fR ?_; refine lB ?_; refine jr ?_; refine mA ?_; refine TC.rounds 2 ?_; refine se ?_; refine zm356 ?_; refine jp ?_; refine jp ?_
 refine lw ?_; refine sh ?_; refine jp ?_; refine lu ?_; refine sh ?_; refine nD ?_; refine jp ?_
 refine az (bG rfl rfl hO58) rfl (az (dc rfl rfl (by simp) (by simp)) rfl (ar rfl (aC (X := [(b57, _), (b55, _), (b13, _), (b9, _), (b8, _)]) (bd := bd) rfl (ab rfl rfl rfl rfl) (fo hd39 hty htn htl) rfl (fun v82_0 H82_0 at82_0 hle82_0 hd82_0 hp82_0 => ?_))))
 obtain ⟨eH82_0, k82_0, nm82_0, rfl, hc82_0⟩ := hp82_0
 replace eH82_0 := eH82_0.symm; subst eH82_0
 refine au (S1 (S1 (S1 (S1 (S1 SN))))) (Hp.le.refl _) ?_; refine dZ ?_
 refine aE rfl rfl rfl rfl (fun b88 => ?_)
 refine dZ ?_
 refine aE rfl rfl rfl rfl (fun b90 => ?_)
 refine ar rfl (TL.append (enc := SPoint.cells) rfl rfl rfl hO58 (Src.own [⟨_, _, [⟨[], 0, [], 0⟩], (some ⟨b88, 0, none⟩, 1)⟩] (.here _) rfl rfl) (by simp) rfl (.skip _ (.skip _ (.skip _ (.skip _ (.skip _ (.skip _ (.skip _ (.skip _ .all)))))))) rfl (fun a91_0 c91_0 ob91_0 hO91_0 => ?_))
 refine au (S0 (S0 (S1 (S1 (S1 (S1 (S1 SN))))))) (Hp.le.refl _) ?_; refine fR ?_; refine vq ?_; refine sd ?_; refine iy ?_; refine kj ?_
 refine ag rfl (fun c93 => ?_) (fun c93 => ?_)
 ·
  refine eP ?_; refine zm377 ?_; refine r7 ?_; refine r7 ?_; refine zm5 ?_; refine az (gi rfl rfl (by omega) (by omega)) rfl ?_; refine lj ?_; refine yT ?_; refine r7 ?_; refine lj ?_; refine yT ?_
  refine zm5 ?_; refine ar rfl (aC (X := [(b90, _), (b88, _), (b57, _), (b55, _), (b13, _), (b9, _), (b8, _)]) (bd := bd) rfl (ab rfl rfl rfl rfl) (f8 hd82_0) rfl (fun v107 H107 at107 hle107 hd107 hp107 => ?_))
  obtain ⟨eH107, k107, rfl, hk107⟩ := hp107
  replace eH107 := eH107.symm; subst eH107
  refine au (S1 (S1 (S1 (S1 (S1 (S1 (S1 SN))))))) (Hp.le.refl _) ?_; refine dZ ?_
  refine aE rfl rfl rfl rfl (fun b109 => ?_)
  refine dZ ?_
  refine aE rfl rfl rfl rfl (fun b111 => ?_)
  refine ar rfl (TL.append (enc := SPoint.cells) rfl rfl rfl hO91_0 (Src.own [⟨_, _, [⟨[], 0, [], 0⟩], (some ⟨b109, 0, none⟩, 1)⟩] (.here _) rfl rfl) (by simp) rfl (.skip _ (.skip _ (.skip _ (.skip _ (.skip _ (.skip _ (.skip _ (.skip _ (.skip _ (.skip _ .all)))))))))) rfl (fun a112 c112 ob112 hO112 => ?_))
  refine au (S0 (S0 (S1 (S1 (S1 (S1 (S1 (S1 (S1 SN))))))))) (Hp.le.refl _) ?_; refine fR ?_; refine yS ?_; refine jr ?_; refine gr ?_; refine pu ?_; refine TL.run (bG rfl rfl hO112) rfl ?_; refine tZ ?_
  refine pu ?_; refine TL.run (cv rfl rfl hO112 (by simp) (by simp)) rfl ?_; refine zm7 ?_
  refine TL.run (PR.to (dO rfl hO112 (.skip _ (.skip _ (.skip _ (.skip _ (.skip _ (.skip _ (.skip _ (.skip _ (.skip _ (.skip _ .all)))))))))) rfl rfl) (rfl : _ = Value.slice (some ⟨b55, 0, none⟩) 2 2)) rfl ?_; refine sg ?_
  refine vq ?_; refine pw ?_; refine TC.rounds 2 ?_; refine se ?_; refine zm357 ?_; refine r6 ?_; refine r6 ?_; refine lw ?_; refine yR ?_; refine r6 ?_; refine lu ?_; refine yR ?_; refine oo ?_
  refine Bz ?_; refine az (bG rfl rfl hO112) rfl ?_; refine r4 ?_
  refine aE rfl rfl rfl rfl (fun b162 => ?_)
  refine dZ ?_
  refine aE rfl rfl rfl rfl (fun b164 => ?_)
  refine ar rfl (TL.append (enc := SPoint.cells) rfl rfl rfl hO112 (Src.own [⟨_, _, [⟨[], 0, [], 0⟩], (some ⟨b162, 0, none⟩, 1)⟩] (.here _) rfl rfl) (by simp) rfl (.skip _ (.skip _ (.skip _ (.skip _ (.skip _ (.skip _ (.skip _ (.skip _ (.skip _ (.skip _ (.skip _ (.skip _ .all)))))))))))) rfl (fun a165_0 c165_0 ob165_0 hO165_0 => ?_))
  refine au (S0 (S0 (S1 (S1 (S1 (S1 (S1 (S1 (S1 (S1 (S1 (S1 SN)))))))))))) (Hp.le.refl _) ?_; refine fR ?_; refine BJ ?_; refine sd ?_; refine pI ?_; refine BI ?_; refine dy ?_
  refine aB rfl rfl rfl rfl (fun b170 => ?_)
  refine TL.append (enc := SPoint.cells) rfl rfl rfl hO165_0 (Src.own [fH] (.here _) rfl rfl) (by simp) rfl (.skip _ (.skip _ (.skip _ (.skip _ (.skip _ (.skip _ (.skip _ (.skip _ (.skip _ (.skip _ (.skip _ (.skip _ (.skip _ .all))))))))))))) rfl (fun a171 c171 ob171 hO171 => ?_)
  refine zm7 ?_; refine bz rfl rfl rfl (.there _ (.there _ (.there _ (.there _ (.there _ (.there _ (.there _ (.there _ (.there _ (.there _ (.here _))))))))))) rfl rfl ?_; refine gV ?_
  refine TL.run (bu rfl (.there _ (.there _ (.there _ (.there _ (.there _ (.there _ (.there _ (.there _ (.there _ (.there _ (.here _))))))))))) rfl) rfl (cF rfl rfl rfl rfl rfl (.there _ (.there _ (.there _ (.there _ (.there _ (.there _ (.there _ (.there _ (.there _ (.there _ (.there _ (.here _)))))))))))) rfl rfl (TL.nil (ad ?_)))
  refine TC.ret ?_; refine BH ?_
  refine cH (by simp [keys]) (fun H_b55 le_b55 rd_b55 => ?_)
  replace hrs := hrs.le le_b55
  replace hle := hle.trans le_b55
  replace hd107 := hd107.le le_b55
  obtain ⟨l_b55, n_b55, hA_b55, z_b55⟩ := jY rd_b55 (by first | simp | (have := hc82.len htn; omega)) (by first | simp | (have := hc82.len htn; omega))
  refine yQ ?_
  refine cH (by simp [keys]) (fun H_b88 le_b88 rd_b88 => ?_)
  replace hrs := hrs.le le_b88
  replace hle := hle.trans le_b88
  replace hd107 := hd107.le le_b88
  replace hA_b55 := hA_b55.le le_b88
  obtain ⟨l_b88, n_b88, hA_b88, z_b88⟩ := ec rd_b88 (by first | simp | (have := hc82_0.len htn; omega))
  refine vp ?_
  refine cH (by simp [keys]) (fun H_b109 le_b109 rd_b109 => ?_)
  replace hrs := hrs.le le_b109
  replace hle := hle.trans le_b109
  replace hd107 := hd107.le le_b109
  replace hA_b55 := hA_b55.le le_b109
  replace hA_b88 := hA_b88.le le_b109
  obtain ⟨l_b109, n_b109, hA_b109, z_b109⟩ := ec rd_b109 (by first | simp | (have := hc82.len htn; omega))
  refine nB ?_
  refine cH (by simp [keys]) (fun H_b162 le_b162 rd_b162 => ?_)
  replace hrs := hrs.le le_b162
  replace hle := hle.trans le_b162
  replace hd107 := hd107.le le_b162
  replace hA_b55 := hA_b55.le le_b162
  replace hA_b88 := hA_b88.le le_b162
  replace hA_b109 := hA_b109.le le_b162
  obtain ⟨l_b162, n_b162, hA_b162, z_b162⟩ := ec rd_b162 (by first | simp | (have := hc82_0.len htn; omega))
  refine dX (X := [(b170, _), (b164, _), (b111, _), (b90, _), (b57, _), (b13, _), (b9, _), (b8, _), (bd, _)]) hO171 rfl (by simp [keys]) (fun H2 hle2 hP => ?_)
  replace hrs := hrs.le hle2
  replace hle := hle.trans hle2
  replace hd107 := hd107.le hle2
  replace hA_b55 := hA_b55.le hle2
  replace hA_b88 := hA_b88.le hle2
  replace hA_b109 := hA_b109.le hle2
  replace hA_b162 := hA_b162.le hle2
  have hP2 := hP.recell (l' := [⟨[97], [98], l_b55, (some ⟨b55, 0, none⟩, 2)⟩, ⟨[98], [99], l_b88, (some ⟨b88, 0, none⟩, 1)⟩, ⟨[99], [97], l_b109, (some ⟨b109, 0, none⟩, 1)⟩, ⟨[98], [99], l_b162, (some ⟨b162, 0, none⟩, 1)⟩, fH]) (by simp only [List.nil_append, List.cons_append, List.map_cons, List.map_nil, SPoint.cells, n_b55, n_b88, n_b109, n_b162]; rfl)
  have hPK : ∀ x ∈ ([⟨[97], [98], l_b55, (some ⟨b55, 0, none⟩, 2)⟩, ⟨[98], [99], l_b88, (some ⟨b88, 0, none⟩, 1)⟩, ⟨[99], [97], l_b109, (some ⟨b109, 0, none⟩, 1)⟩, ⟨[98], [99], l_b162, (some ⟨b162, 0, none⟩, 1)⟩, fH] : List SPoint), PointOk H2 x := by
   intro x hx; simp only [List.mem_cons, List.not_mem_nil, or_false] at hx
   rcases hx with rfl | rfl | rfl | rfl | rfl
   · exact ⟨by show RdSl H2 4 SArm.cells (.slice (some ⟨b55, 0, none⟩) l_b55.length _) l_b55; rw [n_b55]; exact hA_b55, z_b55⟩
   · exact ⟨by show RdSl H2 4 SArm.cells (.slice (some ⟨b88, 0, none⟩) l_b88.length _) l_b88; rw [n_b88]; exact hA_b88, z_b88⟩
   · exact ⟨by show RdSl H2 4 SArm.cells (.slice (some ⟨b109, 0, none⟩) l_b109.length _) l_b109; rw [n_b109]; exact hA_b109, z_b109⟩
   · exact ⟨by show RdSl H2 4 SArm.cells (.slice (some ⟨b162, 0, none⟩) l_b162.length _) l_b162; rw [n_b162]; exact hA_b162, z_b162⟩
   · exact i6
  exact aY (.inr rfl) (ae rfl (RVal.cellA rfl (.there _ (.there _ (.there _ (.there _ (.there _ (.there _ (.there _ (.here _)))))))) rfl)) (fun w hw => hw.drop.drop.drop.drop.drop.drop.drop.drop) ⟨_, [], rfl, hd107, rfl, hle, ⟨name, (rolesL.take (3 : Int).toNat), (a22, c22), [⟨[97], [98], l_b55, (some ⟨b55, 0, none⟩, 2)⟩, ⟨[98], [99], l_b88, (some ⟨b88, 0, none⟩, 1)⟩, ⟨[99], [97], l_b109, (some ⟨b109, 0, none⟩, 1)⟩, ⟨[98], [99], l_b162, (some ⟨b162, 0, none⟩, 1)⟩, fH], (a171, c171)⟩, rfl, ⟨hrs, hP2, hPK⟩, rfl, rfl⟩
 refine gr ?_; refine px ?_; refine TL.run (bG rfl rfl hO91_0) rfl (TL.run (gi rfl rfl (by simp) (by simp)) rfl ?_); refine zm1 ?_; refine TC.region ?_; refine zm7 ?_; refine px ?_; refine zm0 ?_
 refine TL.run (cv rfl rfl hO91_0 (by simp) (by simp)) rfl ?_; refine zm7 ?_
 refine TL.run (PR.to (dO rfl hO91_0 (.skip _ (.skip _ (.skip _ (.skip _ (.skip _ (.skip _ (.skip _ (.skip _ .all)))))))) rfl rfl) (rfl : _ = Value.slice (some ⟨b88, 0, none⟩) 1 1)) rfl ?_; refine yG ?_; refine mz ?_
 refine vL ?_; refine px ?_; refine TL.run (bG rfl rfl hO91_0) rfl ?_; refine tZ ?_; refine px ?_; refine TL.run (cv rfl rfl hO91_0 (by simp) (by simp)) rfl ?_; refine zm7 ?_
 refine TL.run (PR.to (dO rfl hO91_0 (.skip _ (.skip _ (.skip _ (.skip _ (.skip _ (.skip _ (.skip _ (.skip _ .all)))))))) rfl rfl) (rfl : _ = Value.slice (some ⟨b55, 0, none⟩) 2 2)) rfl ?_; refine sg ?_; refine lB ?_
 refine pw ?_; refine TC.rounds 2 ?_; refine se ?_; refine zm378 ?_; refine zm4 ?_; refine yP ?_; refine zm4 ?_; refine yP ?_; refine lw ?_
 refine aH (S1 (S1 (S1 (S1 (S1 (S1 (S1 (S1 SN)))))))) (Hp.le.refl _) (fun _ _ => aM hrs rfl rfl rfl) rfl ?_; refine zm4 ?_; refine yP ?_; refine lu ?_
 refine aH (S1 (S1 (S1 (S1 (S1 (S1 (S1 (S1 SN)))))))) (Hp.le.refl _) (fun _ _ => aM hrs rfl rfl rfl) rfl ?_; refine oo ?_; refine yP ?_; refine az (bG rfl rfl hO91_0) rfl ?_; refine r4 ?_
 refine aE rfl rfl rfl rfl (fun b162 => ?_)
 refine dZ ?_
 refine aE rfl rfl rfl rfl (fun b164 => ?_)
 refine ar rfl (TL.append (enc := SPoint.cells) rfl rfl rfl hO91_0 (Src.own [⟨_, _, [⟨[], 0, [], 0⟩], (some ⟨b162, 0, none⟩, 1)⟩] (.here _) rfl rfl) (by simp) rfl (.skip _ (.skip _ (.skip _ (.skip _ (.skip _ (.skip _ (.skip _ (.skip _ (.skip _ (.skip _ .all)))))))))) rfl (fun a165_0 c165_0 ob165_0 hO165_0 => ?_))
 refine au (S0 (S0 (S1 (S1 (S1 (S1 (S1 (S1 (S1 (S1 SN)))))))))) (Hp.le.refl _) ?_; refine fR ?_; refine yS ?_; refine sd ?_; refine pI ?_; refine pu ?_; refine dy ?_
 refine aB rfl rfl rfl rfl (fun b170 => ?_)
 refine TL.append (enc := SPoint.cells) rfl rfl rfl hO165_0 (Src.own [fH] (.here _) rfl rfl) (by simp) rfl (.skip _ (.skip _ (.skip _ (.skip _ (.skip _ (.skip _ (.skip _ (.skip _ (.skip _ (.skip _ (.skip _ .all))))))))))) rfl (fun a171 c171 ob171 hO171 => ?_)
 refine zm7 ?_; refine bz rfl rfl rfl (.there _ (.there _ (.there _ (.there _ (.there _ (.there _ (.there _ (.there _ (.here _))))))))) rfl rfl ?_; refine gV ?_
 refine TL.run (bu rfl (.there _ (.there _ (.there _ (.there _ (.there _ (.there _ (.there _ (.there _ (.here _))))))))) rfl) rfl (cF rfl rfl rfl rfl rfl (.there _ (.there _ (.there _ (.there _ (.there _ (.there _ (.there _ (.there _ (.there _ (.here _)))))))))) rfl rfl (TL.nil (ad ?_)))
 refine TC.ret ?_; refine yQ ?_
 refine cH (by simp [keys]) (fun H_b55 le_b55 rd_b55 => ?_)
 replace hrs := hrs.le le_b55
 replace hle := hle.trans le_b55
 replace hd82_0 := hd82_0.le le_b55
 obtain ⟨l_b55, n_b55, hA_b55, z_b55⟩ := jY rd_b55 (by first | simp | (have := hc82.len htn; omega)) (by first | simp | (have := hc82.len htn; omega))
 refine vp ?_
 refine cH (by simp [keys]) (fun H_b88 le_b88 rd_b88 => ?_)
 replace hrs := hrs.le le_b88
 replace hle := hle.trans le_b88
 replace hd82_0 := hd82_0.le le_b88
 replace hA_b55 := hA_b55.le le_b88
 obtain ⟨l_b88, n_b88, hA_b88, z_b88⟩ := ec rd_b88 (by first | simp | (have := hc82_0.len htn; omega))
 refine nB ?_
 refine cH (by simp [keys]) (fun H_b162 le_b162 rd_b162 => ?_)
 replace hrs := hrs.le le_b162
 replace hle := hle.trans le_b162
 replace hd82_0 := hd82_0.le le_b162
 replace hA_b55 := hA_b55.le le_b162
 replace hA_b88 := hA_b88.le le_b162
 obtain ⟨l_b162, n_b162, hA_b162, z_b162⟩ := ec rd_b162 (by first | simp | (have := hc82_0.len htn; omega))
 refine dX (X := [(b170, _), (b164, _), (b90, _), (b57, _), (b13, _), (b9, _), (b8, _), (bd, _)]) hO171 rfl (by simp [keys]) (fun H2 hle2 hP => ?_)
 replace hrs := hrs.le hle2
 replace hle := hle.trans hle2
 replace hd82_0 := hd82_0.le hle2
 replace hA_b55 := hA_b55.le hle2
 replace hA_b88 := hA_b88.le hle2
 replace hA_b162 := hA_b162.le hle2
 have hP2 := hP.recell (l' := [⟨[97], [98], l_b55, (some ⟨b55, 0, none⟩, 2)⟩, ⟨[98], [99], l_b88, (some ⟨b88, 0, none⟩, 1)⟩, ⟨[98], [99], l_b162, (some ⟨b162, 0, none⟩, 1)⟩, fH]) (by simp only [List.nil_append, List.cons_append, List.map_cons, List.map_nil, SPoint.cells, n_b55, n_b88, n_b162]; rfl)
 have hPK : ∀ x ∈ ([⟨[97], [98], l_b55, (some ⟨b55, 0, none⟩, 2)⟩, ⟨[98], [99], l_b88, (some ⟨b88, 0, none⟩, 1)⟩, ⟨[98], [99], l_b162, (some ⟨b162, 0, none⟩, 1)⟩, fH] : List SPoint), PointOk H2 x := by
  intro x hx; simp only [List.mem_cons, List.not_mem_nil, or_false] at hx
  rcases hx with rfl | rfl | rfl | rfl
  · exact ⟨by show RdSl H2 4 SArm.cells (.slice (some ⟨b55, 0, none⟩) l_b55.length _) l_b55; rw [n_b55]; exact hA_b55, z_b55⟩
  · exact ⟨by show RdSl H2 4 SArm.cells (.slice (some ⟨b88, 0, none⟩) l_b88.length _) l_b88; rw [n_b88]; exact hA_b88, z_b88⟩
  · exact ⟨by show RdSl H2 4 SArm.cells (.slice (some ⟨b162, 0, none⟩) l_b162.length _) l_b162; rw [n_b162]; exact hA_b162, z_b162⟩
  · exact i6
 exact aY (.inr rfl) (ae rfl (RVal.cellA rfl (.there _ (.there _ (.there _ (.there _ (.there _ (.there _ (.here _))))))) rfl)) (fun w hw => hw.drop.drop.drop.drop.drop.drop.drop) ⟨_, [], rfl, hd82_0, rfl, hle, ⟨name, (rolesL.take (3 : Int).toNat), (a22, c22), [⟨[97], [98], l_b55, (some ⟨b55, 0, none⟩, 2)⟩, ⟨[98], [99], l_b88, (some ⟨b88, 0, none⟩, 1)⟩, ⟨[98], [99], l_b162, (some ⟨b162, 0, none⟩, 1)⟩, fH], (a171, c171)⟩, rfl, ⟨hrs, hP2, hPK⟩, rfl, rfl⟩
theorem w7 {H : Hp} {bd : Nat} {dl : Value} {at_ : Int} (hd : DiceOk H dl at_) {tv : Value} {types : List Str} (hty : RdSl H 1 Str.cells tv types) (htn : ∀ s ∈ types, TyNm s) (htl : types.length ≤ 100) (name : Str) :
  DFn Tryz.prog bd dl at_ 168 [gs name, .int .i64 4, tv] H (fun v H1 ob => ob = [] ∧ (H.le H1 ∧ ∃ p : SProto, v = .agg p.cells.toArray ∧ ProtoOk H1 p ∧ p.name = name ∧ p.roles = rolesL.take 4)) := by
 have hrl : (rolesL.take (4 : Int).toNat).length = 4 := rfl
 refine FnX.enter Tryz.func168 Tryz.ntmps168 rfl rfl (fun w0 => ?_)
 refine zm2 ?_
 refine TL.alloc rfl (fun b8 => ?_)
 refine gE ?_
 refine TL.call (ab rfl rfl rfl rfl) (gM) rfl (fun v19 H19 hle19 hp19 => ?_)
 replace hd := hd.le hle19
 replace hty := hty.le hle19
 have hro19 := hp19
 obtain ⟨ra19, rc19, rfl⟩ := hro19.len
 have hcp : 5 ≤ rc19 := hro19.room _ _ _ rfl
 have hsl := hro19.sliced (i := 0) (j := (4 : Int).toNat) (by omega) (by decide)
 have hle0 := hle19
 refine zm0 ?_; refine vt ?_
 refine TL.append (enc := Str.cells) rfl rfl rfl (OwnSl.nil (enc := Str.cells)) (Src.sl hsl) (by simp only [List.length_drop, List.length_nil]; omega) rfl (.new _ rfl) rfl (fun a22 c22 ob22 hO22 => ?_)
 refine dy ?_
 refine TL.alloc rfl (fun b9 => ?_)
 refine sk ?_
 refine dX (X := [(b9, _), (b8, _), (bd, _)]) hO22 rfl (by simp [keys]) (fun HR leR hR => ?_)
 replace hd := hd.le leR
 replace hty := hty.le leR
 replace hle0 := hle0.trans leR
 have hrs0 : RdSl HR 1 Str.cells (.slice a22 (rolesL.take (4 : Int).toNat).length c22) (rolesL.take (4 : Int).toNat) := hR
 have hty1 := hty
 have hleR := hle0
 refine ad (rm (V := fun (q : Q4) => [(10, gs q.a), (11, gs q.b)]) (K := [(0, _), (2, _), (3, _), (8, _), (9, _)]) ky (L := fun (q : Q4) => St (keys [(bd, [dl, .int .i64 at_])]) w0 H q.h [(b9, [gs name, .slice a22 (rolesL.take (4 : Int).toNat).length c22, .slice none 0 0]), (b8, [gs [], .slice none 0 0, .slice none 0 0]), (bd, [dl, .int .i64 q.at_])]) (I := fun (q : Q4) => DiceOk q.h dl q.at_ ∧ HR.le q.h) ?_ ?_)
 · exact Bg
 intro q hI
 obtain ⟨hI1, hI2⟩ := hI
 have hty := hty1.le hI2
 have hrs := hrs0.le hI2
 have hle := hleR.trans hI2
 refine d7 ?_
 refine aC (X := [(b9, _), (b8, _)]) (bd := bd) rfl (ab rfl rfl rfl rfl) (bq 2 (by omega) hI1) rfl (fun v36 H36 at36 hle36 hd36 hp36 => ?_)
 obtain ⟨eH36, r36, rfl, hr36⟩ := hp36
 replace eH36 := eH36.symm; subst eH36
 have hra36 := hr36.1
 have hrb36 := hr36.2.1 (by omega)
 refine kK ?_; refine d7 ?_
 refine aC (X := [(b9, _), (b8, _)]) (bd := bd) rfl (ab rfl rfl rfl rfl) (f8 hd36) rfl (fun v39 H39 at39 hle39 hd39 hp39 => ?_)
 obtain ⟨eH39, k39, rfl, hk39⟩ := hp39
 replace eH39 := eH39.symm; subst eH39
 refine TL.alloc rfl (fun b13 => ?_)
 refine py ?_; refine BK ?_; refine uY ?_; refine si ?_; refine si ?_; refine zm5 ?_; refine yU ?_; refine dZ ?_; refine vr ?_
 refine aE rfl rfl rfl rfl (fun b55 => ?_)
 refine dZ ?_
 refine aE rfl rfl rfl rfl (fun b57 => ?_)
 refine ar rfl (TL.append (enc := SPoint.cells) rfl rfl rfl (OwnSl.nil (enc := SPoint.cells)) (Src.own [⟨_, _, [⟨[], 0, [], 0⟩, ⟨[], 0, [], 0⟩], (some ⟨b55, 0, none⟩, 2)⟩] (.here _) rfl rfl) (by simp) rfl (.new _ rfl) rfl (fun a58 c58 ob58 hO58 => ?_))
 refine au (S0 (S0 (S1 (S1 (S1 (S1 SN)))))) (Hp.le.refl _) ?_; refine fR ?_; refine lB ?_; refine jr ?_; refine mA ?_; refine TC.rounds 3 ?_; refine se ?_; refine zm356 ?_; refine jp ?_; refine jp ?_
 refine lw ?_; refine sh ?_; refine jp ?_; refine lu ?_; refine sh ?_; refine nD ?_; refine jp ?_
 refine az (bG rfl rfl hO58) rfl (az (dc rfl rfl (by simp) (by simp)) rfl (ar rfl (aC (X := [(b57, _), (b55, _), (b13, _), (b9, _), (b8, _)]) (bd := bd) rfl (ab rfl rfl rfl rfl) (fo hd39 hty htn htl) rfl (fun v82_0 H82_0 at82_0 hle82_0 hd82_0 hp82_0 => ?_))))
 obtain ⟨eH82_0, k82_0, nm82_0, rfl, hc82_0⟩ := hp82_0
 replace eH82_0 := eH82_0.symm; subst eH82_0
 refine au (S1 (S1 (S1 (S1 (S1 SN))))) (Hp.le.refl _) ?_; refine dZ ?_
 refine aE rfl rfl rfl rfl (fun b88 => ?_)
 refine dZ ?_
 refine aE rfl rfl rfl rfl (fun b90 => ?_)
 refine ar rfl (TL.append (enc := SPoint.cells) rfl rfl rfl hO58 (Src.own [⟨_, _, [⟨[], 0, [], 0⟩], (some ⟨b88, 0, none⟩, 1)⟩] (.here _) rfl rfl) (by simp) rfl (.skip _ (.skip _ (.skip _ (.skip _ (.skip _ (.skip _ (.skip _ (.skip _ .all)))))))) rfl (fun a91_0 c91_0 ob91_0 hO91_0 => ?_))
 refine au (S0 (S0 (S1 (S1 (S1 (S1 (S1 SN))))))) (Hp.le.refl _) ?_; refine fR ?_; refine vq ?_; refine yF ?_; refine yE ?_; refine zm379 ?_; refine r7 ?_; refine r7 ?_; refine lw ?_; refine yT ?_
 refine r7 ?_; refine lu ?_; refine yT ?_; refine gk ?_; refine oo ?_
 refine aH (S1 (S1 (S1 (S1 (S1 (S1 (S1 SN))))))) (Hp.le.refl _) (fun _ _ => aD rfl (.there _ (.there _ (.there _ (.there _ (.there _ (.here _)))))) rfl) rfl (az (bG rfl rfl hO91_0) rfl (az (dc rfl rfl (by simp) (by simp)) rfl (ar rfl ?_)))
 refine aC (X := [(b90, _), (b88, _), (b57, _), (b55, _), (b13, _), (b9, _), (b8, _)]) (bd := bd) rfl (ab rfl rfl rfl rfl) (fo hd82_0 hty htn htl) rfl (fun v82_1 H82_1 at82_1 hle82_1 hd82_1 hp82_1 => ?_)
 obtain ⟨eH82_1, k82_1, nm82_1, rfl, hc82_1⟩ := hp82_1
 replace eH82_1 := eH82_1.symm; subst eH82_1
 refine au (S1 (S1 (S1 (S1 (S1 (S1 (S1 SN))))))) (Hp.le.refl _) ?_; refine dZ ?_
 refine aE rfl rfl rfl rfl (fun b88x => ?_)
 refine dZ ?_
 refine aE rfl rfl rfl rfl (fun b90x => ?_)
 refine ar rfl (TL.append (enc := SPoint.cells) rfl rfl rfl hO91_0 (Src.own [⟨_, _, [⟨[], 0, [], 0⟩], (some ⟨b88x, 0, none⟩, 1)⟩] (.here _) rfl rfl) (by simp) rfl (.skip _ (.skip _ (.skip _ (.skip _ (.skip _ (.skip _ (.skip _ (.skip _ (.skip _ (.skip _ .all)))))))))) rfl (fun a91_1 c91_1 ob91_1 hO91_1 => ?_))
 refine au (S0 (S0 (S1 (S1 (S1 (S1 (S1 (S1 (S1 SN))))))))) (Hp.le.refl _) ?_; refine fR ?_; refine yS ?_; refine sd ?_; refine iy ?_; refine kj ?_
 refine ag rfl (fun c93 => ?_) (fun c93 => ?_)
 ·
  refine eP ?_; refine zm380 ?_; refine zm4 ?_; refine BG ?_; refine zm4 ?_; refine BG ?_; refine zm5 ?_; refine az (gi rfl rfl (by omega) (by omega)) rfl ?_; refine lj ?_
  refine aH (S1 (S1 (S1 (S1 (S1 (S1 (S1 (S1 (S1 SN))))))))) (Hp.le.refl _) (fun _ _ => aM hrs rfl rfl rfl) rfl ?_; refine zm4 ?_; refine BG ?_; refine lj ?_
  refine aH (S1 (S1 (S1 (S1 (S1 (S1 (S1 (S1 (S1 SN))))))))) (Hp.le.refl _) (fun _ _ => aM hrs rfl rfl rfl) rfl ?_; refine zm5 ?_
  refine ar rfl (aC (X := [(b90x, _), (b88x, _), (b90, _), (b88, _), (b57, _), (b55, _), (b13, _), (b9, _), (b8, _)]) (bd := bd) rfl (ab rfl rfl rfl rfl) (f8 hd82_1) rfl (fun v107 H107 at107 hle107 hd107 hp107 => ?_))
  obtain ⟨eH107, k107, rfl, hk107⟩ := hp107
  replace eH107 := eH107.symm; subst eH107
  refine au (S1 (S1 (S1 (S1 (S1 (S1 (S1 (S1 (S1 SN))))))))) (Hp.le.refl _) ?_; refine dZ ?_
  refine aE rfl rfl rfl rfl (fun b109 => ?_)
  refine dZ ?_
  refine aE rfl rfl rfl rfl (fun b111 => ?_)
  refine ar rfl (TL.append (enc := SPoint.cells) rfl rfl rfl hO91_1 (Src.own [⟨_, _, [⟨[], 0, [], 0⟩], (some ⟨b109, 0, none⟩, 1)⟩] (.here _) rfl rfl) (by simp) rfl (.skip _ (.skip _ (.skip _ (.skip _ (.skip _ (.skip _ (.skip _ (.skip _ (.skip _ (.skip _ (.skip _ (.skip _ .all)))))))))))) rfl (fun a112 c112 ob112 hO112 => ?_))
  refine au (S0 (S0 (S1 (S1 (S1 (S1 (S1 (S1 (S1 (S1 (S1 SN))))))))))) (Hp.le.refl _) ?_; refine fR ?_; refine BJ ?_; refine jr ?_; refine gr ?_; refine BI ?_; refine TL.run (bG rfl rfl hO112) rfl ?_
  refine tZ ?_; refine BI ?_; refine TL.run (cv rfl rfl hO112 (by simp) (by simp)) rfl ?_; refine zm7 ?_; refine zm381 ?_; refine sg ?_; refine yS ?_; refine pw ?_; refine TC.rounds 3 ?_; refine se ?_
  refine zm359 ?_; refine r3 ?_; refine r3 ?_; refine lw ?_; refine yO ?_; refine r3 ?_; refine lu ?_; refine yO ?_; refine oo ?_; refine By ?_; refine az (bG rfl rfl hO112) rfl ?_; refine r4 ?_
  refine aE rfl rfl rfl rfl (fun b162 => ?_)
  refine dZ ?_
  refine aE rfl rfl rfl rfl (fun b164 => ?_)
  refine ar rfl (TL.append (enc := SPoint.cells) rfl rfl rfl hO112 (Src.own [⟨_, _, [⟨[], 0, [], 0⟩], (some ⟨b162, 0, none⟩, 1)⟩] (.here _) rfl rfl) (by simp) rfl (.skip _ (.skip _ (.skip _ (.skip _ (.skip _ (.skip _ (.skip _ (.skip _ (.skip _ (.skip _ (.skip _ (.skip _ (.skip _ (.skip _ .all)))))))))))))) rfl (fun a165_0 c165_0 ob165_0 hO165_0 => ?_))
  refine au (S0 (S0 (S1 (S1 (S1 (S1 (S1 (S1 (S1 (S1 (S1 (S1 (S1 (S1 SN)))))))))))))) (Hp.le.refl _) ?_; refine fR ?_; refine zm361 ?_; refine yF ?_; refine yE ?_; refine zm382 ?_; refine zm4 ?_; refine yN ?_
  refine zm4 ?_; refine yN ?_; refine lw ?_; refine zm362 ?_; refine zm4 ?_; refine yN ?_; refine lu ?_; refine zm362 ?_; refine oo ?_; refine yN ?_; refine az (bG rfl rfl hO165_0) rfl ?_; refine r4 ?_
  refine aE rfl rfl rfl rfl (fun b162x => ?_)
  refine dZ ?_
  refine aE rfl rfl rfl rfl (fun b164x => ?_)
  refine ar rfl (TL.append (enc := SPoint.cells) rfl rfl rfl hO165_0 (Src.own [⟨_, _, [⟨[], 0, [], 0⟩], (some ⟨b162x, 0, none⟩, 1)⟩] (.here _) rfl rfl) (by simp) rfl (.skip _ (.skip _ (.skip _ (.skip _ (.skip _ (.skip _ (.skip _ (.skip _ (.skip _ (.skip _ (.skip _ (.skip _ (.skip _ (.skip _ (.skip _ (.skip _ .all)))))))))))))))) rfl (fun a165_1 c165_1 ob165_1 hO165_1 => ?_))
  refine au (S0 (S0 (S1 (S1 (S1 (S1 (S1 (S1 (S1 (S1 (S1 (S1 (S1 (S1 (S1 (S1 SN)))))))))))))))) (Hp.le.refl _) ?_; refine fR ?_
  refine bz rfl rfl rfl (.there _ (.there _ (.there _ (.there _ (.there _ (.there _ (.there _ (.there _ (.there _ (.there _ (.there _ (.there _ (.there _ (.here _)))))))))))))) rfl rfl ?_; refine sd ?_; refine pI ?_
  refine TL.run (aD rfl (.there _ (.there _ (.there _ (.there _ (.there _ (.there _ (.there _ (.there _ (.there _ (.there _ (.there _ (.there _ (.there _ (.here _)))))))))))))) rfl) rfl ?_; refine dy ?_
  refine aB rfl rfl rfl rfl (fun b170 => ?_)
  refine TL.append (enc := SPoint.cells) rfl rfl rfl hO165_1 (Src.own [fH] (.here _) rfl rfl) (by simp) rfl (.skip _ (.skip _ (.skip _ (.skip _ (.skip _ (.skip _ (.skip _ (.skip _ (.skip _ (.skip _ (.skip _ (.skip _ (.skip _ (.skip _ (.skip _ (.skip _ (.skip _ .all))))))))))))))))) rfl (fun a171 c171 ob171 hO171 => ?_)
  refine zm7 ?_; refine bz rfl rfl rfl (.there _ (.there _ (.there _ (.there _ (.there _ (.there _ (.there _ (.there _ (.there _ (.there _ (.there _ (.there _ (.there _ (.there _ (.here _))))))))))))))) rfl rfl ?_
  refine gV ?_; refine TL.run (bu rfl (.there _ (.there _ (.there _ (.there _ (.there _ (.there _ (.there _ (.there _ (.there _ (.there _ (.there _ (.there _ (.there _ (.there _ (.here _))))))))))))))) rfl) rfl ?_
  refine zm383 ?_; refine TL.nil (ad (TC.ret (gc (.there _ (.there _ (.there _ (.there _ (.there _ (.there _ (.there _ (.there _ (.there _ (.there _ (.there _ (.there _ (.here _))))))))))))) ?_)))
  refine cH (by simp [keys]) (fun H_b55 le_b55 rd_b55 => ?_)
  replace hrs := hrs.le le_b55
  replace hle := hle.trans le_b55
  replace hd107 := hd107.le le_b55
  obtain ⟨l_b55, n_b55, hA_b55, z_b55⟩ := jY rd_b55 (by first | simp | (have := hc82.len htn; omega)) (by first | simp | (have := hc82.len htn; omega))
  refine zm363 ?_
  refine cH (by simp [keys]) (fun H_b88 le_b88 rd_b88 => ?_)
  replace hrs := hrs.le le_b88
  replace hle := hle.trans le_b88
  replace hd107 := hd107.le le_b88
  replace hA_b55 := hA_b55.le le_b88
  obtain ⟨l_b88, n_b88, hA_b88, z_b88⟩ := ec rd_b88 (by first | simp | (have := hc82_0.len htn; omega))
  refine BH ?_
  refine cH (by simp [keys]) (fun H_b88x le_b88x rd_b88x => ?_)
  replace hrs := hrs.le le_b88x
  replace hle := hle.trans le_b88x
  replace hd107 := hd107.le le_b88x
  replace hA_b55 := hA_b55.le le_b88x
  replace hA_b88 := hA_b88.le le_b88x
  obtain ⟨l_b88x, n_b88x, hA_b88x, z_b88x⟩ := ec rd_b88x (by first | simp | (have := hc82_1.len htn; omega))
  refine yQ ?_
  refine cH (by simp [keys]) (fun H_b109 le_b109 rd_b109 => ?_)
  replace hrs := hrs.le le_b109
  replace hle := hle.trans le_b109
  replace hd107 := hd107.le le_b109
  replace hA_b55 := hA_b55.le le_b109
  replace hA_b88 := hA_b88.le le_b109
  replace hA_b88x := hA_b88x.le le_b109
  obtain ⟨l_b109, n_b109, hA_b109, z_b109⟩ := ec rd_b109 (by first | simp | (have := hc82.len htn; omega))
  refine vp ?_
  refine cH (by simp [keys]) (fun H_b162 le_b162 rd_b162 => ?_)
  replace hrs := hrs.le le_b162
  replace hle := hle.trans le_b162
  replace hd107 := hd107.le le_b162
  replace hA_b55 := hA_b55.le le_b162
  replace hA_b88 := hA_b88.le le_b162
  replace hA_b88x := hA_b88x.le le_b162
  replace hA_b109 := hA_b109.le le_b162
  obtain ⟨l_b162, n_b162, hA_b162, z_b162⟩ := ec rd_b162 (by first | simp | (have := hc82_0.len htn; omega))
  refine nB ?_
  refine cH (by simp [keys]) (fun H_b162x le_b162x rd_b162x => ?_)
  replace hrs := hrs.le le_b162x
  replace hle := hle.trans le_b162x
  replace hd107 := hd107.le le_b162x
  replace hA_b55 := hA_b55.le le_b162x
  replace hA_b88 := hA_b88.le le_b162x
  replace hA_b88x := hA_b88x.le le_b162x
  replace hA_b109 := hA_b109.le le_b162x
  replace hA_b162 := hA_b162.le le_b162x
  obtain ⟨l_b162x, n_b162x, hA_b162x, z_b162x⟩ := ec rd_b162x (by first | simp | (have := hc82_1.len htn; omega))
  refine dX (X := [(b170, _), (b164x, _), (b164, _), (b111, _), (b90x, _), (b90, _), (b57, _), (b13, _), (b9, _), (b8, _), (bd, _)]) hO171 rfl (by simp [keys]) (fun H2 hle2 hP => ?_)
  replace hrs := hrs.le hle2
  replace hle := hle.trans hle2
  replace hd107 := hd107.le hle2
  replace hA_b55 := hA_b55.le hle2
  replace hA_b88 := hA_b88.le hle2
  replace hA_b88x := hA_b88x.le hle2
  replace hA_b109 := hA_b109.le hle2
  replace hA_b162 := hA_b162.le hle2
  replace hA_b162x := hA_b162x.le hle2
  have hP2 := hP.recell (l' := [⟨[97], [98], l_b55, (some ⟨b55, 0, none⟩, 2)⟩, ⟨[98], [99], l_b88, (some ⟨b88, 0, none⟩, 1)⟩, ⟨[99], [100], l_b88x, (some ⟨b88x, 0, none⟩, 1)⟩, ⟨[100], [97], l_b109, (some ⟨b109, 0, none⟩, 1)⟩, ⟨[98], [99], l_b162, (some ⟨b162, 0, none⟩, 1)⟩, ⟨[99], [100], l_b162x, (some ⟨b162x, 0, none⟩, 1)⟩, fH]) (by simp only [List.nil_append, List.cons_append, List.map_cons, List.map_nil, SPoint.cells, n_b55, n_b88, n_b88x, n_b109, n_b162, n_b162x]; rfl)
  have hPK : ∀ x ∈ ([⟨[97], [98], l_b55, (some ⟨b55, 0, none⟩, 2)⟩, ⟨[98], [99], l_b88, (some ⟨b88, 0, none⟩, 1)⟩, ⟨[99], [100], l_b88x, (some ⟨b88x, 0, none⟩, 1)⟩, ⟨[100], [97], l_b109, (some ⟨b109, 0, none⟩, 1)⟩, ⟨[98], [99], l_b162, (some ⟨b162, 0, none⟩, 1)⟩, ⟨[99], [100], l_b162x, (some ⟨b162x, 0, none⟩, 1)⟩, fH] : List SPoint), PointOk H2 x := by
   intro x hx; simp only [List.mem_cons, List.not_mem_nil, or_false] at hx
   rcases hx with rfl | rfl | rfl | rfl | rfl | rfl | rfl
   · exact ⟨by show RdSl H2 4 SArm.cells (.slice (some ⟨b55, 0, none⟩) l_b55.length _) l_b55; rw [n_b55]; exact hA_b55, z_b55⟩
   · exact ⟨by show RdSl H2 4 SArm.cells (.slice (some ⟨b88, 0, none⟩) l_b88.length _) l_b88; rw [n_b88]; exact hA_b88, z_b88⟩
   · exact ⟨by show RdSl H2 4 SArm.cells (.slice (some ⟨b88x, 0, none⟩) l_b88x.length _) l_b88x; rw [n_b88x]; exact hA_b88x, z_b88x⟩
   · exact ⟨by show RdSl H2 4 SArm.cells (.slice (some ⟨b109, 0, none⟩) l_b109.length _) l_b109; rw [n_b109]; exact hA_b109, z_b109⟩
   · exact ⟨by show RdSl H2 4 SArm.cells (.slice (some ⟨b162, 0, none⟩) l_b162.length _) l_b162; rw [n_b162]; exact hA_b162, z_b162⟩
   · exact ⟨by show RdSl H2 4 SArm.cells (.slice (some ⟨b162x, 0, none⟩) l_b162x.length _) l_b162x; rw [n_b162x]; exact hA_b162x, z_b162x⟩
   · exact i6
  exact aY (.inr rfl) (ae rfl (RVal.cellA rfl (.there _ (.there _ (.there _ (.there _ (.there _ (.there _ (.there _ (.there _ (.there _ (.here _)))))))))) rfl)) (fun w hw => hw.drop.drop.drop.drop.drop.drop.drop.drop.drop.drop) ⟨_, [], rfl, hd107, rfl, hle, ⟨name, (rolesL.take (4 : Int).toNat), (a22, c22), [⟨[97], [98], l_b55, (some ⟨b55, 0, none⟩, 2)⟩, ⟨[98], [99], l_b88, (some ⟨b88, 0, none⟩, 1)⟩, ⟨[99], [100], l_b88x, (some ⟨b88x, 0, none⟩, 1)⟩, ⟨[100], [97], l_b109, (some ⟨b109, 0, none⟩, 1)⟩, ⟨[98], [99], l_b162, (some ⟨b162, 0, none⟩, 1)⟩, ⟨[99], [100], l_b162x, (some ⟨b162x, 0, none⟩, 1)⟩, fH], (a171, c171)⟩, rfl, ⟨hrs, hP2, hPK⟩, rfl, rfl⟩
 refine gr ?_; refine pu ?_; refine TL.run (bG rfl rfl hO91_1) rfl (TL.run (gi rfl rfl (by simp) (by simp)) rfl ?_); refine zm1 ?_; refine TC.region ?_; refine zm7 ?_; refine pu ?_; refine zm0 ?_
 refine TL.run (cv rfl rfl hO91_1 (by simp) (by simp)) rfl ?_; refine zm7 ?_
 refine TL.run (PR.to (dO rfl hO91_1 (.skip _ (.skip _ (.skip _ (.skip _ (.skip _ (.skip _ (.skip _ (.skip _ (.skip _ (.skip _ .all)))))))))) rfl rfl) (rfl : _ = Value.slice (some ⟨b88x, 0, none⟩) 1 1)) rfl ?_; refine yG ?_
 refine mz ?_; refine vL ?_; refine pu ?_; refine TL.run (bG rfl rfl hO91_1) rfl ?_; refine tZ ?_; refine pu ?_; refine TL.run (cv rfl rfl hO91_1 (by simp) (by simp)) rfl ?_; refine zm7 ?_
 refine TL.run (PR.to (dO rfl hO91_1 (.skip _ (.skip _ (.skip _ (.skip _ (.skip _ (.skip _ (.skip _ (.skip _ (.skip _ (.skip _ .all)))))))))) rfl rfl) (rfl : _ = Value.slice (some ⟨b55, 0, none⟩) 2 2)) rfl ?_; refine sg ?_
 refine vq ?_; refine pw ?_; refine TC.rounds 3 ?_; refine se ?_; refine zm357 ?_; refine r6 ?_; refine r6 ?_; refine lw ?_; refine yR ?_; refine r6 ?_; refine lu ?_; refine yR ?_; refine oo ?_
 refine Bz ?_; refine az (bG rfl rfl hO91_1) rfl ?_; refine r4 ?_
 refine aE rfl rfl rfl rfl (fun b162 => ?_)
 refine dZ ?_
 refine aE rfl rfl rfl rfl (fun b164 => ?_)
 refine ar rfl (TL.append (enc := SPoint.cells) rfl rfl rfl hO91_1 (Src.own [⟨_, _, [⟨[], 0, [], 0⟩], (some ⟨b162, 0, none⟩, 1)⟩] (.here _) rfl rfl) (by simp) rfl (.skip _ (.skip _ (.skip _ (.skip _ (.skip _ (.skip _ (.skip _ (.skip _ (.skip _ (.skip _ (.skip _ (.skip _ .all)))))))))))) rfl (fun a165_0 c165_0 ob165_0 hO165_0 => ?_))
 refine au (S0 (S0 (S1 (S1 (S1 (S1 (S1 (S1 (S1 (S1 (S1 (S1 SN)))))))))))) (Hp.le.refl _) ?_; refine fR ?_; refine BJ ?_; refine yF ?_; refine yE ?_; refine zm359 ?_; refine r3 ?_; refine r3 ?_; refine lw ?_
 refine yO ?_; refine r3 ?_; refine lu ?_; refine yO ?_; refine oo ?_; refine By ?_; refine az (bG rfl rfl hO165_0) rfl ?_; refine r4 ?_
 refine aE rfl rfl rfl rfl (fun b162x => ?_)
 refine dZ ?_
 refine aE rfl rfl rfl rfl (fun b164x => ?_)
 refine ar rfl (TL.append (enc := SPoint.cells) rfl rfl rfl hO165_0 (Src.own [⟨_, _, [⟨[], 0, [], 0⟩], (some ⟨b162x, 0, none⟩, 1)⟩] (.here _) rfl rfl) (by simp) rfl (.skip _ (.skip _ (.skip _ (.skip _ (.skip _ (.skip _ (.skip _ (.skip _ (.skip _ (.skip _ (.skip _ (.skip _ (.skip _ (.skip _ .all)))))))))))))) rfl (fun a165_1 c165_1 ob165_1 hO165_1 => ?_))
 refine au (S0 (S0 (S1 (S1 (S1 (S1 (S1 (S1 (S1 (S1 (S1 (S1 (S1 (S1 SN)))))))))))))) (Hp.le.refl _) ?_; refine fR ?_; refine zm361 ?_; refine sd ?_; refine pI ?_
 refine TL.run (aD rfl (.there _ (.there _ (.there _ (.there _ (.there _ (.there _ (.there _ (.there _ (.there _ (.there _ (.there _ (.here _)))))))))))) rfl) rfl ?_; refine dy ?_
 refine aB rfl rfl rfl rfl (fun b170 => ?_)
 refine TL.append (enc := SPoint.cells) rfl rfl rfl hO165_1 (Src.own [fH] (.here _) rfl rfl) (by simp) rfl (.skip _ (.skip _ (.skip _ (.skip _ (.skip _ (.skip _ (.skip _ (.skip _ (.skip _ (.skip _ (.skip _ (.skip _ (.skip _ (.skip _ (.skip _ .all))))))))))))))) rfl (fun a171 c171 ob171 hO171 => ?_)
 refine zm7 ?_; refine bz rfl rfl rfl (.there _ (.there _ (.there _ (.there _ (.there _ (.there _ (.there _ (.there _ (.there _ (.there _ (.there _ (.there _ (.here _))))))))))))) rfl rfl ?_; refine gV ?_
 refine TL.run (bu rfl (.there _ (.there _ (.there _ (.there _ (.there _ (.there _ (.there _ (.there _ (.there _ (.there _ (.there _ (.there _ (.here _))))))))))))) rfl) rfl (cF rfl rfl rfl rfl rfl (.there _ (.there _ (.there _ (.there _ (.there _ (.there _ (.there _ (.there _ (.there _ (.there _ (.there _ (.there _ (.there _ (.here _)))))))))))))) rfl rfl (TL.nil (ad ?_)))
 refine TC.ret ?_; refine zm363 ?_
 refine cH (by simp [keys]) (fun H_b55 le_b55 rd_b55 => ?_)
 replace hrs := hrs.le le_b55
 replace hle := hle.trans le_b55
 replace hd82_1 := hd82_1.le le_b55
 obtain ⟨l_b55, n_b55, hA_b55, z_b55⟩ := jY rd_b55 (by first | simp | (have := hc82.len htn; omega)) (by first | simp | (have := hc82.len htn; omega))
 refine BH ?_
 refine cH (by simp [keys]) (fun H_b88 le_b88 rd_b88 => ?_)
 replace hrs := hrs.le le_b88
 replace hle := hle.trans le_b88
 replace hd82_1 := hd82_1.le le_b88
 replace hA_b55 := hA_b55.le le_b88
 obtain ⟨l_b88, n_b88, hA_b88, z_b88⟩ := ec rd_b88 (by first | simp | (have := hc82_0.len htn; omega))
 refine yQ ?_
 refine cH (by simp [keys]) (fun H_b88x le_b88x rd_b88x => ?_)
 replace hrs := hrs.le le_b88x
 replace hle := hle.trans le_b88x
 replace hd82_1 := hd82_1.le le_b88x
 replace hA_b55 := hA_b55.le le_b88x
 replace hA_b88 := hA_b88.le le_b88x
 obtain ⟨l_b88x, n_b88x, hA_b88x, z_b88x⟩ := ec rd_b88x (by first | simp | (have := hc82_1.len htn; omega))
 refine vp ?_
 refine cH (by simp [keys]) (fun H_b162 le_b162 rd_b162 => ?_)
 replace hrs := hrs.le le_b162
 replace hle := hle.trans le_b162
 replace hd82_1 := hd82_1.le le_b162
 replace hA_b55 := hA_b55.le le_b162
 replace hA_b88 := hA_b88.le le_b162
 replace hA_b88x := hA_b88x.le le_b162
 obtain ⟨l_b162, n_b162, hA_b162, z_b162⟩ := ec rd_b162 (by first | simp | (have := hc82_0.len htn; omega))
 refine nB ?_
 refine cH (by simp [keys]) (fun H_b162x le_b162x rd_b162x => ?_)
 replace hrs := hrs.le le_b162x
 replace hle := hle.trans le_b162x
 replace hd82_1 := hd82_1.le le_b162x
 replace hA_b55 := hA_b55.le le_b162x
 replace hA_b88 := hA_b88.le le_b162x
 replace hA_b88x := hA_b88x.le le_b162x
 replace hA_b162 := hA_b162.le le_b162x
 obtain ⟨l_b162x, n_b162x, hA_b162x, z_b162x⟩ := ec rd_b162x (by first | simp | (have := hc82_1.len htn; omega))
 refine dX (X := [(b170, _), (b164x, _), (b164, _), (b90x, _), (b90, _), (b57, _), (b13, _), (b9, _), (b8, _), (bd, _)]) hO171 rfl (by simp [keys]) (fun H2 hle2 hP => ?_)
 replace hrs := hrs.le hle2
 replace hle := hle.trans hle2
 replace hd82_1 := hd82_1.le hle2
 replace hA_b55 := hA_b55.le hle2
 replace hA_b88 := hA_b88.le hle2
 replace hA_b88x := hA_b88x.le hle2
 replace hA_b162 := hA_b162.le hle2
 replace hA_b162x := hA_b162x.le hle2
 have hP2 := hP.recell (l' := [⟨[97], [98], l_b55, (some ⟨b55, 0, none⟩, 2)⟩, ⟨[98], [99], l_b88, (some ⟨b88, 0, none⟩, 1)⟩, ⟨[99], [100], l_b88x, (some ⟨b88x, 0, none⟩, 1)⟩, ⟨[98], [99], l_b162, (some ⟨b162, 0, none⟩, 1)⟩, ⟨[99], [100], l_b162x, (some ⟨b162x, 0, none⟩, 1)⟩, fH]) (by simp only [List.nil_append, List.cons_append, List.map_cons, List.map_nil, SPoint.cells, n_b55, n_b88, n_b88x, n_b162, n_b162x]; rfl)
 have hPK : ∀ x ∈ ([⟨[97], [98], l_b55, (some ⟨b55, 0, none⟩, 2)⟩, ⟨[98], [99], l_b88, (some ⟨b88, 0, none⟩, 1)⟩, ⟨[99], [100], l_b88x, (some ⟨b88x, 0, none⟩, 1)⟩, ⟨[98], [99], l_b162, (some ⟨b162, 0, none⟩, 1)⟩, ⟨[99], [100], l_b162x, (some ⟨b162x, 0, none⟩, 1)⟩, fH] : List SPoint), PointOk H2 x := by
  intro x hx; simp only [List.mem_cons, List.not_mem_nil, or_false] at hx
  rcases hx with rfl | rfl | rfl | rfl | rfl | rfl
  · exact ⟨by show RdSl H2 4 SArm.cells (.slice (some ⟨b55, 0, none⟩) l_b55.length _) l_b55; rw [n_b55]; exact hA_b55, z_b55⟩
  · exact ⟨by show RdSl H2 4 SArm.cells (.slice (some ⟨b88, 0, none⟩) l_b88.length _) l_b88; rw [n_b88]; exact hA_b88, z_b88⟩
  · exact ⟨by show RdSl H2 4 SArm.cells (.slice (some ⟨b88x, 0, none⟩) l_b88x.length _) l_b88x; rw [n_b88x]; exact hA_b88x, z_b88x⟩
  · exact ⟨by show RdSl H2 4 SArm.cells (.slice (some ⟨b162, 0, none⟩) l_b162.length _) l_b162; rw [n_b162]; exact hA_b162, z_b162⟩
  · exact ⟨by show RdSl H2 4 SArm.cells (.slice (some ⟨b162x, 0, none⟩) l_b162x.length _) l_b162x; rw [n_b162x]; exact hA_b162x, z_b162x⟩
  · exact i6
 exact aY (.inr rfl) (ae rfl (RVal.cellA rfl (.there _ (.there _ (.there _ (.there _ (.there _ (.there _ (.there _ (.there _ (.here _))))))))) rfl)) (fun w hw => hw.drop.drop.drop.drop.drop.drop.drop.drop.drop) ⟨_, [], rfl, hd82_1, rfl, hle, ⟨name, (rolesL.take (4 : Int).toNat), (a22, c22), [⟨[97], [98], l_b55, (some ⟨b55, 0, none⟩, 2)⟩, ⟨[98], [99], l_b88, (some ⟨b88, 0, none⟩, 1)⟩, ⟨[99], [100], l_b88x, (some ⟨b88x, 0, none⟩, 1)⟩, ⟨[98], [99], l_b162, (some ⟨b162, 0, none⟩, 1)⟩, ⟨[99], [100], l_b162x, (some ⟨b162x, 0, none⟩, 1)⟩, fH], (a171, c171)⟩, rfl, ⟨hrs, hP2, hPK⟩, rfl, rfl⟩
theorem qJ {H : Hp} {bd : Nat} {dl : Value} {at_ : Int} (hd : DiceOk H dl at_) {tv : Value} {types : List Str} (hty : RdSl H 1 Str.cells tv types) (htn : ∀ s ∈ types, TyNm s) (htl : types.length ≤ 100) (name : Str) (many : Int) (h2 : 2 ≤ many) (h4 : many ≤ 4) :
  DFn Tryz.prog bd dl at_ 168 [gs name, .int .i64 many, tv] H (fun v H1 ob => ob = [] ∧ (H.le H1 ∧ ∃ p : SProto, v = .agg p.cells.toArray ∧ ProtoOk H1 p ∧ p.name = name ∧ ∃ n, 2 ≤ n ∧ n ≤ 5 ∧ p.roles = rolesL.take n)) := by
 have key : ∀ {n : Nat}, 2 ≤ n → n ≤ 5 → DFn Tryz.prog bd dl at_ 168 [gs name, .int .i64 many, tv] H (fun v H1 ob => ob = [] ∧ (H.le H1 ∧ ∃ p : SProto, v = .agg p.cells.toArray ∧ ProtoOk H1 p ∧ p.name = name ∧ p.roles = rolesL.take n)) → DFn Tryz.prog bd dl at_ 168 [gs name, .int .i64 many, tv] H (fun v H1 ob => ob = [] ∧ (H.le H1 ∧ ∃ p : SProto, v = .agg p.cells.toArray ∧ ProtoOk H1 p ∧ p.name = name ∧ ∃ n, 2 ≤ n ∧ n ≤ 5 ∧ p.roles = rolesL.take n)) :=
  fun h1 h2 h => FnX.mono h (by
   rintro v H' L' ⟨at', ob, e1, e2, e3, e4, p, e5, e6, e7, e8⟩
   exact ⟨at', ob, e1, e2, e3, e4, p, e5, e6, e7, _, h1, h2, e8⟩)
 rcases (by omega : many = 2 ∨ many = 3 ∨ many = 4) with rfl | rfl | rfl
 · exact key (by omega) (by omega) (w9 hd hty htn htl name)
 · exact key (by omega) (by omega) (w8 hd hty htn htl name)
 exact key (by omega) (by omega) (w7 hd hty htn htl name)
end Go.Sx
namespace Go.Sx
open Go Go.Proofs
theorem uG {H : Hp} {bd : Nat} {dl : Value} {at_ : Int} (hd : DiceOk H dl at_) {tv : Value} {types : List Str} (hty : RdSl H 1 Str.cells tv types) (htn : ∀ s ∈ types, TyNm s) (htl : types.length ≤ 100) (name : Str) :
  DFn Tryz.prog bd dl at_ 123 [gs name, tv] H (fun v H1 ob => ob = [] ∧ (H.le H1 ∧ ∃ p : SProto, v = .agg p.cells.toArray ∧ ProtoOk H1 p ∧ p.name = name ∧ ∃ n, 2 ≤ n ∧ n ≤ 5 ∧ p.roles = rolesL.take n)) := by
 refine FnX.enter Tryz.func123 Tryz.ntmps123 rfl rfl (fun w0 => ?_)
 refine zm2 ?_
 refine TL.alloc rfl (fun b6 => ?_)
 refine TL.nil (ad ?_); refine kI ?_
 refine aC (X := [(b6, _)]) (bd := bd) rfl (ab rfl rfl rfl rfl) (bq 4 (by omega) hd) rfl (fun v8 H8 at8 hle8 hd8 hp8 => ?_)
 obtain ⟨eH8, r8, rfl, hr8⟩ := hp8
 replace eH8 := eH8.symm; subst eH8
 have hra8 := hr8.1
 have hrb8 := hr8.2.1 (by omega)
 refine sF ?_
 refine ag rfl (fun c9 => ?_) (fun c9 => ?_)
 ·
  refine gU ?_
  refine aC (X := [(b6, _)]) (bd := bd) rfl (ab rfl rfl rfl rfl) (uH hd8 hty htn htl name 2 (by omega) (by omega)) rfl (fun v14 H14 at14 hle14 hd14 hp14 => ?_)
  obtain ⟨hle14_, p, rfl, hP, hNm, hRo, hA⟩ := hp14
  refine iU ?_; exact aN (al (aY (.inr rfl) (ae rfl (RVal.cellA rfl (.here _) rfl)) (fun w hw => hw.drop) ⟨_, [], rfl, hd14, rfl, hle14_, p, rfl, hP, hNm, _, by decide, by decide, hRo⟩))
 refine dN ?_
 refine ag rfl (fun c15 => ?_) (fun c15 => ?_)
 ·
  refine gU ?_
  refine aC (X := [(b6, _)]) (bd := bd) rfl (ab rfl rfl rfl rfl) (bq 3 (by omega) hd8) rfl (fun v20 H20 at20 hle20 hd20 hp20 => ?_)
  obtain ⟨eH20, r20, rfl, hr20⟩ := hp20
  replace eH20 := eH20.symm; subst eH20
  have hra20 := hr20.1
  have hrb20 := hr20.2.1 (by omega)
  refine kJ ?_; refine zm0 ?_
  refine aC (X := [(b6, _)]) (bd := bd) rfl (ab rfl rfl rfl rfl) (qJ hd20 hty htn htl name (2 + r20) (by omega) (by omega)) rfl (fun v23 H23 at23 hle23 hd23 hp23 => ?_)
  obtain ⟨hle23_, p, rfl, hP, hNm, n, hn2, hn5, hRo⟩ := hp23
  refine iU ?_; exact aN (al (aY (.inr rfl) (ae rfl (RVal.cellA rfl (.here _) rfl)) (fun w hw => hw.drop) ⟨_, [], rfl, hd23, rfl, hle23_, p, rfl, hP, hNm, n, hn2, hn5, hRo⟩))
 refine dN ?_
 refine ag rfl (fun c24 => ?_) (fun c24 => ?_)
 ·
  refine gU ?_
  refine aC (X := [(b6, _)]) (bd := bd) rfl (ab rfl rfl rfl rfl) (uH hd8 hty htn htl name 3 (by omega) (by omega)) rfl (fun v29 H29 at29 hle29 hd29 hp29 => ?_)
  obtain ⟨hle29_, p, rfl, hP, hNm, hRo, hA⟩ := hp29
  refine iU ?_; exact aN (al (aY (.inr rfl) (ae rfl (RVal.cellA rfl (.here _) rfl)) (fun w hw => hw.drop) ⟨_, [], rfl, hd29, rfl, hle29_, p, rfl, hP, hNm, _, by decide, by decide, hRo⟩))
 refine TC.skip (bA (ad ?_)); refine gU ?_
 refine aC (X := [(b6, _)]) (bd := bd) rfl (ab rfl rfl rfl rfl) (qJ hd8 hty htn htl name 3 (by omega) (by omega)) rfl (fun v33 H33 at33 hle33 hd33 hp33 => ?_)
 obtain ⟨hle33_, p, rfl, hP, hNm, n, hn2, hn5, hRo⟩ := hp33
 refine iU ?_
 exact aY (.inr rfl) (ae rfl (RVal.cellA rfl (.here _) rfl)) (fun w hw => hw.drop) ⟨_, [], rfl, hd33, rfl, hle33_, p, rfl, hP, hNm, n, hn2, hn5, hRo⟩
theorem rH {H : Hp} (p : SProto) (hp : ProtoOk H p) (h1 : p.name.length ≤ 1000) (h2 : p.roles.length ≤ 100) (h3 : ∀ r ∈ p.roles, r.length ≤ 1000) :
  Fn Tryz.prog 66 [.agg p.cells.toArray] H (fun v H1 => RdSl H1 1 Str.cells v (p.roles.map (fun r => (p.name ++ [46]) ++ r))) := by
 have hro := hp.r
 have hmx := hro.max
 refine Fn.enter Tryz.func66 Tryz.ntmps66 rfl rfl (fun w0 => ?_)
 refine zm2 ?_
 refine TL.box rfl rfl (fun b1 => ?_)
 refine zm1 ?_; refine jq ?_
 refine aV (V := fun k v ob H1 => [(3, v), (4, .int .i64 k)]) (K := [(1, _), (2, _)]) (L := fun k v ob H1 => St [] w0 H H ((b1, p.cells) :: ob)) (I := fun k v ob H1 => (0 ≤ k ∧ k ≤ p.roles.length) ∧ OwnSl 1 Str.cells v ((p.roles.take k.toNat).map (fun r => (p.name ++ [46]) ++ r)) ob) (μ := fun k => (p.roles.length - k).toNat) 0 (.slice none 0 0) [] H ky ⟨⟨by omega, by omega⟩, OwnSl.nil⟩ (fun w hw => hw) (fun k v ob H1 hI => ?_)
 obtain ⟨⟨k0, k1⟩, hO⟩ := hI
 refine pq ?_; refine TL.run (ai rfl rfl hro) rfl ?_; refine zm1 ?_
 refine ag rfl (fun c9 => ?_) (fun c9 => ?_)
 ·
  obtain ⟨x, hx⟩ := ao (l := p.roles) k0 c9
  have hxl := h3 x (List.mem_of_getElem? hx)
  refine ph ?_; refine bZ [(0, 1), (1, 1), (2, 2), (3, 1), (4, 1), (5, 2), (6, 1), (7, 1), (8, 2), (9, 1), (10, 3), (11, 0), (12, 1)] (by kernel_rfl) (by kernel_rfl) ?_; refine zm5 ?_; refine nr ?_
  refine az (dU rfl rfl (by simp only [List.length_append, List.length_cons, List.length_nil]; omega)) rfl ?_; refine rQ ?_; refine vo ?_
  refine a7 (aM hro hx rfl rfl) rfl (az (dU rfl rfl (by simp only [List.length_append, List.length_cons, List.length_nil]; omega)) rfl (aE rfl rfl rfl rfl (fun b22 => ?_)))
  refine bj (TL.append (enc := Str.cells) rfl rfl rfl hO (Src.own [(p.name ++ [46]) ++ x] (.here _) rfl rfl) (by simp; omega) rfl (.skip _ (.skip _ .all)) rfl (fun a23 c23 ob23 hO23 => ?_))
  refine TF.back ?_; refine zm5 ?_; refine TF.nil ?_; refine li ?_
  exact aF (k + 1) _ ob23 H ⟨⟨by omega, by omega⟩, by rw [bX k0 hx]; exact hO23⟩ ky (fun w hw => hw.drop) (by omega)
 refine rA ?_
 refine TX.pubO hO (.skip _ .all) (by simp) (fun H2 hle2 hR => ?_)
 rw [bB c9 k0] at hR
 exact aQ (.inr rfl) (ae rfl (RVal.tmp rfl)) hR
end Go.Sx
namespace Go.Sx
open Go Go.Proofs
theorem lX {H : Hp} (x : SPoint) (r : Str) :
  FnS Tryz.prog 194 [.agg x.cells.toArray, gs r] H (.bool (fa x r)) := by
 refine FnS.enter Tryz.func194 Tryz.ntmps194 rfl rfl (fun w0 => ?_)
 refine zm2 ?_
 refine TL.box rfl rfl (fun b2 => ?_)
 refine zm1 ?_; refine lG ?_; refine ll ?_
 refine aj (s := 9) rfl (fun g9 => ?_) (fun g9 => ?_)
 ·
  have q9 := of_decide_eq_true g9
  refine eB ?_; refine ff ?_
  exact ax (.inr rfl) (ae rfl (RVal.tmp rfl)) (congrArg Value.bool (by unfold fa; simp_all))
 have q9 := of_decide_eq_false g9
 refine zm9 ?_; refine cN ?_; refine mB ?_; refine ff ?_
 exact ax (.inr rfl) (ae rfl (RVal.tmp rfl)) (congrArg Value.bool (by unfold fa; simp_all))
theorem qr {H : Hp} {a b : List Int} {va vb : Value} (ha : RdSl H 1 I64.cells va a) (hb : RdSl H 1 I64.cells vb b) :
  FnS Tryz.prog 173 [va, vb] H (.bool (decide (a = b))) := by
 have hma := ha.max
 have hmb := hb.max
 refine FnS.enter Tryz.func173 Tryz.ntmps173 rfl rfl (fun w0 => ?_)
 refine nA ?_
 refine aW rfl (fun c10 => ?_) (fun c10 => ?_)
 ·
  refine o8 ?_
  exact ax (.inr rfl) (ae rfl (RVal.tmp rfl)) (congrArg Value.bool (by first | exact (mQ c10).symm | exact (qk hx hy c25).symm | exact (mR hl k0 c14 hI2).symm))
 have hl : a.length = b.length := by omega
 refine mC ?_
 refine TC.loop (V := fun k => [(5, .int .i64 k)]) (K := [(0, _), (1, _), (4, _)]) (L := fun k => _) (I := fun k => (0 ≤ k ∧ k ≤ a.length) ∧ a.take k.toNat = b.take k.toNat) (μ := fun k => (a.length - k).toNat) (i := (0 : Int)) ky ⟨⟨by omega, by omega⟩, rfl⟩ (fun w hw => hw) (fun k hI => ?_)
 obtain ⟨⟨k0, k1⟩, hI2⟩ := hI
 refine nz ?_
 refine ag rfl (fun c14 => ?_) (fun c14 => ?_)
 ·
  obtain ⟨x, hx⟩ := ao (l := a) k0 c14
  obtain ⟨y, hy⟩ := ao (l := b) k0 (by omega)
  refine ny ?_; refine TQ.run (aM ha hx rfl rfl) rfl ?_; refine nw ?_; refine TQ.run (aM hb hy rfl rfl) rfl ?_; refine kL ?_
  refine aW rfl (fun c25 => ?_) (fun c25 => ?_)
  ·
   refine nJ ?_
   exact ax (.inr rfl) (ae rfl (RVal.tmp rfl)) (congrArg Value.bool (by first | exact (mQ c10).symm | exact (qk hx hy c25).symm | exact (mR hl k0 c14 hI2).symm))
  refine ig ?_
  exact aR (k + 1) ⟨⟨by omega, by omega⟩, by rw [bR k0 hx, bR k0 hy, hI2]; congr 2 <;> omega⟩ ky (fun w hw => hw) (by omega)
 refine gv ?_
 exact ax (.inr rfl) (ae rfl (RVal.tmp rfl)) (congrArg Value.bool (by first | exact (mQ c10).symm | exact (qk hx hy c25).symm | exact (mR hl k0 c14 hI2).symm))
theorem x2 {H : Hp} {l : List SArm} {v : Value} (s : Str) (hL : RdSl H 4 SArm.cells v l) :
  FnS Tryz.prog 195 [v, gs s] H (.int .i64 (cx (l.map (·.label)) s)) := by
 have hmax := hL.max
 refine FnS.enter Tryz.func195 Tryz.ntmps195 rfl rfl (fun w0 => ?_)
 refine jq ?_
 refine TC.loop (V := fun k => [(5, .int .i64 k)]) (K := [(0, _), (1, _), (4, _)]) (L := fun k => _) (I := fun k => 0 ≤ k ∧ k ≤ l.length ∧ ∀ j : Nat, j < k.toNat → (l.map (·.label))[j]? ≠ some s) (μ := fun k => (l.length - k).toNat) (i := (0 : Int)) ky ⟨by omega, by omega, fun j h => absurd h (by omega)⟩ (fun w hw => hw) (fun k hI => ?_)
 refine po ?_; refine zm1 ?_
 refine ag rfl (fun c9 => ?_) (fun c9 => ?_)
 ·
  obtain ⟨x, hx⟩ := ao (l := l) hI.1 c9
  refine pB ?_; refine nL ?_; refine zm7 ?_; refine TL.run (br hL hx rfl rfl) rfl ?_; refine vY ?_
  refine ag rfl (fun c18 => ?_) (fun c18 => ?_)
  ·
   refine vX ?_
   exact ax (.inr rfl) (ae rfl (RVal.tmp rfl)) (congrArg (Value.int .i64) (by first | exact (ef hI.1 (by rw [ik hx, c18]) hI.2.2).symm | exact (fl hI.2.2 (by rw [List.length_map]; exact c9)).symm))
  refine ig ?_
  exact aR (k + 1) ⟨by omega, by omega, fun j hj => by by_cases hjk : j < k.toNat; exact hI.2.2 j hjk; rw [show j = k.toNat by omega, ik hx]; intro e; exact c18 (by simpa using e)⟩ ky (fun w hw => hw) (by omega)
 refine gv ?_
 exact ax (.inr rfl) (ae rfl (RVal.tmp rfl)) (congrArg (Value.int .i64) (by first | exact (ef hI.1 (by rw [ik hx, c18]) hI.2.2).symm | exact (fl hI.2.2 (by rw [List.length_map]; exact c9)).symm))
end Go.Sx
namespace Go.Sx
open Go Go.Proofs
theorem zg {H : Hp} {p : SProto} (role : Str) (hp : ProtoOk H p) (hN : nk p) (hn : p.points.length ≤ 1000) {fv : Value} {frm : List Int} (hf : RdSl H 1 I64.cells fv frm) (hfl : frm.length ≤ 1000) :
  FnO Tryz.prog 170 [.agg p.cells.toArray, gs role, fv] H (fun v H1 ob => H1 = H ∧ OwnSl 1 I64.cells v (dh p role frm) ob) := by
 have hpt := hp.pt
 refine FnO.enter Tryz.func170 Tryz.ntmps170 rfl rfl (fun w0 => ?_)
 refine zm2 ?_
 refine TL.box rfl rfl (fun b3 => ?_)
 refine zm1 ?_; refine fw ?_; refine TL.run (ai rfl rfl hpt) rfl (gw rfl rfl (by first | omega | decide) (by first | omega | decide) (by first | omega | decide) rfl (fun b18 => ?_))
 refine zm1 ?_; refine jq ?_
 refine aV (V := fun (q : Int × List Bool) v ob H1 => [(8, v), (9, .int .i64 q.1)]) (K := [(1, _), (2, _), (3, _), (6, _), (7, _)]) (L := fun (q : Int × List Bool) v ob H1 => St [] w0 H H ((b18, q.2.map Value.bool) :: (b3, p.cells) :: ob)) (I := fun (q : Int × List Bool) v ob H1 => (0 ≤ q.1 ∧ q.1 ≤ frm.length) ∧ ∃ todo, OwnSl 1 I64.cells v todo ob ∧ Met p.points.length q.2 todo ∧ iG q.2 todo (frm.drop q.1.toNat) = iF p role frm) (μ := fun (q : Int × List Bool) => (frm.length - q.1).toNat) (0, List.replicate p.points.length false) (.slice none 0 0) [] H ky ⟨⟨by omega, by omega⟩, [], OwnSl.nil, Met.zero _, rfl⟩ (fun w hw => by rw [← reps_b]; exact hw) (fun q v ob H1 hI => ?_)
 obtain ⟨⟨k0, k1⟩, todo, hO, hM, hI3⟩ := hI
 have hfm := hf.max
 refine f4 ?_; refine TL.run (ai rfl rfl hf) rfl ?_; refine zm1 ?_
 refine ag rfl (fun c22 => ?_) (fun c22 => ?_)
 ·
  obtain ⟨x, hx⟩ := ao (l := frm) k0 c22
  refine pB ?_; refine TL.run (af rfl hf rfl (by omega) (by omega)) rfl (TL.run (aM hf hx rfl rfl) rfl ?_); refine zm3 ?_
  refine aj (s := 30) rfl (fun g30 => ?_) (fun g30 => ?_)
  ·
   have q30 := of_decide_eq_true g30
   refine ge ?_; refine aw rfl rfl (af rfl hf rfl (by omega) (by omega)) rfl (aw rfl rfl (aM hf hx rfl rfl) rfl ?_); refine cN ?_; refine aw rfl rfl (dv rfl rfl) rfl ?_; refine dD ?_
   refine aj (s := 39) rfl (fun g39 => ?_) (fun g39 => ?_)
   ·
    have q39 := of_decide_eq_true g39
    refine ge ?_; refine cN ?_; refine aw rfl rfl (af rfl hf rfl (by omega) (by omega)) rfl (aw rfl rfl (aM hf hx rfl rfl) rfl ?_)
    obtain ⟨b, hbm, hb⟩ := ye (met := q.2) (i := x) (by omega) (by rw [hM.len]; omega)
    refine aw rfl rfl (dT rfl rfl (by omega) (by omega)) rfl (aw rfl rfl (aD rfl (.here _) hb) rfl ?_); refine gW ?_
    refine TC.cond rfl (fun c48 => ?_) (fun c48 => ?_)
    ·
     have hbf : q.2[x.toNat]? = some false := by rw [hbm]; simpa using c48
     have h0x : 0 ≤ x := by omega
     refine gU ?_; refine TL.run (af rfl hf rfl (by omega) (by omega)) rfl (TL.run (aM hf hx rfl rfl) rfl ?_); refine fS ?_
     refine bz rfl rfl rfl (.here _) (by rw [Nat.blt_eq, List.length_map, hM.len]; omega) rfl (TL.nil (ad ?_)); refine o3 ?_
     refine TL.run (af rfl hf rfl (by omega) (by omega)) rfl (TL.run (aM hf hx rfl rfl) rfl (aB rfl rfl rfl rfl (fun b60 => ?_)))
     refine TL.append (enc := I64.cells) rfl rfl rfl hO (Src.own [x] (.here _) rfl rfl) (by simp; have := hM.le; omega) rfl (.skip _ (.skip _ (.skip _ .all))) rfl (fun a61 c61 ob61 hO61 => ?_)
     refine lr ?_
     exact aF (q.1 + 1, q.2.set x.toNat true) _ ob61 H ⟨⟨by omega, by omega⟩, _, hO61, hM.set h0x hbf, by rw [show (q.1 + 1).toNat = q.1.toNat + 1 by omega, ← Al hx ⟨h0x, hbf⟩]; exact hI3⟩ ky (fun w hw => (mset hw.drop)) (by omega)
    refine ig ?_
    exact aF (q.1 + 1, q.2) _ ob H ⟨⟨by omega, by omega⟩, _, hO, hM, by rw [show (q.1 + 1).toNat = q.1.toNat + 1 by omega, ← qd hx (by rintro ⟨_, e⟩; rw [hbm] at e; cases e; simp at c48)]; exact hI3⟩ ky (fun w hw => hw) (by omega)
   have q39 := of_decide_eq_false g39
   refine eB ?_; refine eB ?_; refine oq ?_; refine ig ?_
   refine aF (q.1 + 1, q.2) _ ob H ⟨⟨by omega, by omega⟩, _, hO, hM, by rw [show (q.1 + 1).toNat = q.1.toNat + 1 by omega, ← qd hx (by rintro ⟨e0, e⟩; have := (List.getElem?_eq_some_iff.1 e).1; rw [hM.len] at this; omega)]; exact hI3⟩ ky (fun w hw => hw) (by omega)
  have q30 := of_decide_eq_false g30
  refine eB ?_; refine lI ?_; refine eB ?_; refine oq ?_; refine ig ?_
  refine aF (q.1 + 1, q.2) _ ob H ⟨⟨by omega, by omega⟩, _, hO, hM, by rw [show (q.1 + 1).toNat = q.1.toNat + 1 by omega, ← qd hx (by rintro ⟨e0, e⟩; have := (List.getElem?_eq_some_iff.1 e).1; rw [hM.len] at this; omega)]; exact hI3⟩ ky (fun w hw => hw) (by omega)
 refine vn ?_
 refine aV (V := fun (q : Int × List Bool) v ob H1 => [(8, v), (10, .int .i64 q.1)]) (K := [(1, _), (3, _), (6, _), (7, _)]) (L := fun (q : Int × List Bool) v ob H1 => St [] w0 H H ((b18, q.2.map Value.bool) :: (b3, p.cells) :: ob)) (I := fun (q : Int × List Bool) v ob H1 => 0 ≤ q.1 ∧ ∃ todo, OwnSl 1 I64.cells v todo ob ∧ Met p.points.length q.2 todo ∧ q.1 ≤ todo.length ∧ gn p role (p.points.length - q.1.toNat) q.1.toNat q.2 todo = gn p role p.points.length 0 (iF p role frm).1 (iF p role frm).2) (μ := fun (q : Int × List Bool) => (p.points.length - q.1).toNat) (0, q.2) _ ob H ky ⟨by omega, _, hO, hM, by omega, by rw [← hI3, List.drop_eq_nil_of_le (by omega)]; rfl⟩ (fun w hw => hw) (fun q v ob H1 hI => ?_)
 obtain ⟨k0, todo, hO, hM, hI3, hI4⟩ := hI
 refine f4 ?_; refine TL.run (bG rfl rfl hO) rfl ?_; refine zm1 ?_
 refine ag rfl (fun c65 => ?_) (fun c65 => ?_)
 ·
  have htl := hM.le
  obtain ⟨j, hj⟩ := ao (l := todo) k0 c65
  have hjr := hM.rng j (List.mem_of_getElem? hj)
  obtain ⟨x, hxp⟩ := ao (l := p.points) hjr.1 hjr.2
  have hxa := (hp.ps x (List.mem_of_getElem? hxp)).a
  have hxm := hxa.max
  refine vm ?_; refine bZ [(0, 1), (1, 2), (2, 1), (3, 1), (4, 1), (5, 2), (6, 1), (7, 2), (8, 3), (9, 0)] (by kernel_rfl) (by kernel_rfl) ?_; refine o4 ?_; refine gk ?_
  refine az (cv rfl rfl hO (by omega) (by omega)) rfl (a7 (dO (j := 0) rfl hO (.skip _ (.skip _ .all)) hj rfl) rfl (az (af rfl hpt rfl (by omega) (by omega)) rfl (a7 (bh hpt hxp rfl rfl) rfl ?_)))
  refine TF.alloc rfl (fun b11 => ?_)
  refine bj ?_; refine fN ?_; refine jr ?_; refine jg ?_
  refine aV (V := fun (u : Int × List Bool) v ob H1 => [(8, v), (12, .int .i64 u.1)]) (K := [(1, _), (3, _), (6, _), (7, _), (10, _), (11, _), (62, _), (63, _), (64, _), (65, _), (68, _), (69, _), (70, _), (71, _), (72, _), (73, _), (74, _), (75, _)]) (L := fun (u : Int × List Bool) v ob H1 => St [] w0 H H ((b11, x.cells) :: (b18, u.2.map Value.bool) :: (b3, p.cells) :: ob)) (I := fun (u : Int × List Bool) v ob H1 => (0 ≤ u.1 ∧ u.1 ≤ x.arms.length) ∧ ∃ td, OwnSl 1 I64.cells v td ob ∧ Met p.points.length u.2 td ∧ todo.length ≤ td.length ∧ (fa x role = true → u.2 = q.2 ∧ td = todo) ∧ (¬ fa x role = true → gQ u.2 td (x.arms.drop u.1.toNat) = gQ q.2 todo x.arms)) (μ := fun (u : Int × List Bool) => (x.arms.length - u.1).toNat) (0, q.2) _ ob H ky ⟨⟨by omega, by omega⟩, _, hO, hM, Nat.le_refl _, fun _ => ⟨rfl, rfl⟩, fun _ => rfl⟩ (fun w hw => hw) (fun u v ob H1 hI => ?_)
  obtain ⟨⟨u0, u1⟩, td, hO, hM, hI2, hI3, hI5⟩ := hI
  refine pq ?_; refine TL.run (ai rfl rfl hxa) rfl ?_; refine zm3 ?_
  refine aj (s := 81) rfl (fun g81 => ?_) (fun g81 => ?_)
  ·
   have q81 := of_decide_eq_true g81
   refine aw rfl rfl (bu rfl (.here _) rfl) rfl ?_; refine cN ?_; refine aK rfl rfl (ab rfl rfl rfl rfl) (lX x role) rfl ?_; refine gW ?_
   refine TC.cond rfl (fun c86 => ?_) (fun c86 => ?_)
   ·
    have hnw : ¬ fa x role = true := by simpa using c86
    obtain ⟨a, ha⟩ := ao (l := x.arms) u0 (by omega)
    have hax := hN x (List.mem_of_getElem? hxp) a (List.mem_of_getElem? ha)
    refine sK ?_; refine fz ?_; refine zm0 ?_; refine vj ?_
    obtain ⟨b, hbm, hb⟩ := ye (met := u.2) (i := a.next) (by omega) (by rw [hM.len]; omega)
    refine fS ?_; refine TL.run (aD rfl (.there _ (.here _)) hb) rfl ?_; refine zm1 ?_
    refine TC.cond rfl (fun c98 => ?_) (fun c98 => ?_)
    ·
     have hbf : u.2[a.next.toNat]? = some false := by rw [hbm]; simpa using c98
     refine d7 ?_; refine fz ?_; refine zm0 ?_; refine vj ?_; refine fS ?_; refine bz rfl rfl rfl (.there _ (.here _)) (by rw [Nat.blt_eq, List.length_map, hM.len]; omega) rfl (TL.nil (ad ?_)); refine kt ?_
     refine zm0 ?_; refine vj ?_
     refine aB rfl rfl rfl rfl (fun b114 => ?_)
     refine TL.append (enc := I64.cells) rfl rfl rfl hO (Src.own [a.next] (.here _) rfl rfl) (by simp; have := hM.le; omega) rfl (.skip _ (.skip _ (.skip _ (.skip _ .all)))) rfl (fun a115 c115 ob115 hO115 => ?_)
     refine lr ?_
     exact aF (u.1 + 1, u.2.set a.next.toNat true) _ ob115 H ⟨⟨by omega, by omega⟩, _, hO115, hM.set hax.1 hbf, by rw [List.length_append]; omega, fun h => absurd h hnw, fun h => by rw [show (u.1 + 1).toNat = u.1.toNat + 1 by omega, ← A8 ha hbf]; exact hI5 h⟩ ky (fun w hw => (mset1 hw.drop)) (by omega)
    refine ig ?_
    exact aF (u.1 + 1, u.2) _ ob H ⟨⟨by omega, by omega⟩, _, hO, hM, hI2, fun h => absurd h hnw, fun h => by rw [show (u.1 + 1).toNat = u.1.toNat + 1 by omega, ← DO ha (by rw [hbm]; intro e; cases e; simp at c98)]; exact hI5 h⟩ ky (fun w hw => hw) (by omega)
   have hw : fa x role = true := by simpa using c86
   refine vi ?_
   exact aF (q.1 + 1, u.2) _ ob H ⟨by omega, _, hO, hM, by omega, by rw [← hI4, show (q.1 + 1).toNat = q.1.toNat + 1 by omega, show p.points.length - q.1.toNat = (p.points.length - (q.1.toNat + 1)) + 1 by omega, qc hj hxp (r := (u.2, td)) (by rw [if_pos hw]; obtain ⟨e1, e2⟩ := hI3 hw; rw [e1, e2])]⟩ ky (fun w hw => hw.drop) (by omega)
  have q81 := of_decide_eq_false g81
  refine eB ?_; refine oq ?_; refine vi ?_
  exact aF (q.1 + 1, u.2) _ ob H ⟨by omega, _, hO, hM, by omega, by rw [← hI4, show (q.1 + 1).toNat = q.1.toNat + 1 by omega, show p.points.length - q.1.toNat = (p.points.length - (q.1.toNat + 1)) + 1 by omega, qc hj hxp (r := (u.2, td)) (by by_cases hw : fa x role = true; (rw [if_pos hw]; obtain ⟨e1, e2⟩ := hI3 hw; rw [e1, e2]); (rw [if_neg hw, ← hI5 hw, List.drop_eq_nil_of_le (by omega)]; rfl))]⟩ ky (fun w hw => hw.drop) (by omega)
 refine fL ?_; refine jq ?_
 refine aV (V := fun k v ob H1 => [(13, v), (14, .int .i64 k)]) (K := [(6, _), (7, _)]) (L := fun k v ob H1 => St [] w0 H H ((b18, q.2.map Value.bool) :: (b3, p.cells) :: ob)) (I := fun k v ob H1 => (0 ≤ k ∧ k ≤ p.points.length) ∧ OwnSl 1 I64.cells v (jy q.2 k.toNat) ob) (μ := fun k => (p.points.length - k).toNat) 0 (.slice none 0 0) [] H ky ⟨⟨by omega, by omega⟩, OwnSl.nil⟩ (fun w hw => St.dropT (A := [(b18, _), (b3, _)]) hw) (fun k v ob H1 hI => ?_)
 obtain ⟨⟨k0, k1⟩, hO⟩ := hI
 refine f4 ?_; refine TL.run (dv rfl rfl) rfl ?_; refine zm1 ?_
 refine ag rfl (fun c119 => ?_) (fun c119 => ?_)
 ·
  obtain ⟨b, hbm, hb⟩ := ye (met := q.2) (i := k) (by omega) (by rw [hM.len]; omega)
  refine pB ?_; refine fS ?_; refine TL.run (aD rfl (.here _) hb) rfl (TL.nil (ad (TC.cond rfl (fun c125 => ?_) (fun c125 => ?_))))
  ·
   refine jh ?_
   refine aB rfl rfl rfl rfl (fun b128 => ?_)
   refine TL.append (enc := I64.cells) rfl rfl rfl hO (Src.own [k] (.here _) rfl rfl) (by simp; have := sW q.2 k.toNat; omega) rfl (.skip _ (.skip _ (.skip _ .all))) rfl (fun a129 c129 ob129 hO129 => ?_)
   refine lr ?_
   exact aF (k + 1) _ ob129 H ⟨⟨by omega, by omega⟩, by rw [Ac k0 (by rw [hbm, c125])]; exact hO129⟩ ky (fun w hw => hw.drop) (by omega)
  refine ig ?_
  exact aF (k + 1) _ ob H ⟨⟨by omega, by omega⟩, by rw [Cf k0 (by rw [hbm]; simpa using c125)]; exact hO⟩ ky (fun w hw => hw) (by omega)
 refine rA ?_
 exact ez (.inr rfl) (ae rfl (RVal.tmp rfl)) (.skip _ (.skip _ .all)) ⟨rfl, hO.cast (by unfold dh; rw [← hI4, Ak (by omega)]; show jy q.2 k.toNat = jy q.2 q.2.length; rw [hM.len]; congr 1; omega)⟩
end Go.Sx
namespace Go.Sx
open Go Go.Proofs
theorem zB {H : Hp} {p : SProto} (role : Str) (hp : ProtoOk H p) {lv : Value} {l : List Int} (hl : RdSl H 1 I64.cells lv l) (hr : ∀ j ∈ l, 0 ≤ j ∧ j < p.points.length) (hll : l.length ≤ 100000) :
  FnO Tryz.prog 171 [.agg p.cells.toArray, gs role, lv] H (fun v H1 ob => H1 = H ∧ OwnSl 1 I64.cells v (ej p role l) ob) := by
 have hpt := hp.pt
 refine FnO.enter Tryz.func171 Tryz.ntmps171 rfl rfl (fun w0 => ?_)
 refine zm2 ?_
 refine TL.box rfl rfl (fun b3 => ?_)
 refine zm1 ?_; refine jq ?_
 refine aV (V := fun k v ob H1 => [(7, v), (8, .int .i64 k)]) (K := [(1, _), (2, _), (3, _), (6, _)]) (L := fun k v ob H1 => St [] w0 H H ((b3, p.cells) :: ob)) (I := fun k v ob H1 => (0 ≤ k ∧ k ≤ l.length) ∧ OwnSl 1 I64.cells v (ej p role (l.take k.toNat)) ob) (μ := fun k => (l.length - k).toNat) 0 (.slice none 0 0) [] H ky ⟨⟨by omega, by omega⟩, OwnSl.nil⟩ (fun w hw => hw) (fun k v ob H1 hI => ?_)
 obtain ⟨⟨k0, k1⟩, hO⟩ := hI
 refine f4 ?_; refine TL.run (ai rfl rfl hl) rfl ?_; refine zm1 ?_
 refine ag rfl (fun c12 => ?_) (fun c12 => ?_)
 ·
  obtain ⟨j, hx⟩ := ao (l := l) k0 c12
  have hjr := hr j (List.mem_of_getElem? hx)
  obtain ⟨x, hxp⟩ := ao (l := p.points) hjr.1 hjr.2
  refine pf ?_; refine vh ?_
  refine TQ.run (af rfl hl rfl (by omega) (by omega)) rfl (TQ.run (aM hl hx rfl rfl) rfl (TQ.run (af rfl hpt rfl (by omega) (by omega)) rfl (TQ.run (bh hpt hxp rfl rfl) rfl ?_)))
  refine TQ.run (ah rfl) rfl (gR (ab rfl rfl rfl rfl) (lX x role) rfl (TQ.nil (ad ?_)))
  refine TC.cond rfl (fun c24 => ?_) (fun c24 => ?_)
  ·
   refine o3 ?_; refine TL.run (af rfl hl rfl (by omega) (by omega)) rfl (TL.run (aM hl hx rfl rfl) rfl (aB rfl rfl rfl rfl (fun b30 => ?_)))
   refine TL.append (enc := I64.cells) rfl rfl rfl hO (Src.own [j] (.here _) rfl rfl) (by have := mZ (p := p) (role := role) (l.take k.toNat); have := List.length_take_le k.toNat l; simp only [List.length_cons, List.length_nil]; have := List.length_take_le' k.toNat l; omega) rfl (.skip _ (.skip _ .all)) rfl (fun a31 c31 ob31 hO31 => ?_)
   refine lr ?_
   exact aF (k + 1) _ ob31 H ⟨⟨by omega, by omega⟩, by rw [C6 k0 hx (by unfold inP; rw [hxp]; exact c24)]; exact hO31⟩ ky (fun w hw => hw.drop) (by omega)
  refine ig ?_
  exact aF (k + 1) _ ob H ⟨⟨by omega, by omega⟩, by rw [near_no k0 hx (by unfold inP; rw [hxp]; simpa using c24)]; exact hO⟩ ky (fun w hw => hw) (by omega)
 refine rA ?_
 exact ez (.inr rfl) (ae rfl (RVal.tmp rfl)) (.skip _ .all) ⟨rfl, hO.cast (by rw [bB c12 k0])⟩
theorem lost_ok {H : Hp} {p : SProto} (role : Str) (hp : ProtoOk H p) (hN : nk p) (hn : p.points.length ≤ 1000) (at_ : Int) :
  Fn Tryz.prog 172 [.agg p.cells.toArray, gs role, .int .i64 at_] H (fun v H1 => v = .bool (kE p role at_)) := by
 refine Fn.enter Tryz.func172 Tryz.ntmps172 rfl rfl (fun w0 => ?_)
 refine zm2 ?_
 refine TL.box rfl rfl (fun b3 => ?_)
 refine vx ?_
 refine aU [true] [(0, 4), (1, 1), (2, 4), (3, 1), (4, 1), (5, 3), (6, 5), (7, 5), (8, 1), (9, 1), (10, 1)] (by kernel_rfl) (by kernel_rfl) (aH (S1 SN) (Hp.le.refl _) (fun _ _ => bu rfl (.here _) rfl) rfl ?_)
 refine zm5 ?_; refine aH (S1 SN) (Hp.le.refl _) (fun _ _ => bu rfl (.here _) rfl) rfl ?_; refine gk ?_
 refine aE rfl rfl rfl rfl (fun b12 => ?_)
 refine TF.pub (by simp) (fun H_b12 le_b12 rd_b12 => ?_)
 replace hp := hp.le le_b12
 have hA12 : RdSl H_b12 1 I64.cells (.slice (some ⟨b12, 0, none⟩) 1 1) [at_] := RdSl.blk (l := [at_]) (enc := I64.cells) rd_b12 (by intro x hx; rfl) rfl (by show 1 ≤ 9223372036854775807; decide)
 refine ar rfl (cS (ab rfl rfl rfl rfl) (zg role hp hN hn hA12 (by simp)) rfl (fun v13 H13 ob13 hle13 hp13 => ?_))
 obtain ⟨eH13, hO13⟩ := hp13
 subst H13
 obtain ⟨a13, c13, rfl⟩ := hO13.form
 refine TL.pubO hO13 (.skip _ .all) (by simp) (fun HP13 leP13 hR13 => ?_)
 replace hp := hp.le leP13
 refine au (S1 SN) (le_b12.trans (leP13)) (ar rfl (cS (ab rfl rfl rfl rfl) (zB role hp hR13 (mN hN) (by have := jX (role := role) hN (frm := [at_]); omega)) rfl (fun v14 H14 ob14 hle14 hp14 => ?_)))
 obtain ⟨eH14, hO14⟩ := hp14
 subst H14
 obtain ⟨a14, c14, rfl⟩ := hO14.form
 refine TL.pubO hO14 (.skip _ .all) (by simp) (fun HP14 leP14 hQ14 => ?_)
 refine au (S1 SN) (le_b12.trans (leP13.trans (leP14))) (az (ai rfl rfl hQ14) rfl ?_); refine gk ?_
 exact TF.nil (ad (TC.ret (aQ (.inr rfl) (ae rfl (RVal.tmp rfl)) (congrArg Value.bool (by unfold kE; exact decide_eq_decide.2 (by omega))))))
end Go.Sx
