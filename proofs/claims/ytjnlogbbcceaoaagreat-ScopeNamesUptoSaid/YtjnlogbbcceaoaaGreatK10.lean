import Derived.Test.YtjnlogbbcceaoaaGreatK9
set_option linter.all false
set_option maxRecDepth 100000
namespace Go.Sx
open Go
def rolesL : List Str := [[97], [98], [99], [100], [101]]
def labelsL : List Str := [[119], [120], [121], [122]]
theorem data_at {r : Int} (h0 : 0 ≤ r) (h1 : r < 6) : ∃ k : Int, (0 ≤ k ∧ k ≤ 4) ∧ ([.int .i64 1, .int .i64 0, .int .i64 1, .int .i64 2, .int .i64 3, .int .i64 4] : List Value)[0 + r.toNat * 1]? = some (.int .i64 k) := by
  rcases (by omega : r = 0 ∨ r = 1 ∨ r = 2 ∨ r = 3 ∨ r = 4 ∨ r = 5) with rfl | rfl | rfl | rfl | rfl | rfl
  · exact ⟨1, by decide, rfl⟩
  · exact ⟨0, by decide, rfl⟩
  · exact ⟨1, by decide, rfl⟩
  · exact ⟨2, by decide, rfl⟩
  · exact ⟨3, by decide, rfl⟩
  · exact ⟨4, by decide, rfl⟩
def CarOk (types : List Str) (k : Int) (nm : Str) : Prop := (0 ≤ k ∧ k ≤ 4 ∧ nm = []) ∨ (k = 5 ∧ nm ∈ types)
def TyNm (s : Str) : Prop := ∃ r, r ∈ rolesL ∧ s = [112, 46] ++ r
theorem TyNm.len {s : Str} (h : TyNm s) : s.length = 3 := by
  obtain ⟨r, hr, rfl⟩ := h
  simp only [rolesL, List.mem_cons, List.not_mem_nil, or_false] at hr
  rcases hr with rfl | rfl | rfl | rfl | rfl <;> rfl
theorem CarOk.len {types : List Str} (ht : ∀ s ∈ types, TyNm s) {k : Int} {nm : Str} (h : CarOk types k nm) : nm.length ≤ 3 := by
  rcases h with ⟨_, _, rfl⟩ | ⟨_, h⟩
  · simp
  · rw [(ht _ h).len]; omega
structure ArmsG (types : List Str) (places : Int) (l : List SArm) : Prop where
  n1 : 1 ≤ l.length
  n3 : l.length ≤ 3
  car : ∀ a ∈ l, CarOk types a.ck a.cn
  nx : ∀ a ∈ l, 0 ≤ a.next ∧ a.next < places
  lb : ∃ f : Nat, ∀ i a, l[i]? = some a → labelsL[(f + i) % 4]? = some a.label
theorem label_at {f k : Int} (hf : 0 ≤ f) (hk : 0 ≤ k) : ∃ s, labelsL[((f + k).tmod 4).toNat]? = some s ∧ labelsL[(f.toNat + k.toNat) % 4]? = some s := by
  have h1 : ((f + k).tmod 4).toNat = (f.toNat + k.toNat) % 4 := by rw [Int.tmod_eq_emod_of_nonneg (by omega)]; omega
  rw [h1]
  have h2 : (f.toNat + k.toNat) % 4 < 4 := Nat.mod_lt _ (by decide)
  have h3 : (f.toNat + k.toNat) % 4 < labelsL.length := h2
  exact ⟨_, List.getElem?_eq_getElem h3, List.getElem?_eq_getElem h3⟩
theorem tmod4 {x : Int} (h : 0 ≤ x) : 0 ≤ x.tmod 4 ∧ x.tmod 4 < 4 := tmod_rng h (by decide)
structure ArmsI (types : List Str) (places : Int) (f : Nat) (l : List SArm) : Prop where
  car : ∀ a ∈ l, CarOk types a.ck a.cn
  nx : ∀ a ∈ l, 0 ≤ a.next ∧ a.next < places
  lb : ∀ i a, l[i]? = some a → labelsL[(f + i) % 4]? = some a.label
theorem ArmsI.nil {types : List Str} {places : Int} {f : Nat} : ArmsI types places f [] := ⟨by simp, by simp, by simp⟩
theorem ArmsI.snoc {types : List Str} {places : Int} {f : Nat} {l : List SArm} (h : ArmsI types places f l) {a : SArm} {k : Int} (hk : (l.length : Int) = k) (h1 : CarOk types a.ck a.cn) (h2 : 0 ≤ a.next ∧ a.next < places) (h3 : labelsL[(f + k.toNat) % 4]? = some a.label) : ArmsI types places f (l ++ [a]) := by
  refine ⟨fun x hx => ?_, fun x hx => ?_, fun i x hi => ?_⟩
  · rcases List.mem_append.1 hx with hx | hx
    · exact h.car x hx
    · rw [List.mem_singleton.1 hx]; exact h1
  · rcases List.mem_append.1 hx with hx | hx
    · exact h.nx x hx
    · rw [List.mem_singleton.1 hx]; exact h2
  · by_cases hl : i < l.length
    · rw [List.getElem?_append_left hl] at hi; exact h.lb i x hi
    · rw [List.getElem?_append_right (by omega)] at hi
      have h4 : i - l.length = 0 := by
        have := (List.getElem?_eq_some_iff.1 hi).1
        simp at this; omega
      rw [h4] at hi
      simp at hi; subst hi
      rwa [show i = k.toNat by omega]
theorem ArmsI.fin {types : List Str} {places : Int} {f : Nat} {l : List SArm} (h : ArmsI types places f l) (h1 : 1 ≤ l.length) (h3 : l.length ≤ 3) : ArmsG types places l := ⟨h1, h3, h.car, h.nx, f, h.lb⟩
theorem ArmsG.len {types : List Str} {places : Int} {l : List SArm} (ht : ∀ s ∈ types, TyNm s) (h : ArmsG types places l) : ∀ a ∈ l, a.cn.length ≤ 4294960000 := fun a ha => Nat.le_trans ((h.car a ha).len ht) (by decide)
structure AnyPts (types : List Str) (roles : List Str) (n : Int) (l : List SPoint) : Prop where
  ft : ∀ x ∈ l, x.frm ∈ roles ∧ x.to ∈ roles
  ne : ∀ x ∈ l, x.frm ≠ x.to
  am : ∀ x ∈ l, ArmsG types n x.arms
def endP : SPoint := ⟨[], [], [], (none, 0)⟩
theorem rolesL_nodup : rolesL.Nodup := by decide
theorem any_ne {k r m : Int} (h0 : 0 ≤ k) (h1 : k < m) (h2 : 0 ≤ r) (h3 : r < m - 1) : (0 ≤ (k + 1 + r).tmod m ∧ (k + 1 + r).tmod m < m) ∧ ((k + 1 + r).tmod m).toNat ≠ k.toNat := by
  have h4 := tmod_rng (x := k + 1 + r) (n := m) (by omega) (by omega)
  refine ⟨h4, fun e => ?_⟩
  have h5 : (k + 1 + r).tmod m = k := by omega
  rw [Int.tmod_eq_emod_of_nonneg (by omega)] at h5
  by_cases h6 : k + 1 + r < m
  · rw [Int.emod_eq_of_lt (by omega) h6] at h5; omega
  · rw [← Int.sub_emod_right, Int.emod_eq_of_lt (by omega) (by omega)] at h5; omega
theorem roles_ne {n i j : Nat} {a b : Str} (h1 : (rolesL.take n)[i]? = some a) (h2 : (rolesL.take n)[j]? = some b) (hij : i ≠ j) : a ≠ b := by
  intro e
  subst e
  have hn : (rolesL.take n).Nodup := (List.take_sublist n rolesL).nodup rolesL_nodup
  obtain ⟨hi, hi'⟩ := List.getElem?_eq_some_iff.1 h1
  obtain ⟨hj, hj'⟩ := List.getElem?_eq_some_iff.1 h2
  have hp := List.pairwise_iff_getElem.1 hn
  rcases Nat.lt_or_gt_of_ne hij with h | h
  · exact hp i j hi hj h (hi'.trans hj'.symm)
  · exact hp j i hj hi h (hj'.trans hi'.symm)
theorem rolesL_len {n : Int} (h0 : 0 ≤ n) (h1 : n ≤ 5) : (rolesL.take n.toNat).length = n.toNat := by
  rw [List.length_take]; show min n.toNat 5 = n.toNat; omega
theorem AnyPts.nil {types roles : List Str} {n : Int} : AnyPts types roles n [] := ⟨by simp, by simp, by simp⟩
theorem AnyPts.snoc {types roles : List Str} {n : Int} {l : List SPoint} (h : AnyPts types roles n l) {x : SPoint} (h1 : x.frm ∈ roles ∧ x.to ∈ roles) (h2 : x.frm ≠ x.to) (h3 : ArmsG types n x.arms) : AnyPts types roles n (l ++ [x]) := by
  refine ⟨fun y hy => ?_, fun y hy => ?_, fun y hy => ?_⟩ <;> rcases List.mem_append.1 hy with hy | hy
  · exact h.ft y hy
  · rw [List.mem_singleton.1 hy]; exact h1
  · exact h.ne y hy
  · rw [List.mem_singleton.1 hy]; exact h2
  · exact h.am y hy
  · rw [List.mem_singleton.1 hy]; exact h3
theorem all_snoc {α : Type} {p : α → Prop} {l : List α} {x : α} (h : ∀ y ∈ l, p y) (hx : p x) : ∀ y ∈ l ++ [x], p y := fun y hy => by
  rcases List.mem_append.1 hy with hy | hy
  · exact h y hy
  · rw [List.mem_singleton.1 hy]; exact hx
theorem rolesL_1 {n : Nat} {r : Str} (h : r ∈ rolesL.take n) : r.length = 1 := by
  have := List.mem_of_mem_take h
  simp only [rolesL, List.mem_cons, List.not_mem_nil, or_false] at this
  rcases this with rfl | rfl | rfl | rfl | rfl <;> rfl
structure AnyP (types : List Str) (p : SProto) : Prop where
  pts : ∃ l, p.points = l ++ [endP] ∧ AnyPts types p.roles (l.length + 1) l ∧ 1 ≤ l.length ∧ l.length ≤ 6
theorem endP_ok {H : Hp} : PointOk H endP := ⟨RdSl.nil, by simp [endP]⟩
theorem rd_arm1 {H : Hp} {b : Nat} {a c : Str} {k d : Int} (rd : ∀ o v, [gs a, .int .i64 k, gs c, .int .i64 d][o]? = some v → H b o = some v) (hc : c.length ≤ 3) : ∃ l : List SArm, l.length = 1 ∧ RdSl H 4 SArm.cells (.slice (some ⟨b, 0, none⟩) 1 1) l ∧ ∀ a ∈ l, a.cn.length ≤ 4294960000 :=
  ⟨[⟨a, k, c, d⟩], rfl, RdSl.blk (l := [⟨a, k, c, d⟩]) (enc := SArm.cells) rd (by intro x hx; rfl) rfl (by show 1 ≤ 9223372036854775807; decide), by intro x hx; rw [List.mem_singleton.1 hx]; exact Nat.le_trans hc (by decide)⟩
theorem rd_arm2 {H : Hp} {b : Nat} {a c a' c' : Str} {k d k' d' : Int} (rd : ∀ o v, [gs a, .int .i64 k, gs c, .int .i64 d, gs a', .int .i64 k', gs c', .int .i64 d'][o]? = some v → H b o = some v) (hc : c.length ≤ 3) (hc' : c'.length ≤ 3) : ∃ l : List SArm, l.length = 2 ∧ RdSl H 4 SArm.cells (.slice (some ⟨b, 0, none⟩) 2 2) l ∧ ∀ a ∈ l, a.cn.length ≤ 4294960000 :=
  ⟨[⟨a, k, c, d⟩, ⟨a', k', c', d'⟩], rfl, RdSl.blk (l := [⟨a, k, c, d⟩, ⟨a', k', c', d'⟩]) (enc := SArm.cells) rd (by intro x hx; rfl) rfl (by show 2 ≤ 9223372036854775807; decide), by
    intro x hx
    simp only [List.mem_cons, List.not_mem_nil, or_false] at hx
    rcases hx with rfl | rfl
    · exact Nat.le_trans hc (by decide)
    · exact Nat.le_trans hc' (by decide)⟩
theorem RdSl.recell {α : Type} {H : Hp} {k : Nat} {enc : α → List Value} {v : Value} {l l' : List α} (h : RdSl H k enc v l) (e : l.map enc = l'.map enc) : RdSl H k enc v l' := by
  have hl : l'.length = l.length := by have := congrArg List.length e; simpa using this.symm
  refine ⟨by rw [hl]; exact h.len, by rw [hl]; exact h.max, fun hne => ?_, fun i x hx j u hu => ?_, fun a n c hv => by rw [hl]; exact h.room a n c hv⟩
  · rw [hl]; exact h.addr (fun e0 => hne (List.length_eq_zero_iff.1 (by rw [hl, e0]; rfl)))
  · have h1 : (l.map enc)[i]? = some (enc x) := by rw [e, List.getElem?_map, hx]; rfl
    rw [List.getElem?_map] at h1
    cases hy : l[i]? with
    | none => rw [hy] at h1; cases h1
    | some y =>
      rw [hy] at h1
      simp only [Option.map_some, Option.some.injEq] at h1
      exact h.get i y hy j u (by rw [h1]; exact hu)
structure Q4 where
  a : Str
  b : Str
  at_ : Int
  h : Hp
theorem label_ex {i : Int} (h0 : 0 ≤ i) (h1 : i < 4) : ∃ s, labelsL[i.toNat]? = some s := ⟨_, List.getElem?_eq_getElem (by show i.toNat < 4; omega)⟩
end Go.Sx
namespace Go.Sx
open Go Go.Proofs
set_option maxHeartbeats 1000000 in
theorem New_ok {H : Hp} {v : Value} {l : List Int} (hl : RdSl H 1 I64.cells v l) (hm : l.length ≤ 1000000000000) :
  FnO Tryz.prog 28 [v] H (fun v H1 ob => ∃ bd dl, v = .pointer (some ⟨bd, 0, none⟩) ∧ ob = [(bd, [dl, .int .i64 0])] ∧ DiceOk H1 dl 0) := by
 refine FnO.enter Tryz.func28 Tryz.ntmps28 rfl rfl (fun w0 => ?_)
 refine zm105 ?_
 refine TL.append (enc := I64.cells) rfl rfl rfl (OwnSl.nil (enc := I64.cells)) (Src.sl hl) (by simp; omega) rfl (.new _ rfl) rfl (fun a4 c4 ob4 hO4 => ?_)
 refine zm14 ?_
 refine TL.box rfl rfl (fun b6 => ?_)
 refine zm37 ?_
 refine TX.pubO hO4 (.skip _ .all) (by simp) (fun H1 hle1 hR => ?_)
 exact TX.seqN (TC.ret (TX.finO (.inr rfl) (results1 rfl (RVal.tmp rfl)) .all ⟨_, _, rfl, rfl, ⟨_, hR, by omega, by simp⟩⟩))
set_option maxHeartbeats 1000000 in
theorem m_roles_ok {H : Hp} :
  Fn Tryz.prog 26 [] H (fun v H1 => RdSl H1 1 Str.cells v rolesL) := by
 refine Fn.enter Tryz.func26 Tryz.ntmps26 rfl rfl (fun w0 => ?_)
 refine zm212 ?_
 refine TL.bslice rfl rfl rfl rfl (fun b1 => ?_)
 refine zm37 ?_
 refine TX.pub (by simp) (fun H_b1 le_b1 rd_b1 => ?_)
 have hR : RdSl H_b1 1 Str.cells _ (rolesL) := RdSl.blk (cap := 5) rd_b1 (by intro x hx; rfl) (by kernel_rfl) (by show 5 ≤ 9223372036854775807; decide)
 exact TX.seqN (TC.ret (TX.fin0 (.inr rfl) (results1 rfl (RVal.tmp rfl)) hR))
set_option maxHeartbeats 1000000 in
theorem m_labels_ok {H : Hp} :
  Fn Tryz.prog 27 [] H (fun v H1 => RdSl H1 1 Str.cells v labelsL) := by
 refine Fn.enter Tryz.func27 Tryz.ntmps27 rfl rfl (fun w0 => ?_)
 refine zm212 ?_
 refine TL.bslice rfl rfl rfl rfl (fun b1 => ?_)
 refine zm37 ?_
 refine TX.pub (by simp) (fun H_b1 le_b1 rd_b1 => ?_)
 have hR : RdSl H_b1 1 Str.cells _ (labelsL) := RdSl.blk (cap := 4) rd_b1 (by intro x hx; rfl) (by kernel_rfl) (by show 4 ≤ 9223372036854775807; decide)
 exact TX.seqN (TC.ret (TX.fin0 (.inr rfl) (results1 rfl (RVal.tmp rfl)) hR))
set_option maxHeartbeats 1000000 in
theorem mData_ok {H : Hp} {bd : Nat} {dl : Value} {at_ : Int} (hd : DiceOk H dl at_)  :
  DFn Tryz.prog bd dl at_ 192 [] H (fun v H1 ob => ob = [] ∧ (H1 = H ∧ ∃ k, v = .agg #[.int .i64 k, gs []] ∧ 0 ≤ k ∧ k ≤ 4)) := by
 refine FnX.enter Tryz.func192 Tryz.ntmps192 rfl rfl (fun w0 => ?_)
 refine zm4 ?_
 refine TL.alloc rfl (fun b2 => ?_)
 refine zm27 ?_
 refine TL.bslice rfl rfl rfl rfl (fun b3 => ?_)
 refine zm0 ?_
 refine TL.callD0 (X := [(b3, _), (b2, _)]) (bd := bd) rfl (enters rfl rfl rfl rfl) (Pick_ok 6 (by omega) hd) rfl (fun v5 H5 at5 hle5 hd5 hp5 => ?_)
 obtain ⟨eH5, r5, rfl, hr5⟩ := hp5
 replace eH5 := eH5.symm; subst eH5
 have hra5 := hr5.1
 have hrb5 := hr5.2.1 (by omega)
 obtain ⟨k, hk, hxk⟩ := data_at hra5 hrb5
 refine zm21 ?_; refine TL.run (pr_own1 rfl (.here _) hxk) rfl ?_; refine zm14 ?_; refine zm145 ?_
 exact TX.finX (.inr rfl) (results1 rfl (RVal.cellA rfl (.there _ (.here _)) rfl)) (fun w hw => hw.drop.drop) ⟨_, [], rfl, hd5, rfl, rfl, _, rfl, hk⟩
set_option maxHeartbeats 1000000 in
theorem mCarries_ok {H : Hp} {bd : Nat} {dl : Value} {at_ : Int} (hd : DiceOk H dl at_) {tv : Value} {types : List Str} (hty : RdSl H 1 Str.cells tv types) (htn : ∀ s ∈ types, TyNm s) (htl : types.length ≤ 100)  :
  DFn Tryz.prog bd dl at_ 193 [tv] H (fun v H1 ob => ob = [] ∧ (H1 = H ∧ ∃ k nm, v = .agg #[.int .i64 k, gs nm] ∧ CarOk types k nm)) := by
 refine FnX.enter Tryz.func193 Tryz.ntmps193 rfl rfl (fun w0 => ?_)
 refine zm4 ?_
 refine TL.alloc rfl (fun b4 => ?_)
 refine zm33 ?_; refine zm101 ?_; refine TL.run (pr_lenSl rfl rfl hty) rfl ?_; refine zm9 ?_
 refine TL.split (s := 8) rfl (fun g8 => ?_) (fun g8 => ?_)
 ·
  have q8 := of_decide_eq_true g8
  refine zm8 ?_; refine TL.gd rfl rfl (TL.callD0 (X := [(b4, _)]) (bd := bd) rfl (enters rfl rfl rfl rfl) (Pick_ok 4 (by omega) hd) rfl (fun v10 H10 at10 hle10 hd10 hp10 => ?_))
  obtain ⟨eH10, r10, rfl, hr10⟩ := hp10
  replace eH10 := eH10.symm; subst eH10
  have hra10 := hr10.1
  have hrb10 := hr10.2.1 (by omega)
  refine zm35 ?_
  refine TC.condD rfl (fun c12 => ?_) (fun c12 => ?_)
  ·
   refine zm40 ?_; refine TL.run (pr_lenSl rfl rfl hty) rfl (TL.callD0 (X := [(b4, _)]) (bd := bd) rfl (enters rfl rfl rfl rfl) (Pick_ok (types.length : Int) (by omega) hd10) rfl (fun v17 H17 at17 hle17 hd17 hp17 => ?_))
   obtain ⟨eH17, r17, rfl, hr17⟩ := hp17
   replace eH17 := eH17.symm; subst eH17
   have hra17 := hr17.1
   have hrb17 := hr17.2.1 (by omega)
   obtain ⟨s, hx⟩ := getSome (l := types) hra17 hrb17
   refine TL.run (pr_indexSl rfl hty rfl (by omega) (by omega)) rfl (TL.run (pr_el0 hty hx rfl rfl) rfl ?_); refine zm14 ?_; refine zm67 ?_
   exact TX.thenR (TX.finX (.inr rfl) (results1 rfl (RVal.cellA rfl (.here _) rfl)) (fun w hw => hw.drop) ⟨_, [], rfl, hd17, rfl, rfl, _, _, rfl, .inr ⟨rfl, List.mem_of_getElem? hx⟩⟩)
  ·
   refine zm103 ?_
   refine TL.callD0 (X := [(b4, _)]) (bd := bd) rfl (enters rfl rfl rfl rfl) (mData_ok hd10) rfl (fun v22 H22 at22 hle22 hd22 hp22 => ?_)
   exact zq1236
 ·
  have q8 := of_decide_eq_false g8
  refine zm82 ?_; refine zm155 ?_; refine zm103 ?_
  refine TL.callD0 (X := [(b4, _)]) (bd := bd) rfl (enters rfl rfl rfl rfl) (mData_ok hd) rfl (fun v22 H22 at22 hle22 hd22 hp22 => ?_)
  exact zq1236
set_option maxHeartbeats 2000000 in
theorem mArms_ok {H : Hp} {bd : Nat} {dl : Value} {at_ : Int} (hd : DiceOk H dl at_) {tv : Value} {types : List Str} (hty : RdSl H 1 Str.cells tv types) (htn : ∀ s ∈ types, TyNm s) (htl : types.length ≤ 100) (places : Int) (h1 : 1 ≤ places) (h2 : places ≤ 1000) :
  DFn Tryz.prog bd dl at_ 169 [tv, .int .i64 places] H (fun v H1 ob => ob = [] ∧ (H.le H1 ∧ ∃ l : List SArm, RdSl H1 4 SArm.cells v l ∧ ArmsG types places l)) := by
 have hty0 := hty
 refine FnX.enter Tryz.func169 Tryz.ntmps169 rfl rfl (fun w0 => ?_)
 refine zm142 ?_; refine zm105 ?_
 refine TL.callD0 (X := []) (bd := bd) rfl (enters rfl rfl rfl rfl) (Pick_ok 3 (by omega) hd) rfl (fun v12 H12 at12 hle12 hd12 hp12 => ?_)
 obtain ⟨eH12, r12, rfl, hr12⟩ := hp12
 replace eH12 := eH12.symm; subst eH12
 have hra12 := hr12.1
 have hrb12 := hr12.2.1 (by omega)
 refine zm16 ?_; refine zm53 ?_
 refine TL.callD0 (X := []) (bd := bd) rfl (enters rfl rfl rfl rfl) (Pick_ok 4 (by omega) hd12) rfl (fun v15 H15 at15 hle15 hd15 hp15 => ?_)
 obtain ⟨eH15, r15, rfl, hr15⟩ := hp15
 replace eH15 := eH15.symm; subst eH15
 have hra15 := hr15.1
 have hrb15 := hr15.2.1 (by omega)
 refine zm156 ?_
 refine TC.loop4 (V := fun (p : Int × Int) v ob H1 => [(7, v), (10, .int .i64 p.1)]) (K := [(0, _), (1, _), (2, _), (6, _), (8, _), (9, _)]) (L := fun (p : Int × Int) v ob H1 => St (keys [(bd, [dl, .int .i64 at_])]) w0 H H1 ((bd, [dl, .int .i64 p.2]) :: ob)) (I := fun (p : Int × Int) v ob H1 => (0 ≤ p.1 ∧ p.1 ≤ 1 + r12) ∧ DiceOk H1 dl p.2 ∧ H.le H1 ∧ ∃ l : List SArm, OwnSl 4 SArm.cells v l ob ∧ (l.length : Int) = p.1 ∧ ArmsI types places r15.toNat l) (μ := fun (p : Int × Int) => (1 + r12 - p.1).toNat) (0, at15) (.slice none 0 0) [] H ⟨rfl, rfl, rfl, rfl, rfl, rfl, rfl, rfl, trivial⟩ ⟨⟨by omega, by omega⟩, hd15, .refl _, [], OwnSl.nil, rfl, .nil⟩ (fun w hw => hw) (fun p v ob H1 hI => ?_)
 obtain ⟨⟨k0, k1⟩, hI2, hI3, l, hO, hI5, hI6⟩ := hI
 replace hty := hty0.le hI3
 refine zm133 ?_
 refine TC.condD rfl (fun c18 => ?_) (fun c18 => ?_)
 ·
  obtain ⟨lb, hlx, hlb⟩ := label_at (f := r15) (k := p.1) hra15 k0
  have hm4 := tmod4 (x := r15 + p.1) (by omega)
  have hl4 : labelsL.length = 4 := rfl
  refine zm290 ?_
  refine TD.part 7 10 rfl rfl rfl ?_ ?_
  ·
   refine zm424 ?_; refine zm187 ?_; refine zm246 ?_; refine TF.pure (pr_rem rfl rfl (by decide)) rfl ?_; refine zm238 ?_
   refine TF.call (enters rfl rfl rfl rfl) (m_labels_ok) rfl (fun v22 H22 hle22 hp22 => ?_)
   replace hty := hty.le hle22
   replace hI2 := hI2.le hle22
   have hll22 := hp22
   refine zm325 ?_; refine TF.still (pr_el0 hll22 hlx rfl rfl) rfl ?_; refine zm7 ?_
   refine TL.callD0 (X := []) (bd := bd) rfl (enters rfl rfl rfl rfl) (mCarries_ok hI2 hty htn htl) rfl (fun v31 H31 at31 hle31 hd31 hp31 => ?_)
   obtain ⟨eH31, k31, nm31, rfl, hc31⟩ := hp31
   replace eH31 := eH31.symm; subst eH31
   exact TF.back5 SN hle22 (zq1241)
  ·
   refine TD.part 7 13 rfl rfl rfl ?_ ?_
   ·
    refine zm425 ?_; refine zm187 ?_; refine zm246 ?_; refine TF.pure (pr_rem rfl rfl (by decide)) rfl ?_; refine zm238 ?_
    refine TF.call (enters rfl rfl rfl rfl) (m_labels_ok) rfl (fun v22 H22 hle22 hp22 => ?_)
    replace hty := hty.le hle22
    replace hI2 := hI2.le hle22
    have hll22 := hp22
    refine zm325 ?_; refine zm7 ?_
    refine TL.callD0 (X := []) (bd := bd) rfl (enters rfl rfl rfl rfl) (mCarries_ok hI2 hty htn htl) rfl (fun v31 H31 at31 hle31 hd31 hp31 => ?_)
    obtain ⟨eH31, k31, nm31, rfl, hc31⟩ := hp31
    replace eH31 := eH31.symm; subst eH31
    exact TF.back5 SN hle22 (TF.still (pr_el0 hll22 hlx rfl rfl) rfl (zq1241))
   ·
    refine zm426 ?_; refine zm187 ?_; refine zm246 ?_; refine TF.pure (pr_rem rfl rfl (by decide)) rfl ?_; refine zm238 ?_
    refine TF.call (enters rfl rfl rfl rfl) (m_labels_ok) rfl (fun v22 H22 hle22 hp22 => ?_)
    replace hty := hty.le hle22
    replace hI2 := hI2.le hle22
    have hll22 := hp22
    refine zm325 ?_; refine zm7 ?_
    refine TL.callD0 (X := []) (bd := bd) rfl (enters rfl rfl rfl rfl) (mCarries_ok hI2 hty htn htl) rfl (fun v31 H31 at31 hle31 hd31 hp31 => ?_)
    obtain ⟨eH31, k31, nm31, rfl, hc31⟩ := hp31
    replace eH31 := eH31.symm; subst eH31
    refine TF.back5 SN hle22 ?_; refine zm7 ?_
    refine TL.callD0 (X := []) (bd := bd) rfl (enters rfl rfl rfl rfl) (Pick_ok places (by omega) hd31) rfl (fun v34 H34 at34 hle34 hd34 hp34 => ?_)
    obtain ⟨eH34, r34, rfl, hr34⟩ := hp34
    replace eH34 := eH34.symm; subst eH34
    have hra34 := hr34.1
    have hrb34 := hr34.2.1 (by omega)
    exact TF.back5 SN hle22 (TF.still (pr_el0 hll22 hlx rfl rfl) rfl (zq1248))
 ·
  refine zm87 ?_
  refine TX.pubON (X := [(bd, _)]) hO rfl (by simp [keys]) (fun H2 hle2 hR => ?_)
  exact TX.finX (.inr rfl) (results1 rfl (RVal.tmp rfl)) (fun w hw => hw) ⟨_, [], rfl, (hI2.le hle2), rfl, hI3.trans hle2, _, hR, hI6.fin (by omega) (by omega)⟩
end Go.Sx
namespace Go.Sx
open Go Go.Proofs
set_option maxHeartbeats 4000000 in
theorem mAny_ok {H : Hp} {bd : Nat} {dl : Value} {at_ : Int} (hd : DiceOk H dl at_) {tv : Value} {types : List Str} (hty : RdSl H 1 Str.cells tv types) (htn : ∀ s ∈ types, TyNm s) (htl : types.length ≤ 100) (name : Str) (many : Int) (h2 : 2 ≤ many) (h5 : many ≤ 5) :
  DFn Tryz.prog bd dl at_ 124 [gs name, .int .i64 many, tv] H (fun v H1 ob => ob = [] ∧ (H.le H1 ∧ ∃ p : SProto, v = .agg p.cells.toArray ∧ ProtoOk H1 p ∧ p.name = name ∧ p.roles = rolesL.take many.toNat ∧ AnyP types p)) := by
 have hrl : (rolesL.take many.toNat).length = many.toNat := rolesL_len (by omega) (by omega)
 refine FnX.enter Tryz.func124 Tryz.ntmps124 rfl rfl (fun w0 => ?_)
 refine zm4 ?_
 refine TL.alloc rfl (fun b8 => ?_)
 refine zm41 ?_
 refine TL.callD0 (X := [(b8, _)]) (bd := bd) rfl (enters rfl rfl rfl rfl) (Pick_ok 6 (by omega) hd) rfl (fun v15 H15 at15 hle15 hd15 hp15 => ?_)
 obtain ⟨eH15, r15, rfl, hr15⟩ := hp15
 replace eH15 := eH15.symm; subst eH15
 have hra15 := hr15.1
 have hrb15 := hr15.2.1 (by omega)
 refine zm16 ?_; refine zm53 ?_
 refine TL.call (enters rfl rfl rfl rfl) (m_roles_ok) rfl (fun v18 H18 hle18 hp18 => ?_)
 replace hty := hty.le hle18
 replace hd15 := hd15.le hle18
 have hro18 := hp18
 obtain ⟨ra18, rc18, rfl⟩ := hro18.len
 have hcp : 5 ≤ rc18 := hro18.room _ _ _ rfl
 have hsl := hro18.sliced (i := 0) (j := many.toNat) (by omega) (by show many.toNat ≤ 5; omega)
 have hle0 := hle18
 refine zm0 ?_; refine zm247 ?_
 refine TL.append (enc := Str.cells) rfl rfl rfl (OwnSl.nil (enc := Str.cells)) (Src.sl hsl) (by simp only [List.length_drop, List.length_nil]; omega) rfl (.new _ rfl) rfl (fun a21 c21 ob21 hO21 => ?_)
 refine zm14 ?_
 refine TL.alloc rfl (fun b10 => ?_)
 refine zm248 ?_
 refine TX.pubON (X := [(b10, _), (b8, _), (bd, _)]) hO21 rfl (by simp [keys]) (fun HR leR hR => ?_)
 replace hty := hty.le leR
 replace hd15 := hd15.le leR
 replace hle0 := hle0.trans leR
 have hrs : RdSl HR 1 Str.cells (.slice a21 (rolesL.take many.toNat).length c21) (rolesL.take many.toNat) := hR
 have hty1 := hty
 refine TX.seqN ?_; refine zm55 ?_
 refine TC.loop4 (V := fun (p : Int × Int) v ob H1 => [(11, .int .i64 p.1)]) (K := [(0, _), (2, _), (3, _), (8, _), (9, _), (10, _)]) (L := fun (p : Int × Int) v ob H1 => St (keys [(bd, [dl, .int .i64 at_])]) w0 H H1 ((b10, [gs name, .slice a21 (rolesL.take many.toNat).length c21, v]) :: (b8, [gs [], .slice none 0 0, .slice none 0 0]) :: (bd, [dl, .int .i64 p.2]) :: ob)) (I := fun (p : Int × Int) v ob H1 => (0 ≤ p.1 ∧ p.1 ≤ 1 + r15) ∧ DiceOk H1 dl p.2 ∧ HR.le H1 ∧ ∃ l : List SPoint, OwnSl 3 SPoint.cells v l ob ∧ (l.length : Int) = p.1 ∧ AnyPts types (rolesL.take many.toNat) (1 + r15 + 1) l ∧ ∀ x ∈ l, PointOk H1 x) (μ := fun (p : Int × Int) => (1 + r15 - p.1).toNat) (0, at15) (.slice none 0 0) [] HR ⟨rfl, rfl, rfl, rfl, rfl, rfl, rfl, trivial⟩ ⟨⟨by omega, by omega⟩, hd15, .refl _, [], OwnSl.nil, rfl, .nil, by simp⟩ (fun w hw => hw) (fun p v ob H1 hI => ?_)
 obtain ⟨⟨k0, k1⟩, hI2, hI3, l, hO, hI5, hI6, hI7⟩ := hI
 replace hty := hty1.le hI3
 obtain ⟨va, vc, rfl⟩ := hO.form
 have hrs1 := hrs.le hI3
 refine zm133 ?_
 refine TC.condD rfl (fun c25 => ?_) (fun c25 => ?_)
 ·
  refine zm157 ?_
  refine TL.callD0 (X := [(b10, _), (b8, _)]) (bd := bd) rfl (enters rfl rfl rfl rfl) (Pick_ok many (by omega) hI2) rfl (fun v30 H30 at30 hle30 hd30 hp30 => ?_)
  obtain ⟨eH30, r30, rfl, hr30⟩ := hp30
  replace eH30 := eH30.symm; subst eH30
  have hra30 := hr30.1
  have hrb30 := hr30.2.1 (by omega)
  refine zm53 ?_; refine zm16 ?_; refine zm9 ?_; refine zm154 ?_
  refine TL.callD0 (X := [(b10, _), (b8, _)]) (bd := bd) rfl (enters rfl rfl rfl rfl) (Pick_ok (many - 1) (by omega) hd30) rfl (fun v36 H36 at36 hle36 hd36 hp36 => ?_)
  obtain ⟨eH36, r36, rfl, hr36⟩ := hp36
  replace eH36 := eH36.symm; subst eH36
  have hra36 := hr36.1
  have hrb36 := hr36.2.1 (by omega)
  refine zm16 ?_; refine zm0 ?_; refine TL.run (pr_rem rfl rfl (by omega)) rfl ?_; refine zm37 ?_
  have hne := any_ne hra30 hrb30 hra36 hrb36
  obtain ⟨q1, hr1⟩ := getSome (l := (rolesL.take many.toNat)) (i := r30) (by omega) (by omega)
  obtain ⟨q2, hr2⟩ := getSome (l := (rolesL.take many.toNat)) hne.1.1 (by omega)
  refine TX.seqN ?_; refine zm25 ?_; refine zm427 ?_; refine zm124 ?_; refine zm124 ?_; refine zm5 ?_
  refine TF.pure (pr_indexSl rfl hrs1 rfl (by omega) (by omega)) rfl (TF.read (S1 (S1 SN)) (Hp.le.refl _) (fun _ _ => pr_el0 hrs1 hr1 rfl rfl) rfl ?_); refine zm124 ?_; refine zm5 ?_
  refine TF.pure (pr_indexSl rfl hrs1 rfl (by omega) (by omega)) rfl (TF.read (S1 (S1 SN)) (Hp.le.refl _) (fun _ _ => pr_el0 hrs1 hr2 rfl rfl) rfl ?_); refine zm187 ?_; refine zm246 ?_; refine zm7 ?_
  refine TL.callD0 (X := [(b10, _), (b8, _)]) (bd := bd) rfl (enters rfl rfl rfl rfl) (mArms_ok hd36 hty htn htl (1 + r15 + 1) (by omega) (by omega)) rfl (fun v56 H56 at56 hle56 hd56 hp56 => ?_)
  obtain ⟨hle56_, l56, hl56, hA56⟩ := hp56
  obtain ⟨a56, c56, rfl⟩ := hl56.len
  refine TF.back5 (S1 (S1 SN)) hle56 ?_; refine zm18 ?_
  refine TF.bslice rfl rfl rfl rfl (fun b58 => ?_)
  refine zm7 ?_
  refine TL.append (enc := SPoint.cells) rfl rfl rfl hO (Src.own [⟨q1, q2, l56, (a56, c56)⟩] (.here _) rfl rfl) (by have := hI5; simp only [List.length_cons, List.length_nil]; omega) rfl (.skip _ (.skip _ (.skip _ (.skip _ .all)))) rfl (fun a59 c59 ob59 hO59 => ?_)
  refine TF.back5 (S0 (S1 (S1 SN))) hle56 ?_; refine zm31 ?_; refine zm74 ?_; refine TF.back (TF.nil ?_); refine zm188 ?_
  exact TX.round4 (p.1 + 1, at56) _ ob59 H56 ⟨⟨by omega, by omega⟩, hd56, hI3.trans hle56, _, hO59, by simp only [List.length_append, List.length_cons, List.length_nil]; omega, hI6.snoc ⟨List.mem_of_getElem? hr1, List.mem_of_getElem? hr2⟩ (roles_ne hr1 hr2 (Ne.symm hne.2)) hA56, all_snoc (fun x hx => (hI7 x hx).le hle56) ⟨hl56, hA56.len htn⟩⟩ ⟨rfl, rfl, rfl, rfl, rfl, rfl, rfl, trivial⟩ (fun w hw => hw.drop) (by omega)
 ·
  refine zm38 ?_; refine zm58 ?_; refine zm14 ?_
  refine TL.bslice rfl rfl rfl rfl (fun b64 => ?_)
  refine TL.append (enc := SPoint.cells) rfl rfl rfl hO (Src.own [endP] (.here _) rfl rfl) (by have := hI5; simp only [List.length_cons, List.length_nil]; omega) rfl (.skip _ (.skip _ (.skip _ (.skip _ .all)))) rfl (fun a65 c65 ob65 hO65 => ?_)
  refine zm249 ?_; refine zm70 ?_; refine zm239 ?_
  refine TX.pubON (X := [(b64, _), (b10, _), (b8, _), (bd, _)]) hO65 rfl (by simp [keys]) (fun H2 hle2 hP => ?_)
  exact TX.finX (.inr rfl) (results1 rfl (RVal.cellA rfl (.there _ (.there _ (.here _))) rfl)) (fun w hw => hw.drop.drop.drop) ⟨_, [], rfl, (hI2.le hle2), rfl, hle0.trans (hI3.trans hle2), ⟨name, (rolesL.take many.toNat), (a21, c21), l ++ [endP], (a65, c65)⟩, rfl, ⟨hrs.le (hI3.trans hle2), hP, all_snoc (fun x hx => (hI7 x hx).le hle2) endP_ok⟩, rfl, rfl, ⟨l, rfl, by rw [show ((l.length : Int) + 1) = 1 + r15 + 1 by omega]; exact hI6, by omega, by omega⟩⟩
end Go.Sx
namespace Go.Sx
open Go Go.Proofs
set_option maxHeartbeats 8000000 in
theorem mRounds2_ok {H : Hp} {bd : Nat} {dl : Value} {at_ : Int} (hd : DiceOk H dl at_) {tv : Value} {types : List Str} (hty : RdSl H 1 Str.cells tv types) (htn : ∀ s ∈ types, TyNm s) (htl : types.length ≤ 100) (name : Str) :
  DFn Tryz.prog bd dl at_ 168 [gs name, .int .i64 2, tv] H (fun v H1 ob => ob = [] ∧ (H.le H1 ∧ ∃ p : SProto, v = .agg p.cells.toArray ∧ ProtoOk H1 p ∧ p.name = name ∧ p.roles = rolesL.take 2)) := by
 have hrl : (rolesL.take (2 : Int).toNat).length = 2 := rfl
 refine FnX.enter Tryz.func168 Tryz.ntmps168 rfl rfl (fun w0 => ?_)
 refine zm4 ?_
 refine TL.alloc rfl (fun b8 => ?_)
 refine zm41 ?_
 refine TL.call (enters rfl rfl rfl rfl) (m_roles_ok) rfl (fun v19 H19 hle19 hp19 => ?_)
 replace hd := hd.le hle19
 replace hty := hty.le hle19
 have hro19 := hp19
 obtain ⟨ra19, rc19, rfl⟩ := hro19.len
 have hcp : 5 ≤ rc19 := hro19.room _ _ _ rfl
 have hsl := hro19.sliced (i := 0) (j := (2 : Int).toNat) (by omega) (by decide)
 have hle0 := hle19
 refine zm0 ?_; refine zm247 ?_
 refine TL.append (enc := Str.cells) rfl rfl rfl (OwnSl.nil (enc := Str.cells)) (Src.sl hsl) (by simp only [List.length_drop, List.length_nil]; omega) rfl (.new _ rfl) rfl (fun a22 c22 ob22 hO22 => ?_)
 refine zm14 ?_
 refine TL.alloc rfl (fun b9 => ?_)
 refine zm248 ?_
 refine TX.pubON (X := [(b9, _), (b8, _), (bd, _)]) hO22 rfl (by simp [keys]) (fun HR leR hR => ?_)
 replace hd := hd.le leR
 replace hty := hty.le leR
 replace hle0 := hle0.trans leR
 have hrs0 : RdSl HR 1 Str.cells (.slice a22 (rolesL.take (2 : Int).toNat).length c22) (rolesL.take (2 : Int).toNat) := hR
 have hty1 := hty
 have hleR := hle0
 refine TX.seqN (TC.mid (V := fun (q : Q4) => [(10, gs q.a), (11, gs q.b)]) (K := [(0, _), (2, _), (3, _), (8, _), (9, _)]) ⟨rfl, rfl, rfl, rfl, rfl, trivial⟩ (L := fun (q : Q4) => St (keys [(bd, [dl, .int .i64 at_])]) w0 H q.h [(b9, [gs name, .slice a22 (rolesL.take (2 : Int).toNat).length c22, .slice none 0 0]), (b8, [gs [], .slice none 0 0, .slice none 0 0]), (bd, [dl, .int .i64 q.at_])]) (I := fun (q : Q4) => DiceOk q.h dl q.at_ ∧ HR.le q.h) ?_ ?_)
 · exact zq1263
 ·
  intro q hI
  obtain ⟨hI1, hI2⟩ := hI
  have hty := hty1.le hI2
  have hrs := hrs0.le hI2
  have hle := hleR.trans hI2
  refine zm30 ?_
  refine TL.callD0 (X := [(b9, _), (b8, _)]) (bd := bd) rfl (enters rfl rfl rfl rfl) (Pick_ok 2 (by omega) hI1) rfl (fun v36 H36 at36 hle36 hd36 hp36 => ?_)
  obtain ⟨eH36, r36, rfl, hr36⟩ := hp36
  replace eH36 := eH36.symm; subst eH36
  have hra36 := hr36.1
  have hrb36 := hr36.2.1 (by omega)
  refine zm60 ?_; refine zm30 ?_
  refine TL.callD0 (X := [(b9, _), (b8, _)]) (bd := bd) rfl (enters rfl rfl rfl rfl) (mData_ok hd36) rfl (fun v39 H39 at39 hle39 hd39 hp39 => ?_)
  obtain ⟨eH39, k39, rfl, hk39⟩ := hp39
  replace eH39 := eH39.symm; subst eH39
  refine TL.alloc rfl (fun b13 => ?_)
  refine zm158 ?_; refine zm326 ?_; refine zm291 ?_; refine zm189 ?_; refine zm189 ?_; refine zm5 ?_; refine zm292 ?_; refine zm18 ?_; refine zm5 ?_; refine zm18 ?_
  refine TF.bslice rfl rfl rfl rfl (fun b55 => ?_)
  refine zm18 ?_
  refine TF.bslice rfl rfl rfl rfl (fun b57 => ?_)
  refine zm7 ?_
  refine TL.append (enc := SPoint.cells) rfl rfl rfl (OwnSl.nil (enc := SPoint.cells)) (Src.own [⟨_, _, [⟨[], 0, [], 0⟩, ⟨[], 0, [], 0⟩], (some ⟨b55, 0, none⟩, 2)⟩] (.here _) rfl rfl) (by simp) rfl (.new _ rfl) rfl (fun a58 c58 ob58 hO58 => ?_)
  refine zm327 ?_; refine zm31 ?_; refine zm125 ?_; refine zm49 ?_; refine zm55 ?_; refine TC.rounds 1 ?_; refine zm328 ?_; refine TC.condF rfl ?_; refine zm90 ?_; refine zm2 ?_
  refine TC.condD rfl (fun c93 => ?_) (fun c93 => ?_)
  ·
   refine zm25 ?_; refine zm428 ?_; refine zm64 ?_; refine zm64 ?_; refine zm5 ?_; refine zm329 ?_; refine zm190 ?_; refine zm191 ?_; refine zm64 ?_; refine zm190 ?_; refine zm191 ?_; refine zm192 ?_
   refine TL.callD0 (X := [(b57, _), (b55, _), (b13, _), (b9, _), (b8, _)]) (bd := bd) rfl (enters rfl rfl rfl rfl) (mData_ok hd39) rfl (fun v107 H107 at107 hle107 hd107 hp107 => ?_)
   obtain ⟨eH107, k107, rfl, hk107⟩ := hp107
   replace eH107 := eH107.symm; subst eH107
   refine zm330 ?_; refine zm18 ?_
   refine TF.bslice rfl rfl rfl rfl (fun b109 => ?_)
   refine zm18 ?_
   refine TF.bslice rfl rfl rfl rfl (fun b111 => ?_)
   refine zm7 ?_
   refine TL.append (enc := SPoint.cells) rfl rfl rfl hO58 (Src.own [⟨_, _, [⟨[], 0, [], 0⟩], (some ⟨b109, 0, none⟩, 1)⟩] (.here _) rfl rfl) (by simp) rfl (.skip _ (.skip _ (.skip _ (.skip _ (.skip _ (.skip _ (.skip _ (.skip _ .all)))))))) rfl (fun a112 c112 ob112 hO112 => ?_)
   refine zm331 ?_; refine zm31 ?_; refine zm250 ?_; refine zm49 ?_; refine zm149 ?_; refine zm159 ?_; refine TL.run (pr_lenO rfl rfl hO112) rfl ?_; refine zm102 ?_; refine zm159 ?_; refine zm332 ?_; refine zm6 ?_; refine zm429 ?_
   refine zm251 ?_; refine zm125 ?_; refine zm193 ?_; refine TC.rounds 1 ?_; refine zm328 ?_; refine TC.condF rfl ?_; refine zm144 ?_; refine zm159 ?_; refine zm14 ?_
   refine TL.bslice rfl rfl rfl rfl (fun b170 => ?_)
   refine TL.append (enc := SPoint.cells) rfl rfl rfl hO112 (Src.own [endP] (.here _) rfl rfl) (by simp) rfl (.skip _ (.skip _ (.skip _ (.skip _ (.skip _ (.skip _ (.skip _ (.skip _ (.skip _ .all))))))))) rfl (fun a171 c171 ob171 hO171 => ?_)
   refine zm6 ?_; refine TL.store1 rfl rfl rfl (.there _ (.there _ (.there _ (.there _ (.there _ (.there _ (.here _))))))) rfl rfl ?_; refine zm27 ?_
   refine TL.run (pr_ownA rfl (.there _ (.there _ (.there _ (.there _ (.there _ (.there _ (.here _))))))) rfl) rfl (TL.storeA rfl rfl rfl rfl rfl (.there _ (.there _ (.there _ (.there _ (.there _ (.there _ (.there _ (.here _)))))))) rfl rfl ?_)
   refine zm77 ?_; refine zm252 ?_
   refine TX.pubN (by simp [keys]) (fun H_b55 le_b55 rd_b55 => ?_)
   replace hrs := hrs.le le_b55
   replace hle := hle.trans le_b55
   replace hd107 := hd107.le le_b55
   obtain ⟨l_b55, n_b55, hA_b55, z_b55⟩ := rd_arm2 rd_b55 (by first | simp | (have := hc82.len htn; omega)) (by first | simp | (have := hc82.len htn; omega))
   refine zm126 ?_
   refine TX.pubN (by simp [keys]) (fun H_b109 le_b109 rd_b109 => ?_)
   replace hrs := hrs.le le_b109
   replace hle := hle.trans le_b109
   replace hd107 := hd107.le le_b109
   replace hA_b55 := hA_b55.le le_b109
   obtain ⟨l_b109, n_b109, hA_b109, z_b109⟩ := rd_arm1 rd_b109 (by first | simp | (have := hc82.len htn; omega))
   refine TX.pubON (X := [(b170, _), (b111, _), (b57, _), (b13, _), (b9, _), (b8, _), (bd, _)]) hO171 rfl (by simp [keys]) (fun H2 hle2 hP => ?_)
   replace hrs := hrs.le hle2
   replace hle := hle.trans hle2
   replace hd107 := hd107.le hle2
   replace hA_b55 := hA_b55.le hle2
   replace hA_b109 := hA_b109.le hle2
   have hP2 := hP.recell (l' := [⟨[97], [98], l_b55, (some ⟨b55, 0, none⟩, 2)⟩, ⟨[98], [97], l_b109, (some ⟨b109, 0, none⟩, 1)⟩, endP]) (by simp only [List.nil_append, List.cons_append, List.map_cons, List.map_nil, SPoint.cells, n_b55, n_b109]; rfl)
   have hPK : ∀ x ∈ ([⟨[97], [98], l_b55, (some ⟨b55, 0, none⟩, 2)⟩, ⟨[98], [97], l_b109, (some ⟨b109, 0, none⟩, 1)⟩, endP] : List SPoint), PointOk H2 x := by
    intro x hx; simp only [List.mem_cons, List.not_mem_nil, or_false] at hx
    rcases hx with rfl | rfl | rfl
    · exact ⟨by show RdSl H2 4 SArm.cells (.slice (some ⟨b55, 0, none⟩) l_b55.length _) l_b55; rw [n_b55]; exact hA_b55, z_b55⟩
    · exact ⟨by show RdSl H2 4 SArm.cells (.slice (some ⟨b109, 0, none⟩) l_b109.length _) l_b109; rw [n_b109]; exact hA_b109, z_b109⟩
    · exact endP_ok
   exact TX.finX (.inr rfl) (results1 rfl (RVal.cellA rfl (.there _ (.there _ (.there _ (.there _ (.there _ (.here _)))))) rfl)) (fun w hw => hw.drop.drop.drop.drop.drop.drop) ⟨_, [], rfl, hd107, rfl, hle, ⟨name, (rolesL.take (2 : Int).toNat), (a22, c22), [⟨[97], [98], l_b55, (some ⟨b55, 0, none⟩, 2)⟩, ⟨[98], [97], l_b109, (some ⟨b109, 0, none⟩, 1)⟩, endP], (a171, c171)⟩, rfl, ⟨hrs, hP2, hPK⟩, rfl, rfl⟩
  ·
   refine zm149 ?_; refine zm91 ?_; refine TL.run (pr_lenO rfl rfl hO58) rfl (TL.run (pr_sub rfl rfl (by simp) (by simp)) rfl ?_); refine zm2 ?_; refine TC.region ?_; refine zm6 ?_; refine zm91 ?_; refine zm0 ?_
   refine TL.run (pr_indexO rfl rfl hO58 (by simp) (by simp)) rfl ?_; refine zm6 ?_; refine zm379 ?_; refine zm21 ?_; refine zm249 ?_; refine zm6 ?_; refine zm91 ?_; refine TL.run (pr_lenO rfl rfl hO58) rfl ?_; refine zm102 ?_
   refine zm91 ?_; refine TL.run (pr_indexO rfl rfl hO58 (by simp) (by simp)) rfl ?_; refine zm6 ?_; refine zm379 ?_; refine zm132 ?_; refine zm380 ?_; refine zm193 ?_; refine TC.rounds 1 ?_; refine zm328 ?_; refine TC.condF rfl ?_
   refine zm144 ?_; refine zm91 ?_; refine zm14 ?_
   refine TL.bslice rfl rfl rfl rfl (fun b170 => ?_)
   refine TL.append (enc := SPoint.cells) rfl rfl rfl hO58 (Src.own [endP] (.here _) rfl rfl) (by simp) rfl (.skip _ (.skip _ (.skip _ (.skip _ (.skip _ (.skip _ (.skip _ .all))))))) rfl (fun a171 c171 ob171 hO171 => ?_)
   refine zm6 ?_; refine TL.store1 rfl rfl rfl (.there _ (.there _ (.there _ (.there _ (.here _))))) rfl rfl ?_; refine zm27 ?_; refine zm370 ?_; refine zm319 ?_; refine zm77 ?_; refine zm126 ?_
   refine TX.pubN (by simp [keys]) (fun H_b55 le_b55 rd_b55 => ?_)
   replace hrs := hrs.le le_b55
   replace hle := hle.trans le_b55
   replace hd39 := hd39.le le_b55
   obtain ⟨l_b55, n_b55, hA_b55, z_b55⟩ := rd_arm2 rd_b55 (by first | simp | (have := hc82.len htn; omega)) (by first | simp | (have := hc82.len htn; omega))
   refine TX.pubON (X := [(b170, _), (b57, _), (b13, _), (b9, _), (b8, _), (bd, _)]) hO171 rfl (by simp [keys]) (fun H2 hle2 hP => ?_)
   replace hrs := hrs.le hle2
   replace hle := hle.trans hle2
   replace hd39 := hd39.le hle2
   replace hA_b55 := hA_b55.le hle2
   have hP2 := hP.recell (l' := [⟨[97], [98], l_b55, (some ⟨b55, 0, none⟩, 2)⟩, endP]) (by simp only [List.nil_append, List.cons_append, List.map_cons, List.map_nil, SPoint.cells, n_b55]; rfl)
   have hPK : ∀ x ∈ ([⟨[97], [98], l_b55, (some ⟨b55, 0, none⟩, 2)⟩, endP] : List SPoint), PointOk H2 x := by
    intro x hx; simp only [List.mem_cons, List.not_mem_nil, or_false] at hx
    rcases hx with rfl | rfl
    · exact ⟨by show RdSl H2 4 SArm.cells (.slice (some ⟨b55, 0, none⟩) l_b55.length _) l_b55; rw [n_b55]; exact hA_b55, z_b55⟩
    · exact endP_ok
   exact TX.finX (.inr rfl) (results1 rfl (RVal.cellA rfl (.there _ (.there _ (.there _ (.there _ (.here _))))) rfl)) (fun w hw => hw.drop.drop.drop.drop.drop) ⟨_, [], rfl, hd39, rfl, hle, ⟨name, (rolesL.take (2 : Int).toNat), (a22, c22), [⟨[97], [98], l_b55, (some ⟨b55, 0, none⟩, 2)⟩, endP], (a171, c171)⟩, rfl, ⟨hrs, hP2, hPK⟩, rfl, rfl⟩
set_option maxHeartbeats 8000000 in
theorem mRounds3_ok {H : Hp} {bd : Nat} {dl : Value} {at_ : Int} (hd : DiceOk H dl at_) {tv : Value} {types : List Str} (hty : RdSl H 1 Str.cells tv types) (htn : ∀ s ∈ types, TyNm s) (htl : types.length ≤ 100) (name : Str) :
  DFn Tryz.prog bd dl at_ 168 [gs name, .int .i64 3, tv] H (fun v H1 ob => ob = [] ∧ (H.le H1 ∧ ∃ p : SProto, v = .agg p.cells.toArray ∧ ProtoOk H1 p ∧ p.name = name ∧ p.roles = rolesL.take 3)) := by
 have hrl : (rolesL.take (3 : Int).toNat).length = 3 := rfl
 refine FnX.enter Tryz.func168 Tryz.ntmps168 rfl rfl (fun w0 => ?_)
 refine zm4 ?_
 refine TL.alloc rfl (fun b8 => ?_)
 refine zm41 ?_
 refine TL.call (enters rfl rfl rfl rfl) (m_roles_ok) rfl (fun v19 H19 hle19 hp19 => ?_)
 replace hd := hd.le hle19
 replace hty := hty.le hle19
 have hro19 := hp19
 obtain ⟨ra19, rc19, rfl⟩ := hro19.len
 have hcp : 5 ≤ rc19 := hro19.room _ _ _ rfl
 have hsl := hro19.sliced (i := 0) (j := (3 : Int).toNat) (by omega) (by decide)
 have hle0 := hle19
 refine zm0 ?_; refine zm247 ?_
 refine TL.append (enc := Str.cells) rfl rfl rfl (OwnSl.nil (enc := Str.cells)) (Src.sl hsl) (by simp only [List.length_drop, List.length_nil]; omega) rfl (.new _ rfl) rfl (fun a22 c22 ob22 hO22 => ?_)
 refine zm14 ?_
 refine TL.alloc rfl (fun b9 => ?_)
 refine zm248 ?_
 refine TX.pubON (X := [(b9, _), (b8, _), (bd, _)]) hO22 rfl (by simp [keys]) (fun HR leR hR => ?_)
 replace hd := hd.le leR
 replace hty := hty.le leR
 replace hle0 := hle0.trans leR
 have hrs0 : RdSl HR 1 Str.cells (.slice a22 (rolesL.take (3 : Int).toNat).length c22) (rolesL.take (3 : Int).toNat) := hR
 have hty1 := hty
 have hleR := hle0
 refine TX.seqN (TC.mid (V := fun (q : Q4) => [(10, gs q.a), (11, gs q.b)]) (K := [(0, _), (2, _), (3, _), (8, _), (9, _)]) ⟨rfl, rfl, rfl, rfl, rfl, trivial⟩ (L := fun (q : Q4) => St (keys [(bd, [dl, .int .i64 at_])]) w0 H q.h [(b9, [gs name, .slice a22 (rolesL.take (3 : Int).toNat).length c22, .slice none 0 0]), (b8, [gs [], .slice none 0 0, .slice none 0 0]), (bd, [dl, .int .i64 q.at_])]) (I := fun (q : Q4) => DiceOk q.h dl q.at_ ∧ HR.le q.h) ?_ ?_)
 · exact zq1263
 ·
  intro q hI
  obtain ⟨hI1, hI2⟩ := hI
  have hty := hty1.le hI2
  have hrs := hrs0.le hI2
  have hle := hleR.trans hI2
  refine zm30 ?_
  refine TL.callD0 (X := [(b9, _), (b8, _)]) (bd := bd) rfl (enters rfl rfl rfl rfl) (Pick_ok 2 (by omega) hI1) rfl (fun v36 H36 at36 hle36 hd36 hp36 => ?_)
  obtain ⟨eH36, r36, rfl, hr36⟩ := hp36
  replace eH36 := eH36.symm; subst eH36
  have hra36 := hr36.1
  have hrb36 := hr36.2.1 (by omega)
  refine zm60 ?_; refine zm30 ?_
  refine TL.callD0 (X := [(b9, _), (b8, _)]) (bd := bd) rfl (enters rfl rfl rfl rfl) (mData_ok hd36) rfl (fun v39 H39 at39 hle39 hd39 hp39 => ?_)
  obtain ⟨eH39, k39, rfl, hk39⟩ := hp39
  replace eH39 := eH39.symm; subst eH39
  refine TL.alloc rfl (fun b13 => ?_)
  refine zm158 ?_; refine zm326 ?_; refine zm291 ?_; refine zm189 ?_; refine zm189 ?_; refine zm5 ?_; refine zm292 ?_; refine zm18 ?_; refine zm5 ?_; refine zm18 ?_
  refine TF.bslice rfl rfl rfl rfl (fun b55 => ?_)
  refine zm18 ?_
  refine TF.bslice rfl rfl rfl rfl (fun b57 => ?_)
  refine zm7 ?_
  refine TL.append (enc := SPoint.cells) rfl rfl rfl (OwnSl.nil (enc := SPoint.cells)) (Src.own [⟨_, _, [⟨[], 0, [], 0⟩, ⟨[], 0, [], 0⟩], (some ⟨b55, 0, none⟩, 2)⟩] (.here _) rfl rfl) (by simp) rfl (.new _ rfl) rfl (fun a58 c58 ob58 hO58 => ?_)
  refine zm327 ?_; refine zm31 ?_; refine zm125 ?_; refine zm49 ?_; refine zm55 ?_; refine TC.rounds 2 ?_; refine zm194 ?_; refine zm381 ?_; refine zm64 ?_; refine zm64 ?_; refine zm107 ?_; refine zm191 ?_; refine zm64 ?_
  refine zm108 ?_; refine zm191 ?_; refine zm72 ?_; refine zm47 ?_; refine zm293 ?_; refine TF.pure (pr_lenO rfl rfl hO58) rfl (TF.pure (pr_add rfl rfl (by simp) (by simp)) rfl ?_); refine zm7 ?_
  refine TL.callD0 (X := [(b57, _), (b55, _), (b13, _), (b9, _), (b8, _)]) (bd := bd) rfl (enters rfl rfl rfl rfl) (mCarries_ok hd39 hty htn htl) rfl (fun v82_0 H82_0 at82_0 hle82_0 hd82_0 hp82_0 => ?_)
  obtain ⟨eH82_0, k82_0, nm82_0, rfl, hc82_0⟩ := hp82_0
  replace eH82_0 := eH82_0.symm; subst eH82_0
  refine zm330 ?_; refine zm18 ?_
  refine TF.bslice rfl rfl rfl rfl (fun b88 => ?_)
  refine zm18 ?_
  refine TF.bslice rfl rfl rfl rfl (fun b90 => ?_)
  refine zm7 ?_
  refine TL.append (enc := SPoint.cells) rfl rfl rfl hO58 (Src.own [⟨_, _, [⟨[], 0, [], 0⟩], (some ⟨b88, 0, none⟩, 1)⟩] (.here _) rfl rfl) (by simp) rfl (.skip _ (.skip _ (.skip _ (.skip _ (.skip _ (.skip _ (.skip _ (.skip _ .all)))))))) rfl (fun a91_0 c91_0 ob91_0 hO91_0 => ?_)
  refine zm331 ?_; refine zm31 ?_; refine zm250 ?_; refine zm195 ?_; refine zm90 ?_; refine zm2 ?_
  refine TC.condD rfl (fun c93 => ?_) (fun c93 => ?_)
  ·
   refine zm25 ?_; refine zm430 ?_; refine zm196 ?_; refine zm196 ?_; refine zm5 ?_; refine zm329 ?_; refine zm190 ?_; refine zm294 ?_; refine zm196 ?_; refine zm190 ?_; refine zm294 ?_; refine zm192 ?_
   refine TL.callD0 (X := [(b90, _), (b88, _), (b57, _), (b55, _), (b13, _), (b9, _), (b8, _)]) (bd := bd) rfl (enters rfl rfl rfl rfl) (mData_ok hd82_0) rfl (fun v107 H107 at107 hle107 hd107 hp107 => ?_)
   obtain ⟨eH107, k107, rfl, hk107⟩ := hp107
   replace eH107 := eH107.symm; subst eH107
   refine TF.back5 (S1 (S1 (S1 (S1 (S1 (S1 (S1 SN))))))) (Hp.le.refl _) ?_; refine zm18 ?_
   refine TF.bslice rfl rfl rfl rfl (fun b109 => ?_)
   refine zm18 ?_
   refine TF.bslice rfl rfl rfl rfl (fun b111 => ?_)
   refine zm7 ?_
   refine TL.append (enc := SPoint.cells) rfl rfl rfl hO91_0 (Src.own [⟨_, _, [⟨[], 0, [], 0⟩], (some ⟨b109, 0, none⟩, 1)⟩] (.here _) rfl rfl) (by simp) rfl (.skip _ (.skip _ (.skip _ (.skip _ (.skip _ (.skip _ (.skip _ (.skip _ (.skip _ (.skip _ .all)))))))))) rfl (fun a112 c112 ob112 hO112 => ?_)
   refine zm382 ?_; refine zm31 ?_; refine zm295 ?_; refine zm49 ?_; refine zm149 ?_; refine zm160 ?_; refine TL.run (pr_lenO rfl rfl hO112) rfl ?_; refine zm102 ?_; refine zm160 ?_; refine zm332 ?_; refine zm6 ?_; refine zm431 ?_
   refine zm251 ?_; refine zm250 ?_; refine zm193 ?_; refine TC.rounds 2 ?_; refine zm194 ?_; refine zm383 ?_; refine zm197 ?_; refine zm197 ?_; refine zm107 ?_; refine zm296 ?_; refine zm197 ?_; refine zm108 ?_; refine zm296 ?_
   refine zm47 ?_; refine zm384 ?_; refine TF.pure (pr_lenO rfl rfl hO112) rfl ?_; refine zm198 ?_
   refine TF.bslice rfl rfl rfl rfl (fun b162 => ?_)
   refine zm18 ?_
   refine TF.bslice rfl rfl rfl rfl (fun b164 => ?_)
   refine zm7 ?_
   refine TL.append (enc := SPoint.cells) rfl rfl rfl hO112 (Src.own [⟨_, _, [⟨[], 0, [], 0⟩], (some ⟨b162, 0, none⟩, 1)⟩] (.here _) rfl rfl) (by simp) rfl (.skip _ (.skip _ (.skip _ (.skip _ (.skip _ (.skip _ (.skip _ (.skip _ (.skip _ (.skip _ (.skip _ (.skip _ .all)))))))))))) rfl (fun a165_0 c165_0 ob165_0 hO165_0 => ?_)
   refine zm385 ?_; refine zm31 ?_; refine zm333 ?_; refine zm195 ?_; refine zm144 ?_; refine zm334 ?_; refine zm14 ?_
   refine TL.bslice rfl rfl rfl rfl (fun b170 => ?_)
   refine TL.append (enc := SPoint.cells) rfl rfl rfl hO165_0 (Src.own [endP] (.here _) rfl rfl) (by simp) rfl (.skip _ (.skip _ (.skip _ (.skip _ (.skip _ (.skip _ (.skip _ (.skip _ (.skip _ (.skip _ (.skip _ (.skip _ (.skip _ .all))))))))))))) rfl (fun a171 c171 ob171 hO171 => ?_)
   refine zm6 ?_; refine zm432 ?_; refine zm27 ?_; refine zm433 ?_; refine zm434 ?_; refine zm77 ?_; refine zm335 ?_
   refine TX.pubN (by simp [keys]) (fun H_b55 le_b55 rd_b55 => ?_)
   replace hrs := hrs.le le_b55
   replace hle := hle.trans le_b55
   replace hd107 := hd107.le le_b55
   obtain ⟨l_b55, n_b55, hA_b55, z_b55⟩ := rd_arm2 rd_b55 (by first | simp | (have := hc82.len htn; omega)) (by first | simp | (have := hc82.len htn; omega))
   refine zm297 ?_
   refine TX.pubN (by simp [keys]) (fun H_b88 le_b88 rd_b88 => ?_)
   replace hrs := hrs.le le_b88
   replace hle := hle.trans le_b88
   replace hd107 := hd107.le le_b88
   replace hA_b55 := hA_b55.le le_b88
   obtain ⟨l_b88, n_b88, hA_b88, z_b88⟩ := rd_arm1 rd_b88 (by first | simp | (have := hc82_0.len htn; omega))
   refine zm252 ?_
   refine TX.pubN (by simp [keys]) (fun H_b109 le_b109 rd_b109 => ?_)
   replace hrs := hrs.le le_b109
   replace hle := hle.trans le_b109
   replace hd107 := hd107.le le_b109
   replace hA_b55 := hA_b55.le le_b109
   replace hA_b88 := hA_b88.le le_b109
   obtain ⟨l_b109, n_b109, hA_b109, z_b109⟩ := rd_arm1 rd_b109 (by first | simp | (have := hc82.len htn; omega))
   refine zm126 ?_
   refine TX.pubN (by simp [keys]) (fun H_b162 le_b162 rd_b162 => ?_)
   replace hrs := hrs.le le_b162
   replace hle := hle.trans le_b162
   replace hd107 := hd107.le le_b162
   replace hA_b55 := hA_b55.le le_b162
   replace hA_b88 := hA_b88.le le_b162
   replace hA_b109 := hA_b109.le le_b162
   obtain ⟨l_b162, n_b162, hA_b162, z_b162⟩ := rd_arm1 rd_b162 (by first | simp | (have := hc82_0.len htn; omega))
   refine TX.pubON (X := [(b170, _), (b164, _), (b111, _), (b90, _), (b57, _), (b13, _), (b9, _), (b8, _), (bd, _)]) hO171 rfl (by simp [keys]) (fun H2 hle2 hP => ?_)
   replace hrs := hrs.le hle2
   replace hle := hle.trans hle2
   replace hd107 := hd107.le hle2
   replace hA_b55 := hA_b55.le hle2
   replace hA_b88 := hA_b88.le hle2
   replace hA_b109 := hA_b109.le hle2
   replace hA_b162 := hA_b162.le hle2
   have hP2 := hP.recell (l' := [⟨[97], [98], l_b55, (some ⟨b55, 0, none⟩, 2)⟩, ⟨[98], [99], l_b88, (some ⟨b88, 0, none⟩, 1)⟩, ⟨[99], [97], l_b109, (some ⟨b109, 0, none⟩, 1)⟩, ⟨[98], [99], l_b162, (some ⟨b162, 0, none⟩, 1)⟩, endP]) (by simp only [List.nil_append, List.cons_append, List.map_cons, List.map_nil, SPoint.cells, n_b55, n_b88, n_b109, n_b162]; rfl)
   have hPK : ∀ x ∈ ([⟨[97], [98], l_b55, (some ⟨b55, 0, none⟩, 2)⟩, ⟨[98], [99], l_b88, (some ⟨b88, 0, none⟩, 1)⟩, ⟨[99], [97], l_b109, (some ⟨b109, 0, none⟩, 1)⟩, ⟨[98], [99], l_b162, (some ⟨b162, 0, none⟩, 1)⟩, endP] : List SPoint), PointOk H2 x := by
    intro x hx; simp only [List.mem_cons, List.not_mem_nil, or_false] at hx
    rcases hx with rfl | rfl | rfl | rfl | rfl
    · exact ⟨by show RdSl H2 4 SArm.cells (.slice (some ⟨b55, 0, none⟩) l_b55.length _) l_b55; rw [n_b55]; exact hA_b55, z_b55⟩
    · exact ⟨by show RdSl H2 4 SArm.cells (.slice (some ⟨b88, 0, none⟩) l_b88.length _) l_b88; rw [n_b88]; exact hA_b88, z_b88⟩
    · exact ⟨by show RdSl H2 4 SArm.cells (.slice (some ⟨b109, 0, none⟩) l_b109.length _) l_b109; rw [n_b109]; exact hA_b109, z_b109⟩
    · exact ⟨by show RdSl H2 4 SArm.cells (.slice (some ⟨b162, 0, none⟩) l_b162.length _) l_b162; rw [n_b162]; exact hA_b162, z_b162⟩
    · exact endP_ok
   exact TX.finX (.inr rfl) (results1 rfl (RVal.cellA rfl (.there _ (.there _ (.there _ (.there _ (.there _ (.there _ (.there _ (.here _)))))))) rfl)) (fun w hw => hw.drop.drop.drop.drop.drop.drop.drop.drop) ⟨_, [], rfl, hd107, rfl, hle, ⟨name, (rolesL.take (3 : Int).toNat), (a22, c22), [⟨[97], [98], l_b55, (some ⟨b55, 0, none⟩, 2)⟩, ⟨[98], [99], l_b88, (some ⟨b88, 0, none⟩, 1)⟩, ⟨[99], [97], l_b109, (some ⟨b109, 0, none⟩, 1)⟩, ⟨[98], [99], l_b162, (some ⟨b162, 0, none⟩, 1)⟩, endP], (a171, c171)⟩, rfl, ⟨hrs, hP2, hPK⟩, rfl, rfl⟩
  ·
   refine zm149 ?_; refine zm159 ?_; refine TL.run (pr_lenO rfl rfl hO91_0) rfl (TL.run (pr_sub rfl rfl (by simp) (by simp)) rfl ?_); refine zm2 ?_; refine TC.region ?_; refine zm6 ?_; refine zm159 ?_; refine zm0 ?_
   refine TL.run (pr_indexO rfl rfl hO91_0 (by simp) (by simp)) rfl ?_; refine zm6 ?_; refine zm435 ?_; refine zm21 ?_; refine zm249 ?_; refine zm6 ?_; refine zm159 ?_; refine TL.run (pr_lenO rfl rfl hO91_0) rfl ?_; refine zm102 ?_
   refine zm159 ?_; refine TL.run (pr_indexO rfl rfl hO91_0 (by simp) (by simp)) rfl ?_; refine zm6 ?_; refine zm436 ?_; refine zm251 ?_; refine zm125 ?_; refine zm193 ?_; refine TC.rounds 2 ?_; refine zm194 ?_; refine zm437 ?_
   refine zm3 ?_; refine zm298 ?_; refine zm3 ?_; refine zm298 ?_; refine zm107 ?_; refine zm386 ?_; refine zm3 ?_; refine zm298 ?_; refine zm108 ?_; refine zm386 ?_; refine zm47 ?_; refine zm298 ?_
   refine TF.pure (pr_lenO rfl rfl hO91_0) rfl ?_; refine zm198 ?_
   refine TF.bslice rfl rfl rfl rfl (fun b162 => ?_)
   refine zm18 ?_
   refine TF.bslice rfl rfl rfl rfl (fun b164 => ?_)
   refine zm7 ?_
   refine TL.append (enc := SPoint.cells) rfl rfl rfl hO91_0 (Src.own [⟨_, _, [⟨[], 0, [], 0⟩], (some ⟨b162, 0, none⟩, 1)⟩] (.here _) rfl rfl) (by simp) rfl (.skip _ (.skip _ (.skip _ (.skip _ (.skip _ (.skip _ (.skip _ (.skip _ (.skip _ (.skip _ .all)))))))))) rfl (fun a165_0 c165_0 ob165_0 hO165_0 => ?_)
   refine TF.back5 (S0 (S0 (S1 (S1 (S1 (S1 (S1 (S1 (S1 (S1 SN)))))))))) (Hp.le.refl _) ?_; refine zm31 ?_; refine zm295 ?_; refine zm195 ?_; refine zm144 ?_; refine zm160 ?_; refine zm14 ?_
   refine TL.bslice rfl rfl rfl rfl (fun b170 => ?_)
   refine TL.append (enc := SPoint.cells) rfl rfl rfl hO165_0 (Src.own [endP] (.here _) rfl rfl) (by simp) rfl (.skip _ (.skip _ (.skip _ (.skip _ (.skip _ (.skip _ (.skip _ (.skip _ (.skip _ (.skip _ (.skip _ .all))))))))))) rfl (fun a171 c171 ob171 hO171 => ?_)
   refine zm6 ?_; refine zm438 ?_; refine zm27 ?_; refine zm439 ?_; refine zm440 ?_; refine zm77 ?_; refine zm297 ?_
   refine TX.pubN (by simp [keys]) (fun H_b55 le_b55 rd_b55 => ?_)
   replace hrs := hrs.le le_b55
   replace hle := hle.trans le_b55
   replace hd82_0 := hd82_0.le le_b55
   obtain ⟨l_b55, n_b55, hA_b55, z_b55⟩ := rd_arm2 rd_b55 (by first | simp | (have := hc82.len htn; omega)) (by first | simp | (have := hc82.len htn; omega))
   refine zm252 ?_
   refine TX.pubN (by simp [keys]) (fun H_b88 le_b88 rd_b88 => ?_)
   replace hrs := hrs.le le_b88
   replace hle := hle.trans le_b88
   replace hd82_0 := hd82_0.le le_b88
   replace hA_b55 := hA_b55.le le_b88
   obtain ⟨l_b88, n_b88, hA_b88, z_b88⟩ := rd_arm1 rd_b88 (by first | simp | (have := hc82_0.len htn; omega))
   refine zm126 ?_
   refine TX.pubN (by simp [keys]) (fun H_b162 le_b162 rd_b162 => ?_)
   replace hrs := hrs.le le_b162
   replace hle := hle.trans le_b162
   replace hd82_0 := hd82_0.le le_b162
   replace hA_b55 := hA_b55.le le_b162
   replace hA_b88 := hA_b88.le le_b162
   obtain ⟨l_b162, n_b162, hA_b162, z_b162⟩ := rd_arm1 rd_b162 (by first | simp | (have := hc82_0.len htn; omega))
   refine TX.pubON (X := [(b170, _), (b164, _), (b90, _), (b57, _), (b13, _), (b9, _), (b8, _), (bd, _)]) hO171 rfl (by simp [keys]) (fun H2 hle2 hP => ?_)
   replace hrs := hrs.le hle2
   replace hle := hle.trans hle2
   replace hd82_0 := hd82_0.le hle2
   replace hA_b55 := hA_b55.le hle2
   replace hA_b88 := hA_b88.le hle2
   replace hA_b162 := hA_b162.le hle2
   have hP2 := hP.recell (l' := [⟨[97], [98], l_b55, (some ⟨b55, 0, none⟩, 2)⟩, ⟨[98], [99], l_b88, (some ⟨b88, 0, none⟩, 1)⟩, ⟨[98], [99], l_b162, (some ⟨b162, 0, none⟩, 1)⟩, endP]) (by simp only [List.nil_append, List.cons_append, List.map_cons, List.map_nil, SPoint.cells, n_b55, n_b88, n_b162]; rfl)
   have hPK : ∀ x ∈ ([⟨[97], [98], l_b55, (some ⟨b55, 0, none⟩, 2)⟩, ⟨[98], [99], l_b88, (some ⟨b88, 0, none⟩, 1)⟩, ⟨[98], [99], l_b162, (some ⟨b162, 0, none⟩, 1)⟩, endP] : List SPoint), PointOk H2 x := by
    intro x hx; simp only [List.mem_cons, List.not_mem_nil, or_false] at hx
    rcases hx with rfl | rfl | rfl | rfl
    · exact ⟨by show RdSl H2 4 SArm.cells (.slice (some ⟨b55, 0, none⟩) l_b55.length _) l_b55; rw [n_b55]; exact hA_b55, z_b55⟩
    · exact ⟨by show RdSl H2 4 SArm.cells (.slice (some ⟨b88, 0, none⟩) l_b88.length _) l_b88; rw [n_b88]; exact hA_b88, z_b88⟩
    · exact ⟨by show RdSl H2 4 SArm.cells (.slice (some ⟨b162, 0, none⟩) l_b162.length _) l_b162; rw [n_b162]; exact hA_b162, z_b162⟩
    · exact endP_ok
   exact TX.finX (.inr rfl) (results1 rfl (RVal.cellA rfl (.there _ (.there _ (.there _ (.there _ (.there _ (.there _ (.here _))))))) rfl)) (fun w hw => hw.drop.drop.drop.drop.drop.drop.drop) ⟨_, [], rfl, hd82_0, rfl, hle, ⟨name, (rolesL.take (3 : Int).toNat), (a22, c22), [⟨[97], [98], l_b55, (some ⟨b55, 0, none⟩, 2)⟩, ⟨[98], [99], l_b88, (some ⟨b88, 0, none⟩, 1)⟩, ⟨[98], [99], l_b162, (some ⟨b162, 0, none⟩, 1)⟩, endP], (a171, c171)⟩, rfl, ⟨hrs, hP2, hPK⟩, rfl, rfl⟩
set_option maxHeartbeats 8000000 in
theorem mRounds4_ok {H : Hp} {bd : Nat} {dl : Value} {at_ : Int} (hd : DiceOk H dl at_) {tv : Value} {types : List Str} (hty : RdSl H 1 Str.cells tv types) (htn : ∀ s ∈ types, TyNm s) (htl : types.length ≤ 100) (name : Str) :
  DFn Tryz.prog bd dl at_ 168 [gs name, .int .i64 4, tv] H (fun v H1 ob => ob = [] ∧ (H.le H1 ∧ ∃ p : SProto, v = .agg p.cells.toArray ∧ ProtoOk H1 p ∧ p.name = name ∧ p.roles = rolesL.take 4)) := by
 have hrl : (rolesL.take (4 : Int).toNat).length = 4 := rfl
 refine FnX.enter Tryz.func168 Tryz.ntmps168 rfl rfl (fun w0 => ?_)
 refine zm4 ?_
 refine TL.alloc rfl (fun b8 => ?_)
 refine zm41 ?_
 refine TL.call (enters rfl rfl rfl rfl) (m_roles_ok) rfl (fun v19 H19 hle19 hp19 => ?_)
 replace hd := hd.le hle19
 replace hty := hty.le hle19
 have hro19 := hp19
 obtain ⟨ra19, rc19, rfl⟩ := hro19.len
 have hcp : 5 ≤ rc19 := hro19.room _ _ _ rfl
 have hsl := hro19.sliced (i := 0) (j := (4 : Int).toNat) (by omega) (by decide)
 have hle0 := hle19
 refine zm0 ?_; refine zm247 ?_
 refine TL.append (enc := Str.cells) rfl rfl rfl (OwnSl.nil (enc := Str.cells)) (Src.sl hsl) (by simp only [List.length_drop, List.length_nil]; omega) rfl (.new _ rfl) rfl (fun a22 c22 ob22 hO22 => ?_)
 refine zm14 ?_
 refine TL.alloc rfl (fun b9 => ?_)
 refine zm248 ?_
 refine TX.pubON (X := [(b9, _), (b8, _), (bd, _)]) hO22 rfl (by simp [keys]) (fun HR leR hR => ?_)
 replace hd := hd.le leR
 replace hty := hty.le leR
 replace hle0 := hle0.trans leR
 have hrs0 : RdSl HR 1 Str.cells (.slice a22 (rolesL.take (4 : Int).toNat).length c22) (rolesL.take (4 : Int).toNat) := hR
 have hty1 := hty
 have hleR := hle0
 refine TX.seqN (TC.mid (V := fun (q : Q4) => [(10, gs q.a), (11, gs q.b)]) (K := [(0, _), (2, _), (3, _), (8, _), (9, _)]) ⟨rfl, rfl, rfl, rfl, rfl, trivial⟩ (L := fun (q : Q4) => St (keys [(bd, [dl, .int .i64 at_])]) w0 H q.h [(b9, [gs name, .slice a22 (rolesL.take (4 : Int).toNat).length c22, .slice none 0 0]), (b8, [gs [], .slice none 0 0, .slice none 0 0]), (bd, [dl, .int .i64 q.at_])]) (I := fun (q : Q4) => DiceOk q.h dl q.at_ ∧ HR.le q.h) ?_ ?_)
 · exact zq1263
 ·
  intro q hI
  obtain ⟨hI1, hI2⟩ := hI
  have hty := hty1.le hI2
  have hrs := hrs0.le hI2
  have hle := hleR.trans hI2
  refine zm30 ?_
  refine TL.callD0 (X := [(b9, _), (b8, _)]) (bd := bd) rfl (enters rfl rfl rfl rfl) (Pick_ok 2 (by omega) hI1) rfl (fun v36 H36 at36 hle36 hd36 hp36 => ?_)
  obtain ⟨eH36, r36, rfl, hr36⟩ := hp36
  replace eH36 := eH36.symm; subst eH36
  have hra36 := hr36.1
  have hrb36 := hr36.2.1 (by omega)
  refine zm60 ?_; refine zm30 ?_
  refine TL.callD0 (X := [(b9, _), (b8, _)]) (bd := bd) rfl (enters rfl rfl rfl rfl) (mData_ok hd36) rfl (fun v39 H39 at39 hle39 hd39 hp39 => ?_)
  obtain ⟨eH39, k39, rfl, hk39⟩ := hp39
  replace eH39 := eH39.symm; subst eH39
  refine TL.alloc rfl (fun b13 => ?_)
  refine zm158 ?_; refine zm326 ?_; refine zm291 ?_; refine zm189 ?_; refine zm189 ?_; refine zm5 ?_; refine zm292 ?_; refine zm18 ?_; refine zm5 ?_; refine zm18 ?_
  refine TF.bslice rfl rfl rfl rfl (fun b55 => ?_)
  refine zm18 ?_
  refine TF.bslice rfl rfl rfl rfl (fun b57 => ?_)
  refine zm7 ?_
  refine TL.append (enc := SPoint.cells) rfl rfl rfl (OwnSl.nil (enc := SPoint.cells)) (Src.own [⟨_, _, [⟨[], 0, [], 0⟩, ⟨[], 0, [], 0⟩], (some ⟨b55, 0, none⟩, 2)⟩] (.here _) rfl rfl) (by simp) rfl (.new _ rfl) rfl (fun a58 c58 ob58 hO58 => ?_)
  refine zm327 ?_; refine zm31 ?_; refine zm125 ?_; refine zm49 ?_; refine zm55 ?_; refine TC.rounds 3 ?_; refine zm194 ?_; refine zm381 ?_; refine zm64 ?_; refine zm64 ?_; refine zm107 ?_; refine zm191 ?_; refine zm64 ?_
  refine zm108 ?_; refine zm191 ?_; refine zm72 ?_; refine zm47 ?_; refine zm293 ?_; refine TF.pure (pr_lenO rfl rfl hO58) rfl (TF.pure (pr_add rfl rfl (by simp) (by simp)) rfl ?_); refine zm7 ?_
  refine TL.callD0 (X := [(b57, _), (b55, _), (b13, _), (b9, _), (b8, _)]) (bd := bd) rfl (enters rfl rfl rfl rfl) (mCarries_ok hd39 hty htn htl) rfl (fun v82_0 H82_0 at82_0 hle82_0 hd82_0 hp82_0 => ?_)
  obtain ⟨eH82_0, k82_0, nm82_0, rfl, hc82_0⟩ := hp82_0
  replace eH82_0 := eH82_0.symm; subst eH82_0
  refine zm330 ?_; refine zm18 ?_
  refine TF.bslice rfl rfl rfl rfl (fun b88 => ?_)
  refine zm18 ?_
  refine TF.bslice rfl rfl rfl rfl (fun b90 => ?_)
  refine zm7 ?_
  refine TL.append (enc := SPoint.cells) rfl rfl rfl hO58 (Src.own [⟨_, _, [⟨[], 0, [], 0⟩], (some ⟨b88, 0, none⟩, 1)⟩] (.here _) rfl rfl) (by simp) rfl (.skip _ (.skip _ (.skip _ (.skip _ (.skip _ (.skip _ (.skip _ (.skip _ .all)))))))) rfl (fun a91_0 c91_0 ob91_0 hO91_0 => ?_)
  refine zm331 ?_; refine zm31 ?_; refine zm250 ?_; refine zm336 ?_; refine zm337 ?_; refine zm441 ?_; refine zm196 ?_; refine zm196 ?_; refine zm107 ?_; refine zm294 ?_; refine zm196 ?_; refine zm108 ?_; refine zm294 ?_
  refine zm72 ?_; refine zm47 ?_; refine zm442 ?_; refine TF.pure (pr_lenO rfl rfl hO91_0) rfl (TF.pure (pr_add rfl rfl (by simp) (by simp)) rfl ?_); refine zm7 ?_
  refine TL.callD0 (X := [(b90, _), (b88, _), (b57, _), (b55, _), (b13, _), (b9, _), (b8, _)]) (bd := bd) rfl (enters rfl rfl rfl rfl) (mCarries_ok hd82_0 hty htn htl) rfl (fun v82_1 H82_1 at82_1 hle82_1 hd82_1 hp82_1 => ?_)
  obtain ⟨eH82_1, k82_1, nm82_1, rfl, hc82_1⟩ := hp82_1
  replace eH82_1 := eH82_1.symm; subst eH82_1
  refine TF.back5 (S1 (S1 (S1 (S1 (S1 (S1 (S1 SN))))))) (Hp.le.refl _) ?_; refine zm18 ?_
  refine TF.bslice rfl rfl rfl rfl (fun b88x => ?_)
  refine zm18 ?_
  refine TF.bslice rfl rfl rfl rfl (fun b90x => ?_)
  refine zm7 ?_
  refine TL.append (enc := SPoint.cells) rfl rfl rfl hO91_0 (Src.own [⟨_, _, [⟨[], 0, [], 0⟩], (some ⟨b88x, 0, none⟩, 1)⟩] (.here _) rfl rfl) (by simp) rfl (.skip _ (.skip _ (.skip _ (.skip _ (.skip _ (.skip _ (.skip _ (.skip _ (.skip _ (.skip _ .all)))))))))) rfl (fun a91_1 c91_1 ob91_1 hO91_1 => ?_)
  refine zm382 ?_; refine zm31 ?_; refine zm295 ?_; refine zm195 ?_; refine zm90 ?_; refine zm2 ?_
  refine TC.condD rfl (fun c93 => ?_) (fun c93 => ?_)
  ·
   refine zm25 ?_; refine zm443 ?_; refine zm3 ?_; refine zm338 ?_; refine zm3 ?_; refine zm338 ?_; refine zm5 ?_; refine zm329 ?_; refine zm190 ?_; refine zm387 ?_; refine zm3 ?_; refine zm338 ?_; refine zm190 ?_; refine zm387 ?_
   refine zm192 ?_
   refine TL.callD0 (X := [(b90x, _), (b88x, _), (b90, _), (b88, _), (b57, _), (b55, _), (b13, _), (b9, _), (b8, _)]) (bd := bd) rfl (enters rfl rfl rfl rfl) (mData_ok hd82_1) rfl (fun v107 H107 at107 hle107 hd107 hp107 => ?_)
   obtain ⟨eH107, k107, rfl, hk107⟩ := hp107
   replace eH107 := eH107.symm; subst eH107
   refine TF.back5 (S1 (S1 (S1 (S1 (S1 (S1 (S1 (S1 (S1 SN))))))))) (Hp.le.refl _) ?_; refine zm18 ?_
   refine TF.bslice rfl rfl rfl rfl (fun b109 => ?_)
   refine zm18 ?_
   refine TF.bslice rfl rfl rfl rfl (fun b111 => ?_)
   refine zm7 ?_
   refine TL.append (enc := SPoint.cells) rfl rfl rfl hO91_1 (Src.own [⟨_, _, [⟨[], 0, [], 0⟩], (some ⟨b109, 0, none⟩, 1)⟩] (.here _) rfl rfl) (by simp) rfl (.skip _ (.skip _ (.skip _ (.skip _ (.skip _ (.skip _ (.skip _ (.skip _ (.skip _ (.skip _ (.skip _ (.skip _ .all)))))))))))) rfl (fun a112 c112 ob112 hO112 => ?_)
   refine TF.back5 (S0 (S0 (S1 (S1 (S1 (S1 (S1 (S1 (S1 (S1 (S1 SN))))))))))) (Hp.le.refl _) ?_; refine zm31 ?_; refine zm333 ?_; refine zm49 ?_; refine zm149 ?_; refine zm334 ?_; refine TL.run (pr_lenO rfl rfl hO112) rfl ?_
   refine zm102 ?_; refine zm334 ?_; refine zm332 ?_; refine zm6 ?_; refine zm444 ?_; refine zm251 ?_; refine zm295 ?_; refine zm193 ?_; refine TC.rounds 3 ?_; refine zm194 ?_; refine zm388 ?_; refine zm199 ?_; refine zm199 ?_
   refine zm107 ?_; refine zm299 ?_; refine zm199 ?_; refine zm108 ?_; refine zm299 ?_; refine zm47 ?_; refine zm389 ?_; refine TF.pure (pr_lenO rfl rfl hO112) rfl ?_; refine zm198 ?_
   refine TF.bslice rfl rfl rfl rfl (fun b162 => ?_)
   refine zm18 ?_
   refine TF.bslice rfl rfl rfl rfl (fun b164 => ?_)
   refine zm7 ?_
   refine TL.append (enc := SPoint.cells) rfl rfl rfl hO112 (Src.own [⟨_, _, [⟨[], 0, [], 0⟩], (some ⟨b162, 0, none⟩, 1)⟩] (.here _) rfl rfl) (by simp) rfl (.skip _ (.skip _ (.skip _ (.skip _ (.skip _ (.skip _ (.skip _ (.skip _ (.skip _ (.skip _ (.skip _ (.skip _ (.skip _ (.skip _ .all)))))))))))))) rfl (fun a165_0 c165_0 ob165_0 hO165_0 => ?_)
   refine zm390 ?_; refine zm31 ?_; refine zm391 ?_; refine zm336 ?_; refine zm337 ?_; refine zm445 ?_; refine zm3 ?_; refine zm300 ?_; refine zm3 ?_; refine zm300 ?_; refine zm107 ?_; refine zm392 ?_; refine zm3 ?_; refine zm300 ?_
   refine zm108 ?_; refine zm392 ?_; refine zm47 ?_; refine zm300 ?_; refine TF.pure (pr_lenO rfl rfl hO165_0) rfl ?_; refine zm198 ?_
   refine TF.bslice rfl rfl rfl rfl (fun b162x => ?_)
   refine zm18 ?_
   refine TF.bslice rfl rfl rfl rfl (fun b164x => ?_)
   refine zm7 ?_
   refine TL.append (enc := SPoint.cells) rfl rfl rfl hO165_0 (Src.own [⟨_, _, [⟨[], 0, [], 0⟩], (some ⟨b162x, 0, none⟩, 1)⟩] (.here _) rfl rfl) (by simp) rfl (.skip _ (.skip _ (.skip _ (.skip _ (.skip _ (.skip _ (.skip _ (.skip _ (.skip _ (.skip _ (.skip _ (.skip _ (.skip _ (.skip _ (.skip _ (.skip _ .all)))))))))))))))) rfl (fun a165_1 c165_1 ob165_1 hO165_1 => ?_)
   refine TF.back5 (S0 (S0 (S1 (S1 (S1 (S1 (S1 (S1 (S1 (S1 (S1 (S1 (S1 (S1 (S1 (S1 SN)))))))))))))))) (Hp.le.refl _) ?_; refine zm31 ?_; refine zm446 ?_; refine zm195 ?_; refine zm144 ?_; refine zm447 ?_; refine zm14 ?_
   refine TL.bslice rfl rfl rfl rfl (fun b170 => ?_)
   refine TL.append (enc := SPoint.cells) rfl rfl rfl hO165_1 (Src.own [endP] (.here _) rfl rfl) (by simp) rfl (.skip _ (.skip _ (.skip _ (.skip _ (.skip _ (.skip _ (.skip _ (.skip _ (.skip _ (.skip _ (.skip _ (.skip _ (.skip _ (.skip _ (.skip _ (.skip _ (.skip _ .all))))))))))))))))) rfl (fun a171 c171 ob171 hO171 => ?_)
   refine zm6 ?_; refine zm448 ?_; refine zm27 ?_; refine zm449 ?_; refine zm450 ?_; refine zm77 ?_; refine zm451 ?_
   refine TX.pubN (by simp [keys]) (fun H_b55 le_b55 rd_b55 => ?_)
   replace hrs := hrs.le le_b55
   replace hle := hle.trans le_b55
   replace hd107 := hd107.le le_b55
   obtain ⟨l_b55, n_b55, hA_b55, z_b55⟩ := rd_arm2 rd_b55 (by first | simp | (have := hc82.len htn; omega)) (by first | simp | (have := hc82.len htn; omega))
   refine zm393 ?_
   refine TX.pubN (by simp [keys]) (fun H_b88 le_b88 rd_b88 => ?_)
   replace hrs := hrs.le le_b88
   replace hle := hle.trans le_b88
   replace hd107 := hd107.le le_b88
   replace hA_b55 := hA_b55.le le_b88
   obtain ⟨l_b88, n_b88, hA_b88, z_b88⟩ := rd_arm1 rd_b88 (by first | simp | (have := hc82_0.len htn; omega))
   refine zm335 ?_
   refine TX.pubN (by simp [keys]) (fun H_b88x le_b88x rd_b88x => ?_)
   replace hrs := hrs.le le_b88x
   replace hle := hle.trans le_b88x
   replace hd107 := hd107.le le_b88x
   replace hA_b55 := hA_b55.le le_b88x
   replace hA_b88 := hA_b88.le le_b88x
   obtain ⟨l_b88x, n_b88x, hA_b88x, z_b88x⟩ := rd_arm1 rd_b88x (by first | simp | (have := hc82_1.len htn; omega))
   refine zm297 ?_
   refine TX.pubN (by simp [keys]) (fun H_b109 le_b109 rd_b109 => ?_)
   replace hrs := hrs.le le_b109
   replace hle := hle.trans le_b109
   replace hd107 := hd107.le le_b109
   replace hA_b55 := hA_b55.le le_b109
   replace hA_b88 := hA_b88.le le_b109
   replace hA_b88x := hA_b88x.le le_b109
   obtain ⟨l_b109, n_b109, hA_b109, z_b109⟩ := rd_arm1 rd_b109 (by first | simp | (have := hc82.len htn; omega))
   refine zm252 ?_
   refine TX.pubN (by simp [keys]) (fun H_b162 le_b162 rd_b162 => ?_)
   replace hrs := hrs.le le_b162
   replace hle := hle.trans le_b162
   replace hd107 := hd107.le le_b162
   replace hA_b55 := hA_b55.le le_b162
   replace hA_b88 := hA_b88.le le_b162
   replace hA_b88x := hA_b88x.le le_b162
   replace hA_b109 := hA_b109.le le_b162
   obtain ⟨l_b162, n_b162, hA_b162, z_b162⟩ := rd_arm1 rd_b162 (by first | simp | (have := hc82_0.len htn; omega))
   refine zm126 ?_
   refine TX.pubN (by simp [keys]) (fun H_b162x le_b162x rd_b162x => ?_)
   replace hrs := hrs.le le_b162x
   replace hle := hle.trans le_b162x
   replace hd107 := hd107.le le_b162x
   replace hA_b55 := hA_b55.le le_b162x
   replace hA_b88 := hA_b88.le le_b162x
   replace hA_b88x := hA_b88x.le le_b162x
   replace hA_b109 := hA_b109.le le_b162x
   replace hA_b162 := hA_b162.le le_b162x
   obtain ⟨l_b162x, n_b162x, hA_b162x, z_b162x⟩ := rd_arm1 rd_b162x (by first | simp | (have := hc82_1.len htn; omega))
   refine TX.pubON (X := [(b170, _), (b164x, _), (b164, _), (b111, _), (b90x, _), (b90, _), (b57, _), (b13, _), (b9, _), (b8, _), (bd, _)]) hO171 rfl (by simp [keys]) (fun H2 hle2 hP => ?_)
   replace hrs := hrs.le hle2
   replace hle := hle.trans hle2
   replace hd107 := hd107.le hle2
   replace hA_b55 := hA_b55.le hle2
   replace hA_b88 := hA_b88.le hle2
   replace hA_b88x := hA_b88x.le hle2
   replace hA_b109 := hA_b109.le hle2
   replace hA_b162 := hA_b162.le hle2
   replace hA_b162x := hA_b162x.le hle2
   have hP2 := hP.recell (l' := [⟨[97], [98], l_b55, (some ⟨b55, 0, none⟩, 2)⟩, ⟨[98], [99], l_b88, (some ⟨b88, 0, none⟩, 1)⟩, ⟨[99], [100], l_b88x, (some ⟨b88x, 0, none⟩, 1)⟩, ⟨[100], [97], l_b109, (some ⟨b109, 0, none⟩, 1)⟩, ⟨[98], [99], l_b162, (some ⟨b162, 0, none⟩, 1)⟩, ⟨[99], [100], l_b162x, (some ⟨b162x, 0, none⟩, 1)⟩, endP]) (by simp only [List.nil_append, List.cons_append, List.map_cons, List.map_nil, SPoint.cells, n_b55, n_b88, n_b88x, n_b109, n_b162, n_b162x]; rfl)
   have hPK : ∀ x ∈ ([⟨[97], [98], l_b55, (some ⟨b55, 0, none⟩, 2)⟩, ⟨[98], [99], l_b88, (some ⟨b88, 0, none⟩, 1)⟩, ⟨[99], [100], l_b88x, (some ⟨b88x, 0, none⟩, 1)⟩, ⟨[100], [97], l_b109, (some ⟨b109, 0, none⟩, 1)⟩, ⟨[98], [99], l_b162, (some ⟨b162, 0, none⟩, 1)⟩, ⟨[99], [100], l_b162x, (some ⟨b162x, 0, none⟩, 1)⟩, endP] : List SPoint), PointOk H2 x := by
    intro x hx; simp only [List.mem_cons, List.not_mem_nil, or_false] at hx
    rcases hx with rfl | rfl | rfl | rfl | rfl | rfl | rfl
    · exact ⟨by show RdSl H2 4 SArm.cells (.slice (some ⟨b55, 0, none⟩) l_b55.length _) l_b55; rw [n_b55]; exact hA_b55, z_b55⟩
    · exact ⟨by show RdSl H2 4 SArm.cells (.slice (some ⟨b88, 0, none⟩) l_b88.length _) l_b88; rw [n_b88]; exact hA_b88, z_b88⟩
    · exact ⟨by show RdSl H2 4 SArm.cells (.slice (some ⟨b88x, 0, none⟩) l_b88x.length _) l_b88x; rw [n_b88x]; exact hA_b88x, z_b88x⟩
    · exact ⟨by show RdSl H2 4 SArm.cells (.slice (some ⟨b109, 0, none⟩) l_b109.length _) l_b109; rw [n_b109]; exact hA_b109, z_b109⟩
    · exact ⟨by show RdSl H2 4 SArm.cells (.slice (some ⟨b162, 0, none⟩) l_b162.length _) l_b162; rw [n_b162]; exact hA_b162, z_b162⟩
    · exact ⟨by show RdSl H2 4 SArm.cells (.slice (some ⟨b162x, 0, none⟩) l_b162x.length _) l_b162x; rw [n_b162x]; exact hA_b162x, z_b162x⟩
    · exact endP_ok
   exact TX.finX (.inr rfl) (results1 rfl (RVal.cellA rfl (.there _ (.there _ (.there _ (.there _ (.there _ (.there _ (.there _ (.there _ (.there _ (.here _)))))))))) rfl)) (fun w hw => hw.drop.drop.drop.drop.drop.drop.drop.drop.drop.drop) ⟨_, [], rfl, hd107, rfl, hle, ⟨name, (rolesL.take (4 : Int).toNat), (a22, c22), [⟨[97], [98], l_b55, (some ⟨b55, 0, none⟩, 2)⟩, ⟨[98], [99], l_b88, (some ⟨b88, 0, none⟩, 1)⟩, ⟨[99], [100], l_b88x, (some ⟨b88x, 0, none⟩, 1)⟩, ⟨[100], [97], l_b109, (some ⟨b109, 0, none⟩, 1)⟩, ⟨[98], [99], l_b162, (some ⟨b162, 0, none⟩, 1)⟩, ⟨[99], [100], l_b162x, (some ⟨b162x, 0, none⟩, 1)⟩, endP], (a171, c171)⟩, rfl, ⟨hrs, hP2, hPK⟩, rfl, rfl⟩
  ·
   refine zm149 ?_; refine zm160 ?_; refine TL.run (pr_lenO rfl rfl hO91_1) rfl (TL.run (pr_sub rfl rfl (by simp) (by simp)) rfl ?_); refine zm2 ?_; refine TC.region ?_; refine zm6 ?_; refine zm160 ?_; refine zm0 ?_
   refine TL.run (pr_indexO rfl rfl hO91_1 (by simp) (by simp)) rfl ?_; refine zm6 ?_; refine zm452 ?_; refine zm21 ?_; refine zm249 ?_; refine zm6 ?_; refine zm160 ?_; refine TL.run (pr_lenO rfl rfl hO91_1) rfl ?_; refine zm102 ?_
   refine zm160 ?_; refine TL.run (pr_indexO rfl rfl hO91_1 (by simp) (by simp)) rfl ?_; refine zm6 ?_; refine zm453 ?_; refine zm251 ?_; refine zm250 ?_; refine zm193 ?_; refine TC.rounds 3 ?_; refine zm194 ?_; refine zm383 ?_
   refine zm197 ?_; refine zm197 ?_; refine zm107 ?_; refine zm296 ?_; refine zm197 ?_; refine zm108 ?_; refine zm296 ?_; refine zm47 ?_; refine zm384 ?_; refine TF.pure (pr_lenO rfl rfl hO91_1) rfl ?_; refine zm198 ?_
   refine TF.bslice rfl rfl rfl rfl (fun b162 => ?_)
   refine zm18 ?_
   refine TF.bslice rfl rfl rfl rfl (fun b164 => ?_)
   refine zm7 ?_
   refine TL.append (enc := SPoint.cells) rfl rfl rfl hO91_1 (Src.own [⟨_, _, [⟨[], 0, [], 0⟩], (some ⟨b162, 0, none⟩, 1)⟩] (.here _) rfl rfl) (by simp) rfl (.skip _ (.skip _ (.skip _ (.skip _ (.skip _ (.skip _ (.skip _ (.skip _ (.skip _ (.skip _ (.skip _ (.skip _ .all)))))))))))) rfl (fun a165_0 c165_0 ob165_0 hO165_0 => ?_)
   refine zm385 ?_; refine zm31 ?_; refine zm333 ?_; refine zm336 ?_; refine zm337 ?_; refine zm388 ?_; refine zm199 ?_; refine zm199 ?_; refine zm107 ?_; refine zm299 ?_; refine zm199 ?_; refine zm108 ?_; refine zm299 ?_
   refine zm47 ?_; refine zm389 ?_; refine TF.pure (pr_lenO rfl rfl hO165_0) rfl ?_; refine zm198 ?_
   refine TF.bslice rfl rfl rfl rfl (fun b162x => ?_)
   refine zm18 ?_
   refine TF.bslice rfl rfl rfl rfl (fun b164x => ?_)
   refine zm7 ?_
   refine TL.append (enc := SPoint.cells) rfl rfl rfl hO165_0 (Src.own [⟨_, _, [⟨[], 0, [], 0⟩], (some ⟨b162x, 0, none⟩, 1)⟩] (.here _) rfl rfl) (by simp) rfl (.skip _ (.skip _ (.skip _ (.skip _ (.skip _ (.skip _ (.skip _ (.skip _ (.skip _ (.skip _ (.skip _ (.skip _ (.skip _ (.skip _ .all)))))))))))))) rfl (fun a165_1 c165_1 ob165_1 hO165_1 => ?_)
   refine zm390 ?_; refine zm31 ?_; refine zm391 ?_; refine zm195 ?_; refine zm144 ?_; refine zm454 ?_; refine zm14 ?_
   refine TL.bslice rfl rfl rfl rfl (fun b170 => ?_)
   refine TL.append (enc := SPoint.cells) rfl rfl rfl hO165_1 (Src.own [endP] (.here _) rfl rfl) (by simp) rfl (.skip _ (.skip _ (.skip _ (.skip _ (.skip _ (.skip _ (.skip _ (.skip _ (.skip _ (.skip _ (.skip _ (.skip _ (.skip _ (.skip _ (.skip _ .all))))))))))))))) rfl (fun a171 c171 ob171 hO171 => ?_)
   refine zm6 ?_; refine zm455 ?_; refine zm27 ?_; refine zm456 ?_; refine zm457 ?_; refine zm77 ?_; refine zm393 ?_
   refine TX.pubN (by simp [keys]) (fun H_b55 le_b55 rd_b55 => ?_)
   replace hrs := hrs.le le_b55
   replace hle := hle.trans le_b55
   replace hd82_1 := hd82_1.le le_b55
   obtain ⟨l_b55, n_b55, hA_b55, z_b55⟩ := rd_arm2 rd_b55 (by first | simp | (have := hc82.len htn; omega)) (by first | simp | (have := hc82.len htn; omega))
   refine zm335 ?_
   refine TX.pubN (by simp [keys]) (fun H_b88 le_b88 rd_b88 => ?_)
   replace hrs := hrs.le le_b88
   replace hle := hle.trans le_b88
   replace hd82_1 := hd82_1.le le_b88
   replace hA_b55 := hA_b55.le le_b88
   obtain ⟨l_b88, n_b88, hA_b88, z_b88⟩ := rd_arm1 rd_b88 (by first | simp | (have := hc82_0.len htn; omega))
   refine zm297 ?_
   refine TX.pubN (by simp [keys]) (fun H_b88x le_b88x rd_b88x => ?_)
   replace hrs := hrs.le le_b88x
   replace hle := hle.trans le_b88x
   replace hd82_1 := hd82_1.le le_b88x
   replace hA_b55 := hA_b55.le le_b88x
   replace hA_b88 := hA_b88.le le_b88x
   obtain ⟨l_b88x, n_b88x, hA_b88x, z_b88x⟩ := rd_arm1 rd_b88x (by first | simp | (have := hc82_1.len htn; omega))
   refine zm252 ?_
   refine TX.pubN (by simp [keys]) (fun H_b162 le_b162 rd_b162 => ?_)
   replace hrs := hrs.le le_b162
   replace hle := hle.trans le_b162
   replace hd82_1 := hd82_1.le le_b162
   replace hA_b55 := hA_b55.le le_b162
   replace hA_b88 := hA_b88.le le_b162
   replace hA_b88x := hA_b88x.le le_b162
   obtain ⟨l_b162, n_b162, hA_b162, z_b162⟩ := rd_arm1 rd_b162 (by first | simp | (have := hc82_0.len htn; omega))
   refine zm126 ?_
   refine TX.pubN (by simp [keys]) (fun H_b162x le_b162x rd_b162x => ?_)
   replace hrs := hrs.le le_b162x
   replace hle := hle.trans le_b162x
   replace hd82_1 := hd82_1.le le_b162x
   replace hA_b55 := hA_b55.le le_b162x
   replace hA_b88 := hA_b88.le le_b162x
   replace hA_b88x := hA_b88x.le le_b162x
   replace hA_b162 := hA_b162.le le_b162x
   obtain ⟨l_b162x, n_b162x, hA_b162x, z_b162x⟩ := rd_arm1 rd_b162x (by first | simp | (have := hc82_1.len htn; omega))
   refine TX.pubON (X := [(b170, _), (b164x, _), (b164, _), (b90x, _), (b90, _), (b57, _), (b13, _), (b9, _), (b8, _), (bd, _)]) hO171 rfl (by simp [keys]) (fun H2 hle2 hP => ?_)
   replace hrs := hrs.le hle2
   replace hle := hle.trans hle2
   replace hd82_1 := hd82_1.le hle2
   replace hA_b55 := hA_b55.le hle2
   replace hA_b88 := hA_b88.le hle2
   replace hA_b88x := hA_b88x.le hle2
   replace hA_b162 := hA_b162.le hle2
   replace hA_b162x := hA_b162x.le hle2
   have hP2 := hP.recell (l' := [⟨[97], [98], l_b55, (some ⟨b55, 0, none⟩, 2)⟩, ⟨[98], [99], l_b88, (some ⟨b88, 0, none⟩, 1)⟩, ⟨[99], [100], l_b88x, (some ⟨b88x, 0, none⟩, 1)⟩, ⟨[98], [99], l_b162, (some ⟨b162, 0, none⟩, 1)⟩, ⟨[99], [100], l_b162x, (some ⟨b162x, 0, none⟩, 1)⟩, endP]) (by simp only [List.nil_append, List.cons_append, List.map_cons, List.map_nil, SPoint.cells, n_b55, n_b88, n_b88x, n_b162, n_b162x]; rfl)
   have hPK : ∀ x ∈ ([⟨[97], [98], l_b55, (some ⟨b55, 0, none⟩, 2)⟩, ⟨[98], [99], l_b88, (some ⟨b88, 0, none⟩, 1)⟩, ⟨[99], [100], l_b88x, (some ⟨b88x, 0, none⟩, 1)⟩, ⟨[98], [99], l_b162, (some ⟨b162, 0, none⟩, 1)⟩, ⟨[99], [100], l_b162x, (some ⟨b162x, 0, none⟩, 1)⟩, endP] : List SPoint), PointOk H2 x := by
    intro x hx; simp only [List.mem_cons, List.not_mem_nil, or_false] at hx
    rcases hx with rfl | rfl | rfl | rfl | rfl | rfl
    · exact ⟨by show RdSl H2 4 SArm.cells (.slice (some ⟨b55, 0, none⟩) l_b55.length _) l_b55; rw [n_b55]; exact hA_b55, z_b55⟩
    · exact ⟨by show RdSl H2 4 SArm.cells (.slice (some ⟨b88, 0, none⟩) l_b88.length _) l_b88; rw [n_b88]; exact hA_b88, z_b88⟩
    · exact ⟨by show RdSl H2 4 SArm.cells (.slice (some ⟨b88x, 0, none⟩) l_b88x.length _) l_b88x; rw [n_b88x]; exact hA_b88x, z_b88x⟩
    · exact ⟨by show RdSl H2 4 SArm.cells (.slice (some ⟨b162, 0, none⟩) l_b162.length _) l_b162; rw [n_b162]; exact hA_b162, z_b162⟩
    · exact ⟨by show RdSl H2 4 SArm.cells (.slice (some ⟨b162x, 0, none⟩) l_b162x.length _) l_b162x; rw [n_b162x]; exact hA_b162x, z_b162x⟩
    · exact endP_ok
   exact TX.finX (.inr rfl) (results1 rfl (RVal.cellA rfl (.there _ (.there _ (.there _ (.there _ (.there _ (.there _ (.there _ (.there _ (.here _))))))))) rfl)) (fun w hw => hw.drop.drop.drop.drop.drop.drop.drop.drop.drop) ⟨_, [], rfl, hd82_1, rfl, hle, ⟨name, (rolesL.take (4 : Int).toNat), (a22, c22), [⟨[97], [98], l_b55, (some ⟨b55, 0, none⟩, 2)⟩, ⟨[98], [99], l_b88, (some ⟨b88, 0, none⟩, 1)⟩, ⟨[99], [100], l_b88x, (some ⟨b88x, 0, none⟩, 1)⟩, ⟨[98], [99], l_b162, (some ⟨b162, 0, none⟩, 1)⟩, ⟨[99], [100], l_b162x, (some ⟨b162x, 0, none⟩, 1)⟩, endP], (a171, c171)⟩, rfl, ⟨hrs, hP2, hPK⟩, rfl, rfl⟩
theorem mRounds_ok {H : Hp} {bd : Nat} {dl : Value} {at_ : Int} (hd : DiceOk H dl at_) {tv : Value} {types : List Str} (hty : RdSl H 1 Str.cells tv types) (htn : ∀ s ∈ types, TyNm s) (htl : types.length ≤ 100) (name : Str) (many : Int) (h2 : 2 ≤ many) (h4 : many ≤ 4) :
  DFn Tryz.prog bd dl at_ 168 [gs name, .int .i64 many, tv] H (fun v H1 ob => ob = [] ∧ (H.le H1 ∧ ∃ p : SProto, v = .agg p.cells.toArray ∧ ProtoOk H1 p ∧ p.name = name ∧ ∃ n, 2 ≤ n ∧ n ≤ 5 ∧ p.roles = rolesL.take n)) := by
 have key : ∀ {n : Nat}, 2 ≤ n → n ≤ 5 → DFn Tryz.prog bd dl at_ 168 [gs name, .int .i64 many, tv] H (fun v H1 ob => ob = [] ∧ (H.le H1 ∧ ∃ p : SProto, v = .agg p.cells.toArray ∧ ProtoOk H1 p ∧ p.name = name ∧ p.roles = rolesL.take n)) → DFn Tryz.prog bd dl at_ 168 [gs name, .int .i64 many, tv] H (fun v H1 ob => ob = [] ∧ (H.le H1 ∧ ∃ p : SProto, v = .agg p.cells.toArray ∧ ProtoOk H1 p ∧ p.name = name ∧ ∃ n, 2 ≤ n ∧ n ≤ 5 ∧ p.roles = rolesL.take n)) :=
  fun h1 h2 h => FnX.mono h (by
   rintro v H' L' ⟨at', ob, e1, e2, e3, e4, p, e5, e6, e7, e8⟩
   exact ⟨at', ob, e1, e2, e3, e4, p, e5, e6, e7, _, h1, h2, e8⟩)
 rcases (by omega : many = 2 ∨ many = 3 ∨ many = 4) with rfl | rfl | rfl
 · exact key (by omega) (by omega) (mRounds2_ok hd hty htn htl name)
 · exact key (by omega) (by omega) (mRounds3_ok hd hty htn htl name)
 · exact key (by omega) (by omega) (mRounds4_ok hd hty htn htl name)
end Go.Sx
namespace Go.Sx
open Go Go.Proofs
set_option maxHeartbeats 1000000 in
theorem mProtocol_ok {H : Hp} {bd : Nat} {dl : Value} {at_ : Int} (hd : DiceOk H dl at_) {tv : Value} {types : List Str} (hty : RdSl H 1 Str.cells tv types) (htn : ∀ s ∈ types, TyNm s) (htl : types.length ≤ 100) (name : Str) :
  DFn Tryz.prog bd dl at_ 123 [gs name, tv] H (fun v H1 ob => ob = [] ∧ (H.le H1 ∧ ∃ p : SProto, v = .agg p.cells.toArray ∧ ProtoOk H1 p ∧ p.name = name ∧ ∃ n, 2 ≤ n ∧ n ≤ 5 ∧ p.roles = rolesL.take n)) := by
 refine FnX.enter Tryz.func123 Tryz.ntmps123 rfl rfl (fun w0 => ?_)
 refine zm4 ?_
 refine TL.alloc rfl (fun b6 => ?_)
 refine zm33 ?_; refine zm101 ?_
 refine TL.callD0 (X := [(b6, _)]) (bd := bd) rfl (enters rfl rfl rfl rfl) (Pick_ok 4 (by omega) hd) rfl (fun v8 H8 at8 hle8 hd8 hp8 => ?_)
 obtain ⟨eH8, r8, rfl, hr8⟩ := hp8
 replace eH8 := eH8.symm; subst eH8
 have hra8 := hr8.1
 have hrb8 := hr8.2.1 (by omega)
 refine zm210 ?_
 refine TC.condD rfl (fun c9 => ?_) (fun c9 => ?_)
 ·
  refine zm40 ?_
  refine TL.callD0 (X := [(b6, _)]) (bd := bd) rfl (enters rfl rfl rfl rfl) (mAny_ok hd8 hty htn htl name 2 (by omega) (by omega)) rfl (fun v14 H14 at14 hle14 hd14 hp14 => ?_)
  obtain ⟨hle14_, p, rfl, hP, hNm, hRo, hA⟩ := hp14
  refine zm67 ?_; exact TX.blkR (TX.thenR (TX.finX (.inr rfl) (results1 rfl (RVal.cellA rfl (.here _) rfl)) (fun w hw => hw.drop) ⟨_, [], rfl, hd14, rfl, hle14_, p, rfl, hP, hNm, _, by decide, by decide, hRo⟩))
 ·
  refine zm28 ?_
  refine TC.condD rfl (fun c15 => ?_) (fun c15 => ?_)
  ·
   refine zm40 ?_
   refine TL.callD0 (X := [(b6, _)]) (bd := bd) rfl (enters rfl rfl rfl rfl) (Pick_ok 3 (by omega) hd8) rfl (fun v20 H20 at20 hle20 hd20 hp20 => ?_)
   obtain ⟨eH20, r20, rfl, hr20⟩ := hp20
   replace eH20 := eH20.symm; subst eH20
   have hra20 := hr20.1
   have hrb20 := hr20.2.1 (by omega)
   refine zm16 ?_; refine zm0 ?_
   refine TL.callD0 (X := [(b6, _)]) (bd := bd) rfl (enters rfl rfl rfl rfl) (mRounds_ok hd20 hty htn htl name (2 + r20) (by omega) (by omega)) rfl (fun v23 H23 at23 hle23 hd23 hp23 => ?_)
   obtain ⟨hle23_, p, rfl, hP, hNm, n, hn2, hn5, hRo⟩ := hp23
   refine zm67 ?_; exact TX.blkR (TX.thenR (TX.finX (.inr rfl) (results1 rfl (RVal.cellA rfl (.here _) rfl)) (fun w hw => hw.drop) ⟨_, [], rfl, hd23, rfl, hle23_, p, rfl, hP, hNm, n, hn2, hn5, hRo⟩))
  ·
   refine zm28 ?_
   refine TC.condD rfl (fun c24 => ?_) (fun c24 => ?_)
   ·
    refine zm40 ?_
    refine TL.callD0 (X := [(b6, _)]) (bd := bd) rfl (enters rfl rfl rfl rfl) (mAny_ok hd8 hty htn htl name 3 (by omega) (by omega)) rfl (fun v29 H29 at29 hle29 hd29 hp29 => ?_)
    obtain ⟨hle29_, p, rfl, hP, hNm, hRo, hA⟩ := hp29
    refine zm67 ?_; exact TX.blkR (TX.thenR (TX.finX (.inr rfl) (results1 rfl (RVal.cellA rfl (.here _) rfl)) (fun w hw => hw.drop) ⟨_, [], rfl, hd29, rfl, hle29_, p, rfl, hP, hNm, _, by decide, by decide, hRo⟩))
   ·
    refine zm81 ?_; refine zm40 ?_
    refine TL.callD0 (X := [(b6, _)]) (bd := bd) rfl (enters rfl rfl rfl rfl) (mRounds_ok hd8 hty htn htl name 3 (by omega) (by omega)) rfl (fun v33 H33 at33 hle33 hd33 hp33 => ?_)
    obtain ⟨hle33_, p, rfl, hP, hNm, n, hn2, hn5, hRo⟩ := hp33
    refine zm67 ?_
    exact TX.finX (.inr rfl) (results1 rfl (RVal.cellA rfl (.here _) rfl)) (fun w hw => hw.drop) ⟨_, [], rfl, hd33, rfl, hle33_, p, rfl, hP, hNm, n, hn2, hn5, hRo⟩
set_option maxHeartbeats 2000000 in
theorem mTypeNames_ok {H : Hp} (p : SProto) (hp : ProtoOk H p) (h1 : p.name.length ≤ 1000) (h2 : p.roles.length ≤ 100) (h3 : ∀ r ∈ p.roles, r.length ≤ 1000) :
  Fn Tryz.prog 66 [.agg p.cells.toArray] H (fun v H1 => RdSl H1 1 Str.cells v (p.roles.map (fun r => (p.name ++ [46]) ++ r))) := by
 have hro := hp.r
 have hmx := hro.max
 refine Fn.enter Tryz.func66 Tryz.ntmps66 rfl rfl (fun w0 => ?_)
 refine zm4 ?_
 refine TL.box rfl rfl (fun b1 => ?_)
 refine zm2 ?_; refine zm48 ?_
 refine TC.loop4 (V := fun k v ob H1 => [(3, v), (4, .int .i64 k)]) (K := [(1, _), (2, _)]) (L := fun k v ob H1 => St [] w0 H H ((b1, p.cells) :: ob)) (I := fun k v ob H1 => (0 ≤ k ∧ k ≤ p.roles.length) ∧ OwnSl 1 Str.cells v ((p.roles.take k.toNat).map (fun r => (p.name ++ [46]) ++ r)) ob) (μ := fun k => (p.roles.length - k).toNat) 0 (.slice none 0 0) [] H ⟨rfl, rfl, rfl, rfl, trivial⟩ ⟨⟨by omega, by omega⟩, OwnSl.nil⟩ (fun w hw => hw) (fun k v ob H1 hI => ?_)
 obtain ⟨⟨k0, k1⟩, hO⟩ := hI
 refine zm93 ?_; refine TL.run (pr_lenSl rfl rfl hro) rfl ?_; refine zm2 ?_
 refine TC.condD rfl (fun c9 => ?_) (fun c9 => ?_)
 ·
  obtain ⟨x, hx⟩ := getSome (l := p.roles) k0 c9
  have hxl := h3 x (List.mem_of_getElem? hx)
  refine zm290 ?_; refine zm458 ?_; refine zm47 ?_; refine zm42 ?_; refine zm394 ?_; refine zm339 ?_; refine zm253 ?_; refine TF.still (pr_el0 hro hx rfl rfl) rfl ?_; refine zm394 ?_
  refine TF.bslice rfl rfl rfl rfl (fun b22 => ?_)
  refine TF.loud (TL.append (enc := Str.cells) rfl rfl rfl hO (Src.own [(p.name ++ [46]) ++ x] (.here _) rfl rfl) (by simp; omega) rfl (.skip _ (.skip _ .all)) rfl (fun a23 c23 ob23 hO23 => ?_))
  refine TF.back ?_; refine zm5 ?_; refine TF.nil ?_; refine zm188 ?_
  exact TX.round4 (k + 1) _ ob23 H ⟨⟨by omega, by omega⟩, by rw [map_take_snoc k0 hx]; exact hO23⟩ ⟨rfl, rfl, rfl, rfl, trivial⟩ (fun w hw => hw.drop) (by omega)
 ·
  refine zm87 ?_
  refine TX.pubO hO (.skip _ .all) (by simp) (fun H2 hle2 hR => ?_)
  rw [take_all c9 k0] at hR
  exact TX.fin0 (.inr rfl) (results1 rfl (RVal.tmp rfl)) hR
end Go.Sx
