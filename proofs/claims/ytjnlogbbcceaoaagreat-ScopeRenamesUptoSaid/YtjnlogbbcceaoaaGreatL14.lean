import Derived.Test.YtjnlogbbcceaoaaGreatL13
set_option linter.all false
set_option maxRecDepth 100000
set_option maxHeartbeats 32000000
namespace Go.Sx
open Go Go.Proofs
theorem zE {H : Hp} {p : SProto} (role : Str) (hp : ProtoOk H p) (hN : nk p) (hn : p.points.length ≤ 1000) {bw : Nat} {sv : Value} {ob : aq} {rows : List GRow} (hO : OwnSl 1 GRow.cells sv rows ob) (hrw : GRowsOk H rows) (hrl : rows.length ≤ 40) {fv : Value} {frm : List Int} (hf : RdSl H 1 I64.cells fv frm) (hfl : frm.length ≤ 1000) :
  FnX Tryz.prog 125 [.pointer (some ⟨bw, 0, none⟩), fv] H ((bw, WK p role sv) :: ob) (fun v H1 L1 => ∃ sv' ob' rows', L1 = (bw, WK p role sv') :: ob' ∧ OwnSl 1 GRow.cells sv' rows' ob' ∧ GRowsOk H1 rows' ∧ rows'.length ≤ 40 ∧ rows'.map (·.l) = (bY p role (rows.map (·.l)) frm).2.2 ∧ v = .tuple #[.int .i64 (bY p role (rows.map (·.l)) frm).1, .int .i64 (bY p role (rows.map (·.l)) frm).2.1]) := by
 obtain ⟨sva, svc, rfl⟩ := hO.form
 have hsl := jX (role := role) hN (frm := frm)
 have hnl := mZ (p := p) (role := role) (dh p role frm)
 refine FnX.enterM Tryz.func125 Tryz.ntmps125 rfl rfl (fun w0 M hM => ?_)
 refine dN ?_; refine k6 ?_; refine zm364 ?_; refine iA ?_; refine aH (S1 SN) (Hp.le.refl _) (fun _ _ => iZ rfl (.here _) rfl) rfl ?_; refine iA ?_; refine vg ?_; refine zm5 ?_
 refine ar rfl (ki (ab rfl rfl rfl rfl) (zg role hp hN hn hf hfl) rfl (fun v19 H19 ob19 hf19 hle19 hp19 => ?_))
 obtain ⟨eH19, hO19⟩ := hp19
 subst H19
 obtain ⟨a19, c19, rfl⟩ := hO19.form
 refine TL.pubO hO19 (.skip _ (.past _ .all)) (fun p hp hm => absurd (hM _ hm) (Nat.not_lt.2 (hf19 p hp))) (fun HP19 leP19 hA19 => ?_)
 replace hp := hp.le leP19
 replace hrw := hrw.le leP19
 refine au (S1 SN) leP19 ?_; refine zm5 ?_; refine TF.nil (ad ?_); refine k6 ?_; refine zm364 ?_; refine iA ?_; refine aH (S1 SN) (Hp.le.refl _) (fun _ _ => iZ rfl (.here _) rfl) rfl ?_; refine iA ?_
 refine vg ?_; refine zm5 ?_
 refine ar rfl (ki (ab rfl rfl rfl rfl) (zB role hp hA19 (mN hN) (by have := jX (role := role) hN (frm := frm); omega)) rfl (fun v29 H29 ob29 hf29 hle29 hp29 => ?_))
 obtain ⟨eH29, hO29⟩ := hp29
 subst H29
 obtain ⟨a29, c29, rfl⟩ := hO29.form
 refine TL.pubO hO29 (.skip _ (.past _ .all)) (fun p hp hm => absurd (hM _ hm) (Nat.not_lt.2 (hf29 p hp))) (fun HP29 leP29 hB29 => ?_)
 replace hp := hp.le leP29
 replace hrw := hrw.le leP29
 replace hA19 := hA19.le leP29
 have hB1 := hB29
 have hA1 := hA19
 have hp1 := hp
 have hrw1 := hrw
 refine au (S1 SN) leP29 ?_; refine zm5 ?_; refine TF.nil (ad ?_); refine mA ?_
 refine aV (V := fun k v obx H1 => [(8, .int .i64 k)]) (K := [(0, _), (4, _), (5, _), (6, _), (7, _)]) (L := fun k v obx H1 => St M w0 H H1 ((bw, WK p role (.slice sva rows.length svc)) :: ob)) (I := fun k v obx H1 => (0 ≤ k ∧ k ≤ (dh p role frm).length) ∧ HP29.le H1 ∧ ∀ j : Nat, j < k.toNat → ∀ i, (dh p role frm)[j]? = some i → kE p role i = false) (μ := fun k => ((dh p role frm).length - k).toNat) 0 (.slice none 0 0) [] HP29 ky ⟨⟨by omega, by omega⟩, .refl _, fun j h => absurd h (by omega)⟩ (fun w hw => by simpa only [List.append_nil] using hw) (fun k v obx H1 hI => ?_)
 obtain ⟨⟨k0, k1⟩, hI1, hI2⟩ := hI
 have hA2 := hA1.le hI1
 have hB2 := hB1.le hI1
 have hp2 := hp1.le hI1
 replace hrw1 := hrw1.le hI1
 refine f4 ?_; refine TL.run (ai rfl rfl hA2) rfl ?_; refine zm3 ?_
 refine aj (s := 34) rfl (fun g34 => ?_) (fun g34 => ?_)
 ·
  have q34 := of_decide_eq_true g34
  refine cN ?_; refine aw rfl rfl (ai rfl rfl hB2) rfl ?_; refine gW ?_
  refine ag rfl (fun c38 => ?_) (fun c38 => ?_)
  ·
   have hn0 : 0 < (ej p role (dh p role frm)).length := by omega
   obtain ⟨j, hx⟩ := ao (l := (dh p role frm)) k0 (by omega)
   refine vm ?_; refine aU [true] [(0, 1), (1, 1), (2, 1), (3, 4), (4, 1), (5, 1), (6, 1), (7, 4), (8, 1), (9, 1), (10, 1), (11, 4), (12, 5)] (by kernel_rfl) (by kernel_rfl) ?_; refine iA ?_
   refine aH (S1 SN) (Hp.le.refl _) (fun _ _ => iZ rfl (.here _) rfl) rfl ?_; refine iA ?_; refine vg ?_; refine gk ?_
   refine az (af rfl hA2 rfl (by omega) (by omega)) rfl (aH (S1 SN) (Hp.le.refl _) (fun _ _ => aM hA2 hx rfl rfl) rfl (ar rfl (TL.call (ab rfl rfl rfl rfl) (lost_ok role hp2 hN hn j) rfl (fun v53 H53 hle53 hp53 => ?_))))
   replace hrw1 := hrw1.le hle53
   subst hp53
   refine au (S1 SN) hle53 (TF.nil (ad (TC.cond rfl (fun c53 => ?_) (fun c53 => ?_))))
   ·
    refine vX ?_
    have hEq := AJ (sets := rows.map (·.l)) hx c53 hn0
    exact aY (.inr rfl) (cu rfl (RVal.tmp rfl) (RVal.tmp rfl)) (fun w hw => hw) ⟨_, _, rows, rfl, hO, hrw1, hrl, by rw [hEq], by rw [hEq]⟩
   refine ig ?_
   exact aF (k + 1) (.slice none 0 0) [] H53 ⟨⟨by omega, by omega⟩, hI1.trans hle53, fun j2 h2 i hi => by by_cases e : j2 < k.toNat; exact hI2 j2 e i hi; rw [show j2 = k.toNat by omega, hx] at hi; cases hi; simpa using c53⟩ ky (fun w hw => hw) (by omega)
  exact zq374
 have q34 := of_decide_eq_false g34
 refine iR ?_; refine oq ?_
 exact zq374
end Go.Sx
namespace Go.Sx
open Go Go.Proofs
theorem z6 {H : Hp} {p : SProto} (role : Str) (hp : ProtoOk H p) {bw : Nat} {sv : Value} {lv : Value} {l : List Int} (hl : RdSl H 1 I64.cells lv l) (hr : ∀ j ∈ l, 0 ≤ j ∧ j < p.points.length)  :
  KFn Tryz.prog bw (WK p role sv) 174 [.pointer (some ⟨bw, 0, none⟩), lv] H (fun v H1 ob => ob = [] ∧ H1 = H ∧ v = .tuple #[.int .i64 (dA p role l).1, gs (dA p role l).2.1, .int .i64 (dA p role l).2.2]) := by
 have hpt := hp.pt
 have hlm := hl.max
 refine FnX.enter Tryz.func174 Tryz.ntmps174 rfl rfl (fun w0 => ?_)
 refine zm231 ?_; refine dN ?_; refine mA ?_
 refine TC.loop (V := fun (q : Int × Int × Str) => [(7, .int .i64 q.2.1), (8, gs q.2.2), (9, .int .i64 q.1)]) (K := [(0, _), (1, _), (4, _), (5, _), (6, _)]) (L := fun (q : Int × Int × Str) => _) (I := fun (q : Int × Int × Str) => (0 ≤ q.1 ∧ q.1 ≤ l.length) ∧ fB p role q.1.toNat q.2.1 q.2.2 (l.drop q.1.toNat) = dA p role l) (μ := fun (q : Int × Int × Str) => (l.length - q.1).toNat) (i := ((0 : Int), (0 : Int), ([] : Str))) ky ⟨⟨by omega, by omega⟩, rfl⟩ (fun w hw => hw) (fun (q : Int × Int × Str) hI => ?_)
 obtain ⟨⟨k0, k1⟩, hI3⟩ := hI
 refine f4 ?_; refine TL.run (ai rfl rfl hl) rfl ?_; refine zm1 ?_
 refine ag rfl (fun c16 => ?_) (fun c16 => ?_)
 ·
  obtain ⟨j, hx⟩ := ao (l := l) k0 c16
  have hjr := hr j (List.mem_of_getElem? hx)
  obtain ⟨x, hxp⟩ := ao (l := p.points) hjr.1 hjr.2
  refine vm ?_; refine aU [true] [(0, 1), (1, 1), (2, 1), (3, 1), (4, 4), (5, 1), (6, 1), (7, 1), (8, 4), (9, 1), (10, 4), (11, 3), (12, 5)] (by kernel_rfl) (by kernel_rfl) ?_; refine iA ?_; refine zm4 ?_; refine vg ?_
  refine gk ?_
  refine az (af rfl hl rfl (by omega) (by omega)) rfl (aH (S1 SN) (Hp.le.refl _) (fun _ _ => aM hl hx rfl rfl) rfl (az (af rfl hpt rfl (by omega) (by omega)) rfl (aH (S1 SN) (Hp.le.refl _) (fun _ _ => bh hpt hxp rfl rfl) rfl ?_)))
  refine TF.alloc rfl (fun b10 => ?_)
  refine ar rfl ?_; refine fN ?_; refine au (S0 (S1 SN)) (Hp.le.refl _) (TF.nil (ad ?_)); refine nn ?_; refine vh ?_; refine TQ.nil (ad (TC.seq ?_)); refine nn ?_; refine nE ?_
  refine TQ.run (cr rfl) rfl ?_; refine gt ?_; refine TQ.run (aD rfl (.there _ (.here _)) rfl) rfl (TQ.run (bV rfl rfl rfl) rfl (TQ.nil (ad ?_)))
  refine ag rfl (fun c38 => ?_) (fun c38 => ?_)
  ·
   refine xG (by kernel_rfl) (by kernel_rfl) ?_; refine vh ?_; refine TQ.nil (ad ?_); refine f4 ?_; refine zm0 ?_
   refine aj (s := 43) rfl (fun g43 => ?_) (fun g43 => ?_)
   ·
    have q43 := of_decide_eq_true g43
    refine ge ?_; refine ge ?_
    refine aj (s := 47) rfl (fun g47 => ?_) (fun g47 => ?_)
    ·
     have q47 := aP g47
     refine iR ?_; refine gW ?_; refine bO rfl ?_; refine pm ?_; refine km ?_
     refine aY (.inr rfl) (eZ rfl (RVal.tmp rfl) (RVal.tmp rfl) (RVal.tmp rfl)) (fun w hw => hw.drop) ⟨[], rfl, rfl, rfl, by rw [← hI3, iW (role := role) hx hxp (by refine ⟨by omega, fun h => ?_⟩; simp_all)]; rfl⟩
    have q47 := aL g47
    refine ge ?_; refine mB ?_; refine gW ?_
    refine aW rfl (fun c52 => ?_) (fun c52 => ?_)
    ·
     refine pm ?_; refine km ?_
     refine aY (.inr rfl) (eZ rfl (RVal.tmp rfl) (RVal.tmp rfl) (RVal.tmp rfl)) (fun w hw => hw.drop) ⟨[], rfl, rfl, rfl, by rw [← hI3, iW (role := role) hx hxp (by refine ⟨by omega, fun h => ?_⟩; simp_all)]; rfl⟩
    refine d3 ?_; refine pF ?_; refine lq ?_
    exact aR (q.1 + 1, 2, x.frm) ⟨⟨by omega, by omega⟩, by have key := gY (role := role) (kind := q.2.1) (peer := q.2.2) (i := q.1.toNat) hx hxp (by rintro ⟨_, h⟩; apply h; constructor <;> simp_all); rw [if_pos c38, if_pos c38] at key; show fB p role (q.1 + 1).toNat 2 x.frm (l.drop (q.1 + 1).toNat) = dA p role l; rw [show (q.1 + 1).toNat = q.1.toNat + 1 by omega, ← key]; exact hI3⟩ ky (fun w hw => hw.drop) (by omega)
   have q43 := of_decide_eq_false g43
   refine wb ?_; refine eq rfl rfl rfl ?_; refine cI ?_; refine oq ?_; refine d3 ?_; refine pF ?_; refine lq ?_
   exact aR (q.1 + 1, 2, x.frm) ⟨⟨by omega, by omega⟩, by have key := gY (role := role) (kind := q.2.1) (peer := q.2.2) (i := q.1.toNat) hx hxp (by omega); rw [if_pos c38, if_pos c38] at key; show fB p role (q.1 + 1).toNat 2 x.frm (l.drop (q.1 + 1).toNat) = dA p role l; rw [show (q.1 + 1).toNat = q.1.toNat + 1 by omega, ← key]; exact hI3⟩ ky (fun w hw => hw.drop) (by omega)
  refine iS ?_; refine gU ?_
  refine aj (s := 43) rfl (fun g43 => ?_) (fun g43 => ?_)
  ·
   have q43 := of_decide_eq_true g43
   refine ge ?_; refine ge ?_
   refine aj (s := 47) rfl (fun g47 => ?_) (fun g47 => ?_)
   ·
    have q47 := aP g47
    refine iR ?_; refine gW ?_; refine bO rfl ?_; refine pm ?_; refine km ?_
    refine aY (.inr rfl) (eZ rfl (RVal.tmp rfl) (RVal.tmp rfl) (RVal.tmp rfl)) (fun w hw => hw.drop) ⟨[], rfl, rfl, rfl, by rw [← hI3, iW (role := role) hx hxp (by refine ⟨by omega, fun h => ?_⟩; simp_all)]; rfl⟩
   have q47 := aL g47
   refine ge ?_; refine mB ?_; refine gW ?_
   refine aW rfl (fun c52 => ?_) (fun c52 => ?_)
   ·
    refine pm ?_; refine km ?_
    refine aY (.inr rfl) (eZ rfl (RVal.tmp rfl) (RVal.tmp rfl) (RVal.tmp rfl)) (fun w hw => hw.drop) ⟨[], rfl, rfl, rfl, by rw [← hI3, iW (role := role) hx hxp (by refine ⟨by omega, fun h => ?_⟩; simp_all)]; rfl⟩
   refine d3 ?_; refine pF ?_; refine lq ?_
   exact aR (q.1 + 1, 1, x.to) ⟨⟨by omega, by omega⟩, by have key := gY (role := role) (kind := q.2.1) (peer := q.2.2) (i := q.1.toNat) hx hxp (by rintro ⟨_, h⟩; apply h; constructor <;> simp_all); rw [if_neg c38, if_neg c38] at key; show fB p role (q.1 + 1).toNat 1 x.to (l.drop (q.1 + 1).toNat) = dA p role l; rw [show (q.1 + 1).toNat = q.1.toNat + 1 by omega, ← key]; exact hI3⟩ ky (fun w hw => hw.drop) (by omega)
  have q43 := of_decide_eq_false g43
  refine wb ?_; refine eq rfl rfl rfl ?_; refine cI ?_; refine oq ?_; refine d3 ?_; refine pF ?_; refine lq ?_
  exact aR (q.1 + 1, 1, x.to) ⟨⟨by omega, by omega⟩, by have key := gY (role := role) (kind := q.2.1) (peer := q.2.2) (i := q.1.toNat) hx hxp (by omega); rw [if_neg c38, if_neg c38] at key; show fB p role (q.1 + 1).toNat 1 x.to (l.drop (q.1 + 1).toNat) = dA p role l; rw [show (q.1 + 1).toNat = q.1.toNat + 1 by omega, ← key]; exact hI3⟩ ky (fun w hw => hw.drop) (by omega)
 refine fL ?_; refine eJ ?_; refine zm3 ?_; refine eh ?_
 exact aY (.inr rfl) (eZ rfl (RVal.tmp rfl) (RVal.tmp rfl) (RVal.tmp rfl)) (fun w hw => hw) ⟨[], rfl, rfl, rfl, by rw [← hI3, List.drop_eq_nil_of_le (by omega)]; rfl⟩
end Go.Sx
namespace Go.Sx
open Go Go.Proofs
theorem rput_ok {H : Hp} {l : List Str} {v : Value} (s : Str) (hL : RdSl H 1 Str.cells v l) (hlen : l.length ≤ 1000000) :
  Fn Tryz.prog 185 [v, gs s] H (fun r H1 => RdSl H1 1 Str.cells r (cZ l s)) := by
 obtain ⟨va, vc, rfl⟩ := hL.len
 have hrm := hL.room _ _ _ rfl
 refine Fn.enter Tryz.func185 Tryz.ntmps185 rfl rfl (fun w0 => ?_)
 refine kj ?_; refine zm6 ?_
 refine TC.block (TC.loop (V := fun k => [(5, .int .i64 k)]) (K := [(0, _), (1, _), (4, _)]) (L := fun k => _) (I := fun k => 0 ≤ k ∧ k ≤ l.length ∧ cZ l s = l.take k.toNat ++ cZ (l.drop k.toNat) s) (μ := fun k => (l.length - k).toNat) (i := (0 : Int)) ky ⟨by omega, by omega, by simp⟩ (fun w hw => hw) (fun k hI => ?_))
 refine po ?_; refine zm3 ?_
 refine aj (s := 11) rfl (fun g11 => ?_) (fun g11 => ?_)
 ·
  have q11 := of_decide_eq_true g11
  obtain ⟨x, hx⟩ := ao (l := l) hI.1 (by omega)
  refine ge ?_; refine aw rfl rfl (af rfl hL rfl (by omega) (by omega)) rfl (aw rfl rfl (aM hL hx rfl rfl) rfl ?_); refine cN ?_; refine mB ?_; refine zm1 ?_
  refine TC.cond rfl (fun c18 => ?_) (fun c18 => ?_)
  · refine d3 ?_; refine TC.block ?_; refine iw ?_; refine kr ?_; exact bA (aR (k + 1) ⟨by omega, by omega, CK hI.1 hI.2.2 hx (by simp_all)⟩ ky (fun w hw => hw) (by omega))
  refine fL ?_; refine po ?_; refine zm3 ?_
  refine aj (s := 25) rfl (fun g25 => ?_) (fun g25 => ?_)
  ·
   have q25 := of_decide_eq_true g25
   exact zq460
  exact zq432
 have q11 := of_decide_eq_false g11
 refine eB ?_; refine lh ?_; refine oq ?_; refine fL ?_; refine po ?_; refine zm3 ?_
 refine aj (s := 25) rfl (fun g25 => ?_) (fun g25 => ?_)
 ·
  have q25 := of_decide_eq_true g25
  obtain ⟨x, hx⟩ := ao (l := l) hI.1 (by omega)
  exact zq460
 exact zq432
theorem CH {H : Hp} {l : List Str} {v : Value} (s : Str) (hL : RdSl H 1 Str.cells v l) (hlen : l.length ≤ 100000) :
  Fn Tryz.prog 153 [v, gs s] H (fun r H1 => RdSl H1 1 Str.cells r (l.foldl cZ [s])) := by
 obtain ⟨la, lc, rfl⟩ := hL.len
 refine Fn.enter Tryz.func153 Tryz.ntmps153 rfl rfl (fun w0 => ?_)
 refine lz ?_
 refine aB rfl rfl rfl rfl (fun b8 => ?_)
 refine wi ?_
 refine dK (by simp) (fun H_b8 le_b8 rd_b8 => ?_)
 have h8 : RdSl H_b8 1 Str.cells _ [s] := RdSl.blk (cap := 1) rd_b8 (by intro x hx; rfl) (by kernel_rfl) (by simp)
 replace hL := hL.le le_b8
 refine zm8 ?_
 refine aV (V := fun k v ob H1 => [(5, v), (6, .int .i64 k)]) (K := [(0, _), (4, _)]) (L := fun k v ob H1 => St [] w0 H H1 ob) (I := fun k v ob H1 => 0 ≤ k ∧ k ≤ l.length ∧ ob = [] ∧ H_b8.le H1 ∧ RdSl H1 1 Str.cells v ((l.take k.toNat).foldl cZ [s])) (μ := fun k => (l.length - k).toNat) 0 (.slice (some ⟨b8, 0, none⟩) 1 1) [] H_b8 ky ⟨by omega, by omega, rfl, Hp.le.refl _, h8⟩ (fun w hw => hw) (fun k v ob H1 hI => ?_)
 obtain ⟨h0, h1, rfl, hle, hR⟩ := hI
 replace hL := hL.le hle
 refine po ?_; refine zm1 ?_
 refine ag rfl (fun c12 => ?_) (fun c12 => ?_)
 ·
  obtain ⟨x, hx⟩ := ao (l := l) h0 c12
  have hfl := xl s (l.take k.toNat)
  refine jm ?_; refine o3 ?_; refine nL ?_; refine TL.run (aM hL hx rfl rfl) rfl (TL.call (ab rfl rfl rfl rfl) (rput_ok x hR (by simp at hfl; omega)) rfl (fun v20 H20 hle20 hp20 => ?_))
  refine lr ?_
  exact aF (k + 1) _ [] H20 ⟨by omega, by omega, rfl, hle.trans hle20, by rw [bR h0 hx, List.foldl_append]; exact hp20⟩ ky (fun w hw => hw) (by omega)
 refine rA ?_
 exact aQ (.inr rfl) (ae rfl (RVal.tmp rfl)) (by rw [bB c12 h0] at hR; exact hR)
end Go.Sx
namespace Go.Sx
open Go Go.Proofs
theorem wj {H : Hp} {p : SProto} (role : Str) (hp : ProtoOk H p) {bw : Nat} {sv : Value} {lv : Value} {l : List Int} (hl : RdSl H 1 I64.cells lv l) (hr : ∀ j ∈ l, 0 ≤ j ∧ j < p.points.length) (hll : l.length ≤ 1000) (h6 : ∀ x ∈ p.points, x.arms.length ≤ 6)  :
  KFn Tryz.prog bw (WK p role sv) 175 [.pointer (some ⟨bw, 0, none⟩), lv] H (fun v H1 ob => ob = [] ∧ ∃ lv', v = .tuple #[lv', .bool (ni p l)] ∧ RdSl H1 1 Str.cells lv' (eG p l)) := by
 refine FnX.enter Tryz.func175 Tryz.ntmps175 rfl rfl (fun w0 => ?_)
 refine dN ?_; refine jq ?_
 refine aV (V := fun k v ob H1 => [(6, v), (7, .int .i64 k)]) (K := [(0, _), (1, _), (4, _), (5, _)]) (L := fun k v ob H1 => St (keys [(bw, WK p role sv)]) w0 H H1 [(bw, WK p role sv)]) (I := fun k v ob H1 => (0 ≤ k ∧ k ≤ l.length) ∧ H.le H1 ∧ RdSl H1 1 Str.cells v (mj p [] (l.take k.toNat))) (μ := fun k => (l.length - k).toNat) 0 (.slice none 0 0) [] H ky ⟨⟨by omega, by omega⟩, .refl _, RdSl.nil⟩ (fun w hw => hw) (fun k v ob H1 hI => ?_)
 obtain ⟨⟨k0, k1⟩, hIA, hI3⟩ := hI
 have hp1 := hp.le hIA
 have hl1 := hl.le hIA
 have hpt1 := hp1.pt
 have hlm := hl.max
 refine f4 ?_; refine TL.run (ai rfl rfl hl1) rfl ?_; refine zm1 ?_
 refine ag rfl (fun c14 => ?_) (fun c14 => ?_)
 ·
  obtain ⟨j, hx⟩ := ao (l := l) k0 c14
  have hjr := hr j (List.mem_of_getElem? hx)
  obtain ⟨x, hxp⟩ := ao (l := p.points) hjr.1 hjr.2
  have hxa := (hp1.ps x (List.mem_of_getElem? hxp)).a
  have hx6 := h6 x (List.mem_of_getElem? hxp)
  have hln := xd h6 (l.take k.toNat) []
  have hlt := List.length_take_le k.toNat l
  have hlt2 : (l.take k.toNat).length ≤ l.length := by rw [List.length_take]; omega
  simp only [List.length_nil] at hln
  refine pf ?_; refine sq ?_; refine gt ?_; refine vh ?_
  refine TQ.run (af rfl hl1 rfl (by omega) (by omega)) rfl (TQ.run (aM hl1 hx rfl rfl) rfl (TQ.run (af rfl hpt1 rfl (by omega) (by omega)) rfl ?_)); refine gt ?_; refine TQ.run (br hpt1 hxp rfl rfl) rfl ?_
  refine kL ?_; refine jg ?_
  refine aV (V := fun m v ob H2 => [(6, v), (9, .int .i64 m)]) (K := [(0, _), (1, _), (4, _), (5, _), (7, _), (8, _), (11, _), (12, _), (13, _), (14, _), (17, _), (18, _), (19, _), (20, _), (21, _), (22, _), (23, _), (24, _), (25, _), (26, _), (27, _), (28, _)]) (L := fun m v ob H2 => St (keys [(bw, WK p role sv)]) w0 H H2 [(bw, WK p role sv)]) (I := fun m v ob H2 => (0 ≤ m ∧ m ≤ x.arms.length) ∧ H1.le H2 ∧ RdSl H2 1 Str.cells v (jM (mj p [] (l.take k.toNat)) (x.arms.take m.toNat))) (μ := fun m => (x.arms.length - m).toNat) 0 v [] H1 ky ⟨⟨by omega, by omega⟩, .refl _, hI3⟩ (fun w hw => hw) (fun m v ob H2 hI => ?_)
  obtain ⟨⟨m0, m1⟩, hI2, hI3⟩ := hI
  have hxa2 := hxa.le hI2
  have hxm := hxa.max
  refine f4 ?_; refine TL.run (ai rfl rfl hxa2) rfl ?_; refine zm1 ?_
  refine ag rfl (fun c32 => ?_) (fun c32 => ?_)
  ·
   obtain ⟨a, ha⟩ := ao (l := x.arms) m0 c32
   have hla := qN (mj p [] (l.take k.toNat)) (x.arms.take m.toNat)
   have hlt3 : (x.arms.take m.toNat).length ≤ x.arms.length := by rw [List.length_take]; omega
   refine jm ?_; refine o3 ?_; refine TL.run (af rfl hxa2 rfl (by omega) (by omega)) rfl ?_; refine zm7 ?_
   refine TL.run (br hxa2 ha rfl rfl) rfl (TL.call (ab rfl rfl rfl rfl) (CH a.label hI3 (by omega)) rfl (fun v41 H41 hle41 hp41 => ?_))
   refine lr ?_
   exact aF (m + 1) v41 [] H41 ⟨⟨by omega, by omega⟩, hI2.trans hle41, by rw [AO m0 ha]; exact hp41⟩ ky (fun w hw => hw) (by omega)
  refine vi ?_
  exact aF (k + 1) v [] H2 ⟨⟨by omega, by omega⟩, hIA.trans hI2, by rw [AN k0 hx hxp]; rw [show x.arms.take m.toNat = x.arms from List.take_of_length_le (by omega)] at hI3; exact hI3⟩ ky (fun w hw => hw) (by omega)
 refine pH ?_
 rw [List.take_of_length_le (by omega)] at hI3
 have hO : RdSl H1 1 Str.cells v (eG p l) := hI3
 refine zm8 ?_
 refine TC.loop (V := fun k => [(10, .int .i64 k)]) (K := [(0, _), (1, _), (4, _), (5, _), (6, _)]) (L := fun k => _) (I := fun k => (0 ≤ k ∧ k ≤ l.length) ∧ l.all (nU p (eG p l).length) = (l.drop k.toNat).all (nU p (eG p l).length)) (μ := fun k => (l.length - k).toNat) (i := (0 : Int)) ky ⟨⟨by omega, by omega⟩, rfl⟩ (fun w hw => hw) (fun k hI => ?_)
 obtain ⟨⟨k0, k1⟩, hal⟩ := hI
 refine f4 ?_; refine TL.run (ai rfl rfl hl1) rfl ?_; refine zm1 ?_
 refine ag rfl (fun c45 => ?_) (fun c45 => ?_)
 ·
  obtain ⟨j, hx⟩ := ao (l := l) k0 c45
  have hjr := hr j (List.mem_of_getElem? hx)
  obtain ⟨x, hxp⟩ := ao (l := p.points) hjr.1 hjr.2
  have hxa := (hp1.ps x (List.mem_of_getElem? hxp)).a
  refine pf ?_; refine sq ?_; refine gt ?_; refine vh ?_
  refine TQ.run (af rfl hl1 rfl (by omega) (by omega)) rfl (TQ.run (aM hl1 hx rfl rfl) rfl (TQ.run (af rfl hpt1 rfl (by omega) (by omega)) rfl ?_)); refine gt ?_
  refine TQ.run (br hpt1 hxp rfl rfl) rfl (TQ.run (ai rfl rfl hxa) rfl (TQ.run (ah rfl) rfl (TQ.run (ai rfl rfl hO) rfl ?_))); refine kL ?_
  refine aW rfl (fun c63 => ?_) (fun c63 => ?_)
  ·
   refine pm ?_; refine it ?_
   exact aY (.inr rfl) (cu rfl (RVal.tmp rfl) (RVal.tmp rfl)) (fun w hw => hw) ⟨[], rfl, rfl, _, by rw [show ni p l = false from dx (p := nU p (eG p l).length) k0 hx (by unfold nU; rw [hxp]; simpa using c63) hal], hO⟩
  refine ig ?_
  exact aR (k + 1) ⟨⟨by omega, by omega⟩, cj (p := nU p (eG p l).length) k0 hx (by unfold nU; rw [hxp]; simpa using c63) hal⟩ ky (fun w hw => hw) (by omega)
 refine fL ?_; refine pm ?_
 exact aY (.inr rfl) (cu rfl (RVal.tmp rfl) (RVal.tmp rfl)) (fun w hw => hw) ⟨[], rfl, rfl, _, by rw [show ni p l = true from cW (p := nU p (eG p l).length) k0 c45 hal], hO⟩
end Go.Sx
namespace Go.Sx
open Go Go.Proofs
theorem eqCar (k k' : Int) (s s' : Str) : gP Tryz.prog 4 40 [.int .i64 k, gs s] [.int .i64 k', gs s'] = some (decide (k = k' ∧ s = s')) := by
 have h : gP Tryz.prog 4 40 [.int .i64 k, gs s] [.int .i64 k', gs s'] = some ((k == k') && (((ByteArray.mk s.toArray).toList == (ByteArray.mk s'.toArray).toList) && true)) := by kernel_rfl
 rw [h, m9, m9]
 by_cases h1 : k = k' <;> by_cases h2 : s = s' <;> simp [h1, h2]
theorem lJ {H : Hp} {p : SProto} (role : Str) (hp : ProtoOk H p) {bw : Nat} {sv : Value} {lv : Value} {l : List Int} (hl : RdSl H 1 I64.cells lv l) (hr : ∀ j ∈ l, 0 ≤ j ∧ j < p.points.length) (s : Str) (hll : l.length ≤ 1000)  :
  KFn Tryz.prog bw (WK p role sv) 176 [.pointer (some ⟨bw, 0, none⟩), lv, gs s] H (fun v H1 ob => H1 = H ∧ ∃ tv, v = .tuple #[.agg #[.int .i64 (el p l s).1, gs (el p l s).2.1], tv, .bool (el p l s).2.2.2] ∧ ((el p l s).2.2.2 = true → OwnSl 1 I64.cells tv (el p l s).2.2.1 ob)) := by
 have hpt := hp.pt
 have hlm := hl.max
 refine FnX.enter Tryz.func176 Tryz.ntmps176 rfl rfl (fun w0 => ?_)
 refine zm2 ?_
 refine TL.alloc rfl (fun b6 => ?_)
 refine kK ?_; refine zm2 ?_
 refine TL.alloc rfl (fun b9 => ?_)
 refine TL.nil (ad ?_); refine jq ?_
 refine aV (V := fun (q : Int × Int × Str) v ob H1 => [(10, v), (11, .int .i64 q.1)]) (K := [(0, _), (1, _), (2, _), (6, _), (7, _), (8, _), (9, _)]) (L := fun (q : Int × Int × Str) v ob H1 => St (keys [(bw, WK p role sv)]) w0 H H ((b9, [.int .i64 q.2.1, gs q.2.2]) :: (b6, [.int .i64 0, gs []]) :: (bw, WK p role sv) :: ob)) (I := fun (q : Int × Int × Str) v ob H1 => (0 ≤ q.1 ∧ q.1 ≤ l.length) ∧ ∃ to, OwnSl 1 I64.cells v to ob ∧ ja p s q.2.1 q.2.2 to (l.drop q.1.toNat) = el p l s ∧ to.length ≤ q.1.toNat) (μ := fun (q : Int × Int × Str) => (l.length - q.1).toNat) ((0 : Int), (0 : Int), ([] : Str)) (.slice none 0 0) [] H ky ⟨⟨by omega, by omega⟩, [], OwnSl.nil, rfl, by simp⟩ (fun w hw => hw) (fun q v ob H1 hI => ?_)
 obtain ⟨⟨k0, k1⟩, to, hO, hI3, hI4⟩ := hI
 obtain ⟨va, vc, rfl⟩ := hO.form
 refine f4 ?_; refine TL.run (ai rfl rfl hl) rfl ?_; refine zm1 ?_
 refine ag rfl (fun c17 => ?_) (fun c17 => ?_)
 ·
  obtain ⟨j, hx⟩ := ao (l := l) k0 c17
  have hjr := hr j (List.mem_of_getElem? hx)
  obtain ⟨x, hxp⟩ := ao (l := p.points) hjr.1 hjr.2
  have hxa := (hp.ps x (List.mem_of_getElem? hxp)).a
  have hfr := l4 (x.arms.map (·.label)) s
  rw [List.length_map] at hfr
  refine pf ?_; refine sq ?_; refine gt ?_; refine gt ?_; refine TQ.run (aD rfl (.there _ (.there _ (.here _))) rfl) rfl ?_; refine iB ?_
  refine TQ.run (af rfl hl rfl (by omega) (by omega)) rfl (TQ.run (aM hl hx rfl rfl) rfl (TQ.run (af rfl hpt rfl (by omega) (by omega)) rfl ?_)); refine gt ?_; refine TQ.run (br hpt hxp rfl rfl) rfl ?_
  refine kL ?_; refine eJ ?_; refine ay (ab rfl rfl rfl rfl) (x2 s hxa) rfl ?_; refine nF ?_
  refine ag rfl (fun c36 => ?_) (fun c36 => ?_)
  ·
   refine TC.exit (bv (bS (ad ?_))); refine iw ?_; refine kr ?_
   exact aF (q.1 + 1, q.2) _ ob H ⟨⟨by omega, by omega⟩, _, hO, by rw [show (q.1 + 1).toNat = q.1.toNat + 1 by omega, ← A4 hx hxp c36]; exact hI3, by omega⟩ ky (fun w hw => hw) (by omega)
  obtain ⟨a, ha⟩ := ao (l := x.arms) (i := cx (x.arms.map (·.label)) s) (by omega) (by omega)
  refine iS ?_; refine nn ?_; refine TQ.run (ah rfl) rfl (TQ.run (bG rfl rfl hO) rfl ?_); refine iB ?_
  refine fK (s := 40) rfl (fun g40 => ?_) (fun g40 => ?_)
  ·
   have q40 := of_decide_eq_true g40
   refine lo ?_; refine bC rfl rfl (af rfl hxa rfl (by omega) (by omega)) rfl ?_; refine iT ?_
   refine bC rfl rfl (mV hxa ha rfl rfl) rfl (bC rfl rfl (bu rfl (.here _) rfl) rfl (bC rfl rfl (qt rfl rfl (by kernel_rfl) (by kernel_rfl) (eqCar _ _ _ _)) rfl ?_)); refine kL ?_
   refine TC.cond rfl (fun c48 => ?_) (fun c48 => ?_)
   ·
    refine gu ?_; refine rP ?_; refine ff ?_; refine km ?_
    have hE : el p l s = (q.2.1, q.2.2, [], false) := by rw [← hI3]; exact DE hx hxp c36 ha ⟨by omega, fun h => by simp [h.1, h.2] at c48⟩
    exact aY (.inr rfl) (eZ rfl (RVal.cellA rfl (.there _ (.here _)) rfl) (RVal.tmp rfl) (RVal.tmp rfl)) (fun w hw => hw.drop.drop) ⟨ob, rfl, rfl, _, by rw [hE]; rfl, fun h => by rw [hE] at h ⊢; first | exact hO | cases h⟩
   refine vE ?_; refine TL.run (af rfl hxa rfl (by omega) (by omega)) rfl ?_; refine zm7 ?_; refine TL.run (mV hxa ha rfl rfl) rfl ?_; refine fu ?_; refine o3 ?_; refine vj ?_
   refine aB rfl rfl rfl rfl (fun b61 => ?_)
   refine TL.append (enc := I64.cells) rfl rfl rfl hO (Src.own [a.next] (.here _) rfl rfl) (by simp; omega) rfl (.skip _ (.skip _ (.skip _ (.skip _ .all)))) rfl (fun a62 c62 ob62 hO62 => ?_)
   refine lr ?_
   exact aF (q.1 + 1, a.ck, a.cn) _ ob62 H ⟨⟨by omega, by omega⟩, _, hO62, by rw [show (q.1 + 1).toNat = q.1.toNat + 1 by omega, ← tT hx hxp c36 ha (by rintro ⟨h1, h2⟩; exact h2 (by simpa using c48))]; exact hI3, by simp only [List.length_append, List.length_cons, List.length_nil]; omega⟩ ky (fun w hw => hw.drop) (by omega)
  have q40 := of_decide_eq_false g40
  refine BL ?_; refine jf rfl rfl rfl rfl (jf rfl rfl rfl rfl (jf rfl rfl rfl rfl ?_)); refine kL ?_; refine dG rfl ?_; refine vE ?_; refine TL.run (af rfl hxa rfl (by omega) (by omega)) rfl ?_
  refine zm7 ?_; refine TL.run (mV hxa ha rfl rfl) rfl ?_; refine fu ?_; refine o3 ?_; refine vj ?_
  refine aB rfl rfl rfl rfl (fun b61 => ?_)
  refine TL.append (enc := I64.cells) rfl rfl rfl hO (Src.own [a.next] (.here _) rfl rfl) (by simp; omega) rfl (.skip _ (.skip _ (.skip _ (.skip _ .all)))) rfl (fun a62 c62 ob62 hO62 => ?_)
  refine lr ?_
  exact aF (q.1 + 1, a.ck, a.cn) _ ob62 H ⟨⟨by omega, by omega⟩, _, hO62, by rw [show (q.1 + 1).toNat = q.1.toNat + 1 by omega, ← tT hx hxp c36 ha (by omega)]; exact hI3, by simp only [List.length_append, List.length_cons, List.length_nil]; omega⟩ ky (fun w hw => hw.drop) (by omega)
 refine fL ?_; refine gu ?_; refine zm0 ?_; refine rP ?_; refine ff ?_
 have hE : el p l s = (q.2.1, q.2.2, to, true) := by rw [← hI3]; exact (by rw [List.drop_eq_nil_of_le (by omega)]; rfl)
 exact aY (.inr rfl) (eZ rfl (RVal.cellA rfl (.there _ (.here _)) rfl) (RVal.tmp rfl) (RVal.tmp rfl)) (fun w hw => hw.drop.drop) ⟨ob, rfl, rfl, _, by rw [hE]; rfl, fun h => by rw [hE] at h ⊢; first | exact hO | cases h⟩
end Go.Sx
namespace Go.Sx
open Go Go.Proofs
theorem turn_ok {H : Hp} {p : SProto} (role : Str) (hp : ProtoOk H p) (hN : nk p) (hn : p.points.length ≤ 1000) {bw : Nat} {sv : Value} {ob : aq} {rows : List GRow} (hO : OwnSl 1 GRow.cells sv rows ob) (hrw : GRowsOk H rows) (hrl : rows.length ≤ 40) (h6 : ∀ x ∈ p.points, x.arms.length ≤ 6) {fv : Value} {set : List Int} (hf : RdSl H 1 I64.cells fv set) (hr : ∀ j ∈ set, 0 ≤ j ∧ j < p.points.length) (hfl : set.length ≤ 1000) :
  FnX Tryz.prog 126 [.pointer (some ⟨bw, 0, none⟩), fv] H ((bw, WK p role sv) :: ob) (fun v H1 L1 => ∃ sv' ob' rows' av oa, L1 = (bw, WK p role sv') :: (ob' ++ oa) ∧ OwnSl 1 GRow.cells sv' rows' ob' ∧ GRowsOk H1 rows' ∧ rows'.length ≤ 40 ∧ rows'.map (·.l) = (bM p role (rows.map (·.l)) set).2.2 ∧ OwnSl 4 SArm.cells av (bM p role (rows.map (·.l)) set).1.2.2 oa ∧ v = .tuple #[.agg #[.int .i64 (bM p role (rows.map (·.l)) set).1.1, gs (bM p role (rows.map (·.l)) set).1.2.1, av], .int .i64 (bM p role (rows.map (·.l)) set).2.1]) := by
 refine FnX.enterM Tryz.func126 Tryz.ntmps126 rfl rfl (fun w0 M hM => ?_)
 refine zm2 ?_
 refine TL.alloc rfl (fun b4 => ?_)
 refine sC ?_; refine TL.run (ai rfl rfl hf) rfl ?_; refine zm1 ?_
 refine ag rfl (fun c24 => ?_) (fun c24 => ?_)
 ·
  refine vf ?_
  have hE : bM p role (rows.map (·.l)) set = ((0, [], []), 0, rows.map (·.l)) := by unfold bM; rw [if_pos (by omega)]
  exact aY (.inr rfl) (cu rfl (RVal.cellA rfl (.here _) rfl) (RVal.tmp rfl)) (fun w hw => by rw [List.append_nil]; exact hw.drop) ⟨_, ob, rows, .slice none 0 0, [], rfl, hO, hrw, hrl, by rw [hE], by rw [hE]; exact OwnSl.nil, by rw [hE]; rfl⟩
 refine vE ?_
 refine mx (X := [(b4, _)]) (b := bw) rfl (ab rfl rfl rfl rfl) (z6 role hp hf hr) rfl (fun v29 H29 ob29 hle29 hf29 hp29 => ?_)
 obtain ⟨eb29, eH29, rfl⟩ := hp29
 subst eb29
 replace eH29 := eH29.symm
 subst eH29
 rw [List.append_nil]
 refine pK ?_; refine zm3 ?_; refine nF ?_
 refine aW rfl (fun c34 => ?_) (fun c34 => ?_)
 ·
  refine kq ?_; refine zm0 ?_; refine Bx ?_
  have hE : bM p role (rows.map (·.l)) set = ((0, [], []), (dA p role set).2.2, rows.map (·.l)) := by unfold bM; rw [if_neg (by omega), if_pos c34]
  exact aY (.inr rfl) (cu rfl (RVal.cellA rfl (.here _) rfl) (RVal.tmp rfl)) (fun w hw => by rw [List.append_nil]; exact hw.drop) ⟨_, ob, rows, .slice none 0 0, [], rfl, hO, hrw, hrl, by rw [hE], by rw [hE]; exact OwnSl.nil, by rw [hE]; rfl⟩
 have h34 : ¬ (dA p role set).2.2 ≠ 0 := by simpa using c34
 refine vE ?_
 refine mx (X := [(b4, _)]) (b := bw) rfl (ab rfl rfl rfl rfl) (wj role hp hf hr hfl h6) rfl (fun v40 H40 ob40 hle40 hf40 hp40 => ?_)
 obtain ⟨eb40, lv40, rfl, hlab⟩ := hp40
 subst eb40
 rw [List.append_nil]
 replace hp := hp.le hle40
 replace hf := hf.le hle40
 replace hrw := hrw.le hle40
 obtain ⟨la, lc, rfl⟩ := hlab.len
 have hlm := hlab.max
 refine pK ?_; refine iv ?_; refine gU ?_
 refine aj (s := 45) rfl (fun g45 => ?_) (fun g45 => ?_)
 ·
  have q45 := of_decide_eq_true g45
  refine ge ?_; refine zm1 ?_
  refine TC.cond rfl (fun c48 => ?_) (fun c48 => ?_)
  ·
   refine vf ?_
   have hE : bM p role (rows.map (·.l)) set = ((0, [], []), 803, rows.map (·.l)) := by unfold bM; rw [if_neg (by omega), if_neg h34, if_pos ⟨q45, by simpa using c48⟩]
   exact aY (.inr rfl) (cu rfl (RVal.cellA rfl (.here _) rfl) (RVal.tmp rfl)) (fun w hw => by rw [List.append_nil]; exact hw.drop) ⟨_, ob, rows, .slice none 0 0, [], rfl, hO, hrw, hrl, by rw [hE], by rw [hE]; exact OwnSl.nil, by rw [hE]; rfl⟩
  exact zq470
 have q45 := of_decide_eq_false g45
 refine lh ?_; refine oq ?_
 exact zq470
end Go.Sx
namespace Go.Sx
open Go Go.Proofs
theorem gy {H : Hp} (s : Str) :
  FnS Tryz.prog 51 [gs s] H (.bool (aG s)) := by
 refine FnS.enter Tryz.func51 Tryz.ntmps51 rfl rfl (fun w0 => ?_)
 refine ln ?_; refine TL.run (eo rfl rfl) rfl ?_; refine zm3 ?_
 refine aj (s := 7) rfl (fun g7 => ?_) (fun g7 => ?_)
 · exact zq42
 have q7 := of_decide_eq_false g7
 refine cN ?_; refine aw rfl rfl (eo rfl rfl) rfl ?_; refine dD ?_
 refine aj (s := 12) rfl (fun g12 => ?_) (fun g12 => ?_)
 ·
  have q12 := of_decide_eq_true g12
  exact zq44
 have q12 := of_decide_eq_false g12
 refine cN ?_
 have hlen : (0 : Int) < s.length := by have := of_decide_eq_false g7; omega
 obtain ⟨c0, hc0⟩ := ao (l := s) (i := 0) (by omega) hlen
 refine aw rfl rfl (f7 rfl rfl (by omega) hc0) rfl (aK rfl rfl (ab rfl rfl rfl rfl) (nW c0) rfl ?_); refine dD ?_
 refine aj (s := 18) rfl (fun g18 => ?_) (fun g18 => ?_)
 · exact zq50
 refine cN ?_; refine aK rfl rfl (ab rfl rfl rfl rfl) (um s) rfl ?_; refine zm1 ?_
 refine TC.cond rfl (fun c21 => ?_) (fun c21 => ?_)
 · exact zq56
 have hn := m4 g7 g12 hc0 g18 c21
 have hl12 : (s.length : Int) ≤ 12 := by have := of_decide_eq_false g12; omega
 refine mC ?_
 refine TC.loop (V := fun k => [(3, .int .i64 k)]) (K := [(0, _), (2, _)]) (L := fun k => _) (I := fun k => 1 ≤ k ∧ k ≤ s.length ∧ (s.drop 1).all eO = (s.drop k.toNat).all eO) (μ := fun k => (s.length - k).toNat) (i := (1 : Int)) ky ⟨by omega, by omega, rfl⟩ (fun w hw => hw) (fun k hI => ?_)
 refine f4 ?_; refine TL.run (eo rfl rfl) rfl ?_; refine zm1 ?_
 refine ag rfl (fun c25 => ?_) (fun c25 => ?_)
 ·
  refine dC ?_
  obtain ⟨c, hc⟩ := ao (l := s) (i := k) (by omega) c25
  refine zm3 ?_; refine TL.run (f7 rfl rfl (by omega) hc) rfl (ay (ab rfl rfl rfl rfl) (nW c) rfl ?_); refine zm3 ?_
  refine aj (s := 33) rfl (fun g33 => ?_) (fun g33 => ?_)
  · refine ge ?_; exact aw rfl rfl (f7 rfl rfl (by omega) hc) rfl (aK rfl rfl (ab rfl rfl rfl rfl) (xX c) rfl (zq36))
  refine rz ?_; refine oq ?_
  exact zq35
 refine gv ?_
 exact zq20
theorem qq {H : Hp} (s : Str) (hs : s.length ≤ 4294960000) :
  FnS Tryz.prog 183 [gs s] H (.bool (jT s)) := by
 refine FnS.enter Tryz.func183 Tryz.ntmps183 rfl rfl (fun w0 => ?_)
 refine jq ?_
 refine TC.loop (V := fun k => [(3, .int .i64 k)]) (K := [(0, _), (2, _)]) (L := fun k => _) (I := fun k => (0 ≤ k ∧ k ≤ s.length) ∧ ∀ j : Nat, j < k.toNat → s[j]? ≠ some 46) (μ := fun k => (s.length - k).toNat) (i := (0 : Int)) ky ⟨⟨by omega, by omega⟩, fun j h => absurd h (by omega)⟩ (fun w hw => hw) (fun k hI => ?_)
 obtain ⟨⟨k0, k1⟩, hn⟩ := hI
 refine f4 ?_; refine TL.run (eo rfl rfl) rfl ?_; refine zm1 ?_
 refine ag rfl (fun c7 => ?_) (fun c7 => ?_)
 ·
  obtain ⟨c, hc⟩ := ao (l := s) k0 c7
  refine pB ?_; refine TL.run (f7 rfl rfl (by omega) hc) rfl ?_; refine zm1 ?_
  refine ag rfl (fun c13 => ?_) (fun c13 => ?_)
  ·
   have hcd : s[k.toNat]? = some 46 := by rw [hc]; congr 1; exact u8_of c13
   refine eJ ?_; refine TL.run (pr_strH rfl rfl (by omega) (by omega)) rfl (ay (ab rfl rfl rfl rfl) (gy (s.take k.toNat)) rfl ?_); refine zm0 ?_
   refine aj (s := 18) rfl (fun g18 => ?_) (fun g18 => ?_)
   ·
    refine ge ?_; refine zm290 ?_; refine aw rfl rfl (pr_strL rfl rfl (by omega) (by omega)) rfl (aK rfl rfl (ab rfl rfl rfl rfl) (gy (s.drop (k + 1).toNat)) rfl ?_); refine ff ?_; refine it ?_
    exact ax (.inr rfl) (ae rfl (RVal.tmp rfl)) (congrArg Value.bool (by first | (rw [kN k0 hcd hn]; simp_all; done) | exact (jx (fun j hj => hn j (by omega))).symm))
   refine rz ?_; refine ff ?_; refine it ?_
   exact ax (.inr rfl) (ae rfl (RVal.tmp rfl)) (congrArg Value.bool (by first | (rw [kN k0 hcd hn]; simp_all; done) | exact (jx (fun j hj => hn j (by omega))).symm))
  refine ig ?_
  exact aR (k + 1) ⟨⟨by omega, by omega⟩, fun j hj => by by_cases e : j < k.toNat; exact hn j e; rw [show j = k.toNat by omega, hc]; intro e2; exact c13 (by cases e2; rfl)⟩ ky (fun w hw => hw) (by omega)
 refine fL ?_; refine d7 ?_; refine ay (ab rfl rfl rfl rfl) (gy s) rfl ?_; refine eh ?_
 exact ax (.inr rfl) (ae rfl (RVal.tmp rfl)) (congrArg Value.bool (by first | (rw [kN k0 hcd hn]; simp_all; done) | exact (jx (fun j hj => hn j (by omega))).symm))
theorem mU {H : Hp} (ck : Int) (cn : Str) (hn : cn.length ≤ 4294960000) :
  FnS Tryz.prog 148 [.agg #[.int .i64 ck, gs cn]] H (.bool (dt ck cn)) := by
 refine FnS.enter Tryz.func148 Tryz.ntmps148 rfl rfl (fun w0 => ?_)
 refine zm2 ?_
 refine TL.box rfl rfl (fun b1 => ?_)
 refine iv ?_; refine oY ?_
 refine ag rfl (fun c5 => ?_) (fun c5 => ?_)
 ·
  refine fw ?_; refine ay (ab rfl rfl rfl rfl) (qq cn hn) rfl ?_; refine rS ?_
  exact ax (.inr rfl) (ae rfl (RVal.tmp rfl)) (congrArg Value.bool (by first | exact (kf c5).symm | (rw [fp c5]; simp_all; done) | (rw [fp c5]; simp_all; omega)))
 refine d3 ?_; refine fw ?_; refine zm3 ?_
 refine aj (s := 12) rfl (fun g12 => ?_) (fun g12 => ?_)
 ·
  have q12 := of_decide_eq_true g12
  refine pN ?_
  refine aj (s := 17) rfl (fun g17 => ?_) (fun g17 => ?_)
  ·
   have q17 := of_decide_eq_true g17
   refine rT ?_; refine ff ?_
   exact ax (.inr rfl) (ae rfl (RVal.tmp rfl)) (congrArg Value.bool (by first | exact (kf c5).symm | (rw [fp c5]; simp_all; done) | (rw [fp c5]; simp_all; omega)))
  have q17 := of_decide_eq_false g17
  refine vZ ?_
  exact ax (.inr rfl) (ae rfl (RVal.tmp rfl)) (congrArg Value.bool (by first | exact (kf c5).symm | (rw [fp c5]; simp_all; done) | (rw [fp c5]; simp_all; omega)))
 have q12 := of_decide_eq_false g12
 refine jt ?_; refine vZ ?_
 exact ax (.inr rfl) (ae rfl (RVal.tmp rfl)) (congrArg Value.bool (by first | exact (kf c5).symm | (rw [fp c5]; simp_all; done) | (rw [fp c5]; simp_all; omega)))
theorem rF {H : Hp} {l : List SArm} {v : Value} (n : Int) (hA : RdSl H 4 SArm.cells v l) (hz : ∀ a ∈ l, a.cn.length ≤ 4294960000) :
  FnS Tryz.prog 98 [v, .int .i64 n] H (.bool (d6 l n)) := by
 have hmax := hA.max
 refine FnS.enter Tryz.func98 Tryz.ntmps98 rfl rfl (fun w0 => ?_)
 refine jq ?_
 refine TC.loop (V := fun k => [(5, .int .i64 k)]) (K := [(0, _), (1, _), (4, _)]) (L := fun k => _) (I := fun k => (0 ≤ k ∧ k ≤ l.length) ∧ l.all (fi n) = (l.drop k.toNat).all (fi n) ∧ ((l.map (·.label)).take k.toNat).Nodup) (μ := fun k => (l.length - k).toNat) (i := (0 : Int)) ky ⟨⟨by omega, by omega⟩, rfl, List.nodup_nil⟩ (fun w hw => hw) (fun k hI => ?_)
 obtain ⟨⟨k0, k1⟩, hal, hnd⟩ := hI
 refine f4 ?_; refine TL.run (ai rfl rfl hA) rfl ?_; refine zm1 ?_
 refine ag rfl (fun c10 => ?_) (fun c10 => ?_)
 ·
  obtain ⟨a, hx⟩ := ao (l := l) k0 c10
  refine jm ?_; refine TC.seq (cf (!fi n a) 45 [(0, _), (1, _), (4, _), (5, _), (7, _), (8, _), (9, _), (10, _)] ky ?_ ?_)
  ·
   refine jh ?_; refine TL.run (af rfl hA rfl (by omega) (by omega)) rfl ?_; refine zm7 ?_; refine TL.run (br hA hx rfl rfl) rfl (ay (ab rfl rfl rfl rfl) (gy a.label) rfl ?_); refine zm3 ?_
   refine aj (s := 20) rfl (fun g20 => ?_) (fun g20 => ?_)
   ·
    refine eB ?_; refine lI ?_; refine pj ?_; refine lf ?_
    exact a8 rfl (by unfold fi; first | (simp_all; done) | (simp_all; omega)) ky
   refine ge ?_; refine aw rfl rfl (af rfl hA rfl (by omega) (by omega)) rfl ?_; refine jn ?_
   refine aw rfl rfl (mV hA hx rfl rfl) rfl (aK rfl rfl (ab rfl rfl rfl rfl) (mU a.ck a.cn (hz a (List.mem_of_getElem? hx))) rfl ?_); refine dD ?_
   refine aj (s := 29) rfl (fun g29 => ?_) (fun g29 => ?_)
   ·
    refine pM ?_; refine lf ?_
    exact a8 rfl (by unfold fi; first | (simp_all; done) | (simp_all; omega)) ky
   refine ge ?_; refine aw rfl rfl (af rfl hA rfl (by omega) (by omega)) rfl ?_; refine jn ?_; refine aw rfl rfl (br hA hx rfl rfl) rfl ?_; refine dD ?_
   refine aj (s := 37) rfl (fun g37 => ?_) (fun g37 => ?_)
   ·
    have q37 := of_decide_eq_true g37
    refine eB ?_; refine lf ?_
    exact a8 rfl (by unfold fi; first | (simp_all; done) | (simp_all; omega)) ky
   have q37 := of_decide_eq_false g37
   refine ge ?_; refine aw rfl rfl (af rfl hA rfl (by omega) (by omega)) rfl ?_; refine jn ?_; refine aw rfl rfl (br hA hx rfl rfl) rfl ?_; refine ge ?_; refine dP ?_
   exact a8 rfl (by unfold fi; first | (simp_all; done) | (simp_all; omega)) ky
  refine TC.cond rfl (fun c45 => ?_) (fun c45 => ?_)
  ·
   refine iu ?_; refine km ?_
   exact ax (.inr rfl) (ae rfl (RVal.tmp rfl)) (congrArg Value.bool (Aq k0 hx (by simpa using c45) hal))
  have ha : fi n a = true := by simpa using c45
  refine d3 ?_; refine jg ?_
  refine TC.loop (V := fun m => [(6, .int .i64 m)]) (K := [(0, _), (1, _), (4, _), (5, _), (7, _), (8, _), (9, _), (10, _), (45, _)]) (L := fun m => _) (I := fun m => 0 ≤ m ∧ m ≤ k ∧ ∀ j : Nat, j < m.toNat → (l.map (·.label))[j]? ≠ some a.label) (μ := fun m => (k - m).toNat) (i := (0 : Int)) ky ⟨by omega, by omega, fun j h => absurd h (by omega)⟩ (fun w hw => hw) (fun m hI => ?_)
  obtain ⟨m0, m1, hI2⟩ := hI
  refine f4 ?_; refine zm1 ?_
  refine ag rfl (fun c48 => ?_) (fun c48 => ?_)
  ·
   obtain ⟨b, hb⟩ := ao (l := l) m0 (by omega)
   refine Bw ?_; refine TQ.run (af rfl hA rfl (by omega) (by omega)) rfl ?_; refine gt ?_; refine TQ.run (br hA hb rfl rfl) rfl ?_; refine iB ?_; refine TQ.run (af rfl hA rfl (by omega) (by omega)) rfl ?_
   refine gt ?_; refine TQ.run (br hA hx rfl rfl) rfl (TQ.run (bV rfl rfl rfl) rfl (TQ.nil (ad ?_)))
   refine ag rfl (fun c61 => ?_) (fun c61 => ?_)
   ·
    refine or ?_; refine al (aN ?_); refine it ?_
    exact ax (.inr rfl) (ae rfl (RVal.tmp rfl)) (congrArg Value.bool (Ap k0 m0 c48 hx hb c61))
   refine ig ?_
   exact aR (m + 1) ⟨by omega, by omega, fun j hj => by by_cases e : j < m.toNat; exact hI2 j e; rw [show j = m.toNat by omega, ik hb]; intro e2; exact c61 (by simpa using e2)⟩ ky (fun w hw => hw) (by omega)
  refine vi ?_
  exact aR (k + 1) ⟨⟨by omega, by omega⟩, cj (p := fi n) k0 hx ha hal, CG k0 hx hnd (by omega) hI2⟩ ky (fun w hw => hw) (by omega)
 refine fL ?_; refine d7 ?_; refine TL.run (ai rfl rfl hA) rfl ?_; refine zm3 ?_
 refine aj (s := 65) rfl (fun g65 => ?_) (fun g65 => ?_)
 ·
  have q65 := of_decide_eq_true g65
  refine cN ?_; refine aw rfl rfl (ai rfl rfl hA) rfl ?_; refine cN ?_; refine ff ?_
  exact ax (.inr rfl) (ae rfl (RVal.tmp rfl)) (congrArg Value.bool (te k0 c10 hal hnd (by first | (simp_all; done) | (simp_all; omega))))
 have q65 := of_decide_eq_false g65
 refine vZ ?_
 exact ax (.inr rfl) (ae rfl (RVal.tmp rfl)) (congrArg Value.bool (te k0 c10 hal hnd (by first | (simp_all; done) | (simp_all; omega))))
end Go.Sx
namespace Go.Sx
open Go Go.Proofs
theorem xY {H : Hp} {l : List Str} {v : Value} (s : Str) (hL : RdSl H 1 Str.cells v l) :
  FnS Tryz.prog 147 [v, gs s] H (.int .i64 (cx l s)) := by
 have hmax := hL.max
 refine FnS.enter Tryz.func147 Tryz.ntmps147 rfl rfl (fun w0 => ?_)
 refine jq ?_
 refine TC.loop (V := fun k => [(5, .int .i64 k)]) (K := [(0, _), (1, _), (4, _)]) (L := fun k => _) (I := fun k => 0 ≤ k ∧ k ≤ l.length ∧ ∀ j : Nat, j < k.toNat → l[j]? ≠ some s) (μ := fun k => (l.length - k).toNat) (i := (0 : Int)) ky ⟨by omega, by omega, fun j hj => absurd hj (by simp)⟩ (fun w hw => hw) (fun k hI => ?_)
 refine po ?_; refine zm1 ?_
 refine ag rfl (fun c9 => ?_) (fun c9 => ?_)
 ·
  obtain ⟨x, hx⟩ := ao (l := l) hI.1 c9
  refine pB ?_; refine nL ?_; refine TL.run (aM hL hx rfl rfl) rfl ?_; refine vY ?_
  refine ag rfl (fun c17 => ?_) (fun c17 => ?_)
  ·
   refine vX ?_
   exact ax (.inr rfl) (ae rfl (RVal.tmp rfl)) (congrArg (Value.int .i64) (by first | exact (ef hI.1 (by rw [hx, c17]) hI.2.2).symm | exact (fl hI.2.2 c9).symm))
  refine ig ?_
  exact aR (k + 1) ⟨by omega, by omega, kU hI.1 hI.2.2 hx c17⟩ ky (fun w hw => hw) (by omega)
 refine gv ?_
 exact ax (.inr rfl) (ae rfl (RVal.tmp rfl)) (congrArg (Value.int .i64) (by first | exact (ef hI.1 (by rw [hx, c17]) hI.2.2).symm | exact (fl hI.2.2 c9).symm))
theorem lW {H : Hp} {l : List Str} {v : Value} (s : Str) (hL : RdSl H 1 Str.cells v l) :
  FnS Tryz.prog 97 [v, gs s] H (.bool (cq l s)) := by
 refine FnS.enter Tryz.func97 Tryz.ntmps97 rfl rfl (fun w0 => ?_)
 refine sE ?_; refine ay (ab rfl rfl rfl rfl) (xY s hL) rfl ?_; refine ff ?_
 exact ax (.inr rfl) (ae rfl (RVal.tmp rfl)) (congrArg Value.bool (by rw [← qS]))
theorem Ar {H : Hp} {l : List Str} {v : Value} (hL : RdSl H 1 Str.cells v l) :
  FnS Tryz.prog 96 [v] H (.bool (dj l)) := by
 have hmax := hL.max
 obtain ⟨la, lc, rfl⟩ := hL.len
 have hroom := hL.room _ _ _ rfl
 refine FnS.enter Tryz.func96 Tryz.ntmps96 rfl rfl (fun w0 => ?_)
 refine jq ?_
 refine TC.loop (V := fun k => [(3, .int .i64 k)]) (K := [(0, _), (2, _)]) (L := fun k => _) (I := fun k => 0 ≤ k ∧ k ≤ l.length ∧ (l.take k.toNat).Nodup) (μ := fun k => (l.length - k).toNat) (i := (0 : Int)) ky ⟨by omega, by omega, List.nodup_nil⟩ (fun w hw => hw) (fun k hI => ?_)
 refine po ?_; refine zm1 ?_
 refine ag rfl (fun c7 => ?_) (fun c7 => ?_)
 ·
  obtain ⟨x, hx⟩ := ao (l := l) hI.1 c7
  refine Bw ?_; refine TQ.run (tw rfl rfl (by omega) (by omega)) rfl ?_; refine iB ?_
  refine TQ.run (af rfl hL rfl (by omega) (by omega)) rfl (TQ.run (aM hL hx rfl rfl) rfl (gR (ab rfl rfl rfl rfl) (lW x (hL.sliced (i := 0) (j := k.toNat) (by omega) (by omega))) rfl (TQ.nil ?_)))
  refine ad (TC.cond rfl (fun c17 => ?_) (fun c17 => ?_))
  ·
   refine nJ ?_
   exact ax (.inr rfl) (ae rfl (RVal.tmp rfl)) (congrArg Value.bool (by first | exact (l6 c7 hI.1 hI.2.2).symm | exact (wX hI.1 hx c17).symm))
  refine ig ?_
  exact aR (k + 1) ⟨by omega, by omega, kO hI.1 hx hI.2.2 (has_not c17)⟩ ky (fun w hw => hw) (by omega)
 refine gv ?_
 exact ax (.inr rfl) (ae rfl (RVal.tmp rfl)) (congrArg Value.bool (by first | exact (l6 c7 hI.1 hI.2.2).symm | exact (wX hI.1 hx c17).symm))
end Go.Sx
namespace Go.Sx
open Go Go.Proofs
theorem ic {H : Hp} (p : SProto) (hP : ProtoOk H p) :
  FnS Tryz.prog 49 [.agg p.cells.toArray] H (.bool (dF p)) := by
 have hr := hP.r
 have hpt := hP.pt
 have hrm := hr.max
 have hpm := hpt.max
 refine FnS.enter Tryz.func49 Tryz.ntmps49 rfl rfl (fun w0 => ?_)
 refine zm2 ?_
 refine TL.box rfl rfl (fun b1 => ?_)
 refine iv ?_
 refine cf (!jj p) 39 [(1, _), (2, _)] ⟨rfl, rfl, trivial⟩ ?_ ?_
 ·
  refine oX ?_; refine ay (ab rfl rfl rfl rfl) (gy p.name) rfl ?_; refine zm3 ?_
  refine aj (s := 10) rfl (fun g10 => ?_) (fun g10 => ?_)
  ·
   refine vR ?_; refine pb ?_; refine dP ?_
   exact a8 rfl (by unfold jj; by_cases h24 : (24 : Int) < p.points.length <;> by_cases h24b : (p.points.length : Int) ≤ 24 <;> first | (exfalso; omega) | (simp_all; done) | (simp_all; omega)) ⟨rfl, rfl, trivial⟩
  refine zm9 ?_; refine aw rfl rfl (ai rfl rfl hr) rfl ?_; refine dD ?_
  refine aj (s := 16) rfl (fun g16 => ?_) (fun g16 => ?_)
  ·
   have q16 := of_decide_eq_true g16
   refine vR ?_; refine dP ?_
   exact a8 rfl (by unfold jj; by_cases h24 : (24 : Int) < p.points.length <;> by_cases h24b : (p.points.length : Int) ≤ 24 <;> first | (exfalso; omega) | (simp_all; done) | (simp_all; omega)) ⟨rfl, rfl, trivial⟩
  have q16 := of_decide_eq_false g16
  refine zm9 ?_; refine aw rfl rfl (ai rfl rfl hr) rfl ?_; refine dD ?_
  refine aj (s := 22) rfl (fun g22 => ?_) (fun g22 => ?_)
  ·
   have q22 := of_decide_eq_true g22
   refine uZ ?_; refine dP ?_
   exact a8 rfl (by unfold jj; by_cases h24 : (24 : Int) < p.points.length <;> by_cases h24b : (p.points.length : Int) ≤ 24 <;> first | (exfalso; omega) | (simp_all; done) | (simp_all; omega)) ⟨rfl, rfl, trivial⟩
  have q22 := of_decide_eq_false g22
  refine zm9 ?_; refine aK rfl rfl (ab rfl rfl rfl rfl) (Ar hr) rfl ?_; refine dD ?_
  refine aj (s := 28) rfl (fun g28 => ?_) (fun g28 => ?_)
  ·
   refine ns ?_; refine dP ?_
   exact a8 rfl (by unfold jj; by_cases h24 : (24 : Int) < p.points.length <;> by_cases h24b : (p.points.length : Int) ≤ 24 <;> first | (exfalso; omega) | (simp_all; done) | (simp_all; omega)) ⟨rfl, rfl, trivial⟩
  refine zm9 ?_; refine aw rfl rfl (ai rfl rfl hpt) rfl ?_; refine dD ?_
  refine aj (s := 34) rfl (fun g34 => ?_) (fun g34 => ?_)
  ·
   have q34 := of_decide_eq_true g34
   refine mE ?_
   exact a8 rfl (by unfold jj; by_cases h24 : (24 : Int) < p.points.length <;> by_cases h24b : (p.points.length : Int) ≤ 24 <;> first | (exfalso; omega) | (simp_all; done) | (simp_all; omega)) ⟨rfl, rfl, trivial⟩
  have q34 := of_decide_eq_false g34
  refine zm9 ?_; refine aw rfl rfl (ai rfl rfl hpt) rfl ?_; refine ii ?_
  exact a8 rfl (by unfold jj; by_cases h24 : (24 : Int) < p.points.length <;> by_cases h24b : (p.points.length : Int) ≤ 24 <;> first | (exfalso; omega) | (simp_all; done) | (simp_all; omega)) ⟨rfl, rfl, trivial⟩
 refine TC.cond rfl (fun c39 => ?_) (fun c39 => ?_)
 ·
  refine o8 ?_
  exact ax (.inr rfl) (ae rfl (RVal.tmp rfl)) (congrArg Value.bool (by first | exact lT c39 | exact lS hr1 | exact lR hp1 | exact lQ hh hr1 hp1))
 have hh : jj p = true := by simpa using c39
 refine mC ?_
 refine TC.loop (V := fun k => [(3, .int .i64 k)]) (K := [(1, _), (2, _)]) (L := fun k => _) (I := fun k => (0 ≤ k ∧ k ≤ p.roles.length) ∧ p.roles.all aG = (p.roles.drop k.toNat).all aG) (μ := fun k => (p.roles.length - k).toNat) (i := (0 : Int)) ky ⟨⟨by omega, by omega⟩, rfl⟩ (fun w hw => hw) (fun k hI => ?_)
 obtain ⟨⟨k0, k1⟩, hal⟩ := hI
 refine pq ?_; refine TL.run (ai rfl rfl hr) rfl ?_; refine zm1 ?_
 refine ag rfl (fun c44 => ?_) (fun c44 => ?_)
 ·
  obtain ⟨y, hy⟩ := ao (l := p.roles) k0 c44
  refine jm ?_; refine lG ?_; refine TL.run (af rfl hr rfl (by omega) (by omega)) rfl (TL.run (aM hr hy rfl rfl) rfl (ay (ab rfl rfl rfl rfl) (gy y) rfl ?_)); refine zm1 ?_
  refine TC.cond rfl (fun c53 => ?_) (fun c53 => ?_)
  ·
   have hr1 := dx (p := aG) k0 hy (by simpa using c53) hal
   refine nJ ?_
   exact ax (.inr rfl) (ae rfl (RVal.tmp rfl)) (congrArg Value.bool (by first | exact lT c39 | exact lS hr1 | exact lR hp1 | exact lQ hh hr1 hp1))
  refine ig ?_
  exact aR (k + 1) ⟨⟨by omega, by omega⟩, cj (p := aG) k0 hy (by simpa using c53) hal⟩ ky (fun w hw => hw) (by omega)
 have hr1 := cW (p := aG) k0 c44 hal
 refine vn ?_
 refine TC.loop (V := fun k => [(4, .int .i64 k)]) (K := [(1, _), (2, _)]) (L := fun k => _) (I := fun k => (0 ≤ k ∧ k ≤ p.points.length) ∧ p.points.all (db p.roles p.points.length) = (p.points.drop k.toNat).all (db p.roles p.points.length)) (μ := fun k => (p.points.length - k).toNat) (i := (0 : Int)) ky ⟨⟨by omega, by omega⟩, rfl⟩ (fun w hw => hw) (fun k hI => ?_)
 obtain ⟨⟨k0, k1⟩, hal⟩ := hI
 refine pq ?_; refine TL.run (ai rfl rfl hpt) rfl ?_; refine zm1 ?_
 refine ag rfl (fun c58 => ?_) (fun c58 => ?_)
 ·
  obtain ⟨x, hx⟩ := ao (l := p.points) k0 c58
  have hxa := (hP.ps x (List.mem_of_getElem? hx)).a
  have hxz := (hP.ps x (List.mem_of_getElem? hx)).z
  have hxm := hxa.max
  refine jm ?_; refine lG ?_; refine TL.run (af rfl hpt rfl (by omega) (by omega)) rfl (TL.run (bh hpt hx rfl rfl) rfl (TL.alloc rfl (fun b5 => ?_)))
  refine o6 ?_
  refine cf (eR x) 79 [(1, _), (2, _), (4, _), (5, _), (54, _), (55, _), (56, _), (57, _), (58, _), (61, _), (62, _), (63, _), (64, _), (65, _)] ky ?_ ?_
  ·
   refine vT ?_
   refine aj (s := 69) rfl (fun g69 => ?_) (fun g69 => ?_)
   ·
    have q69 := of_decide_eq_true g69
    refine o7 ?_
    refine aj (s := 74) rfl (fun g74 => ?_) (fun g74 => ?_)
    ·
     have q74 := of_decide_eq_true g74
     refine zm9 ?_; refine aw rfl rfl (ai rfl rfl hxa) rfl ?_; refine ii ?_
     exact a8 rfl (by unfold eR; simp_all) ky
    have q74 := of_decide_eq_false g74
    refine mE ?_
    exact a8 rfl (by unfold eR; simp_all) ky
   have q69 := of_decide_eq_false g69
   refine vP ?_
   exact a8 rfl (by unfold eR; simp_all) ky
  refine TC.cond rfl (fun c79 => ?_) (fun c79 => ?_)
  ·
   refine TC.exit (bv (bS (ad ?_))); refine iw ?_; refine kr ?_
   exact aR (k + 1) ⟨⟨by omega, by omega⟩, cj (p := (db p.roles p.points.length)) k0 hx (by first | exact rpt_1 c79 | exact rpt_2 c109) hal⟩ ky (fun w hw => hw.drop) (by omega)
  refine d3 ?_
  refine cf (!x0 p.roles p.points.length x) 109 [(1, _), (2, _), (4, _), (5, _), (54, _), (55, _), (56, _), (57, _), (58, _), (61, _), (62, _), (63, _), (64, _), (65, _), (79, _)] ky ?_ ?_
  ·
   refine oX ?_; refine fz ?_; refine ll ?_
   refine aj (s := 85) rfl (fun g85 => ?_) (fun g85 => ?_)
   ·
    have q85 := of_decide_eq_true g85
    refine pM ?_; refine pj ?_; refine lf ?_
    exact a8 rfl (by unfold x0 eQ; simp_all) ky
   have q85 := of_decide_eq_false g85
   refine kw ?_; refine aK rfl rfl (ab rfl rfl rfl rfl) (lW x.frm hr) rfl ?_; refine dD ?_
   refine aj (s := 93) rfl (fun g93 => ?_) (fun g93 => ?_)
   ·
    refine pM ?_; refine lf ?_
    exact a8 rfl (by unfold x0 eQ; simp_all) ky
   refine kw ?_; refine aK rfl rfl (ab rfl rfl rfl rfl) (lW x.to hr) rfl ?_; refine dD ?_
   refine aj (s := 101) rfl (fun g101 => ?_) (fun g101 => ?_)
   ·
    refine eB ?_; refine lf ?_
    exact a8 rfl (by unfold x0 eQ; simp_all) ky
   refine zm9 ?_; refine fM ?_; refine aw rfl rfl (ai rfl rfl hpt) rfl (aK rfl rfl (ab rfl rfl rfl rfl) (rF p.points.length hxa hxz) rfl ?_); refine ii ?_
   exact a8 rfl (by unfold x0 eQ; simp_all) ky
  refine TC.cond rfl (fun c109 => ?_) (fun c109 => ?_)
  ·
   have hp1 := dx (p := (db p.roles p.points.length)) k0 hx (rpt_3 c79 c109) hal
   refine nJ ?_
   exact ax (.inr rfl) (ae rfl (RVal.tmp rfl)) (congrArg Value.bool (by first | exact lT c39 | exact lS hr1 | exact lR hp1 | exact lQ hh hr1 hp1))
  refine ig ?_
  exact aR (k + 1) ⟨⟨by omega, by omega⟩, cj (p := (db p.roles p.points.length)) k0 hx (by first | exact rpt_1 c79 | exact rpt_2 c109) hal⟩ ky (fun w hw => hw.drop) (by omega)
 have hp1 := cW (p := (db p.roles p.points.length)) k0 c58 hal
 refine gv ?_
 exact ax (.inr rfl) (ae rfl (RVal.tmp rfl)) (congrArg Value.bool (by first | exact lT c39 | exact lS hr1 | exact lR hp1 | exact lQ hh hr1 hp1))
end Go.Sx
namespace Go.Sx
open Go Go.Proofs
theorem zj {H : Hp} (p : SProto) (role : Str) (hp : ProtoOk H p) (hnm : p.name.length ≤ 1000) (hrl : role.length ≤ 1000) {B : Nat} (hB : ∀ x ∈ p.points, ∀ a ∈ x.arms, a.cn.length ≤ B) (hB2 : B ≤ 4294960000) :
  Fn Tryz.prog 67 [.agg p.cells.toArray, gs role] H (fun v H1 => ∃ nm ts tp, v = .tuple #[.agg (SLocal.cells ⟨nm, ts, tp⟩).toArray, .int .i64 (dM p role).1] ∧ ((dM p role).1 = 0 → nm = (p.name ++ [46]) ++ role ∧ LocalOk H1 ⟨nm, ts, tp⟩ ∧ ts.map tt = (dM p role).2)) := by
 refine Fn.enter Tryz.func67 Tryz.ntmps67 rfl rfl (fun w0 => ?_)
 refine zm2 ?_
 refine TL.box rfl rfl (fun b2 => ?_)
 refine TL.alloc rfl (fun b4 => ?_)
 refine wi ?_; refine k9 ?_; refine ay (ab rfl rfl rfl rfl) (ic p hp) rfl ?_; refine zm3 ?_
 refine aj (s := 16) rfl (fun g16 => ?_) (fun g16 => ?_)
 ·
  refine rz ?_; refine nM ?_; refine vf ?_
  have hE : (dM p role).1 = 800 := by unfold dM; rw [if_pos (by first | exact c22 | simp_all)]
  exact aQ (.inr rfl) (cu rfl (RVal.cellA rfl (.here _) rfl) (RVal.tmp rfl)) ⟨[], [], (none, 0), by rw [hE]; rfl, fun h => absurd (hE.symm.trans h) (by decide)⟩
 refine fM ?_; refine cN ?_; refine aK rfl rfl (ab rfl rfl rfl rfl) (lW role hp.r) rfl ?_; refine gW ?_
 refine TC.cond rfl (fun c22 => ?_) (fun c22 => ?_)
 ·
  refine vf ?_
  have hE : (dM p role).1 = 800 := by unfold dM; rw [if_pos (by first | exact c22 | simp_all)]
  exact aQ (.inr rfl) (cu rfl (RVal.cellA rfl (.here _) rfl) (RVal.tmp rfl)) ⟨[], [], (none, 0), by rw [hE]; rfl, fun h => absurd (hE.symm.trans h) (by decide)⟩
 have hrh : (dF p && cq p.roles role) = true := by simp_all
 have hRP := RPOk.of (p := p) (by simp_all)
 refine pQ ?_; refine k9 ?_; refine zm0 ?_; refine dy ?_
 refine TL.box rfl rfl (fun b27 => ?_)
 refine dP ?_; refine nB ?_; refine nB ?_
 obtain ⟨bw, hbw⟩ : ∃ bw, bw = b27 := ⟨_, rfl⟩
 subst hbw
 refine ad ?_; refine d7 ?_
 refine aB rfl rfl rfl rfl (fun b30 => ?_)
 refine dK (by simp) (fun H_b30 le_b30 rd_b30 => ?_)
 have hA30 : RdSl H_b30 1 I64.cells (.slice (some ⟨b30, 0, none⟩) 1 1) [0] := RdSl.blk (l := [0]) (enc := I64.cells) rd_b30 (by intro x hx; rfl) rfl (by show 1 ≤ 9223372036854775807; decide)
 replace hp := hp.le le_b30
 refine nj (X := [(b4, _), (b2, _)]) (A := (bw, _) :: []) (Y := []) rfl (ab rfl rfl rfl rfl) (zE role hp hRP.nx (by have := hRP.n24; omega) (OwnSl.nil (enc := GRow.cells)) (rows := []) (by intro r hr; simp at hr) (by simp) hA30 (by simp)) rfl (fun v31 H31 A31 hle31 hp31 => ?_)
 obtain ⟨sv31, ob31, rows31, rfl, hO31, hrw31, hrl31, hm31, rfl⟩ := hp31
 replace hp := hp.le hle31
 rw [List.append_nil]
 have hm31' : rows31.map (·.l) = (bY p role [] [0]).2.2 := hm31
 refine pK ?_; refine nF ?_
 refine aW rfl (fun c35 => ?_) (fun c35 => ?_)
 ·
  have c35b : (bY p role [] [0]).2.1 ≠ 0 := c35
  refine kq ?_; refine zm0 ?_; refine Bx ?_
  have hE : (dM p role).1 = (bY p role [] [0]).2.1 := by unfold dM; rw [if_neg (by rw [hrh]; decide), if_pos c35b]
  exact aQ (.inr rfl) (cu rfl (RVal.cellA rfl (.here _) rfl) (RVal.tmp rfl)) ⟨[], [], (none, 0), by rw [hE]; rfl, fun h => absurd (hE.symm.trans h) (c35b)⟩
 have h35 : ¬ (bY p role [] [0]).2.1 ≠ 0 := by simpa using c35
 refine d3 ?_; refine gS ?_; refine TL.run (dU rfl rfl (by simp only [List.length_append, List.length_cons, List.length_nil]; omega)) rfl ?_; refine zm0 ?_
 refine TL.run (dU rfl rfl (by simp only [List.length_append, List.length_cons, List.length_nil]; omega)) rfl ?_; refine dy ?_
 refine TL.alloc rfl (fun b9 => ?_)
 refine fu ?_; refine mA ?_
 have hlk := qK (p := p) (role := role) hRP.nx (sets := []) (frm := [0]) (by intro s hs; simp at hs)
 refine TC.loop (ι := TQ2) (V := fun q => [(10, .int .i64 q.k)]) (K := [(4, _), (5, _), (6, _), (9, _)]) (L := fun q => St [] w0 H q.h ((b9, [gs ((p.name ++ [46]) ++ role), q.v]) :: (b4, [gs [], .slice none 0 0]) :: (b2, p.cells) :: (bw, WK p role q.sv) :: (q.ob ++ q.oa))) (I := fun q => (0 ≤ q.k ∧ q.k ≤ q.rows.length) ∧ H31.le q.h ∧ OwnSl 1 GRow.cells q.sv q.rows q.ob ∧ GRowsOk q.h q.rows ∧ q.rows.length ≤ 40 ∧ OwnSl 3 STurn.cells q.v q.ts q.oa ∧ kn p role (41 - q.k.toNat) q.k.toNat (q.rows.map (·.l)) (q.ts.map tt) = kn p role 41 0 (rows31.map (·.l)) [] ∧ jS p.points.length (q.rows.map (·.l)) ∧ (∀ t ∈ q.ts, TurnOk q.h t) ∧ (q.ts.length : Int) = q.k) (μ := fun q => (41 - q.k).toNat) (i := ⟨0, H31, _, ob31, rows31, .slice none 0 0, [], []⟩) ky ⟨⟨by show (0 : Int) ≤ 0; omega, by show (0 : Int) ≤ _; omega⟩, .refl _, hO31, hrw31, hrl31, OwnSl.nil, rfl, by rw [hm31']; exact hlk, by simp, rfl⟩ (fun w hw => by rw [List.append_nil]; exact hw) (fun q hI => ?_)
 obtain ⟨⟨k0, k1⟩, hq2, hq3, hq4, hq5, hq6, hq7, hSO, hq9, hq10⟩ := hI
 rw [hm31'] at hq7
 have hp2 := hp.le hq2
 obtain ⟨va, vc, hv⟩ := hq6.form
 refine f4 ?_; refine eU ?_; refine kv ?_; refine TL.run (bG rfl rfl hq3) rfl ?_; refine zm1 ?_
 refine ag rfl (fun c50 => ?_) (fun c50 => ?_)
 ·
  obtain ⟨r, hrx⟩ := ao (l := q.rows) k0 c50
  have hs : (q.rows.map (·.l))[q.k.toNat]? = some r.l := by rw [List.getElem?_map, hrx]; rfl
  have hsr := hSO _ (List.mem_of_getElem? hs)
  have hsl : r.l.length ≤ 1000 := by have := hRP.n24; have := hsr.2; omega
  refine pB ?_; refine eU ?_; refine kv ?_; refine zm0 ?_
  refine TL.run (cv rfl rfl hq3 (by omega) (by omega)) rfl (TL.run (dO (j := 0) rfl hq3 (.skip _ (.skip _ (.skip _ (.skip _ (.app _))))) hrx rfl) rfl (nj (X := [(b9, _), (b4, _), (b2, _)]) (A := (bw, _) :: q.ob) rfl (ab rfl rfl rfl rfl) (turn_ok role hp2 hRP.nx (by have := hRP.n24; omega) hq3 hq4 hq5 hRP.a6 (hq4 r (List.mem_of_getElem? hrx)) hsr.1 hsl) rfl (fun v62 H62 A62 hle62 hp62 => ?_)))
  obtain ⟨sv62, ob62, rows62, av62, oa62, rfl, hO62, hrw62, hrl62, hm62, hA62, rfl⟩ := hp62
  obtain ⟨aa62, ac62, rfl⟩ := hA62.form
  refine zm3 ?_; refine zm0 ?_
  refine TL.alloc rfl (fun b11 => ?_)
  refine fN ?_; refine nF ?_
  refine aW rfl (fun c66 => ?_) (fun c66 => ?_)
  ·
   refine kq ?_; refine zm0 ?_; refine cF rfl rfl rfl rfl rfl (.there _ (.there _ (.here _))) rfl rfl ?_; refine eh ?_; refine km ?_
   have hE : (dM p role).1 = (bM p role (q.rows.map (·.l)) r.l).2.1 := by unfold dM; rw [if_neg (by rw [hrh]; decide), if_neg h35, ← hq7, show 41 - q.k.toNat = (40 - q.k.toNat) + 1 by omega, wG hs c66]
   exact aQ (.inr rfl) (cu rfl (RVal.cellA rfl (.there _ (.there _ (.here _))) rfl) (RVal.tmp rfl)) ⟨[], [], (none, 0), by rw [hE]; rfl, fun h => absurd (hE.symm.trans h) (c66)⟩
  refine rk (perm_as [(b11, _), (b9, _), (b4, _), (b2, _)]) (TC.pubO hA62 (.skip _ (.skip _ (.skip _ (.skip _ (.skip _ ((.past _ (.app _)))))))) (by simp) (fun HP62 leP62 hT62 => ?_))
  rw [List.nil_append]
  replace hrw62 := hrw62.le leP62
  have hTk : TurnOk HP62 ⟨(bM p role (q.rows.map (·.l)) r.l).1.1, (bM p role (q.rows.map (·.l)) r.l).1.2.1, (bM p role (q.rows.map (·.l)) r.l).1.2.2, (aa62, ac62)⟩ := ⟨hT62, fun a ha => Nat.le_trans (Cd hB a ha) hB2⟩
  have hge : q.rows.length ≤ rows62.length := by have h1 := congrArg List.length hm62; rw [List.length_map] at h1; rw [h1]; have h2 := wm (p := p) (role := role) (set := r.l) (sets := q.rows.map (·.l)); rwa [List.length_map] at h2
  refine d3 ?_; refine nH ?_; refine f2 ?_
  refine aB rfl rfl rfl rfl (fun b72 => ?_)
  refine TL.append (enc := STurn.cells) rfl rfl rfl hq6 (Src.own [⟨(bM p role (q.rows.map (·.l)) r.l).1.1, (bM p role (q.rows.map (·.l)) r.l).1.2.1, (bM p role (q.rows.map (·.l)) r.l).1.2.2, (aa62, ac62)⟩] (.here _) rfl rfl) (by simp only [List.length_cons, List.length_nil]; omega) rfl (.skip _ (.skip _ (.skip _ (.skip _ (.skip _ (.skip _ (.past _ .all))))))) rfl (fun a73 c73 ob73 hO73 => ?_)
  refine pD ?_; refine lq ?_
  exact aR (⟨q.k + 1, HP62, sv62, ob62, rows62, _, ob73, q.ts ++ [⟨(bM p role (q.rows.map (·.l)) r.l).1.1, (bM p role (q.rows.map (·.l)) r.l).1.2.1, (bM p role (q.rows.map (·.l)) r.l).1.2.2, (aa62, ac62)⟩]⟩ : TQ2) ⟨⟨by show 0 ≤ q.k + 1; omega, by show q.k + 1 ≤ (rows62.length : Int); omega⟩, hq2.trans (hle62.trans leP62), hO62, hrw62, hrl62, hO73, by show kn p role (41 - (q.k + 1).toNat) (q.k + 1).toNat (rows62.map (·.l)) _ = _; rw [hm31', ← hq7, show 41 - q.k.toNat = (41 - (q.k + 1).toNat) + 1 by omega, s8 hs (by simpa using c66), hm62, show (q.k + 1).toNat = q.k.toNat + 1 by omega, List.map_append]; rfl, by show jS _ (rows62.map (·.l)); rw [hm62]; exact Cb hRP.nx hSO, fJ (fun t ht => (hq9 t ht).le (hle62.trans leP62)) hTk, by show _ = q.k + 1; simp only [List.length_append, List.length_cons, List.length_nil]; omega⟩ ky (fun w hw => hw.drop.drop) (by show (41 - (q.k + 1)).toNat < (41 - q.k).toNat; omega)
 refine pJ ?_
 rw [hv] at hq6 ⊢
 refine f2 ?_; refine rP ?_; refine eh ?_
 have hE : dM p role = (0, q.ts.map tt) := by unfold dM; rw [if_neg (by rw [hrh]; decide), if_neg h35, ← hq7, wF (by rw [List.length_map]; omega)]
 refine TX.pubO hq6 (.skip _ (.skip _ (.skip _ (.skip _ (.past _ .all))))) (by simp) (fun H2 hle2 hR => ?_)
 exact aQ (.inr rfl) (cu rfl (RVal.cellA rfl (.there _ (.here _)) rfl) (RVal.tmp rfl)) ⟨_, q.ts, (va, vc), by rw [hE]; rfl, fun _ => ⟨rfl, ⟨hR, fun t ht => (hq9 t ht).le hle2⟩, by rw [hE]⟩⟩
end Go.Sx
namespace Go.Sx
open Go Go.Proofs
theorem tq {H : Hp} (p : SProto) (hp : ProtoOk H p) (hnm : p.name.length ≤ 1000) (hrl : ∀ r ∈ p.roles, r.length ≤ 1000) :
  Fn Tryz.prog 30 [.agg p.cells.toArray] H (fun v H1 => ∃ lv, v = .tuple #[lv, .int .i64 (ko p).2, .int .i64 (ko p).1] ∧ ((ko p).1 = 0 → ∃ ls, RdSl H1 2 SLocal.cells lv ls ∧ LsOk H1 p p.roles.length ls) ∧ ((ko p).1 ≠ 0 → lv = .slice none 0 0)) := by
 have hro := hp.r
 have hrm := hro.max
 refine Fn.enter Tryz.func30 Tryz.ntmps30 rfl rfl (fun w0 => ?_)
 refine zm2 ?_
 refine TL.box rfl rfl (fun b1 => ?_)
 refine zm3 ?_; refine iv ?_; refine gu ?_; refine ay (ab rfl rfl rfl rfl) (ic p hp) rfl ?_; refine zm1 ?_
 refine TC.cond rfl (fun c11 => ?_) (fun c11 => ?_)
 ·
  refine eJ ?_; refine rS ?_
  have hE : ko p = (800, 0) := by unfold ko; rw [if_pos (by simpa using c11)]
  exact aQ (.inr rfl) (eZ rfl (RVal.tmp rfl) (RVal.tmp rfl) (RVal.tmp rfl)) ⟨_, by rw [hE], fun h => absurd h (by rw [hE]; decide), fun _ => rfl⟩
 have hRB : dF p = true := by simpa using c11
 have hr5 := (RPOk.of hRB).r5
 refine d3 ?_; refine jq ?_
 refine aV (V := fun k v ob H1 => [(5, v), (6, .int .i64 k)]) (K := [(1, _), (2, _), (3, _), (4, _)]) (L := fun k v ob H1 => St [] w0 H H1 ((b1, p.cells) :: ob)) (I := fun k v ob H1 => (0 ≤ k ∧ k ≤ p.roles.length) ∧ H.le H1 ∧ jE p k.toNat (p.roles.drop k.toNat) = jE p 0 p.roles ∧ ∃ ls, OwnSl 2 SLocal.cells v ls ob ∧ LsOk H1 p k ls) (μ := fun k => (p.roles.length - k).toNat) 0 (.slice none 0 0) [] H ky ⟨⟨by omega, by omega⟩, .refl _, rfl, [], OwnSl.nil, ⟨rfl, by simp⟩⟩ (fun w hw => hw) (fun k v ob H1 hI => ?_)
 obtain ⟨⟨k0, k1⟩, hI2, hI3, ls, hO, hLs⟩ := hI
 have hp1 := hp.le hI2
 have hro1 := hp1.r
 obtain ⟨va, vc, rfl⟩ := hO.form
 refine pq ?_; refine TL.run (ai rfl rfl hro1) rfl ?_; refine zm1 ?_
 refine ag rfl (fun c16 => ?_) (fun c16 => ?_)
 ·
  obtain ⟨rr, hrx⟩ := ao (l := p.roles) k0 c16
  refine vm ?_
  refine TD.part 6 10 rfl rfl rfl ?_ ?_
  ·
   refine bZ [(0, 2), (1, 1), (2, 2), (3, 1), (4, 1), (5, 2), (6, 3), (7, 1), (8, 1), (9, 1), (10, 3), (11, 0), (12, 1)] (by kernel_rfl) (by kernel_rfl) ?_; refine ku ?_; refine rQ ?_
   refine az (af rfl hro1 rfl (by omega) (by omega)) rfl (a7 (aM hro1 hrx rfl rfl) rfl (TF.call (ab rfl rfl rfl rfl) (zj p rr hp1 hnm (hrl rr (List.mem_of_getElem? hrx)) (fun x hx a ha => (hp.ps x hx).z a ha) (Nat.le_refl _)) rfl (fun v26 H26 hle26 hp26 => ?_)))
   obtain ⟨nm, ts, tp, rfl, hRo⟩ := hp26
   refine nD ?_
   refine TF.alloc rfl (fun b7 => ?_)
   exact zq627
  refine bZ [(0, 2), (1, 1), (2, 2), (3, 1), (4, 1), (5, 2), (10, 3), (6, 3), (7, 1), (8, 1), (9, 1), (11, 0), (12, 1)] (by kernel_rfl) (by kernel_rfl) ?_; refine ku ?_; refine rQ ?_
  refine az (af rfl hro1 rfl (by omega) (by omega)) rfl (a7 (aM hro1 hrx rfl rfl) rfl (TF.alloc rfl (fun b7 => ?_)))
  refine TF.call (ab rfl rfl rfl rfl) (zj p rr hp1 hnm (hrl rr (List.mem_of_getElem? hrx)) (fun x hx a ha => (hp.ps x hx).z a ha) (Nat.le_refl _)) rfl (fun v26 H26 hle26 hp26 => ?_)
  obtain ⟨nm, ts, tp, rfl, hRo⟩ := hp26
  refine nD ?_
  exact zq627
 refine fL ?_; refine eJ ?_; refine ff ?_
 have hE : ko p = (0, 0) := by unfold ko; rw [if_neg (by rw [hRB]; decide), ← hI3, List.drop_eq_nil_of_le (by omega)]; rfl
 refine TX.pubO hO (.skip _ .all) (by simp) (fun H2 hle2 hR => ?_)
 have hk : k = p.roles.length := by omega
 exact aQ (.inr rfl) (eZ rfl (RVal.tmp rfl) (RVal.tmp rfl) (RVal.tmp rfl)) ⟨_, by rw [hE], fun _ => ⟨ls, hR, hk ▸ hLs.le hle2⟩, fun h => absurd (by rw [hE]) h⟩
end Go.Sx
namespace Go.Sx
open Go Go.Proofs
theorem tH {H : Hp} {bd : Nat} {dl : Value} {at_ : Int} (hd : DiceOk H dl at_) {tv : Value} {types : List Str} (hty : RdSl H 1 Str.cells tv types) (htn : ∀ s ∈ types, TyNm s) (htl : types.length ≤ 100) (name : Str) (hnl : name.length ≤ 1000) :
  DFn Tryz.prog bd dl at_ 64 [gs name, tv] H (fun v H1 ob => ob = [] ∧ (H.le H1 ∧ ∃ p : SProto, v = .agg p.cells.toArray ∧ ProtoOk H1 p ∧ p.name = name ∧ ∃ n, 2 ≤ n ∧ n ≤ 5 ∧ p.roles = rolesL.take n)) := by
 refine FnX.enter Tryz.func64 Tryz.ntmps64 rfl rfl (fun w0 => ?_)
 refine zm2 ?_
 refine TL.alloc rfl (fun b6 => ?_)
 refine TL.nil (ad ?_); refine gU ?_
 refine aC (X := [(b6, _)]) (bd := bd) rfl (ab rfl rfl rfl rfl) (uG hd hty htn htl name) rfl (fun v14 H14 at14 hle14 hd14 hp14 => ?_)
 obtain ⟨hle14_, p, rfl, hP, hNm, n, hn2, hn5, hRo⟩ := hp14
 replace hty := hty.le hle14
 have hrl : ∀ r ∈ p.roles, r.length ≤ 1000 := by
  intro r hr; rw [hRo] at hr; have := lU hr; omega
 refine TL.alloc rfl (fun b7 => ?_)
 refine fu ?_; refine gu ?_
 refine TL.call (ab rfl rfl rfl rfl) (tq p hP (by rw [hNm]; exact hnl) hrl) rfl (fun v17 H17 hle17 hp17 => ?_)
 obtain ⟨lv17, rfl, hok17, hno17⟩ := hp17
 replace hty := hty.le hle17
 replace hd14 := hd14.le hle17
 refine pK ?_; refine zm3 ?_; refine nF ?_
 refine ag rfl (fun c22 => ?_) (fun c22 => ?_)
 · refine pi ?_; exact al (aY (.inr rfl) (ae rfl (RVal.cellA rfl (.there _ (.here _)) rfl)) (fun w hw => hw.drop.drop) ⟨_, [], rfl, hd14, rfl, hle14_.trans hle17, p, rfl, hP.le hle17, hNm, n, hn2, hn5, hRo⟩)
 refine zm233 ?_
 refine aC (X := [(b7, _), (b6, _)]) (bd := bd) rfl (ab rfl rfl rfl rfl) (uH hd14 hty htn htl name 2 (by omega) (by omega)) rfl (fun v27 H27 at27 hle27 hd27 hp27 => ?_)
 obtain ⟨hle27_, p2, rfl, hP2, hNm2, hRo2, hA2⟩ := hp27
 refine lm ?_
 exact aY (.inr rfl) (ae rfl (RVal.cellA rfl (.there _ (.here _)) rfl)) (fun w hw => hw.drop.drop) ⟨_, [], rfl, hd27, rfl, (hle14_.trans hle17).trans hle27_, p2, rfl, hP2, hNm2, _, by decide, by decide, hRo2⟩
end Go.Sx
namespace Go.Sx
open Go Go.Proofs
theorem rI {H : Hp} {bd : Nat} {dl : Value} {at_ : Int} (hd : DiceOk H dl at_)  :
  DFn Tryz.prog bd dl at_ 29 [] H (fun v H1 ob => ob = [] ∧ (H.le H1 ∧ ∃ ps, RdSl H1 3 SProto.cells v ps ∧ PsOk H1 ps)) := by
 refine FnX.enter Tryz.func29 Tryz.ntmps29 rfl rfl (fun w0 => ?_)
 refine lz ?_
 refine aC (X := []) (bd := bd) rfl (ab rfl rfl rfl rfl) (tH hd RdSl.nil (by simp) (by simp) [112] (by decide)) rfl (fun v6 H6 at6 hle6 hd6 hp6 => ?_)
 obtain ⟨hle6_, p, rfl, hP_, hNmp, np, hn2p, hn5p, hRop⟩ := hp6
 have hP : GP _ [112] p := ⟨hP_, hNmp, np, hn2p, hn5p, hRop⟩
 refine TL.alloc rfl (fun b3 => ?_)
 refine sk ?_
 have hrlp : p.roles.length ≤ 5 := by rw [hRop, List.length_take]; show min np 5 ≤ 5; omega
 refine ad ?_; refine gu ?_
 refine aB rfl rfl rfl rfl (fun b8 => ?_)
 refine sC ?_
 refine aC (X := [(b8, _), (b3, _)]) (bd := bd) rfl (ab rfl rfl rfl rfl) (bq 2 (by omega) hd6) rfl (fun v10 H10 at10 hle10 hd10 hp10 => ?_)
 obtain ⟨eH10, r10, rfl, hr10⟩ := hp10
 replace eH10 := eH10.symm; subst eH10
 have hra10 := hr10.1
 have hrb10 := hr10.2.1 (by omega)
 refine zm1 ?_
 refine ag rfl (fun c11 => ?_) (fun c11 => ?_)
 ·
  refine jh ?_; refine k9 ?_
  refine TL.call (ab rfl rfl rfl rfl) (rH p hP.ok (by rw [hP.nm]; decide) (by have := hrlp; omega) (fun r hr => by have := lU (hRop ▸ hr); omega)) rfl (fun v15 H15 hle15 hp15 => ?_)
  replace hd10 := hd10.le hle15
  rw [hP.nm] at hp15
  refine aC (X := [(b8, _), (b3, _)]) (bd := bd) rfl (ab rfl rfl rfl rfl) (tH hd10 hp15 (tyNm_of hRop) (by have := hrlp; simp only [List.length_map]; omega) [113] (by decide)) rfl (fun v16 H16 at16 hle16 hd16 hp16 => ?_)
  obtain ⟨hle16_, q, rfl, hQ_, hNmq, nq, hn2q, hn5q, hRoq⟩ := hp16
  have hQ : GP _ [113] q := ⟨hQ_, hNmq, nq, hn2q, hn5q, hRoq⟩
  refine aB rfl rfl rfl rfl (fun b17 => ?_)
  refine TL.append (enc := SProto.cells) rfl rfl rfl (OwnSl.blk (enc := SProto.cells) [⟨_, _, _, _, _⟩] rfl rfl (by decide)) (Src.own [q] (.here _) rfl rfl) (by simp) rfl (.take (.there _ (.here _)) rfl) rfl (fun a18 c18 ob18 hO18 => ?_)
  refine zm1 ?_; refine nl ?_
  refine dX (X := [(b17, _), (b3, _), (bd, _)]) hO18 rfl (by simp [keys]) (fun H2 hle2 hR => ?_)
  exact aY (.inr rfl) (ae rfl (RVal.tmp rfl)) (fun w hw => hw.drop.drop) ⟨_, [], rfl, hd16.le hle2, rfl, ⟨(((hle6_.trans hle15).trans hle16_)).trans hle2, _, hR, p, hP.le (hle15.trans (hle16_.trans hle2)), .inr ⟨q, hQ.le hle2, rfl⟩⟩⟩
 refine d3 ?_; refine nl ?_
 refine cH (by simp [keys]) (fun H_b8 le_b8 rd_b8 => ?_)
 replace hd10 := hd10.le le_b8
 have hR : RdSl H_b8 3 SProto.cells _ ([p]) := RdSl.blk (cap := 1) rd_b8 (by intro x hx; rfl) (by kernel_rfl) (by show 1 ≤ 9223372036854775807; decide)
 exact aY (.inr rfl) (ae rfl (RVal.tmp rfl)) (fun w hw => hw.drop) ⟨_, [], rfl, hd10, rfl, ⟨hle6_.trans le_b8, _, hR, p, hP.le le_b8, .inl rfl⟩⟩
end Go.Sx
namespace Go.Sx
open Go Go.Proofs
theorem eX {F : Fx} {V : WV} (s : TStep) (hs : s.Ok V.S) :
  WFn Tryz.prog F V 75 [.agg s.cells.toArray] 1 (fun v V1 => v = .int .i64 (V.sn : Int) ∧ V1.sn = V.sn + 1) := by
 refine WFn.enter Tryz.func75 Tryz.ntmps75 rfl rfl (fun m w0 hW hm => ?_)
 refine zm2 ?_
 refine TL.box rfl rfl (fun b3 => ?_)
 refine kM ?_; refine f2 ?_
 refine aA (F := F) (V := V) (m := m) [(b3, _)] rfl rfl (ab rfl rfl rfl rfl) (fA s hs) hW (by omega) rfl (fun v8 V8 hle8 hW8 hS8 hs8 ht8 hp8 => ?_)
 obtain ⟨rfl, hn8⟩ := hp8
 obtain ⟨b, j, q, ha, hb, hj⟩ := hW8.s.at (by omega)
 refine vx ?_; refine aU [true, true, true] [(0, 1), (1, 1), (2, 1), (3, 1), (4, 4), (5, 1), (6, 1), (7, 1), (8, 1), (9, 1), (10, 4), (11, 1), (12, 1), (13, 1), (14, 5)] (by kernel_rfl) (by kernel_rfl) ?_; refine iA ?_
 refine sI ?_; refine ly ?_; refine sI ?_; refine az (dv rfl rfl) rfl (az (cU (tb := 3) rfl rfl ha (by omega) (by omega)) rfl ?_); refine zm4 ?_
 refine ar rfl (dB (t := 3) (f := 9) (ct := .int) rfl rfl hW8.bag (.skip _ (.skip _ (.skip _ .all))) hb rfl hj (by omega) rfl (⟨_, rfl⟩) rfl rfl (fun Bst1 hBst1 => ?_))
 refine au (S1 (S1 (S1 SN))) (Hp.le.refl _) (TF.nil (ad ?_)); refine nl ?_
 exact bE (V' := { V8 with B := Bst1 }) (X := [(b3, _)]) (.inr rfl) (ae rfl (RVal.tmp rfl)) rfl rfl ((hW8.bagB hBst1).more (by omega)) hS8 (by (try dsimp only); omega) (by (try dsimp only); omega) ⟨rfl, hn8⟩
theorem mF {F : Fx} {V : WV} (o : Bool) :
  WFn Tryz.prog F V 127 [.bool o] 2 (fun v V1 => v = .int .i64 (V.sn : Int) ∧ V.sn < V1.sn) := by
 refine WFn.enter Tryz.func127 Tryz.ntmps127 rfl rfl (fun m w0 hW hm => ?_)
 refine lz ?_; refine eU ?_; refine fz ?_; refine TL.run (dv rfl rfl) rfl ?_; refine nF ?_
 refine TC.cond rfl (fun c14 => ?_) (fun c14 => ?_)
 ·
  refine zm2 ?_; refine ay (ab rfl rfl rfl rfl) (da 9) rfl (TL.alloc rfl (fun b6 => ?_))
  refine fu ?_; refine gr ?_; refine y5 ?_; refine ve ?_
  refine aA (F := F) (V := V) (m := m) [(b6, _)] rfl rfl (ab rfl rfl rfl rfl) (eX ⟨9, [99], [], [], [], -1, none, 0, 0, none, 0, 0, none, 0, 0, -1⟩ ⟨.inr (.inl rfl), .nil, .nil, .nil, .nil, .nil, .nil, Nat.zero_le _, Nat.zero_le _, Nat.zero_le _⟩) hW (by omega) rfl (fun v19 V19 hle19 hW19 hS19 hs19 ht19 hp19 => ?_)
  obtain ⟨rfl, hn19⟩ := hp19
  refine gE ?_
  refine ay (ab rfl rfl rfl rfl) (da 0) rfl (aA (F := F) (V := V19) (m := m + 1) [(b6, _)] rfl rfl (ab rfl rfl rfl rfl) (fA ⟨0, [], [], [], [], -1, none, 0, 0, none, 0, 0, none, 0, 0, -1⟩ ⟨.nil, .nil, .nil, .nil, .nil, .nil, .nil, Nat.zero_le _, Nat.zero_le _, Nat.zero_le _⟩) hW19 (by omega) rfl (fun v22 V22 hle22 hW22 hS22 hs22 ht22 hp22 => ?_))
  obtain ⟨rfl, hn22⟩ := hp22
  refine vd ?_
  exact bE (V' := V22) (X := [(b6, _)]) (.inr rfl) (ae rfl (RVal.tmp rfl)) rfl rfl (hW22.more (by omega)) (hS19.trans (hS22)) (by (try dsimp only); omega) (by (try dsimp only); omega) ⟨rfl, by omega⟩
 refine lC ?_
 refine ay (ab rfl rfl rfl rfl) (da 0) rfl (aA (F := F) (V := V) (m := m) [] rfl rfl (ab rfl rfl rfl rfl) (fA ⟨0, [], [], [], [], -1, none, 0, 0, none, 0, 0, none, 0, 0, -1⟩ ⟨.nil, .nil, .nil, .nil, .nil, .nil, .nil, Nat.zero_le _, Nat.zero_le _, Nat.zero_le _⟩) hW (by omega) rfl (fun v22 V22 hle22 hW22 hS22 hs22 ht22 hp22 => ?_))
 obtain ⟨rfl, hn22⟩ := hp22
 refine vd ?_
 exact bE (V' := V22) (X := []) (.inr rfl) (ae rfl (RVal.tmp rfl)) rfl rfl (hW22.more (by omega)) hS22 (by (try dsimp only); omega) (by (try dsimp only); omega) ⟨rfl, by omega⟩
theorem pU {F : Fx} {V : WV} (s : Str) :
  WFn Tryz.prog F V 179 [gs s] 0 (fun v V1 => ∃ p r, v = .tuple #[.agg p.cells.toArray, gs r] ∧ p ∈ F.ps ∧ r ∈ p.roles) := by
 refine WFn.enter Tryz.func179 Tryz.ntmps179 rfl rfl (fun m w0 hW hm => ?_)
 have hfx := hW.fx
 have hps := hfx.ps
 have hmx := hps.max
 have hpn := hfx.pn
 obtain ⟨p0, hp0⟩ := ao (l := F.ps) (i := 0) (by omega) (by omega)
 have hG0 := (hfx.pg p0 (List.mem_of_getElem? hp0)).r2
 have hro0 := (hfx.pk p0 (List.mem_of_getElem? hp0)).r
 obtain ⟨r0, hr0⟩ := ao (l := p0.roles) (i := 0) (by omega) (by omega)
 refine zm2 ?_
 refine TL.alloc rfl (fun b4 => ?_)
 refine iv ?_; refine jg ?_
 refine TC.loop (V := fun k => [(6, .int .i64 k)]) (K := [(0, _), (1, _), (4, _), (5, _)]) (L := fun k => _) (I := fun k => 0 ≤ k ∧ k ≤ F.ps.length) (μ := fun k => (F.ps.length - k).toNat) (i := (0 : Int)) ky ⟨by omega, by omega⟩ (fun w hw => hw) (fun k hI => ?_)
 obtain ⟨k0, k1⟩ := hI
 refine f4 ?_; refine eU ?_; refine oZ ?_; refine TL.run (ai rfl rfl hps) rfl ?_; refine zm1 ?_
 refine ag rfl (fun c14 => ?_) (fun c14 => ?_)
 ·
  obtain ⟨p, hp⟩ := ao (l := F.ps) k0 c14
  have hro := (hfx.pk p (List.mem_of_getElem? hp)).r
  have hrm := hro.max
  refine jm ?_; refine jg ?_
  refine TC.loop (V := fun q => [(7, .int .i64 q)]) (K := [(0, _), (1, _), (4, _), (5, _), (6, _), (8, _), (9, _), (10, _), (11, _), (12, _), (13, _), (14, _)]) (L := fun q => _) (I := fun q => 0 ≤ q ∧ q ≤ p.roles.length) (μ := fun q => (p.roles.length - q).toNat) (i := (0 : Int)) ky ⟨by omega, by omega⟩ (fun w hw => hw) (fun q hI => ?_)
  obtain ⟨q0, q1⟩ := hI
  refine f4 ?_; refine eU ?_; refine oZ ?_; refine zm0 ?_; refine TL.run (af rfl hps rfl (by omega) (by omega)) rfl ?_; refine zm7 ?_; refine TL.run (br hps hp rfl rfl) rfl (TL.run (ai rfl rfl hro) rfl ?_)
  refine zm1 ?_
  refine ag rfl (fun c27 => ?_) (fun c27 => ?_)
  ·
   obtain ⟨rr, hr⟩ := ao (l := p.roles) q0 c27
   have hG := hfx.pg p (List.mem_of_getElem? hp)
   have hnm : p.name.length = 1 := by rcases hG.nm with h | h <;> rw [h] <;> rfl
   have hr1 := hG.rs rr (List.mem_of_getElem? hr)
   refine pf ?_; refine sq ?_; refine yD ?_; refine TQ.run (af rfl hps rfl (by omega) (by omega)) rfl ?_; refine gt ?_
   refine TQ.run (br hps hp rfl rfl) rfl (TQ.run (dU rfl rfl (by simp only [List.length_append, List.length_cons, List.length_nil]; omega)) rfl ?_); refine sq ?_; refine yD ?_
   refine TQ.run (af rfl hps rfl (by omega) (by omega)) rfl ?_; refine gt ?_
   refine TQ.run (br hps hp rfl rfl) rfl (TQ.run (ah rfl) rfl (TQ.run (af rfl hro rfl (by omega) (by omega)) rfl (TQ.run (aM hro hr rfl rfl) rfl ?_)))
   refine TQ.run (dU rfl rfl (by simp only [List.length_append, List.length_cons, List.length_nil]; omega)) rfl (TQ.run (ah rfl) rfl (TQ.run (bV rfl rfl rfl) rfl (TQ.nil ?_)))
   refine ad (ag rfl (fun c52 => ?_) (fun c52 => ?_))
   ·
    refine k6 ?_; refine zm384 ?_; refine iA ?_; refine yM ?_; refine zm5 ?_; refine az (af rfl hps rfl (by omega) (by omega)) rfl (aH (S0 (S1 (S1 SN))) (Hp.le.refl _) (fun _ _ => bh hps hp rfl rfl) rfl ?_)
    refine iA ?_; refine yM ?_; refine zm5 ?_; refine az (af rfl hps rfl (by omega) (by omega)) rfl ?_; refine zm4 ?_; refine aH (S0 (S1 (S1 SN))) (Hp.le.refl _) (fun _ _ => br hps hp rfl rfl) rfl ?_
    refine zm5 ?_; refine vo ?_; refine aH (S0 (S1 (S1 SN))) (Hp.le.refl _) (fun _ _ => aM hro hr rfl rfl) rfl ?_; refine u9 ?_; refine sm ?_; refine vD ?_
    exact bE (V' := V) (X := [(b4, _)]) (.inr rfl) (cu rfl (RVal.cellA rfl (.here _) rfl) (RVal.tmp rfl)) rfl rfl (hW.more (by omega)) (.refl _) (by (try dsimp only); omega) (by (try dsimp only); omega) ⟨p, rr, rfl, List.mem_of_getElem? hp, List.mem_of_getElem? hr⟩
   refine ig ?_
   exact aR (q + 1) ⟨by omega, by omega⟩ ky (fun w hw => hw) (by omega)
  refine vi ?_
  exact aR (k + 1) ⟨by omega, by omega⟩ ky (fun w hw => hw) (by omega)
 refine iy ?_; refine eP ?_
 refine aU [false, true, true] [(0, 1), (1, 1), (2, 1), (3, 4), (4, 1), (5, 4), (6, 1), (7, 1), (8, 1), (9, 4), (10, 1), (11, 1), (12, 4), (13, 1), (14, 4), (15, 5), (16, 1)] (by kernel_rfl) (by kernel_rfl) ?_; refine iA ?_
 refine yM ?_; refine az (af rfl hps rfl (by omega) (by omega)) rfl (aH (S0 (S1 (S1 SN))) (Hp.le.refl _) (fun _ _ => bh hps hp0 rfl rfl) rfl ?_); refine iA ?_; refine yM ?_
 refine az (af rfl hps rfl (by omega) (by omega)) rfl ?_; refine zm4 ?_
 refine aH (S0 (S1 (S1 SN))) (Hp.le.refl _) (fun _ _ => br hps hp0 rfl rfl) rfl (az (af rfl hro0 rfl (by omega) (by omega)) rfl (aH (S0 (S1 (S1 SN))) (Hp.le.refl _) (fun _ _ => aM hro0 hr0 rfl rfl) rfl ?_))
 refine u9 ?_; refine sm ?_
 exact bE (V' := V) (X := [(b4, _)]) (.inr rfl) (cu rfl (RVal.cellA rfl (.here _) rfl) (RVal.tmp rfl)) rfl rfl (hW.more (by omega)) (.refl _) (by (try dsimp only); omega) (by (try dsimp only); omega) ⟨p0, r0, rfl, List.mem_of_getElem? hp0, List.mem_of_getElem? hr0⟩
end Go.Sx
