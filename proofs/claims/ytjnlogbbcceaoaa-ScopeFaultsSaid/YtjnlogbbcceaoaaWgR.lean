import Derived.Test.YtjnlogbbcceaoaaWgB
import Derived.Test.YtjnlogbbcceaoaaPuR
import Derived.Test.YtjnlogbbcceaoaaSxC
set_option linter.unusedVariables false
set_option linter.unusedSimpArgs false
namespace Go.Sx
open Go Go.Proofs
set_option maxRecDepth 100000 in
set_option maxHeartbeats 1000000 in
theorem arms_ok {H : Hp} {l : List SArm} {v : Value} (hA : RdSl H 4 SArm.cells v l) (hl : l.length ≤ 1000) :
  FnO Try.prog 22 [v] H (fun r H1 ob => H1 = H ∧ OwnSl 4 SArm.cells r l ob) := by
 refine FnO.enter Try.func22 Try.ntmps22 rfl rfl (fun w0 => ?_)
 refine TC.seq (TC.region (TL.run (pr_pure rfl) rfl (TL.nil (TX.seqN (TC.seq (TC.region ?_))))))
 refine TL.bslice rfl rfl rfl rfl (fun b3 => ?_)
 refine TL.run (pr_pure rfl) rfl ?_
 refine TL.append (enc := SArm.cells) rfl rfl rfl (OwnSl.blk (enc := SArm.cells) [] rfl rfl (by decide)) (Src.sl hA) (by simp; omega) rfl (.take (.here _) rfl) rfl (fun a5 c5 ob5 hO5 => ?_)
 refine TL.run (pr_pure rfl) rfl (TL.nil (TX.seqN (TC.ret (TX.finO (.inr rfl) (results1 rfl (RVal.tmp rfl)) .all ⟨rfl, hO5.cast (by simp)⟩))))

set_option maxRecDepth 100000 in
set_option maxHeartbeats 4000000 in
theorem ordW_ok {q : SProc} {bx bo bw : Nat} (hS : ShapeOk q) (hz2 : q.steps.length ≤ 80) :
  ∀ (f : Nat) {H : Hp} (at_ : Int), ProcOk H q → ProcAt H bx q → CellAt H bw (.func (.func 35) #[] #[.pointer (some ⟨bo, 0, none⟩), .pointer (some ⟨bx, 0, none⟩), .pointer (some ⟨bw, 0, none⟩)]) → 0 ≤ at_ → at_ < q.steps.length → q.steps.length ≤ at_.toNat + f → ∀ (u : Value) (xs : List Int) (ob : Blks), OwnSl 1 I64.cells u xs ob → xs.length + (ordW q f at_).length ≤ 1000 →
   FnX Try.prog 35 [.int .i64 at_, .pointer (some ⟨bo, 0, none⟩), .pointer (some ⟨bx, 0, none⟩), .pointer (some ⟨bw, 0, none⟩)] H ((bo, [u]) :: ob) (fun r H2 L2 => r = .tuple #[] ∧ H.le H2 ∧ ∃ u2 ob2, L2 = (bo, [u2]) :: ob2 ∧ OwnSl 1 I64.cells u2 (xs ++ ordW q f at_) ob2) := by
 intro f
 induction f with
 | zero =>
  intro H at_ _ _ _ h0 h1 h2; exfalso; omega
 | succ f ih =>
 intro H at_ hQ hx hw h0 h1 h2 u xs ob hO hlen
 obtain ⟨s, hs⟩ : ∃ s, q.steps[at_.toNat]? = some s := ⟨_, List.getElem?_eq_getElem (by omega)⟩
 rw [ordW_at hs] at hlen ⊢
 have hsk := hQ.ss s (List.mem_of_getElem? hs)
 obtain ⟨ua, uc, rfl⟩ := hO.form
 obtain ⟨hm, hin⟩ := hS _ _ hs
 have hsz := may_sizes hm
 have hmax := hQ.s.max
 refine FnX.enterM Try.func35 Try.ntmps35 rfl rfl (fun w0 M hM => ?_)
 refine TC.seq (TC.region (TL.run (pr_own1 rfl (.here _) rfl) rfl (TL.run (pr_pure rfl) rfl ?_)))
 refine TL.bslice rfl rfl rfl rfl (fun b9 => ?_)
 refine TL.append (enc := I64.cells) rfl rfl rfl hO (Src.own [at_] (.here _) rfl rfl) (by simp only [List.length_cons] at hlen; simp; omega) rfl (.skip _ (.skip _ .all)) rfl (fun a10 c10 ob10 hO10 => ?_)
 refine TL.storeV rfl rfl rfl (.there _ (.here _)) rfl ?_
 refine TL.nil (TX.seqN (TC.seq (TC.region (TL.run (pr_field rfl) rfl (TL.run (pr_hp1 rfl (hx 3 _ rfl)) rfl (TL.run (pr_pure rfl) rfl (TL.run (pr_indexSl rfl hQ.s rfl (by omega) (by omega)) rfl ?_)))))))
 refine TL.run (pr_elA hQ.s hs rfl rfl) rfl ?_
 refine TL.callOF (enters rfl rfl rfl rfl) (nexts_ok s hsk (by omega)) rfl (fun v16 H16 ob16 hf16 hle16 hp16 => ?_)
 obtain ⟨eH16, hO16⟩ := hp16
 subst H16
 obtain ⟨a16, c16, rfl⟩ := hO16.form
 refine TL.pubO hO16 (.skip _ (.skip _ (.past _ .all))) (fun p hp hm => absurd (hM _ hm) (Nat.not_lt.2 (hf16 p hp))) (fun HP16 leP16 hR16 => ?_)
 replace hQ := hQ.le leP16
 replace hx := hx.le leP16
 replace hw := hw.le leP16
 have hR16m := hR16.max
 refine TL.run (pr_lenSl rfl rfl hR16) rfl (TL.run (pr_pure rfl) rfl (TL.nil (TX.seqN (TC.block ?_))))
 have hleA := leP16
 refine TC.loop4 (V := fun k v ob H1 => [(18, .int .i64 k)]) (K := [(3, _), (16, _), (17, _)]) (L := fun k v ob H1 => St M w0 H H1 ((bo, [v]) :: ob)) (I := fun k v ob H1 => (0 ≤ k ∧ k ≤ (nextsS s).length) ∧ HP16.le H1 ∧ OwnSl 1 I64.cells v (xs ++ at_ :: ((nextsS s).take k.toNat).flatMap (ordW q f)) ob) (μ := fun k => ((nextsS s).length - k).toNat) 0 _ _ HP16 ⟨rfl, rfl, rfl, rfl, trivial⟩ ⟨⟨by omega, by omega⟩, Hp.le.refl _, hO10.cast (by simp)⟩ (fun w hw => by have h2 := hw.drop; rw [List.append_nil] at h2; exact h2) (fun k v ob H1 hI => ?_)
 obtain ⟨⟨k0, k1⟩, hle, hO⟩ := hI
 obtain ⟨va, vc, rfl⟩ := hO.form
 replace hQ := hQ.le hle
 replace hx := hx.le hle
 replace hw := hw.le hle
 replace hR16 := hR16.le hle
 replace hleA := hleA.trans hle
 refine TC.seq (TC.region (TL.run (pr_pure rfl) rfl (TL.nil (TX.seqN (TC.seq ?_)))))
 refine TC.condD rfl (fun c19 => ?_) (fun c19 => ?_)
 ·
  obtain ⟨t, ht⟩ := getSome (l := nextsS s) k0 c19
  have htb := hin t (List.mem_of_getElem? ht)
  have hlb := fm_room (f := ordW q f) k0 ht
  refine TC.skip (TX.seqN (TC.seq (TC.block (TC.seq (TC.region (TL.run (pr_indexSl rfl hR16 rfl (by omega) (by omega)) rfl (TL.run (pr_el0 hR16 ht rfl rfl) rfl ?_)))))))
  refine TL.run (pr_pure rfl) rfl (TL.nil (TX.seqN (TC.region (TL.run (pr_hp1 rfl hw) rfl (TL.run (pr_pure rfl) rfl ?_)))))
  refine TL.callX0 (L1 := (bo, [.slice va _ vc]) :: ob) (enters rfl rfl rfl rfl) (ih t hQ hx hw (by omega) (by omega) (by omega) _ _ _ hO (by simp only [List.length_append, List.length_cons]; simp only [List.length_cons] at hlen; omega)) rfl (fun v24 H24 L24 hle24 hp24 => ?_)
  obtain ⟨rfl, -, u24, ob24, rfl, hO24⟩ := hp24
  obtain ⟨ua24, uc24, rfl⟩ := hO24.form
  replace hQ := hQ.le hle24
  replace hx := hx.le hle24
  replace hw := hw.le hle24
  replace hR16 := hR16.le hle24
  replace hleA := hleA.trans hle24
  replace hle := hle.trans hle24
  refine TL.nil (TX.blkN (TX.seqN (TC.region (TL.run ((by first | exact pr_add rfl rfl (by omega) (by omega) | exact pr_pure rfl)) rfl (TL.run (pr_pure rfl) rfl (TL.nil (TX.round4 (k + 1) _ ob24 H24 ⟨⟨by omega, by omega⟩, hle, hO24.cast (by rw [take_snoc k0 ht, List.flatMap_append]; simp)⟩ ⟨rfl, rfl, rfl, rfl, trivial⟩ (fun w hw => hw ) (by omega))))))))
 ·
  refine TC.exit (TX.thenE (TX.thenE (TX.blkHit (TX.finX (.inl rfl) (results0 rfl) (fun w hw => hw) ⟨rfl, hleA, _, _, rfl, hO.cast (by rw [take_all c19 k0])⟩))))

set_option maxRecDepth 100000 in
set_option maxHeartbeats 8000000 in
theorem take_ok {H : Hp} {q : SProc} {bx bmv bm bout : Nat} {nm : Str} {pv u sv : Value} {m0 : List Int} {o0 : List Term} {ob : Blks} (root : Int) (hQ : ProcOk H q) (hx : ProcAt H bx q) (hmv : CellAt H bmv (.slice (some ⟨bm, 0, none⟩) q.terms.length q.terms.length)) (hm : mayB q.terms root = true) (hml0 : m0.length = q.terms.length) (hO0 : OwnSl 6 Term.cells u o0 ob) (hr : o0.length ≤ 300000000000) :
  FnX Try.prog 36 [.int .i64 root, .pointer (some ⟨bx, 0, none⟩), .pointer (some ⟨bmv, 0, none⟩), .pointer (some ⟨bout, 0, none⟩)] H ((bm, m0.map (Value.int .i64)) :: (bout, [gs nm, pv, u, sv]) :: ob) (fun r H2 L2 => r = .int .i64 (getI (takeS q.terms root (m0, o0)).1 root) ∧ ∃ u2 ob2, L2 = (bm, (takeS q.terms root (m0, o0)).1.map (Value.int .i64)) :: (bout, [gs nm, pv, u2, sv]) :: ob2 ∧ OwnSl 6 Term.cells u2 (takeS q.terms root (m0, o0)).2 ob2) := by
 obtain ⟨ua, uc, rfl⟩ := hO0.form
 have hpl := mayB_post hm
 have htr := mayB_Tr hm
 have hr0 := tr_lt htr
 have hr1 : 0 ≤ root := htr.1
 have hmax := hQ.t.max
 have hpl2 : (postS q.terms root).length ≤ 33554432 := hpl
 refine FnX.enterM Try.func36 Try.ntmps36 rfl rfl (fun w0 M hM => ?_)
 refine TC.seq (TC.region (TL.run (pr_pure rfl) rfl (TL.nil (TX.seqN (TC.seq (TC.seq (TC.region ?_)))))))
 refine TL.run (pr_field rfl) rfl (TL.run (pr_hp1 rfl (hx 2 _ rfl)) rfl (TL.run (pr_pure rfl) rfl ?_))
 refine TL.callOF (enters rfl rfl rfl rfl) (sTree_ok root hQ.t hm) rfl (fun v12 H12 ob12 hf12 hle12 hp12 => ?_)
 have hO12 : OwnSl 1 I64.cells v12 (postS q.terms root) ob12 := hp12
 obtain ⟨a12, c12, rfl⟩ := hO12.form
 replace hQ := hQ.le hle12
 replace hx := hx.le hle12
 replace hmv := hmv.le hle12
 refine TL.pubO hO12 (.skip _ (.skip _ (.past _ .all))) (fun p hp hm => absurd (hM _ hm) (Nat.not_lt.2 (hf12 p hp))) (fun HP12 leP12 hR12 => ?_)
 replace hQ := hQ.le leP12
 replace hx := hx.le leP12
 replace hmv := hmv.le leP12
 have hR12m := hR12.max
 refine TL.run (pr_lenSl rfl rfl hR12) rfl (TL.run (pr_pure rfl) rfl (TL.nil (TX.seqN (TC.block ?_))))
 refine TC.loop4 (V := fun (p : Int × List Int × List Term) v ob H1 => [(14, .int .i64 p.1)]) (K := [(0, _), (1, _), (2, _), (3, _), (5, _), (12, _), (13, _)]) (L := fun (p : Int × List Int × List Term) v ob H1 => St M w0 H H1 ((bm, p.2.1.map (Value.int .i64)) :: (bout, [gs nm, pv, v, sv]) :: ob)) (I := fun (p : Int × List Int × List Term) v ob H1 => (0 ≤ p.1 ∧ p.1 ≤ (postS q.terms root).length) ∧ HP12.le H1 ∧ p.2.1.length = q.terms.length ∧ OwnSl 6 Term.cells v p.2.2 ob ∧ p.2.2.length ≤ o0.length + p.1 ∧ takeS q.terms root (m0, o0) = takeGo q.terms ((postS q.terms root).drop p.1.toNat) (p.2.1, p.2.2)) (μ := fun (p : Int × List Int × List Term) => ((postS q.terms root).length - p.1).toNat) ((0 : Int), m0, o0) _ _ HP12 ⟨rfl, rfl, rfl, rfl, rfl, rfl, rfl, rfl, trivial⟩ ⟨⟨by omega, by omega⟩, Hp.le.refl _, hml0, hO0, by simp, rfl⟩ (fun w hw => by rw [List.append_nil] at hw; exact hw) (fun p v ob H1 hI => ?_)
 obtain ⟨⟨k0, k1⟩, hle, hml, hO, hol, hT⟩ := hI
 obtain ⟨k, m, o⟩ := p
 dsimp only at *
 obtain ⟨va, vc, rfl⟩ := hO.form
 replace hQ := hQ.le hle
 replace hx := hx.le hle
 replace hmv := hmv.le hle
 replace hR12 := hR12.le hle
 refine TC.seq (TC.region (TL.run (pr_pure rfl) rfl (TL.nil (TX.seqN (TC.seq ?_)))))
 refine TC.condD rfl (fun c15 => ?_) (fun c15 => ?_)
 ·
  obtain ⟨x, hk⟩ := getSome (l := postS q.terms root) k0 c15
  obtain ⟨t, ht, hx0, htl, htr2⟩ := post_ops _ _ (.inr htr) x (List.mem_of_getElem? hk)
  have hxb := ix_lt2 ht
  refine TC.skip (TX.seqN (TC.seq (TC.block (TC.seq (TC.region (TL.run (pr_indexSl rfl hR12 rfl (by omega) (by omega)) rfl (TL.run (pr_el0 hR12 hk rfl rfl) rfl ?_)))))))
  refine TL.run (pr_pure rfl) rfl (TL.nil (TX.seqN (TC.seq (TC.region (TL.run (pr_field rfl) rfl (TL.run (pr_hp1 rfl (hx 2 _ rfl)) rfl (TL.run (pr_pure rfl) rfl ?_)))))))
  refine TL.run (pr_indexSl rfl hQ.t rfl (by omega) (by omega)) rfl (TL.run (pr_elA hQ.t ht rfl rfl) rfl ?_)
  refine TL.alloc rfl (fun b8 => ?_)
  refine TL.storeA rfl rfl rfl rfl rfl (.here _) rfl rfl ?_
  refine TL.nil (TX.seqN (TC.seq (TC.seq (TC.region (TL.run (pr_field rfl) rfl (TL.run (pr_own1 rfl (.here _) rfl) rfl (TL.run (pr_pure rfl) rfl ?_)))))))
  refine TL.nil (TX.seqN ?_)
  refine TC.condD rfl (fun c25 => ?_) (fun c25 => ?_)
  ·
   refine TC.region (TL.run (pr_hp1 rfl hmv) rfl (TL.run (pr_field rfl) rfl (TL.run (pr_own1 rfl (.here _) rfl) rfl (TL.run (pr_index rfl rfl (by omega) (by omega)) rfl (TL.run (pr_own1 rfl (.there _ (.here _)) (is_get (by omega))) rfl (TL.run (pr_field rfl) rfl ?_))))))
   refine TL.store1 rfl rfl rfl (.here _) rfl rfl ?_
   refine TL.nil (TX.seqN (TC.seq (TC.seq (TC.region (TL.run (pr_field rfl) rfl (TL.run (pr_own1 rfl (.here _) rfl) rfl (TL.run (pr_pure rfl) rfl ?_)))))))
   refine TL.nil (TX.seqN ?_)
   refine TC.condD rfl (fun c34 => ?_) (fun c34 => ?_)
   ·
    refine TC.region (TL.run (pr_hp1 rfl hmv) rfl (TL.run (pr_field rfl) rfl (TL.run (pr_own1 rfl (.here _) rfl) rfl (TL.run (pr_index rfl rfl (by omega) (by omega)) rfl (TL.run (pr_own1 rfl (.there _ (.here _)) (is_get (by omega))) rfl (TL.run (pr_field rfl) rfl ?_))))))
    refine TL.store1 rfl rfl rfl (.here _) rfl rfl ?_
    refine TL.nil (TX.seqN (TC.seq (TC.region (TL.run (pr_hp1 rfl hmv) rfl (TL.run (pr_pure rfl) rfl (TL.run (pr_field rfl) rfl (TL.run (pr_own1 rfl (.there _ (.there _ (.here _))) rfl) rfl ?_)))))))
    refine TL.run (pr_lenO rfl rfl hO) rfl (TL.run (pr_index rfl rfl (by omega) (by omega)) rfl ?_)
    refine TL.store1 rfl rfl rfl (.there _ (.here _)) (by simp; omega) rfl ?_
    refine TL.nil (TX.seqN (TC.region (TL.run (pr_field rfl) rfl (TL.run (pr_own1 rfl (.there _ (.there _ (.here _))) rfl) rfl (TL.run (pr_ownA rfl (.here _) rfl) rfl ?_)))))
    refine TL.bslice rfl rfl rfl rfl (fun b50 => ?_)
    refine TL.append (enc := Term.cells) rfl rfl rfl hO (Src.own [⟨t.kind, t.name, t.n, t.text, getI m t.l, getI m t.r⟩] (.here _) rfl rfl) (by simp; omega) rfl (.skip _ (.skip _ (.skip _ (.skip _ .all)))) rfl (fun a51 c51 ob51 hO51 => ?_)
    refine TL.run (pr_field rfl) rfl ?_
    refine TL.store1 rfl rfl rfl (.there _ (.there _ (.there _ (.here _)))) rfl rfl ?_
    refine TL.nil (TX.blkN (TX.seqN (TC.region (TL.run ((by first | exact pr_add rfl rfl (by omega) (by omega) | exact pr_pure rfl)) rfl (TL.run (pr_pure rfl) rfl (TL.nil (TX.round4 (i := (k, m, o)) (k + 1, m.set x.toNat (o.length : Int), o ++ [mvT m t]) _ ob51 H1 ⟨⟨by omega, by omega⟩, hle, by rw [List.length_set]; exact hml, hO51.cast (by unfold mvT; simp [*]), by simp only [List.length_append, List.length_cons, List.length_nil]; omega, tg_next k0 hk ht hT⟩ ⟨rfl, rfl, rfl, rfl, rfl, rfl, rfl, rfl, trivial⟩ (fun w hw => by have hw2 := hw.drop.drop; simp only [is_set] at hw2; exact hw2) (by omega))))))))
   ·
    refine TC.skip (TX.seqN (TC.seq (TC.region (TL.run (pr_hp1 rfl hmv) rfl (TL.run (pr_pure rfl) rfl (TL.run (pr_field rfl) rfl (TL.run (pr_own1 rfl (.there _ (.there _ (.here _))) rfl) rfl ?_)))))))
    refine TL.run (pr_lenO rfl rfl hO) rfl (TL.run (pr_index rfl rfl (by omega) (by omega)) rfl ?_)
    refine TL.store1 rfl rfl rfl (.there _ (.here _)) (by simp; omega) rfl ?_
    refine TL.nil (TX.seqN (TC.region (TL.run (pr_field rfl) rfl (TL.run (pr_own1 rfl (.there _ (.there _ (.here _))) rfl) rfl (TL.run (pr_ownA rfl (.here _) rfl) rfl ?_)))))
    refine TL.bslice rfl rfl rfl rfl (fun b50 => ?_)
    refine TL.append (enc := Term.cells) rfl rfl rfl hO (Src.own [⟨t.kind, t.name, t.n, t.text, getI m t.l, t.r⟩] (.here _) rfl rfl) (by simp; omega) rfl (.skip _ (.skip _ (.skip _ (.skip _ .all)))) rfl (fun a51 c51 ob51 hO51 => ?_)
    refine TL.run (pr_field rfl) rfl ?_
    refine TL.store1 rfl rfl rfl (.there _ (.there _ (.there _ (.here _)))) rfl rfl ?_
    refine TL.nil (TX.blkN (TX.seqN (TC.region (TL.run ((by first | exact pr_add rfl rfl (by omega) (by omega) | exact pr_pure rfl)) rfl (TL.run (pr_pure rfl) rfl (TL.nil (TX.round4 (i := (k, m, o)) (k + 1, m.set x.toNat (o.length : Int), o ++ [mvT m t]) _ ob51 H1 ⟨⟨by omega, by omega⟩, hle, by rw [List.length_set]; exact hml, hO51.cast (by unfold mvT; simp [*]), by simp only [List.length_append, List.length_cons, List.length_nil]; omega, tg_next k0 hk ht hT⟩ ⟨rfl, rfl, rfl, rfl, rfl, rfl, rfl, rfl, trivial⟩ (fun w hw => by have hw2 := hw.drop.drop; simp only [is_set] at hw2; exact hw2) (by omega))))))))
  ·
   refine TC.skip (TX.seqN (TC.seq (TC.seq (TC.region (TL.run (pr_field rfl) rfl (TL.run (pr_own1 rfl (.here _) rfl) rfl (TL.run (pr_pure rfl) rfl ?_)))))))
   refine TL.nil (TX.seqN ?_)
   refine TC.condD rfl (fun c34 => ?_) (fun c34 => ?_)
   ·
    refine TC.region (TL.run (pr_hp1 rfl hmv) rfl (TL.run (pr_field rfl) rfl (TL.run (pr_own1 rfl (.here _) rfl) rfl (TL.run (pr_index rfl rfl (by omega) (by omega)) rfl (TL.run (pr_own1 rfl (.there _ (.here _)) (is_get (by omega))) rfl (TL.run (pr_field rfl) rfl ?_))))))
    refine TL.store1 rfl rfl rfl (.here _) rfl rfl ?_
    refine TL.nil (TX.seqN (TC.seq (TC.region (TL.run (pr_hp1 rfl hmv) rfl (TL.run (pr_pure rfl) rfl (TL.run (pr_field rfl) rfl (TL.run (pr_own1 rfl (.there _ (.there _ (.here _))) rfl) rfl ?_)))))))
    refine TL.run (pr_lenO rfl rfl hO) rfl (TL.run (pr_index rfl rfl (by omega) (by omega)) rfl ?_)
    refine TL.store1 rfl rfl rfl (.there _ (.here _)) (by simp; omega) rfl ?_
    refine TL.nil (TX.seqN (TC.region (TL.run (pr_field rfl) rfl (TL.run (pr_own1 rfl (.there _ (.there _ (.here _))) rfl) rfl (TL.run (pr_ownA rfl (.here _) rfl) rfl ?_)))))
    refine TL.bslice rfl rfl rfl rfl (fun b50 => ?_)
    refine TL.append (enc := Term.cells) rfl rfl rfl hO (Src.own [⟨t.kind, t.name, t.n, t.text, t.l, getI m t.r⟩] (.here _) rfl rfl) (by simp; omega) rfl (.skip _ (.skip _ (.skip _ (.skip _ .all)))) rfl (fun a51 c51 ob51 hO51 => ?_)
    refine TL.run (pr_field rfl) rfl ?_
    refine TL.store1 rfl rfl rfl (.there _ (.there _ (.there _ (.here _)))) rfl rfl ?_
    refine TL.nil (TX.blkN (TX.seqN (TC.region (TL.run ((by first | exact pr_add rfl rfl (by omega) (by omega) | exact pr_pure rfl)) rfl (TL.run (pr_pure rfl) rfl (TL.nil (TX.round4 (i := (k, m, o)) (k + 1, m.set x.toNat (o.length : Int), o ++ [mvT m t]) _ ob51 H1 ⟨⟨by omega, by omega⟩, hle, by rw [List.length_set]; exact hml, hO51.cast (by unfold mvT; simp [*]), by simp only [List.length_append, List.length_cons, List.length_nil]; omega, tg_next k0 hk ht hT⟩ ⟨rfl, rfl, rfl, rfl, rfl, rfl, rfl, rfl, trivial⟩ (fun w hw => by have hw2 := hw.drop.drop; simp only [is_set] at hw2; exact hw2) (by omega))))))))
   ·
    refine TC.skip (TX.seqN (TC.seq (TC.region (TL.run (pr_hp1 rfl hmv) rfl (TL.run (pr_pure rfl) rfl (TL.run (pr_field rfl) rfl (TL.run (pr_own1 rfl (.there _ (.there _ (.here _))) rfl) rfl ?_)))))))
    refine TL.run (pr_lenO rfl rfl hO) rfl (TL.run (pr_index rfl rfl (by omega) (by omega)) rfl ?_)
    refine TL.store1 rfl rfl rfl (.there _ (.here _)) (by simp; omega) rfl ?_
    refine TL.nil (TX.seqN (TC.region (TL.run (pr_field rfl) rfl (TL.run (pr_own1 rfl (.there _ (.there _ (.here _))) rfl) rfl (TL.run (pr_ownA rfl (.here _) rfl) rfl ?_)))))
    refine TL.bslice rfl rfl rfl rfl (fun b50 => ?_)
    refine TL.append (enc := Term.cells) rfl rfl rfl hO (Src.own [⟨t.kind, t.name, t.n, t.text, t.l, t.r⟩] (.here _) rfl rfl) (by simp; omega) rfl (.skip _ (.skip _ (.skip _ (.skip _ .all)))) rfl (fun a51 c51 ob51 hO51 => ?_)
    refine TL.run (pr_field rfl) rfl ?_
    refine TL.store1 rfl rfl rfl (.there _ (.there _ (.there _ (.here _)))) rfl rfl ?_
    refine TL.nil (TX.blkN (TX.seqN (TC.region (TL.run ((by first | exact pr_add rfl rfl (by omega) (by omega) | exact pr_pure rfl)) rfl (TL.run (pr_pure rfl) rfl (TL.nil (TX.round4 (i := (k, m, o)) (k + 1, m.set x.toNat (o.length : Int), o ++ [mvT m t]) _ ob51 H1 ⟨⟨by omega, by omega⟩, hle, by rw [List.length_set]; exact hml, hO51.cast (by unfold mvT; simp [*]), by simp only [List.length_append, List.length_cons, List.length_nil]; omega, tg_next k0 hk ht hT⟩ ⟨rfl, rfl, rfl, rfl, rfl, rfl, rfl, rfl, trivial⟩ (fun w hw => by have hw2 := hw.drop.drop; simp only [is_set] at hw2; exact hw2) (by omega))))))))
 ·
  refine TC.exit (TX.thenE (TX.thenE (TX.blkHit (TX.seqN (TC.seq (TC.region (TL.run (pr_hp1 rfl hmv) rfl ?_)))))))
  refine TL.run (pr_pure rfl) rfl (TL.run (pr_index rfl rfl (by omega) (by omega)) rfl (TL.run (pr_own1 rfl (.here _) (is_get (by omega))) rfl (TL.run (pr_pure rfl) rfl (TL.nil (TX.seqN (TC.ret ?_))))))
  have hE := tg_end k0 c15 hT
  exact TX.finX (.inr rfl) (results1 rfl (RVal.tmp rfl)) (fun w hw => hw) ⟨by rw [hE], _, _, by rw [hE], by rw [hE]; exact hO⟩
end Go.Sx

set_option linter.unusedVariables false
set_option linter.unusedSimpArgs false
namespace Go.Sx
open Go Go.Proofs
set_option maxRecDepth 100000 in
set_option maxHeartbeats 8000000 in
theorem takeAll_ok {H : Hp} {q : SProc} {bx bmv bm bout bt : Nat} {nm : Str} {pv u sv vl : Value} {m0 : List Int} {o0 : List Term} {ob : Blks} {l : List Int} (hl : RdSl H 1 I64.cells vl l) (ht : CellAt H bt (.func (.func 36) #[] #[.pointer (some ⟨bx, 0, none⟩), .pointer (some ⟨bmv, 0, none⟩), .pointer (some ⟨bout, 0, none⟩)])) (hQ : ProcOk H q) (hx : ProcAt H bx q) (hmv : CellAt H bmv (.slice (some ⟨bm, 0, none⟩) q.terms.length q.terms.length)) (hm : ∀ t ∈ l, mayB q.terms t = true) (hl6 : l.length ≤ 6) (hml0 : m0.length = q.terms.length) (hO0 : OwnSl 6 Term.cells u o0 ob) (hr : o0.length ≤ 290000000000) :
  FnX Try.prog 37 [vl, .pointer (some ⟨bt, 0, none⟩)] H ((bm, m0.map (Value.int .i64)) :: (bout, [gs nm, pv, u, sv]) :: ob) (fun r H2 L2 => ∃ u2 ob2 ob3, L2 = (bm, (takesGo q.terms l [] (m0, o0)).2.1.map (Value.int .i64)) :: (bout, [gs nm, pv, u2, sv]) :: (ob2 ++ ob3) ∧ OwnSl 6 Term.cells u2 (takesGo q.terms l [] (m0, o0)).2.2 ob2 ∧ OwnSl 1 I64.cells r (takesGo q.terms l [] (m0, o0)).1 ob3) := by
 obtain ⟨ua, uc, rfl⟩ := hO0.form
 have one0 := hl.isOne
 obtain ⟨la, lc, rfl⟩ := hl.len
 refine FnX.enterM Try.func37 Try.ntmps37 rfl rfl (fun w0 M hM => ?_)
 refine TC.seq (TC.region (TL.run (pr_pure rfl) rfl (TL.nil (TX.seqN (TC.seq (TC.region (TL.run (pr_pure rfl) rfl ?_)))))))
 refine TL.nil (TX.seqN (TC.seq (TC.seq (TC.region (TL.run (pr_pure rfl) rfl (TL.run (pr_lenSl rfl rfl hl) rfl (TL.run (pr_pure rfl) rfl ?_)))))))
 refine TL.nil (TX.seqN (TC.block ?_))
 refine TC.loop4 (V := fun (p : Int × RS × Value × Blks × List Int) v ob H1 => [(4, v), (9, .int .i64 p.1)]) (K := [(1, _), (3, _), (7, _), (8, _)]) (L := fun (p : Int × RS × Value × Blks × List Int) v ob H1 => St M w0 H H1 ((bm, p.2.1.1.map (Value.int .i64)) :: (bout, [gs nm, pv, p.2.2.1, sv]) :: (p.2.2.2.1 ++ ob))) (I := fun (p : Int × RS × Value × Blks × List Int) v ob H1 => (0 ≤ p.1 ∧ p.1 ≤ l.length) ∧ H.le H1 ∧ (p.2.1.1.length = q.terms.length ∧ p.2.1.2.length ≤ o0.length + 33554432 * p.1.toNat) ∧ OwnSl 6 Term.cells p.2.2.1 p.2.1.2 p.2.2.2.1 ∧ OwnSl 1 I64.cells v p.2.2.2.2 ob ∧ p.2.2.2.2.length ≤ p.1 ∧ takesGo q.terms l [] (m0, o0) = takesGo q.terms (l.drop p.1.toNat) p.2.2.2.2 p.2.1) (μ := fun (p : Int × RS × Value × Blks × List Int) => (l.length - p.1).toNat) ((0 : Int), (m0, o0), (.slice ua o0.length uc), ob, []) (.slice none 0 0) [] H ⟨rfl, rfl, rfl, rfl, rfl, rfl, trivial⟩ ⟨⟨by omega, by omega⟩, Hp.le.refl _, ⟨hml0, by simp⟩, hO0, OwnSl.nil, by simp, rfl⟩ (fun w hw => by rw [List.append_nil]; exact hw) (fun p v ob H1 hI => ?_)
 obtain ⟨⟨k0, k1⟩, hle, ⟨hml, hol⟩, hO1, hO, hac, hT⟩ := hI
 obtain ⟨k, ⟨m, o⟩, u1, ob1, acc⟩ := p
 dsimp only at *
 obtain ⟨va, vc, rfl⟩ := hO.form
 replace hl := hl.le hle
 replace ht := ht.le hle
 replace hQ := hQ.le hle
 replace hx := hx.le hle
 replace hmv := hmv.le hle
 refine TC.seq (TC.region (TL.run (pr_pure rfl) rfl (TL.nil (TX.seqN (TC.seq ?_)))))
 refine TC.condD rfl (fun c10 => ?_) (fun c10 => ?_)
 ·
  obtain ⟨x, hk⟩ := getSome (l := l) k0 c10
  have hxm := hm x (List.mem_of_getElem? hk)
  refine TC.skip (TX.seqN (TC.seq (TC.block (TC.seq (TC.region (TL.run (pr_indexSl rfl hl rfl (by omega) (by omega)) rfl (TL.run (pr_el0 hl hk rfl rfl) rfl ?_)))))))
  refine TL.run (pr_pure rfl) rfl (TL.nil (TX.seqN (TC.region (TL.run (pr_pure rfl) rfl (TL.run (pr_hp1 rfl ht) rfl (TL.run (pr_pure rfl) rfl ?_))))))
  refine TL.callX (L1 := (bm, m.map (Value.int .i64)) :: (bout, [gs nm, pv, u1, sv]) :: ob1) (L2 := ob) (enters rfl rfl rfl rfl) (take_ok x hQ hx hmv hxm hml hO1 (by omega)) rfl (fun v16 H16 L16 hle16 hp16 => ?_)
  obtain ⟨rfl, u16, ob16, rfl, hO16⟩ := hp16
  refine TL.permL (L' := (bm, _) :: ((bout, _) :: (ob16 ++ (ob)))) (List.Perm.refl _) ?_
  replace hl := hl.le hle16
  replace ht := ht.le hle16
  replace hQ := hQ.le hle16
  replace hx := hx.le hle16
  replace hmv := hmv.le hle16
  replace hle := hle.trans hle16
  refine TL.bslice rfl rfl rfl rfl (fun b17 => ?_)
  refine TL.append (enc := I64.cells) rfl rfl rfl hO (Src.own [getI (takeS q.terms x (m, o)).1 x] (.here _) rfl rfl) (by simp; omega) rfl (.skip _ (.skip _ (.skip _ (.past _ .all)))) rfl (fun a18 c18 ob18 hO18 => ?_)
  refine TL.run (pr_pure rfl) rfl (TL.nil (TX.blkN (TX.seqN (TC.region (TL.run ((by first | exact pr_add rfl rfl (by omega) (by omega) | exact pr_pure rfl)) rfl (TL.run (pr_pure rfl) rfl (TL.nil ?_)))))))
  exact TX.round4 (i := (k, (m, o), u1, ob1, acc)) (k + 1, takeS q.terms x (m, o), u16, ob16, acc ++ [getI (takeS q.terms x (m, o)).1 x]) _ ob18 H16 ⟨⟨by omega, by omega⟩, hle, ⟨by rw [takeS_len]; exact hml, by have h7 := takeS_size (s := (m, o)) hxm; simp only at h7 ⊢; omega⟩, hO16, hO18, by simp only [List.length_append, List.length_cons, List.length_nil]; omega, ta_next k0 hk hT⟩ ⟨rfl, rfl, rfl, rfl, rfl, rfl, trivial⟩ (fun w hw => hw.drop) (by omega)
 ·
  refine TC.exit (TX.thenE (TX.thenE (TX.blkHit (TX.seqN (TC.seq (TC.region (TL.run (pr_pure rfl) rfl ?_)))))))
  refine TL.run (pr_pure rfl) rfl (TL.nil (TX.seqN (TC.ret ?_)))
  have hE := ta_end k0 c10 hT
  exact TX.finX (.inr rfl) (results1 rfl (RVal.tmp rfl)) (fun w hw => hw) ⟨_, _, _, by rw [hE], by rw [hE]; exact hO1, by rw [hE]; exact hO⟩
end Go.Sx
