import Derived.Test.YtepbjoagighhhaaWTerm
import Derived.Test.YtepbjoagighhhaaPureVa
import Derived.Test.YtepbjoagighhhaaShelf
set_option linter.unusedVariables false
set_option linter.unusedSimpArgs false
namespace Go.Sx
open Go Go.Proofs
set_option maxRecDepth 100000 in
set_option maxHeartbeats 1000000 in
theorem n_Place_ok {H : Hp} {l : List Str} {v : Value} (s : Str) (hL : RdSl H 1 Str.cells v l) :
    FnS Try.prog 44 [v, gs s] H (.int .i64 (placeS l s)) := by
  have hmax := hL.max
  refine FnS.enter Try.func44 Try.ntmps44 rfl rfl (fun w0 => ?_)
  refine TC.seq ?_
  refine TC.region ?_
  refine TL.run (pr_pure rfl) rfl ?_
  refine TL.nil ?_
  refine TX.seqN ?_
  refine TC.seq ?_
  refine TC.seq ?_
  refine TC.region ?_
  refine TL.run (pr_pure rfl) rfl ?_
  refine TL.run (pr_lenSl rfl rfl hL) rfl ?_
  refine TL.run (pr_pure rfl) rfl ?_
  refine TL.nil ?_
  refine TX.seqN ?_
  refine TC.block ?_
  refine TC.loop (V := fun k => [(8, .int .i64 k)]) (K := [(0, _), (1, _), (4, _), (7, _)]) (L := fun k => _) (I := fun k => 0 ≤ k ∧ k ≤ l.length ∧ ∀ j : Nat, j < k.toNat → l[j]? ≠ some s) (μ := fun k => (l.length - k).toNat) (i := (0 : Int)) ⟨rfl, rfl, rfl, rfl, rfl, trivial⟩ ⟨by omega, by omega, fun j hj => absurd hj (by simp)⟩ (fun w hw => hw) (fun k hI => ?_)
  refine TC.seq ?_
  refine TC.region ?_
  refine TL.run (pr_pure rfl) rfl ?_
  refine TL.nil ?_
  refine TX.seqN ?_
  refine TC.seq ?_
  refine TC.condD rfl (fun c9 => ?_) (fun c9 => ?_)
  ·
    refine TC.skip ?_
    refine TX.seqN ?_
    refine TC.seq ?_
    refine TC.block ?_
    refine TC.seq ?_
    refine TC.region ?_
    obtain ⟨x, hx⟩ := getSome (l := l) hI.1 c9
    refine TL.run (pr_pure rfl) rfl ?_
    refine TL.run (pr_pure rfl) rfl ?_
    refine TL.nil ?_
    refine TX.seqN ?_
    refine TC.seq ?_
    refine TC.region ?_
    refine TL.run (pr_pure rfl) rfl ?_
    refine TL.run (pr_pure rfl) rfl ?_
    refine TL.run (pr_indexSl rfl hL rfl (by omega) (by omega)) rfl ?_
    refine TL.run (pr_el0 hL hx rfl rfl) rfl ?_
    refine TL.run (pr_pure rfl) rfl ?_
    refine TL.run (pr_str rfl rfl rfl) rfl ?_
    refine TL.nil ?_
    refine TX.seqN ?_
    refine TC.condD rfl (fun c16 => ?_) (fun c16 => ?_)
    ·
      refine TC.seq ?_
      refine TC.region ?_
      refine TL.run (pr_pure rfl) rfl ?_
      refine TL.run (pr_pure rfl) rfl ?_
      refine TL.nil ?_
      refine TX.seqN ?_
      refine TC.ret ?_
      refine TX.blkR ?_
      refine TX.thenR ?_
      refine TX.thenR ?_
      refine TX.blkR ?_
      refine TX.thenR ?_
      exact TX.finS (.inr rfl) (results1 rfl (RVal.tmp rfl)) (congrArg (Value.int .i64) (by first | exact (placeS_hit hI.1 (by rw [hx, c16]) hI.2.2).symm | exact (place_end hI.2.2 c9).symm))
    ·
      refine TC.skip ?_
      refine TX.blkN ?_
      refine TX.seqN ?_
      refine TC.region ?_
      refine TL.run ((by first | exact pr_add rfl rfl (by omega) (by omega) | exact pr_pure rfl)) rfl ?_
      refine TL.run (pr_pure rfl) rfl ?_
      refine TL.nil ?_
      exact TX.round (k + 1) ⟨by omega, by omega, place_next hI.1 hI.2.2 hx c16⟩ ⟨rfl, rfl, rfl, rfl, rfl, trivial⟩ (fun w hw => hw) (by omega)
  ·
    refine TC.exit ?_
    refine TX.thenE ?_
    refine TX.thenE ?_
    refine TX.blkHit ?_
    refine TX.seqN ?_
    refine TC.seq ?_
    refine TC.region ?_
    refine TL.run (pr_pure rfl) rfl ?_
    refine TL.nil ?_
    refine TX.seqN ?_
    refine TC.ret ?_
    exact TX.finS (.inr rfl) (results1 rfl (RVal.tmp rfl)) (congrArg (Value.int .i64) (by first | exact (placeS_hit hI.1 (by rw [hx, c16]) hI.2.2).symm | exact (place_end hI.2.2 c9).symm))

set_option maxRecDepth 100000 in
set_option maxHeartbeats 1000000 in
theorem n_Has_ok {H : Hp} {l : List Str} {v : Value} (s : Str) (hL : RdSl H 1 Str.cells v l) :
    FnS Try.prog 29 [v, gs s] H (.bool (hasS l s)) := by
  refine FnS.enter Try.func29 Try.ntmps29 rfl rfl (fun w0 => ?_)
  refine TC.seq ?_
  refine TC.region ?_
  refine TL.run (pr_pure rfl) rfl ?_
  refine TL.nil ?_
  refine TX.seqN ?_
  refine TC.seq ?_
  refine TC.region ?_
  refine TL.run (pr_pure rfl) rfl ?_
  refine TL.run (pr_pure rfl) rfl ?_
  refine TL.callS (enters rfl rfl rfl rfl) (n_Place_ok s hL) rfl ?_
  refine TL.run (pr_pure rfl) rfl ?_
  refine TL.run (pr_pure rfl) rfl ?_
  refine TL.nil ?_
  refine TX.seqN ?_
  refine TC.ret ?_
  exact TX.finS (.inr rfl) (results1 rfl (RVal.tmp rfl)) (congrArg Value.bool (by rw [← hasS_place]))

set_option maxRecDepth 100000 in
set_option maxHeartbeats 1000000 in
theorem varsN_ok {H : Hp} {at_ : Int} {bl bo bw : Nat} {u : Value} {xs : List Str} {ob : Blks} (hneg : at_ < 0) (hO : OwnSl 1 Str.cells u xs ob) :
    FnX Try.prog 39 [.int .i64 at_, .pointer (some ⟨bw, 0, none⟩), .pointer (some ⟨bl, 0, none⟩), .pointer (some ⟨bo, 0, none⟩)] H ((bo, [u]) :: ob) (fun r H' L' => r = .tuple #[] ∧ H' = H ∧ ∃ u' ob', L' = (bo, [u']) :: ob' ∧ OwnSl 1 Str.cells u' xs ob') := by
  refine FnX.enter Try.func39 Try.ntmps39 rfl rfl (fun w0 => ?_)
  refine TC.seq ?_
  refine TC.seq ?_
  refine TC.region ?_
  refine TL.run (pr_pure rfl) rfl ?_
  refine TL.run (pr_pure rfl) rfl ?_
  refine TL.nil ?_
  refine TX.seqN ?_
  refine TC.condD rfl (fun c6 => ?_) (fun c6 => ?_)
  ·
    refine TC.ret ?_
    refine TX.thenR ?_
    exact TX.finX (.inr rfl) (results0 rfl) (fun w hw => hw) ⟨rfl, rfl, _, _, rfl, hO⟩
  ·
    exact absurd hneg c6

set_option maxRecDepth 100000 in
set_option maxHeartbeats 2000000 in
theorem varsW_ok {H : Hp} {l : List Term} {v : Value} {bl bo bw : Nat} (hT : RdSl H 6 Term.cells v l) (hl : H bl 0 = some v) (hw : H bw 0 = some (.func (.func 39) #[] #[.pointer (some ⟨bw, 0, none⟩), .pointer (some ⟨bl, 0, none⟩), .pointer (some ⟨bo, 0, none⟩)])) :
    ∀ (f : Nat) (at_ : Int), (at_ < 0 ∨ Tr l f at_) → ∀ (u : Value) (xs : List Str) (ob : Blks), OwnSl 1 Str.cells u xs ob → xs.length + (varsW l f at_).length ≤ 100000000 →
      FnX Try.prog 39 [.int .i64 at_, .pointer (some ⟨bw, 0, none⟩), .pointer (some ⟨bl, 0, none⟩), .pointer (some ⟨bo, 0, none⟩)] H ((bo, [u]) :: ob) (fun r H' L' => r = .tuple #[] ∧ H' = H ∧ ∃ u' ob', L' = (bo, [u']) :: ob' ∧ OwnSl 1 Str.cells u' (xs ++ varsW l f at_) ob') := by
  intro f
  induction f with
  | zero =>
    intro at_ h u xs ob hO hlen
    have h0 : at_ < 0 := h.resolve_right (fun h => h)
    rw [varsW_neg h0, List.append_nil]
    exact varsN_ok h0 hO
  | succ f ih =>
  intro at_ h u xs ob hO hlen
  have one0 := hT.isOne
  obtain ⟨ua, uc, rfl⟩ := hO.form
  refine FnX.enter Try.func39 Try.ntmps39 rfl rfl (fun w0 => ?_)
  refine TC.seq ?_
  refine TC.seq ?_
  refine TC.region ?_
  refine TL.run (pr_pure rfl) rfl ?_
  refine TL.run (pr_pure rfl) rfl ?_
  refine TL.nil ?_
  refine TX.seqN ?_
  refine TC.condD rfl (fun c6 => ?_) (fun c6 => ?_)
  ·
    refine TC.ret ?_
    refine TX.thenR ?_
    exact TX.finX (.inr rfl) (results0 rfl) (fun w hw => hw) ⟨rfl, rfl, _, _, rfl, by rw [varsW_neg c6, List.append_nil]; exact hO⟩
  ·
    obtain ⟨h0, t, hx, _, _, hTl0, hTl1, hTr0, hTr1⟩ := h.resolve_left c6
    have hlt : at_.toNat < l.length := (List.getElem?_eq_some_iff.1 hx).1
    rw [varsW_at c6 hx] at hlen
    simp only [List.length_append] at hlen
    have hTl : t.l < 0 ∨ Tr l f t.l := by rcases Int.lt_or_le (operandsI t.kind) 1 with h1 | h1; exact .inl (by have := hTl1 h1; omega); exact .inr (hTl0 h1)
    have hTr : t.r < 0 ∨ Tr l f t.r := by rcases Int.lt_or_le (operandsI t.kind) 2 with h1 | h1; exact .inl (by have := hTr1 h1; omega); exact .inr (hTr0 h1)
    refine TC.skip ?_
    refine TX.seqN ?_
    refine TC.seq ?_
    refine TC.drawn (by kernel_rfl) (by kernel_rfl) ?_
    refine TD.leaf [(0, 2), (1, 2), (2, 1), (3, 1), (4, 1), (5, 2), (6, 0)] (by kernel_rfl) (by kernel_rfl) ?_
    refine TF.still (pr_hp1 rfl hw) rfl ?_
    refine TF.still (pr_hp1 rfl hl) rfl ?_
    refine TF.pure (pr_pure rfl) rfl ?_
    refine TF.pure (pr_indexSl rfl hT rfl (by omega) (by omega)) rfl ?_
    refine TF.pure (pr_field rfl) rfl ?_
    refine TF.still (pr_el1 hT hx rfl rfl) rfl ?_
    refine TF.loud ?_
    refine TL.callX0 (L1 := (bo, [(.slice ua _ uc)]) :: ob) (enters rfl rfl rfl rfl) (ih t.l (hTl) _ _ _ hO (by omega)) rfl (fun v13 H13 L13 hle13 hp13 => ?_)
    obtain ⟨rfl, rfl, u13, ob13, rfl, hO13⟩ := hp13
    obtain ⟨ua13, uc13, rfl⟩ := hO13.form
    refine TF.back ?_
    refine TF.nil ?_
    refine TX.seqN ?_
    refine TC.seq ?_
    refine TC.drawn (by kernel_rfl) (by kernel_rfl) ?_
    refine TD.leaf [(0, 2), (1, 2), (2, 1), (3, 1), (4, 1), (5, 2), (6, 0)] (by kernel_rfl) (by kernel_rfl) ?_
    refine TF.still (pr_hp1 rfl hw) rfl ?_
    refine TF.still (pr_hp1 rfl hl) rfl ?_
    refine TF.pure (pr_pure rfl) rfl ?_
    refine TF.pure (pr_indexSl rfl hT rfl (by omega) (by omega)) rfl ?_
    refine TF.pure (pr_field rfl) rfl ?_
    refine TF.still (pr_el1 hT hx rfl rfl) rfl ?_
    refine TF.loud ?_
    refine TL.callX0 (L1 := (bo, [(.slice ua13 _ uc13)]) :: ob13) (enters rfl rfl rfl rfl) (ih t.r (hTr) _ _ _ hO13 (by simp only [List.length_append]; omega)) rfl (fun v20 H20 L20 hle20 hp20 => ?_)
    obtain ⟨rfl, rfl, u20, ob20, rfl, hO20⟩ := hp20
    obtain ⟨ua20, uc20, rfl⟩ := hO20.form
    refine TF.back ?_
    refine TF.nil ?_
    refine TX.seqN ?_
    refine TC.seq ?_
    refine TC.region ?_
    refine TL.run (pr_hp1 rfl hl) rfl ?_
    refine TL.run (pr_pure rfl) rfl ?_
    refine TL.run (pr_indexSl rfl hT rfl (by omega) (by omega)) rfl ?_
    refine TL.run (pr_field rfl) rfl ?_
    refine TL.run (pr_el1 hT hx rfl rfl) rfl ?_
    refine TL.run (pr_pure rfl) rfl ?_
    refine TL.nil ?_
    refine TX.seqN ?_
    refine TC.condD rfl (fun c26 => ?_) (fun c26 => ?_)
    ·
      rw [if_pos c26] at hlen
      simp only [List.length_cons, List.length_nil] at hlen
      refine TC.drawn (by kernel_rfl) (by kernel_rfl) ?_
      refine TD.leaf [(0, 2), (1, 2), (2, 1), (3, 1), (4, 1), (5, 2), (6, 3), (7, 0), (8, 0)] (by kernel_rfl) (by kernel_rfl) ?_
      refine TF.still (pr_own1 rfl (.here _) rfl) rfl ?_
      refine TF.still (pr_hp1 rfl hl) rfl ?_
      refine TF.pure (pr_pure rfl) rfl ?_
      refine TF.pure (pr_indexSl rfl hT rfl (by omega) (by omega)) rfl ?_
      refine TF.pure (pr_field rfl) rfl ?_
      refine TF.still (pr_el1 hT hx rfl rfl) rfl ?_
      refine TF.bslice rfl rfl rfl rfl (fun b33 => ?_)
      refine TF.loud ?_
      refine TL.append (enc := Str.cells) rfl rfl rfl hO20 (Src.own [t.name] (.here _) rfl rfl) (by simp; omega) rfl (.skip _ (.skip _ .all)) rfl (fun a34 c34 ob34 hO34 => ?_)
      refine TF.back ?_
      refine TF.loud ?_
      refine TL.storeV rfl rfl rfl (.there _ (.here _)) rfl ?_
      refine TF.back ?_
      refine TF.nil ?_
      exact TX.finX (.inl rfl) (results0 rfl) (fun w hw => hw.drop) ⟨rfl, rfl, _, _, rfl, by rw [varsW_at c6 hx, if_pos c26, ← List.append_assoc, ← List.append_assoc]; exact hO34⟩
    ·
      refine TC.skip ?_
      exact TX.finX (.inl rfl) (results0 rfl) (fun w hw => hw) ⟨rfl, rfl, _, _, rfl, by rw [varsW_at c6 hx, if_neg c26, List.append_nil, ← List.append_assoc]; exact hO20⟩

set_option maxRecDepth 100000 in
set_option maxHeartbeats 1000000 in
theorem Vars_ok {H : Hp} {l : List Term} {v : Value} (root : Int) (hT : RdSl H 6 Term.cells v l) (hnames : ∀ t ∈ l, t.name.length ≤ 9223372036854775807) :
    Fn Try.prog 26 [v, .int .i64 root] H (fun r H1 => RdSl H1 1 Str.cells r (varsS l root)) := by
  have one1 := hT.isOne
  refine Fn.enter Try.func26 Try.ntmps26 rfl rfl (fun w0 => ?_)
  refine TC.seq ?_
  refine TC.region ?_
  refine TL.box1 rfl rfl (fun b2 => ?_)
  refine TL.run (pr_pure rfl) rfl ?_
  refine TL.nil ?_
  refine TX.seqN ?_
  refine TC.seq ?_
  refine TC.seq ?_
  refine TC.region ?_
  refine TL.run (pr_own1 rfl (.here _) rfl) rfl ?_
  refine TL.run (pr_pure rfl) rfl ?_
  refine TL.callS (enters rfl rfl rfl rfl) (May_ok root hT hnames) rfl ?_
  refine TL.run (pr_pure rfl) rfl ?_
  refine TL.nil ?_
  refine TX.seqN ?_
  refine TC.cond rfl (fun c10 => ?_) (fun c10 => ?_)
  ·
    refine TC.seq ?_
    refine TC.region ?_
    refine TL.run (pr_pure rfl) rfl ?_
    refine TL.nil ?_
    refine TX.seqN ?_
    refine TC.ret ?_
    refine TX.thenR ?_
    exact TX.fin0 (.inr rfl) (results1 rfl (RVal.tmp rfl)) (by unfold varsS; rw [if_neg (by simpa using c10)]; exact RdSl.nil)
  ·
    refine TC.skip ?_
    refine TX.seqN ?_
    refine TC.seq ?_
    refine TC.region ?_
    refine TL.alloc rfl (fun b5 => ?_)
    refine TL.nil ?_
    refine TX.seqN ?_
    refine TC.seq ?_
    refine TC.region ?_
    refine TL.alloc rfl (fun b6 => ?_)
    refine TL.nil ?_
    refine TX.seqN ?_
    refine TC.seq ?_
    refine TC.region ?_
    refine TL.run (pr_pure rfl) rfl ?_
    refine TL.storeV rfl rfl rfl (.here _) rfl ?_
    refine TL.nil ?_
    refine TX.seqN ?_
    refine TC.seq ?_
    refine TC.region ?_
    refine TL.pub (by simp) (fun H_b6 le_b6 rd_b6 => ?_)
    refine TL.front (.there _ (.here _)) ?_
    refine TL.pub (by simp) (fun H_b2 le_b2 rd_b2 => ?_)
    have hT2 := (hT.le le_b6).le le_b2
    have hl : H_b2 b2 0 = some v := rd_b2 0 _ rfl
    have hw := le_b2 _ _ _ (rd_b6 0 _ rfl)
    have hm : mayB l root = true := by simpa using c10
    have hvl := mayB_vars hm
    refine TL.run (pr_hp1 rfl hw) rfl ?_
    refine TL.run (pr_pure rfl) rfl ?_
    refine TL.callX0 (L1 := (b5, [.slice none 0 0]) :: []) (enters rfl rfl rfl rfl) (varsW_ok hT2 hl hw (root.toNat + 1) root (.inr (mayB_Tr hm)) _ [] [] OwnSl.nil (by simp; omega)) rfl (fun v14 H14 L14 hle14 hp14 => ?_)
    obtain ⟨rfl, rfl, u14, ob14, rfl, hO14⟩ := hp14
    rw [List.nil_append] at hO14
    obtain ⟨ua14, uc14, rfl⟩ := hO14.form
    refine TL.nil ?_
    refine TX.seqN ?_
    refine TC.seq ?_
    refine TC.region ?_
    refine TL.run (pr_own1 rfl (.here _) rfl) rfl ?_
    refine TL.sort (enters rfl rfl rfl rfl) sort_ok hO14 (.skip _ .all) (by omega) rfl (fun ob16 hO16 => ?_)
    refine TL.nil ?_
    refine TX.seqN ?_
    refine TC.seq ?_
    refine TC.region ?_
    refine TL.run (pr_own1 rfl (.here _) rfl) rfl ?_
    refine TL.compact (enters rfl rfl rfl rfl) compact_ok hO16 (.skip _ .all) rfl (fun a18 c18 ob18 hO18 => ?_)
    refine TL.run (pr_pure rfl) rfl ?_
    refine TL.nil ?_
    refine TX.seqN ?_
    refine TC.ret ?_
    refine TX.pubO hO18 (.skip _ .all) (by simp) (fun H1 hle hR => ?_)
    exact TX.fin0 (.inr rfl) (results1 rfl (RVal.tmp rfl)) (by unfold varsS; rw [if_pos hm]; exact hR)
end Go.Sx
