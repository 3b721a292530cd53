import Derived.Test.YtgagehpnkecmkaaDoorPurePt
import Derived.Test.YtgagehpnkecmkaaDoorPureTq
set_option linter.unusedVariables false
namespace Go.Sx
open Go
/-! ## the reference's variables are the program's -/
def varsK (l : List Term) (bs : List Bool) : Nat → List Str
  | 0 => []
  | k + 1 => match l[k]?, bs[k]? with
    | some t, some b => if b = true ∧ t.kind = 0 then putS (varsK l bs k) t.name else varsK l bs k
    | _, _ => varsK l bs k
theorem varsK_succ (l : List Term) (bs : List Bool) (k : Nat) : varsK l bs (k + 1) = match l[k]?, bs[k]? with
    | some t, some b => if b = true ∧ t.kind = 0 then putS (varsK l bs k) t.name else varsK l bs k
    | _, _ => varsK l bs k := rfl
theorem varsK_T {l : List Term} {bs : List Bool} {k : Int} {t : Term} {b : Bool} (h0 : 0 ≤ k) (hx : l[k.toNat]? = some t) (hb : bs[k.toNat]? = some b) (h : b = true ∧ t.kind = 0) : varsK l bs (k + 1).toNat = putS (varsK l bs k.toNat) t.name := by
  rw [show (k + 1).toNat = k.toNat + 1 by omega, varsK, hx, hb]; exact if_pos h
theorem varsK_F {l : List Term} {bs : List Bool} {k : Int} {t : Term} {b : Bool} (h0 : 0 ≤ k) (hx : l[k.toNat]? = some t) (hb : bs[k.toNat]? = some b) (h : ¬ (b = true ∧ t.kind = 0)) : varsK l bs (k + 1).toNat = varsK l bs k.toNat := by
  rw [show (k + 1).toNat = k.toNat + 1 by omega, varsK, hx, hb]; exact if_neg h
theorem varsK_len (l : List Term) (bs : List Bool) (k : Nat) : (varsK l bs k).length ≤ k := by
  induction k with
  | zero => simp [varsK]
  | succ k ih =>
    unfold varsK
    split
    · split
      · have := put_len (varsK l bs k) (by assumption : Term).name; omega
      · omega
    · omega
def varsR (l : List Term) (root : Int) : List Str := match treeS l root with
  | none => []
  | some d => varsK l (d.map posB) l.length
/-! rising rows -/
def Rise (l : List Str) : Prop := l.Pairwise (· < ·)
theorem rise_eq : ∀ (a b : List Str), Rise a → Rise b → (∀ x, x ∈ a ↔ x ∈ b) → a = b
  | [], [], _, _, _ => rfl
  | [], y :: b, _, _, h => absurd ((h y).2 List.mem_cons_self) (by simp)
  | x :: a, [], _, _, h => absurd ((h x).1 List.mem_cons_self) (by simp)
  | x :: a, y :: b, ha, hb, h => by
    have ha' := List.pairwise_cons.1 ha
    have hb' := List.pairwise_cons.1 hb
    have e : x = y := by
      rcases List.mem_cons.1 ((h x).1 List.mem_cons_self) with e | h1
      · exact e
      · rcases List.mem_cons.1 ((h y).2 List.mem_cons_self) with e | h2
        · exact e.symm
        · exact absurd (ha'.1 y h2) (List.lt_asymm (hb'.1 x h1))
    subst e
    rw [rise_eq a b ha'.2 hb'.2 (fun z => ?_)]
    constructor
    · intro hz
      rcases List.mem_cons.1 ((h z).1 (List.mem_cons_of_mem _ hz)) with e | h1
      · subst e; exact absurd (ha'.1 z hz) (List.lt_irrefl z)
      · exact h1
    · intro hz
      rcases List.mem_cons.1 ((h z).2 (List.mem_cons_of_mem _ hz)) with e | h1
      · subst e; exact absurd (hb'.1 z hz) (List.lt_irrefl z)
      · exact h1
theorem mem_put {l : List Str} {s x : Str} : x ∈ putS l s ↔ x = s ∨ x ∈ l := by
  induction l with
  | nil => simp [putS]
  | cons y r ih =>
    unfold putS
    split
    · simp only [List.mem_cons, ih]
      constructor
      · rintro (h | h | h) <;> simp [h]
      · rintro (h | h | h) <;> simp [h]
    · split
      · rename_i h; subst h; simp
      · simp
theorem put_rise {l : List Str} {s : Str} (h : Rise l) : Rise (putS l s) := by
  induction l with
  | nil => simp [putS, Rise]
  | cons y r ih =>
    have h' := List.pairwise_cons.1 h
    unfold putS
    split
    · rename_i hc
      rw [Go.Proofs.bytesLess_eq] at hc
      refine List.pairwise_cons.2 ⟨fun z hz => ?_, ih h'.2⟩
      rcases mem_put.1 hz with rfl | hz
      · simpa using hc
      · exact h'.1 z hz
    · split
      · exact h
      · rename_i hc hne
        rw [Go.Proofs.bytesLess_eq] at hc
        have hle : s ≤ y := List.not_lt.1 (by simpa using hc)
        have hlt : s < y := by
          apply Classical.byContradiction
          intro hn
          exact hne (List.le_antisymm (List.not_lt.1 hn) hle)
        refine List.pairwise_cons.2 ⟨fun z hz => ?_, h⟩
        rcases List.mem_cons.1 hz with rfl | hz
        · exact hlt
        · exact List.lt_trans hlt (h'.1 z hz)
theorem varsK_rise (l : List Term) (bs : List Bool) (k : Nat) : Rise (varsK l bs k) := by
  induction k with
  | zero => simp [varsK, Rise]
  | succ k ih =>
    unfold varsK
    split
    · split
      · exact put_rise ih
      · exact ih
    · exact ih
theorem mem_varsK {l : List Term} {bs : List Bool} {x : Str} {k : Nat} : x ∈ varsK l bs k ↔ ∃ i t, i < k ∧ l[i]? = some t ∧ bs[i]? = some true ∧ t.kind = 0 ∧ t.name = x := by
  induction k with
  | zero => simp [varsK]
  | succ k ih =>
    have e : (∃ i t, i < k + 1 ∧ l[i]? = some t ∧ bs[i]? = some true ∧ t.kind = 0 ∧ t.name = x) ↔ (∃ t, l[k]? = some t ∧ bs[k]? = some true ∧ t.kind = 0 ∧ t.name = x) ∨ x ∈ varsK l bs k := by
      rw [ih]
      constructor
      · rintro ⟨i, t, hi, h⟩
        by_cases hk : i = k
        · subst hk; exact .inl ⟨t, h⟩
        · exact .inr ⟨i, t, by omega, h⟩
      · rintro (⟨t, h⟩ | ⟨i, t, hi, h⟩)
        · exact ⟨k, t, by omega, h⟩
        · exact ⟨i, t, by omega, h⟩
    rw [e, varsK_succ]
    split
    · rename_i t b hx hb
      split
      · rename_i h
        rw [mem_put]
        constructor
        · rintro (h1 | h1)
          · exact .inl ⟨t, hx, by rw [hb, h.1], h.2, h1.symm⟩
          · exact .inr h1
        · rintro (⟨t', h1, h2, h3, h4⟩ | h1)
          · rw [hx] at h1; obtain rfl := Option.some.inj h1; exact .inl h4.symm
          · exact .inr h1
      · rename_i h
        constructor
        · exact .inr
        · rintro (⟨t', h1, h2, h3, h4⟩ | h1)
          · rw [hx] at h1; obtain rfl := Option.some.inj h1
            rw [hb] at h2; exact absurd ⟨Option.some.inj h2, h3⟩ h
          · exact h1
    · rename_i hno
      constructor
      · exact .inr
      · rintro (⟨t', h1, h2, h3, h4⟩ | h1)
        · exact absurd h2 (hno t' true h1)
        · exact h1
theorem compact_rise {zs : List Str} (h : zs.Pairwise (· ≤ ·)) : Rise (Lib.compact zs) := by
  unfold Rise Lib.compact Lib.compactUpTo
  rw [List.pairwise_map]
  have hp : ((List.range zs.length).filter (Lib.keeps zs.toArray)).Pairwise (· < ·) := List.pairwise_lt_range.filter _
  refine hp.imp_of_mem (fun {i j} hi hj hij => ?_)
  simp only [List.mem_filter, List.mem_range] at hi hj
  have hj0 : ¬ j = 0 := by omega
  have hk := hj.2
  simp only [Lib.keeps, decide_eq_true_eq] at hk
  have hne := hk.resolve_left hj0
  rw [getElem!_pos zs.toArray j (by simpa using hj.1), getElem!_pos zs.toArray (j - 1) (by simp; omega)] at hne
  rw [getElem!_pos zs.toArray j (by simpa using hj.1), getElem!_pos zs.toArray i (by simpa using hi.1)]
  simp only [List.getElem_toArray] at hne ⊢
  have hP := List.pairwise_iff_getElem.1 h
  have h1 : zs[j - 1]'(by omega) ≤ zs[j]'(hj.1) := hP (j - 1) j (by omega) hj.1 (by omega)
  have h2 : zs[j - 1]'(by omega) < zs[j]'(hj.1) := by
    apply Classical.byContradiction
    intro hn
    exact hne (List.le_antisymm (List.not_lt.1 hn) h1)
  by_cases he : i = j - 1
  · subst he; exact h2
  · have h3 : zs[i]'(hi.1) ≤ zs[j - 1]'(by omega) := hP i (j - 1) hi.1 (by omega) (by omega)
    exact List.lt_of_le_of_lt h3 h2
theorem sortS_rise (l : List Str) : (sortS l).Pairwise (· ≤ ·) := by
  have := List.pairwise_mergeSort (le := fun x y : Str => decide (x ≤ y)) (fun a b c h1 h2 => by simp only [decide_eq_true_eq] at *; exact List.le_trans h1 h2) (fun a b => by simp only [Bool.or_eq_true, decide_eq_true_eq]; exact List.le_total a b) l
  exact this.imp (fun h => by simpa using h)
theorem varsS_rise (l : List Term) (root : Int) : Rise (varsS l root) := by
  unfold varsS
  split
  · exact compact_rise (sortS_rise _)
  · exact List.Pairwise.nil
/-! every place of the tree is met -/
theorem treeOp_fwd {d d' : List Int} {i : Nat} {at_ : Int} (h : treeOp d i at_ = some d') (hn : Nn d) (hi : i < d.length) :
    0 < d'[at_.toNat]?.getD 0 ∧ (∀ j : Nat, 0 < d[j]?.getD 0 → 0 < d'[j]?.getD 0) ∧ (∀ j : Nat, i ≤ j → d'[j]?.getD 0 = d[j]?.getD 0) ∧ Nn d' ∧ d'.length = d.length := by
  unfold treeOp at h
  split at h
  · cases h
  · rename_i hg
    obtain rfl := Option.some.inj h
    simp only [Int.toNat_natCast]
    have hp := hn i
    have hlt : at_.toNat < i := by omega
    have hv : 0 < (d.set at_.toNat (d[i]?.getD 0 + 1))[at_.toNat]?.getD 0 := by rw [set_eq (by omega)]; omega
    refine ⟨hv, fun j hj => ?_, fun j hj => set_ne (by omega), Nn_set hn (by omega), by simp⟩
    by_cases e : at_.toNat = j
    · subst e; exact hv
    · rw [set_ne e]; exact hj
theorem treeStep_fwd {l : List Term} {d d' : List Int} {i : Nat} (h : treeStep l i d = some d') (hn : Nn d) :
    (0 < d[i]?.getD 0 → ∀ t, l[i]? = some t → (1 ≤ operandsI t.kind → 0 < d'[t.l.toNat]?.getD 0) ∧ (2 ≤ operandsI t.kind → 0 < d'[t.r.toNat]?.getD 0)) ∧ (∀ j : Nat, 0 < d[j]?.getD 0 → 0 < d'[j]?.getD 0) ∧ (∀ j : Nat, i ≤ j → d'[j]?.getD 0 = d[j]?.getD 0) ∧ Nn d' := by
  unfold treeStep at h
  simp only [Int.toNat_natCast] at h
  split at h
  · rename_i h0
    obtain rfl := Option.some.inj h
    exact ⟨fun hp => absurd h0 (by omega), fun j hj => hj, fun j _ => rfl, hn⟩
  · rename_i h0
    have hi : i < d.length := by
      apply Classical.byContradiction
      intro hge
      exact h0 (by rw [List.getElem?_eq_none (by omega)]; rfl)
    cases hx : l[i]? with
    | none => rw [hx] at h; cases h
    | some t =>
      rw [hx] at h
      simp only at h
      split at h
      · cases h
      · unfold treeOps at h
        split at h
        · obtain rfl := Option.some.inj h
          refine ⟨fun _ t' ht => ?_, fun j hj => hj, fun j _ => rfl, hn⟩
          obtain rfl := Option.some.inj ht
          exact ⟨fun h1 => by omega, fun h1 => by omega⟩
        · cases h2 : treeOp d i t.l with
          | none => rw [h2] at h; cases h
          | some d2 =>
            rw [h2] at h
            simp only at h
            obtain ⟨a1, a2, a3, a4, a5⟩ := treeOp_fwd h2 hn hi
            split at h
            · obtain rfl := Option.some.inj h
              refine ⟨fun _ t' ht => ?_, a2, a3, a4⟩
              obtain rfl := Option.some.inj ht
              exact ⟨fun _ => a1, fun h1 => by omega⟩
            · obtain ⟨b1, b2, b3, b4, b5⟩ := treeOp_fwd h a4 (by omega)
              refine ⟨fun _ t' ht => ?_, fun j hj => b2 j (a2 j hj), fun j hj => (b3 j hj).trans (a3 j hj), b4⟩
              obtain rfl := Option.some.inj ht
              exact ⟨fun _ => b2 _ a1, fun _ => b1⟩
theorem treeLoop_fwd {l : List Term} : ∀ (n : Nat) (d d' : List Int), treeLoop l n d = some d' → Nn d →
    (∀ j : Nat, 0 < d[j]?.getD 0 → 0 < d'[j]?.getD 0) ∧ (∀ j : Nat, n ≤ j → d'[j]?.getD 0 = d[j]?.getD 0) ∧ (∀ i : Nat, i < n → 0 < d'[i]?.getD 0 → ∀ t, l[i]? = some t → (1 ≤ operandsI t.kind → 0 < d'[t.l.toNat]?.getD 0) ∧ (2 ≤ operandsI t.kind → 0 < d'[t.r.toNat]?.getD 0))
  | 0, d, d', h, hn => by obtain rfl := Option.some.inj h; exact ⟨fun j hj => hj, fun j _ => rfl, fun i hi => by omega⟩
  | n + 1, d, d', h, hn => by
    simp only [treeLoop] at h
    cases hs : treeStep l n d with
    | none => rw [hs] at h; cases h
    | some d1 =>
      rw [hs] at h
      simp only at h
      obtain ⟨a1, a2, a3, a4⟩ := treeStep_fwd hs hn
      obtain ⟨b1, b2, b3⟩ := treeLoop_fwd n d1 d' h a4
      refine ⟨fun j hj => b1 j (a2 j hj), fun j hj => (b2 j (by omega)).trans (a3 j (by omega)), fun i hi hp t ht => ?_⟩
      by_cases e : i = n
      · subst e
        have hp1 : 0 < d[i]?.getD 0 := by rw [← a3 i (Nat.le_refl _), ← b2 i (Nat.le_refl _)]; exact hp
        have := a1 hp1 t ht
        exact ⟨fun h1 => b1 _ (this.1 h1), fun h1 => b1 _ (this.2 h1)⟩
      · exact b3 i (by omega) hp t ht
theorem preL_all {l : List Term} {S : Nat → Prop} : ∀ (f at_ : Nat) (deep : Int) (p : List Nat), preL l f at_ deep = some p → S at_ → (∀ i, i ≤ at_ → S i → ∀ t, l[i]? = some t → (1 ≤ operandsI t.kind → S t.l.toNat) ∧ (2 ≤ operandsI t.kind → S t.r.toNat)) → ∀ i ∈ p, S i := by
  intro f
  induction f with
  | zero => intro at_ deep p h; simp [preL] at h
  | succ f ih =>
    intro at_ deep p h hS hc i hi
    obtain ⟨t, p0, q0, hx, hok, h0, h1, rfl⟩ := preL_some h
    have hcl := hc at_ (Nat.le_refl _) hS t hx
    rcases List.mem_cons.1 hi with rfl | hi
    · exact hS
    · rcases List.mem_append.1 hi with hi | hi
      · split at h0
        · simp only [Option.some.injEq] at h0; subst h0; cases hi
        · rename_i ho
          have := okT_l hok ho
          exact ih _ _ _ h0 (hcl.1 (by omega)) (fun j hj => hc j (by omega)) i hi
      · split at h1
        · simp only [Option.some.injEq] at h1; subst h1; cases hi
        · rename_i ho
          have := okT_r hok ho
          exact ih _ _ _ h1 (hcl.2 (by omega)) (fun j hj => hc j (by omega)) i hi
theorem tree_all {l : List Term} {root : Int} {d : List Int} {p : List Nat} (h : treeS l root = some d) (hp : preL l (root.toNat + 1) root.toNat 1 = some p) {k : Nat} (hk : k ∈ p) : 0 < d[k]?.getD 0 := by
  unfold treeS at h
  split at h
  · cases h
  · rename_i hg
    obtain ⟨a1, a2, a3⟩ := treeLoop_fwd _ _ _ h (Nn_start _ _)
    refine preL_all (S := fun i => 0 < d[i]?.getD 0) _ _ _ _ hp (a1 _ (by rw [set_eq (by simp; omega)]; decide)) (fun i hi hS t ht => a3 i (by omega) hS t ht) k hk
theorem mem_varsW {l : List Term} {x : Str} : ∀ (f at_ : Nat) (deep : Int) (p : List Nat), preL l f at_ deep = some p → ∀ a : Int, 0 ≤ a → a.toNat = at_ → (x ∈ varsW l f a ↔ ∃ i t, i ∈ p ∧ l[i]? = some t ∧ t.kind = 0 ∧ t.name = x) := by
  intro f
  induction f with
  | zero => intro at_ deep p h; simp [preL] at h
  | succ f ih =>
    intro at_ deep p h a ha0 ha
    obtain ⟨t, p0, q0, hx, hok, h0, h1, rfl⟩ := preL_some h
    have hops := okT_ops hok
    have e0 : x ∈ varsW l f t.l ↔ ∃ i t, i ∈ p0 ∧ l[i]? = some t ∧ t.kind = 0 ∧ t.name = x := by
      split at h0
      · rename_i ho
        simp only [Option.some.injEq] at h0; subst h0
        rw [hops.2.2.2.1 ho, varsW_neg (by decide)]; simp
      · rename_i ho
        exact ih _ _ _ h0 t.l (okT_l hok ho).1 rfl
    have e1 : x ∈ varsW l f t.r ↔ ∃ i t, i ∈ q0 ∧ l[i]? = some t ∧ t.kind = 0 ∧ t.name = x := by
      split at h1
      · rename_i ho
        simp only [Option.some.injEq] at h1; subst h1
        rw [hops.2.2.2.2 ho, varsW_neg (by decide)]; simp
      · rename_i ho
        exact ih _ _ _ h1 t.r (okT_r hok ho).1 rfl
    rw [varsW_at (by omega) (by rw [ha]; exact hx)]
    simp only [List.mem_append, List.mem_cons, e0, e1]
    constructor
    · rintro (⟨i, t', hi, h⟩ | ⟨i, t', hi, h⟩ | h)
      · exact ⟨i, t', .inr (.inl hi), h⟩
      · exact ⟨i, t', .inr (.inr hi), h⟩
      · split at h
        · rename_i hk
          exact ⟨at_, t, .inl rfl, hx, hk, (List.mem_singleton.1 h).symm⟩
        · cases h
    · rintro ⟨i, t', (rfl | hi | hi), hh⟩
      · rw [hx] at hh
        obtain ⟨e, hk, hnm⟩ := hh
        obtain rfl := Option.some.inj e
        right; right
        rw [if_pos hk]; simp [hnm]
      · exact .inl ⟨i, t', hi, hh⟩
      · exact .inr (.inl ⟨i, t', hi, hh⟩)
theorem varsR_eq (l : List Term) (root : Int) : varsR l root = varsS l root := by
  cases hd : treeS l root with
  | none =>
    have hm : ¬ mayB l root = true := by rw [tree_may, hd]; decide
    rw [varsS_none hm]; unfold varsR; rw [hd]
  | some d =>
    have hm : mayB l root = true := by rw [tree_may, hd]; rfl
    obtain ⟨hrg, p, hp, _⟩ := mayB_iff.1 hm
    have e : varsR l root = varsK l (d.map posB) l.length := by unfold varsR; rw [hd]
    rw [e]
    refine rise_eq _ _ (varsK_rise _ _ _) (varsS_rise _ _) (fun x => ?_)
    rw [mem_varsK, mem_varsS hm, mem_varsW _ _ _ _ hp root (by omega) rfl]
    constructor
    · rintro ⟨i, t, hi, hx, hb, h⟩
      exact ⟨i, t, tree_in hd hp (pos_at hb rfl), hx, h⟩
    · rintro ⟨i, t, hi, hx, h⟩
      have hpos := tree_all hd hp hi
      refine ⟨i, t, (List.getElem?_eq_some_iff.1 hx).1, hx, ?_, h⟩
      rw [List.getElem?_map]
      cases hdx : d[i]? with
      | none => rw [hdx] at hpos; simp at hpos
      | some y =>
        rw [hdx] at hpos
        simp at hpos
        simp [posB, hpos]
end Go.Sx
