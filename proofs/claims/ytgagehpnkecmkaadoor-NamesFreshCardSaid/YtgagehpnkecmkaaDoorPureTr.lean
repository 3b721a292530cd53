import Derived.Test.YtgagehpnkecmkaaDoorPureK3
import Derived.Test.YtgagehpnkecmkaaDoorPureVa
import Derived.Test.YtgagehpnkecmkaaDoorPureEv
set_option linter.unusedVariables false
set_option linter.unusedSimpArgs false
namespace Go.Sx
open Go
/-! ## trees of terms -/
theorem mayB_iff {l : List Term} {root : Int} : mayB l root = true ↔ ((l.length : Int) ≤ 160 ∧ 0 ≤ root ∧ root < l.length) ∧ ∃ p, preL l (root.toNat + 1) root.toNat 1 = some p ∧ p.Nodup := by
  by_cases h : (l.length : Int) ≤ 160 ∧ 0 ≤ root ∧ root < l.length
  · rw [mayB_T h, may_pre h.2]
    exact ⟨fun h2 => ⟨h, h2⟩, fun h2 => h2.2⟩
  · constructor
    · intro hm
      exfalso
      unfold mayB at hm
      split at hm
      · cases hm
      · split at hm
        · cases hm
        · split at hm
          · cases hm
          · omega
    · intro h2; exact absurd h2.1 h
theorem okT_ops {t : Term} {at_ deep : Int} (h : okT t at_ deep = true) : 0 ≤ operandsI t.kind ∧ fieldsB t = true ∧ deep ≤ 24 ∧ (operandsI t.kind < 1 → t.l = -1) ∧ (operandsI t.kind < 2 → t.r = -1) := by
  unfold okT at h
  simp only [Bool.and_eq_true, decide_eq_true_eq] at h
  refine ⟨h.1.1, h.1.2, h.2.1, fun h1 => ?_, fun h1 => ?_⟩
  · have := h.2.2.1; rw [if_pos h1] at this; simpa using this
  · have := h.2.2.2; rw [if_pos h1] at this; simpa using this
theorem okT_deep {t : Term} {at_ deep deep' : Int} (h : okT t at_ deep = true) (hd : deep' ≤ 24) : okT t at_ deep' = true := by
  unfold okT at *
  simp only [Bool.and_eq_true, decide_eq_true_eq] at *
  exact ⟨h.1, hd, h.2.2⟩
theorem preL_len {l : List Term} {f at_ : Nat} {deep : Int} {p : List Nat} (h : preL l f at_ deep = some p) : at_ < l.length := by
  cases f with
  | zero => simp [preL] at h
  | succ f => obtain ⟨t, p0, q0, hx, _⟩ := preL_some h; exact (List.getElem?_eq_some_iff.1 hx).1
theorem preL_up {l : List Term} : ∀ (f at_ : Nat) (deep deep' : Int) (p : List Nat), preL l f at_ deep = some p → deep' ≤ deep → preL l f at_ deep' = some p := by
  intro f
  induction f with
  | zero => intro at_ deep deep' p h; simp [preL] at h
  | succ f ih =>
    intro at_ deep deep' p h hd
    obtain ⟨t, p0, q0, hx, hok, h0, h1, rfl⟩ := preL_some h
    have := (okT_ops hok).2.2.1
    refine preL_mk hx (okT_deep hok (by omega)) ?_ ?_
    · split
      · rename_i hk; rw [if_pos hk] at h0; exact h0
      · rename_i hk; rw [if_neg hk] at h0; exact ih _ _ _ _ h0 (by omega)
    · split
      · rename_i hk; rw [if_pos hk] at h1; exact h1
      · rename_i hk; rw [if_neg hk] at h1; exact ih _ _ _ _ h1 (by omega)
/-- a place of a tree is the root of a tree -/
theorem preL_sub {l : List Term} : ∀ (f at_ : Nat) (deep : Int) (p : List Nat), preL l f at_ deep = some p → ∀ i ∈ p, ∃ g q d, preL l g i d = some q ∧ q.Sublist p ∧ deep ≤ d := by
  intro f
  induction f with
  | zero => intro at_ deep p h; simp [preL] at h
  | succ f ih =>
    intro at_ deep p h i hi
    obtain ⟨t, p0, q0, hx, hok, h0, h1, rfl⟩ := preL_some h
    rcases List.mem_cons.1 hi with rfl | hi
    · exact ⟨f + 1, _, deep, h, List.Sublist.refl _, Int.le_refl _⟩
    rcases List.mem_append.1 hi with hi | hi
    · split at h0
      · simp only [Option.some.injEq] at h0; subst h0; cases hi
      · obtain ⟨g, q, d, e1, e2, e3⟩ := ih _ _ _ h0 i hi
        exact ⟨g, q, d, e1, e2.trans ((List.sublist_append_left _ _).trans (List.sublist_cons_self _ _)), by omega⟩
    · split at h1
      · simp only [Option.some.injEq] at h1; subst h1; cases hi
      · obtain ⟨g, q, d, e1, e2, e3⟩ := ih _ _ _ h1 i hi
        exact ⟨g, q, d, e1, e2.trans ((List.sublist_append_right _ _).trans (List.sublist_cons_self _ _)), by omega⟩
theorem preL_any {l : List Term} : ∀ (f at_ : Nat) (deep : Int) (p : List Nat), preL l f at_ deep = some p → ∀ g, at_ < g → preL l g at_ deep = some p := by
  intro f
  induction f with
  | zero => intro at_ deep p h; simp [preL] at h
  | succ f ih =>
    intro at_ deep p h g hg
    obtain ⟨t, p0, q0, hx, hok, h0, h1, rfl⟩ := preL_some h
    cases g with
    | zero => omega
    | succ g =>
      refine preL_mk hx hok ?_ ?_
      · split
        · rename_i hk; rw [if_pos hk] at h0; exact h0
        · rename_i hk; rw [if_neg hk] at h0; have := okT_l hok hk; exact ih _ _ _ h0 g (by omega)
      · split
        · rename_i hk; rw [if_pos hk] at h1; exact h1
        · rename_i hk; rw [if_neg hk] at h1; have := okT_r hok hk; exact ih _ _ _ h1 g (by omega)
theorem mayB_sub {l : List Term} {root : Int} {p : List Nat} (h : mayB l root = true) (hp : preL l (root.toNat + 1) root.toNat 1 = some p) {i : Nat} (hi : i ∈ p) : mayB l i = true := by
  obtain ⟨h1, p', hp', hn⟩ := mayB_iff.1 h
  rw [hp] at hp'
  obtain rfl := Option.some.inj hp'
  obtain ⟨g, q, d, e1, e2, e3⟩ := preL_sub _ _ _ _ hp i hi
  have := preL_len e1
  refine mayB_iff.2 ⟨⟨h1.1, by omega, by omega⟩, q, ?_, hn.sublist e2⟩
  exact preL_any _ _ _ _ (preL_up _ _ _ _ _ e1 e3) _ (by simp)
theorem preL_closed {l : List Term} : ∀ (f at_ : Nat) (deep : Int) (p : List Nat), preL l f at_ deep = some p → ∀ i ∈ p, ∀ t, l[i]? = some t → (1 ≤ operandsI t.kind → t.l.toNat ∈ p) ∧ (2 ≤ operandsI t.kind → t.r.toNat ∈ p) := by
  intro f at_ deep p h i hi t ht
  obtain ⟨g, q, d, e1, e2, _⟩ := preL_sub f at_ deep p h i hi
  cases g with
  | zero => simp [preL] at e1
  | succ g =>
    obtain ⟨t', p0, q0, hx, hok, h0, h1, rfl⟩ := preL_some e1
    rw [ht] at hx
    obtain rfl := Option.some.inj hx
    refine ⟨fun ho => e2.subset ?_, fun ho => e2.subset ?_⟩
    · rw [if_neg (by omega)] at h0
      have := preL_self h0
      simp [this]
    · rw [if_neg (by omega)] at h1
      have := preL_self h1
      simp [this]
/-! the reference's places are the tree's -/
theorem pos_set {d : List Int} {j a : Nat} {x : Int} (h : 0 < (d.set j x)[a]?.getD 0) : a = j ∨ 0 < d[a]?.getD 0 := by
  by_cases e : j = a
  · exact .inl e.symm
  · rw [set_ne e] at h; exact .inr h
theorem treeOp_in {S : Nat → Prop} {d d' : List Int} {i at_ : Int} (h : treeOp d i at_ = some d') (hd : ∀ j, 0 < d[j]?.getD 0 → S j) (ha : S at_.toNat) : ∀ j, 0 < d'[j]?.getD 0 → S j := by
  unfold treeOp at h
  split at h
  · cases h
  · obtain rfl := Option.some.inj h
    intro j hj
    rcases pos_set hj with rfl | hj
    · exact ha
    · exact hd j hj
theorem treeLoop_in {l : List Term} {S : Nat → Prop} (hS : ∀ i t, S i → l[i]? = some t → (1 ≤ operandsI t.kind → S t.l.toNat) ∧ (2 ≤ operandsI t.kind → S t.r.toNat)) :
    ∀ (n : Nat) (d d' : List Int), treeLoop l n d = some d' → Nn d → (∀ j, 0 < d[j]?.getD 0 → S j) → ∀ j, 0 < d'[j]?.getD 0 → S j
  | 0, d, d', h, _, hd => by obtain rfl := Option.some.inj h; exact hd
  | n + 1, d, d', h, hn, hd => by
    simp only [treeLoop] at h
    cases hs : treeStep l n d with
    | none => rw [hs] at h; cases h
    | some d1 =>
      rw [hs] at h
      simp only at h
      have key : Nn d1 ∧ ∀ j, 0 < d1[j]?.getD 0 → S j := by
        unfold treeStep at hs
        split at hs
        · obtain rfl := Option.some.inj hs; exact ⟨hn, hd⟩
        · rename_i h0
          simp only [Int.toNat_natCast] at hs h0
          cases hx : l[n]? with
          | none => rw [hx] at hs; cases hs
          | some t =>
            rw [hx] at hs
            simp only at hs
            split at hs
            · cases hs
            · have hpos : 0 < d[n]?.getD 0 := by have := hn n; omega
              have hc := hS n t (hd n hpos) hx
              unfold treeOps at hs
              split at hs
              · obtain rfl := Option.some.inj hs; exact ⟨hn, hd⟩
              · rename_i h1
                have nset : ∀ {d d' : List Int} {a : Int}, treeOp d n a = some d' → Nn d → Nn d' := by
                  intro d d' a e hn
                  unfold treeOp at e
                  split at e
                  · cases e
                  · obtain rfl := Option.some.inj e
                    simp only [Int.toNat_natCast]
                    exact Nn_set hn (by have := hn n; omega)
                cases h2 : treeOp d n t.l with
                | none => rw [h2] at hs; cases hs
                | some d2 =>
                  rw [h2] at hs
                  simp only at hs
                  have a1 := treeOp_in h2 hd (hc.1 (by omega))
                  split at hs
                  · obtain rfl := Option.some.inj hs; exact ⟨nset h2 hn, a1⟩
                  · exact ⟨nset hs (nset h2 hn), treeOp_in hs a1 (hc.2 (by omega))⟩
      exact treeLoop_in hS n d1 d' h key.1 key.2
theorem tree_in {l : List Term} {root : Int} {d : List Int} {p : List Nat} (h : treeS l root = some d) (hp : preL l (root.toNat + 1) root.toNat 1 = some p) {k : Nat} (hk : 0 < d[k]?.getD 0) : k ∈ p := by
  unfold treeS at h
  split at h
  · cases h
  · refine treeLoop_in (S := fun i => i ∈ p) (fun i t hi ht => preL_closed _ _ _ _ hp i hi t ht) _ _ _ h (Nn_start _ _) (fun j hj => ?_) k hk
    rcases pos_set hj with rfl | hj
    · exact preL_self hp
    · rw [List.getElem?_replicate] at hj
      split at hj <;> simp at hj
/-! what a tree comes to -/
theorem evalW_fuel {l : List Term} {env : List Bind} : ∀ (f at_ : Nat) (deep : Int) (p : List Nat), preL l f at_ deep = some p → ∀ g d q, preL l g at_ d = some q → ∀ a : Int, a.toNat = at_ → evalW l env f a = evalW l env g a := by
  intro f
  induction f with
  | zero => intro at_ deep p h; simp [preL] at h
  | succ f ih =>
    intro at_ deep p h g d q hq a ha
    cases g with
    | zero => simp [preL] at hq
    | succ g =>
      obtain ⟨t, p0, q0, hx, hok, h0, h1, rfl⟩ := preL_some h
      obtain ⟨t', p2, q2, hx', hok', h2, h3, rfl⟩ := preL_some hq
      rw [hx] at hx'
      obtain rfl := Option.some.inj hx'
      simp only [evalW, ha, hx]
      by_cases ho : operandsI t.kind = 0
      · rw [if_pos ho, if_pos ho]
      · rw [if_neg ho, if_neg ho]
        have hle := okT_ops hok
        have e0 : evalW l env f t.l = evalW l env g t.l := by
          rw [if_neg (by omega)] at h0 h2
          exact ih _ _ _ h0 g _ _ h2 t.l rfl
        rw [e0]
        by_cases h4 : operandsI t.kind = 2
        · have e1 : evalW l env f t.r = evalW l env g t.r := by
            rw [if_neg (by omega)] at h1 h3
            exact ih _ _ _ h1 g _ _ h3 t.r rfl
          rw [e1]
        · simp only [if_neg h4]
/-- a leaf's own form -/
def LeafT (t : Term) : Prop := operandsI t.kind = 0 ∧ fieldsB t = true ∧ t.l = -1 ∧ t.r = -1
theorem LeafT.ok {t : Term} {at_ deep : Int} (h : LeafT t) (hd : deep ≤ 24) : okT t at_ deep = true :=
  okT_of (by rw [h.1]; decide) h.2.1 hd (fun _ => h.2.2.1) (fun hk => by rw [h.1] at hk; exact absurd (by decide) hk) (fun _ => h.2.2.2) (fun hk => by rw [h.1] at hk; exact absurd (by decide) hk)
/-- l' is l with some subtrees put as leaves -/
def PutR (l l' : List Term) (e1 e2 : List Bind) : Prop := ∀ i t, l[i]? = some t → ∃ t', l'[i]? = some t' ∧
  ((t' = t ∧ (operandsI t.kind = 0 → leafV t e1 = leafV t e2)) ∨ (LeafT t' ∧ ∀ f p d, preL l f i d = some p → ∀ a : Int, a.toNat = i → evalW l e1 f a = leafV t' e2))
theorem put_pre {l l' : List Term} {e1 e2 : List Bind} (hR : PutR l l' e1 e2) : ∀ (f at_ : Nat) (deep : Int) (p : List Nat), preL l f at_ deep = some p → ∃ p', preL l' f at_ deep = some p' ∧ p'.Sublist p ∧ ∀ a : Int, a.toNat = at_ → evalW l' e2 f a = evalW l e1 f a := by
  intro f
  induction f with
  | zero => intro at_ deep p h; simp [preL] at h
  | succ f ih =>
    intro at_ deep p h
    have hh := h
    obtain ⟨t, p0, q0, hx, hok, h0, h1, rfl⟩ := preL_some h
    obtain ⟨t', hx', hc⟩ := hR at_ t hx
    have hle := okT_ops hok
    rcases hc with ⟨rfl, hleaf⟩ | ⟨hL, hev⟩
    · have c0 : ∃ p0', (if operandsI t'.kind < 1 then some [] else preL l' f t'.l.toNat (deep + 1)) = some p0' ∧ p0'.Sublist p0 ∧ (1 ≤ operandsI t'.kind → evalW l' e2 f t'.l = evalW l e1 f t'.l) := by
        by_cases ho : operandsI t'.kind < 1
        · rw [if_pos ho] at h0 ⊢
          obtain rfl := Option.some.inj h0
          exact ⟨[], rfl, List.Sublist.refl _, fun h => by omega⟩
        · rw [if_neg ho] at h0 ⊢
          obtain ⟨p', e1', e2', e3⟩ := ih _ _ _ h0
          exact ⟨p', e1', e2', fun _ => e3 _ rfl⟩
      have c1 : ∃ q0', (if operandsI t'.kind < 2 then some [] else preL l' f t'.r.toNat (deep + 1)) = some q0' ∧ q0'.Sublist q0 ∧ (2 ≤ operandsI t'.kind → evalW l' e2 f t'.r = evalW l e1 f t'.r) := by
        by_cases ho : operandsI t'.kind < 2
        · rw [if_pos ho] at h1 ⊢
          obtain rfl := Option.some.inj h1
          exact ⟨[], rfl, List.Sublist.refl _, fun h => by omega⟩
        · rw [if_neg ho] at h1 ⊢
          obtain ⟨p', e1', e2', e3⟩ := ih _ _ _ h1
          exact ⟨p', e1', e2', fun _ => e3 _ rfl⟩
      obtain ⟨p0', a1, a2, a3⟩ := c0
      obtain ⟨q0', b1, b2, b3⟩ := c1
      refine ⟨at_ :: (p0' ++ q0'), preL_mk hx' hok a1 b1, (a2.append b2).cons_cons _, fun a ha => ?_⟩
      simp only [evalW, ha, hx, hx']
      by_cases ho : operandsI t'.kind = 0
      · rw [if_pos ho, if_pos ho]; exact (hleaf ho).symm
      · rw [if_neg ho, if_neg ho, a3 (by omega)]
        by_cases h4 : operandsI t'.kind = 2
        · rw [b3 (by omega)]
        · simp only [if_neg h4]
    · refine ⟨[at_], preL_mk (p0 := []) (q0 := []) hx' (hL.ok hle.2.2.1) (by rw [if_pos (by rw [hL.1]; decide)]) (by rw [if_pos (by rw [hL.1]; decide)]), ?_, fun a ha => ?_⟩
      · exact (List.nil_sublist _).cons_cons _
      · rw [hev _ _ _ hh a ha]
        have hxa : l'[a.toNat]? = some t' := by rw [ha]; exact hx'
        rw [evalW_leaf hxa hL.1]
theorem put_may {l l' : List Term} {e1 e2 : List Bind} (hR : PutR l l' e1 e2) (hlen : l'.length = l.length) {root : Int} (h : mayB l root = true) : mayB l' root = true ∧ evalS l' root e2 = evalS l root e1 := by
  obtain ⟨h1, p, hp, hn⟩ := mayB_iff.1 h
  obtain ⟨p', e1', e2', e3⟩ := put_pre hR _ _ _ _ hp
  have hm : mayB l' root = true := mayB_iff.2 ⟨by rw [hlen]; exact h1, p', e1', hn.sublist e2'⟩
  refine ⟨hm, ?_⟩
  unfold evalS
  rw [if_pos hm, if_pos h]
  exact e3 root rfl
/-- an error inside is an error of the whole -/
theorem err_in {l : List Term} {env : List Bind} : ∀ (f at_ : Nat) (deep : Int) (p : List Nat), preL l f at_ deep = some p → ∀ i ∈ p, ¬ (evalW l env (i + 1) i).2 = 0 → ∀ a : Int, a.toNat = at_ → ¬ (evalW l env f a).2 = 0 := by
  intro f
  induction f with
  | zero => intro at_ deep p h; simp [preL] at h
  | succ f ih =>
    intro at_ deep p h i hi he a ha
    have hh := h
    obtain ⟨t, p0, q0, hx, hok, h0, h1, rfl⟩ := preL_some h
    rcases List.mem_cons.1 hi with rfl | hi
    · rw [evalW_fuel _ _ _ _ hh (i + 1) deep _ (preL_any _ _ _ _ hh _ (by omega)) a ha]
      have : a.toNat = ((i : Int)).toNat := by rw [ha]; simp
      have e : evalW l env (i + 1) a = evalW l env (i + 1) (i : Int) := by simp only [evalW, this]
      rw [e]; exact he
    · have hle := okT_ops hok
      simp only [evalW, ha, hx]
      rcases List.mem_append.1 hi with hi | hi
      · split at h0
        · simp only [Option.some.injEq] at h0; subst h0; cases hi
        · have := ih _ _ _ h0 i hi he t.l rfl
          rw [if_neg (by omega), if_pos this]; exact this
      · split at h1
        · simp only [Option.some.injEq] at h1; subst h1; cases hi
        · have hr := ih _ _ _ h1 i hi he t.r rfl
          have h2 : operandsI t.kind = 2 := by have := operandsI_le t.kind; omega
          rw [if_neg (by omega)]
          by_cases h3 : (evalW l env f t.l).2 = 0
          · rw [if_neg (by simpa using h3), if_pos h2, if_pos hr]; exact hr
          · rw [if_pos h3]; exact h3
end Go.Sx
