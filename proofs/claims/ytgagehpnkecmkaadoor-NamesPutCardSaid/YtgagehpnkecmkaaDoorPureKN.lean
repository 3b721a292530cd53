import Derived.Test.YtgagehpnkecmkaaDoorPureVa
import Derived.Test.YtgagehpnkecmkaaDoorPureEv
set_option linter.unusedVariables false
namespace Go.Sx
open Go
/-! ## rows of names: what is in them -/
theorem mem_compact {zs : List Str} {x : Str} : x ∈ Lib.compact zs ↔ x ∈ zs := by
  unfold Lib.compact Lib.compactUpTo
  simp only [List.mem_map, List.mem_filter, List.mem_range]
  constructor
  · rintro ⟨j, ⟨hj, _⟩, rfl⟩
    have : j < zs.toArray.size := by simpa using hj
    rw [getElem!_pos zs.toArray j this]
    simp
  · intro hx
    obtain ⟨j, hj, rfl⟩ := List.getElem_of_mem hx
    have key : ∀ j (hj : j < zs.length), ∃ i, (i < zs.length ∧ Lib.keeps zs.toArray i = true) ∧ zs.toArray[i]! = zs[j] := by
      intro j
      induction j with
      | zero =>
        intro hj
        refine ⟨0, ⟨hj, by simp [Lib.keeps]⟩, ?_⟩
        rw [getElem!_pos zs.toArray 0 (by simpa using hj)]; simp
      | succ j ih =>
        intro hj
        by_cases hk : Lib.keeps zs.toArray (j + 1) = true
        · refine ⟨j + 1, ⟨hj, hk⟩, ?_⟩
          rw [getElem!_pos zs.toArray (j + 1) (by simpa using hj)]; simp
        · obtain ⟨i, hi, he⟩ := ih (by omega)
          refine ⟨i, hi, ?_⟩
          rw [he]
          have : zs.toArray[j + 1]! = zs.toArray[j]! := by
            simpa [Lib.keeps] using hk
          rw [getElem!_pos zs.toArray (j + 1) (by simpa using hj), getElem!_pos zs.toArray j (by simp; omega)] at this
          simpa using this.symm
    obtain ⟨i, hi, he⟩ := key j hj
    exact ⟨i, hi, he⟩
theorem mem_sortS {zs : List Str} {x : Str} : x ∈ sortS zs ↔ x ∈ zs := by unfold sortS; exact List.mem_mergeSort
theorem mem_varsS {l : List Term} {root : Int} {x : Str} (h : mayB l root = true) : x ∈ varsS l root ↔ x ∈ varsW l (root.toNat + 1) root := by
  unfold varsS; rw [if_pos h, mem_compact, mem_sortS]
theorem varsS_none {l : List Term} {root : Int} (h : ¬ mayB l root = true) : varsS l root = [] := by unfold varsS; rw [if_neg h]
theorem compact_len (zs : List Str) : (Lib.compact zs).length ≤ zs.length := Lib.compact_length_le zs
theorem varsS_len (l : List Term) (root : Int) : (varsS l root).length ≤ 16777216 := by
  unfold varsS
  split
  · rename_i h
    have := compact_len (sortS (varsW l (root.toNat + 1) root))
    rw [sortS_len] at this
    have := mayB_vars h
    omega
  · simp

/-! ## a term's kind leans on its variables' alone -/
def oneB (env : List Typing) (s : Str) : Bool := env.any fun t => decide (t.name = s)
def knownB (env : List Typing) (l : List Str) : Bool := l.all (oneB env)
def keepT (l : List Str) (more : List Typing) : List Typing := more.filter fun t => !hasS l t.name
theorem held_none {env : List Typing} {s : Str} (h : oneB env s = false) : heldS env s = (0, 501) := by
  induction env with
  | nil => rfl
  | cons t r ih =>
    simp only [oneB, List.any_cons, Bool.or_eq_false_iff, decide_eq_false_iff_not] at h
    simp only [heldS]; rw [if_neg h.1]; exact ih h.2
theorem held_app {a b : List Typing} {s : Str} (h : oneB a s = true) : heldS (a ++ b) s = heldS a s := by
  induction a with
  | nil => simp [oneB] at h
  | cons t r ih =>
    simp only [List.cons_append, heldS]
    by_cases ht : t.name = s
    · rw [if_pos ht, if_pos ht]
    · rw [if_neg ht, if_neg ht]
      exact ih (by simpa [oneB, ht] using h)
theorem held_past {a b : List Typing} {s : Str} (h : oneB a s = false) : heldS (a ++ b) s = heldS b s := by
  induction a with
  | nil => rfl
  | cons t r ih =>
    simp only [oneB, List.any_cons, Bool.or_eq_false_iff, decide_eq_false_iff_not] at h
    simp only [List.cons_append, heldS]; rw [if_neg h.1]; exact ih h.2
theorem keep_none {l : List Str} {more : List Typing} {s : Str} (h : s ∈ l) : oneB (keepT l more) s = false := by
  unfold oneB keepT
  rw [List.any_eq_false]
  intro t ht
  simp only [List.mem_filter, Bool.not_eq_true', hasS, decide_eq_false_iff_not] at ht
  simp only [decide_eq_true_eq]
  rintro rfl
  exact ht.2 h
theorem held_zero {env : List Typing} {s : Str} : ¬ (heldS env s).2 = 0 → (heldS env s).1 = 0 := by
  induction env with
  | nil => intro _; rfl
  | cons t r ih =>
    simp only [heldS]
    split
    · split
      · intro _; rfl
      · intro h; exact absurd rfl h
    · exact ih
theorem ask_two {k : Int} (h : operandsI k = 2) : ¬ (askW k).1 = -1 ∧ ¬ (askW k).2.1 = -1 := by
  rcases kind_cases (by omega : 0 ≤ operandsI k) with rfl | rfl | rfl | rfl | rfl | rfl | rfl | rfl | rfl | rfl | rfl | rfl | rfl | rfl | rfl | rfl | rfl | rfl | rfl | rfl <;> first | decide | (exact absurd h (by decide))
theorem ask_one {k : Int} (h : operandsI k = 1) : ¬ (askW k).1 = -1 ∧ (askW k).2.1 = -1 := by
  rcases kind_cases (by omega : 0 ≤ operandsI k) with rfl | rfl | rfl | rfl | rfl | rfl | rfl | rfl | rfl | rfl | rfl | rfl | rfl | rfl | rfl | rfl | rfl | rfl | rfl | rfl <;> first | decide | (exact absurd h (by decide))
theorem ask_none {k : Int} (h : operandsI k = 0) : (askW k).1 = -1 ∧ (askW k).2.1 = -1 := by
  rcases kind_cases (by omega : 0 ≤ operandsI k) with rfl | rfl | rfl | rfl | rfl | rfl | rfl | rfl | rfl | rfl | rfl | rfl | rfl | rfl | rfl | rfl | rfl | rfl | rfl | rfl <;> first | decide | (exact absurd h (by decide))
theorem kOf_eq {l : List Term} {env : List Typing} {f : Nat} {at_ : Int} {t : Term} (hx : l[at_.toNat]? = some t) (h : ¬ t.kind = 0) : kOf l env (f + 1) at_ =
    (let a := kOp (askW t.kind).1 (kOf l env f t.l)
     if a.2 ≠ 0 then (0, a.2) else
      let b := kOp (askW t.kind).2.1 (kOf l env f t.r)
      if b.2 ≠ 0 then (0, b.2) else kFin t.kind a.1 b.1) := by
  simp only [kOf, hx]; rw [if_neg h]
theorem kOf_congr {l : List Term} {env env' : List Typing} : ∀ (f : Nat) (at_ : Int), Tr l f at_ → (∀ s ∈ varsW l f at_, heldS env s = heldS env' s) → kOf l env f at_ = kOf l env' f at_
  | 0, _, h, _ => h.elim
  | f + 1, at_, h, hv => by
    obtain ⟨h0, t, hx, hop, _, hl, hl', hr, hr'⟩ := h
    rw [varsW_at (by omega) hx] at hv
    by_cases hk : t.kind = 0
    · rw [kOf_var hx hk, kOf_var hx hk]
      exact hv t.name (by rw [if_pos hk]; simp)
    · rw [kOf_eq hx hk, kOf_eq hx hk]
      have ea : kOp (askW t.kind).1 (kOf l env f t.l) = kOp (askW t.kind).1 (kOf l env' f t.l) := by
        unfold kOp
        split
        · rfl
        · rename_i h1
          exact kOf_congr f t.l (hl (askW_a hop h1)) (fun s hs => hv s (by simp [hs]))
      have eb : kOp (askW t.kind).2.1 (kOf l env f t.r) = kOp (askW t.kind).2.1 (kOf l env' f t.r) := by
        unfold kOp
        split
        · rfl
        · rename_i h1
          exact kOf_congr f t.r (hr (askW_b hop h1)) (fun s hs => hv s (by simp [hs]))
      rw [ea, eb]
theorem kOf_known {l : List Term} {env : List Typing} : ∀ (f : Nat) (at_ : Int), Tr l f at_ → (kOf l env f at_).2 = 0 → ∀ s ∈ varsW l f at_, oneB env s = true
  | 0, _, h, _, _, _ => h.elim
  | f + 1, at_, h, he, s, hs => by
    obtain ⟨h0, t, hx, hop, _, hl, hl', hr, hr'⟩ := h
    rw [varsW_at (by omega) hx] at hs
    by_cases hk : t.kind = 0
    · have ho : operandsI t.kind = 0 := by rw [hk]; decide
      rw [kOf_var hx hk] at he
      rw [varsW_neg (by have := hl' (by omega); omega), varsW_neg (by have := hr' (by omega); omega), if_pos hk] at hs
      have hs : s = t.name := by simpa using hs
      subst hs
      cases hb : oneB env t.name with
      | true => rfl
      | false => rw [held_none hb] at he; exact absurd he (by decide)
    · rw [if_neg hk] at hs
      rw [kOf_eq hx hk] at he
      have ha : (kOp (askW t.kind).1 (kOf l env f t.l)).2 = 0 := by
        apply Classical.byContradiction
        intro h1
        simp only [ne_eq, h1, not_false_iff, if_true] at he
      simp only [ne_eq, ha, not_true, if_false] at he
      have hb : (kOp (askW t.kind).2.1 (kOf l env f t.r)).2 = 0 := by
        apply Classical.byContradiction
        intro h1
        simp only [h1, not_false_iff, if_true] at he
      simp only [List.append_nil, List.mem_append] at hs
      have hle := operandsI_le t.kind
      rcases hs with hs | hs
      · by_cases h1 : 1 ≤ operandsI t.kind
        · have hq : ¬ (askW t.kind).1 = -1 := by
            rcases (by omega : operandsI t.kind = 1 ∨ operandsI t.kind = 2) with h2 | h2
            · exact (ask_one h2).1
            · exact (ask_two h2).1
          unfold kOp at ha
          rw [if_neg hq] at ha
          exact kOf_known f t.l (hl h1) ha s hs
        · rw [varsW_neg (by have := hl' (by omega); omega)] at hs; cases hs
      · by_cases h1 : 2 ≤ operandsI t.kind
        · have hq := (ask_two (by omega : operandsI t.kind = 2)).2
          unfold kOp at hb
          rw [if_neg hq] at hb
          exact kOf_known f t.r (hr h1) hb s hs
        · rw [varsW_neg (by have := hr' (by omega); omega)] at hs; cases hs
theorem kFin_zero {k a b : Int} : ¬ (kFin k a b).2 = 0 → (kFin k a b).1 = 0 := by
  unfold kFin kFinB
  (repeat' split) <;> simp
theorem kOf_zero {l : List Term} {env : List Typing} (f : Nat) (at_ : Int) : ¬ (kOf l env f at_).2 = 0 → (kOf l env f at_).1 = 0 := by
  cases f with
  | zero => intro _; rfl
  | succ f =>
    cases hx : l[at_.toNat]? with
    | none => intro _; simp [kOf, hx]
    | some t =>
      by_cases hk : t.kind = 0
      · rw [kOf_var hx hk]; exact held_zero
      · rw [kOf_eq hx hk]
        simp only
        split
        · intro _; rfl
        · split
          · intro _; rfl
          · exact kFin_zero
/-- KindNames's answer -/
theorem names_kind (l : List Term) (root : Int) (env more : List Typing) :
    (knownB env (varsS l root) = true → ofS l root ((keepT (varsS l root) more ++ env) ++ more) = ofS l root env) ∧
    (knownB env (varsS l root) = false → ¬ (ofS l root env).2 = 0 ∧ (ofS l root env).1 = 0) := by
  unfold ofS
  by_cases hm : mayB l root = true
  · rw [if_pos hm, if_pos hm]
    refine ⟨fun hk => ?_, fun hk => ?_⟩
    · refine kOf_congr _ _ (mayB_Tr hm) (fun s hs => ?_)
      have hs' := (mem_varsS hm).2 hs
      have h1 : oneB env s = true := List.all_eq_true.1 hk s hs'
      rw [List.append_assoc, held_past (keep_none hs'), held_app h1]
    · have he : ¬ (kOf l env (root.toNat + 1) root).2 = 0 := by
        intro h0
        have := kOf_known _ _ (mayB_Tr hm) h0
        have hk' : knownB env (varsS l root) = true := List.all_eq_true.2 (fun s hs => this s ((mem_varsS hm).1 hs))
        rw [hk] at hk'; cases hk'
      exact ⟨he, kOf_zero _ _ he⟩
  · rw [if_neg hm, if_neg hm, varsS_none hm]
    exact ⟨fun _ => rfl, fun h => by cases h⟩
/-! the loops -/
theorem keepT_snoc {l : List Str} {a : List Typing} {t : Typing} : keepT l (a ++ [t]) = if hasS l t.name then keepT l a else keepT l a ++ [t] := by
  unfold keepT
  rw [List.filter_append]
  cases hb : hasS l t.name <;> simp [hb]
theorem keepT_len (l : List Str) (a : List Typing) : (keepT l a).length ≤ a.length := List.length_filter_le _ _
theorem oneB_snoc {a : List Typing} {t : Typing} {s : Str} : oneB (a ++ [t]) s = (oneB a s || decide (t.name = s)) := by
  unfold oneB; simp
theorem knownB_snoc {env : List Typing} {a : List Str} {s : Str} : knownB env (a ++ [s]) = (knownB env a && oneB env s) := by
  unfold knownB; simp
end Go.Sx
