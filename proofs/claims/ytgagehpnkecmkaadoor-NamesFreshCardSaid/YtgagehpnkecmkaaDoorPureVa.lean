import Derived.Test.YtgagehpnkecmkaaDoorPureK2
import Derived.Test.YtgagehpnkecmkaaDoorPureSo
set_option linter.unusedVariables false
namespace Go.Sx
open Go
/-! ## the variables of a term -/
def varsW (l : List Term) : Nat → Int → List Str
  | 0, _ => []
  | f + 1, at_ => if at_ < 0 then [] else match l[at_.toNat]? with
    | none => []
    | some t => varsW l f t.l ++ (varsW l f t.r ++ (if t.kind = 0 then [t.name] else []))
theorem varsW_neg {l : List Term} {f : Nat} {at_ : Int} (h : at_ < 0) : varsW l f at_ = [] := by
  cases f with
  | zero => rfl
  | succ f => unfold varsW; rw [if_pos h]
theorem varsW_at {l : List Term} {f : Nat} {at_ : Int} {t : Term} (h : ¬ at_ < 0) (hx : l[at_.toNat]? = some t) : varsW l (f + 1) at_ = varsW l f t.l ++ (varsW l f t.r ++ (if t.kind = 0 then [t.name] else [])) := by
  rw [varsW, if_neg h, hx]
theorem mayW_vars {l : List Term} : ∀ (f : Nat) (at_ deep : Int) (met : List Bool), 0 ≤ at_ → 1 ≤ deep → (mayW l f at_ deep met).1 = true → (varsW l f at_).length ≤ 2 ^ (25 - deep.toNat) := by
  intro f
  induction f with
  | zero => intro at_ deep met _ _ h; simp [mayW] at h
  | succ f ih =>
    intro at_ deep met h0 hd h
    cases hx : l[at_.toNat]? with
    | none => simp [mayW, hx] at h
    | some t =>
      by_cases hg : met[at_.toNat]?.getD false = true ∨ 24 < deep ∨ operandsI t.kind < 0 ∨ fieldsB t = false
      · rw [mayW_F hx hg] at h; cases h
      · have hgg : MayG deep met at_ t := by
          refine ⟨?_, ?_, ?_, ?_⟩
          · cases hb : met[at_.toNat]?.getD false with
            | false => rfl
            | true => exact absurd (.inl hb) hg
          · intro h1; exact hg (.inr (.inl h1))
          · intro h1; exact hg (.inr (.inr (.inl h1)))
          · cases hb : fieldsB t with
            | true => rfl
            | false => exact absurd (.inr (.inr (.inr hb))) hg
        generalize h00 : opW (operandsI t.kind) at_ (fun to m => mayW l f to (deep + 1) m) 0 t.l (met.set at_.toNat true) = r0
        obtain ⟨b0, m0⟩ := r0
        cases b0 with
        | false => rw [mayW_0 hx hgg h00] at h; cases h
        | true =>
          generalize h11 : opW (operandsI t.kind) at_ (fun to m => mayW l f to (deep + 1) m) 1 t.r m0 = r1
          rw [mayW_1 hx hgg h00 h11] at h
          have h24 := hgg.2.1
          have key : ∀ (i to : Int) (m m' : List Bool), opW (operandsI t.kind) at_ (fun to m => mayW l f to (deep + 1) m) i to m = (true, m') → (i < operandsI t.kind → (varsW l f to).length ≤ 2 ^ (25 - (deep + 1).toNat)) ∧ (operandsI t.kind ≤ i → varsW l f to = []) := by
            intro i to m m' he
            refine ⟨fun hi => ?_, fun hi => ?_⟩
            · by_cases hb : to < 0 ∨ at_ ≤ to
              · rw [opW_bad (by omega) hb] at he; cases he
              · rw [opW_rec (by omega) (by omega) (by omega)] at he
                exact ih to (deep + 1) m (by omega) (by omega) (by rw [he])
            · rw [opW_le hi] at he
              have : to = -1 := by simpa using congrArg Prod.fst he
              exact varsW_neg (by omega)
          have k0 := key 0 t.l _ _ h00
          have k1 := key 1 t.r _ r1.2 (by rw [h11]; cases r1; simp at h; simp [h])
          rw [varsW_at (by omega) hx]
          have hp : 2 ^ (25 - deep.toNat) = 2 * 2 ^ (25 - (deep + 1).toNat) := by
            rw [show 25 - deep.toNat = (25 - (deep + 1).toNat) + 1 by omega, Nat.pow_succ]; omega
          have h1 : 0 < 2 ^ (25 - (deep + 1).toNat) := Nat.two_pow_pos _
          simp only [List.length_append]
          by_cases hk : t.kind = 0
          · have ho : operandsI t.kind = 0 := by rw [hk]; decide
            rw [k0.2 (by omega), k1.2 (by omega), if_pos hk]
            simp; omega
          · rw [if_neg hk]
            have a0 : (varsW l f t.l).length ≤ 2 ^ (25 - (deep + 1).toNat) := by
              rcases Int.lt_or_le 0 (operandsI t.kind) with ho | ho
              · exact k0.1 ho
              · rw [k0.2 ho]; simp
            have a1 : (varsW l f t.r).length ≤ 2 ^ (25 - (deep + 1).toNat) := by
              rcases Int.lt_or_le 1 (operandsI t.kind) with ho | ho
              · exact k1.1 ho
              · rw [k1.2 ho]; simp
            simp; omega
theorem mayB_vars {l : List Term} {root : Int} (h : mayB l root = true) : (varsW l (root.toNat + 1) root).length ≤ 16777216 := by
  unfold mayB at h
  split at h
  · cases h
  · split at h
    · cases h
    · split at h
      · cases h
      · have := mayW_vars _ _ _ _ (by omega) (by decide) h
        exact this
/-- term.Vars -/
def varsS (l : List Term) (root : Int) : List Str := if mayB l root then Lib.compact (sortS (varsW l (root.toNat + 1) root)) else []
/-! names in a row -/
def placeS (l : List Str) (s : Str) : Int := match l with
  | [] => -1
  | x :: r => if x = s then 0 else if placeS r s < 0 then -1 else placeS r s + 1
theorem placeS_range (l : List Str) (s : Str) : placeS l s = -1 ∨ (0 ≤ placeS l s ∧ placeS l s < l.length) := by
  induction l with
  | nil => exact .inl rfl
  | cons x r ih =>
    unfold placeS
    split
    · right; simp only [List.length_cons, Int.natCast_add]; omega
    · split
      · exact .inl rfl
      · right; simp only [List.length_cons, Int.natCast_add]; omega
theorem placeS_hit {l : List Str} {s : Str} {k : Int} (h0 : 0 ≤ k) (hx : l[k.toNat]? = some s) (hn : ∀ j : Nat, j < k.toNat → l[j]? ≠ some s) : placeS l s = k := by
  induction l generalizing k with
  | nil => simp at hx
  | cons x r ih =>
    unfold placeS
    by_cases hk : k = 0
    · subst hk
      simp at hx
      rw [if_pos hx]
    · have hne : ¬ x = s := by
        have := hn 0 (by omega)
        simpa using this
      rw [if_neg hne]
      have e := ih (k := k - 1) (by omega) (by
        rw [show k.toNat = (k - 1).toNat + 1 by omega] at hx
        simpa using hx) (fun j hj => by
          have := hn (j + 1) (by omega)
          simpa using this)
      rw [e, if_neg (by omega)]; omega
theorem placeS_no {l : List Str} {s : Str} (hn : s ∉ l) : placeS l s = -1 := by
  induction l with
  | nil => rfl
  | cons x r ih =>
    simp only [List.mem_cons, not_or] at hn
    unfold placeS
    rw [if_neg (fun e => hn.1 e.symm), ih hn.2]; rfl
theorem placeS_mem {l : List Str} {s : Str} : 0 ≤ placeS l s ↔ s ∈ l := by
  constructor
  · intro h
    apply Classical.byContradiction
    intro hn
    rw [placeS_no hn] at h
    omega
  · intro h
    induction l with
    | nil => cases h
    | cons x r ih =>
      unfold placeS
      split
      · decide
      · rename_i hne
        have h1 := ih (by rcases List.mem_cons.1 h with rfl | h; exact absurd rfl hne; exact h)
        rw [if_neg (by omega)]; omega
theorem place_next {l : List Str} {s x : Str} {k : Int} (h0 : 0 ≤ k) (h : ∀ j : Nat, j < k.toNat → l[j]? ≠ some s) (hx : l[k.toNat]? = some x) (hne : ¬ x = s) : ∀ j : Nat, j < (k + 1).toNat → l[j]? ≠ some s := by
  intro j hj
  by_cases hk : j = k.toNat
  · subst hk; rw [hx]; simpa using hne
  · exact h j (by omega)
theorem place_end {l : List Str} {s : Str} {k : Int} (h : ∀ j : Nat, j < k.toNat → l[j]? ≠ some s) (hk : ¬ k < l.length) : placeS l s = -1 := by
  refine placeS_no (fun hm => ?_)
  obtain ⟨j, hj⟩ := List.mem_iff_getElem?.1 hm
  exact h j (by have := (List.getElem?_eq_some_iff.1 hj).1; omega) hj
def hasS (l : List Str) (s : Str) : Bool := decide (s ∈ l)
theorem hasS_place (l : List Str) (s : Str) : decide (0 ≤ placeS l s) = hasS l s := by
  unfold hasS
  rw [Bool.eq_iff_iff]; simp only [decide_eq_true_eq]
  exact placeS_mem
end Go.Sx
