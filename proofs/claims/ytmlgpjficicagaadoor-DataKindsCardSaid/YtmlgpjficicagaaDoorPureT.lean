import Derived.Test.YtmlgpjficicagaaDoorPureB
set_option linter.unusedVariables false
namespace Go.Sx
open Go
/-! ## terms -/
def operandsI (k : Int) : Int := if k < 0 ∨ 19 < k then -1 else if k ≤ 5 then 0 else if k = 15 ∨ k = 16 then 1 else 2

def fieldsB (t : Term) : Bool :=
  if t.kind = 0 then nameMay t.name && (decide (t.n = 0) && decide (t.text = []))
  else if t.kind = 1 then decide (t.name = []) && decide (t.text = [])
  else if t.kind = 2 then decide (t.name = []) && (decide (t.text = []) && (decide (t.n = 0) || decide (t.n = 1)))
  else if t.kind = 3 then decide (t.name = []) && (decide (t.n = 0) && decide ((t.text.length : Int) ≤ 24))
  else decide (t.name = []) && (decide (t.n = 0) && decide (t.text = []))

/-- one operand of the walk of term.May: 'rec' goes on -/
def opW (k at_ : Int) (rec : Int → List Bool → Bool × List Bool) (i to : Int) (met : List Bool) : Bool × List Bool :=
  if k ≤ i then (decide (to = -1), met) else if to < 0 ∨ at_ ≤ to then (false, met) else rec to met

def mayW (l : List Term) : Nat → Int → Int → List Bool → Bool × List Bool
  | 0, _, _, met => (false, met)
  | f + 1, at_, deep, met =>
    match l[at_.toNat]? with
    | none => (false, met)
    | some t =>
      if met[at_.toNat]?.getD false = true ∨ 24 < deep ∨ operandsI t.kind < 0 ∨ fieldsB t = false then (false, met)
      else
        let a := opW (operandsI t.kind) at_ (fun to m => mayW l f to (deep + 1) m) 0 t.l (met.set at_.toNat true)
        if a.1 = false then (false, a.2) else opW (operandsI t.kind) at_ (fun to m => mayW l f to (deep + 1) m) 1 t.r a.2

theorem mayW_F {l : List Term} {f : Nat} {at_ deep : Int} {met : List Bool} {t : Term} (hx : l[at_.toNat]? = some t) (h : met[at_.toNat]?.getD false = true ∨ 24 < deep ∨ operandsI t.kind < 0 ∨ fieldsB t = false) :
    mayW l (f + 1) at_ deep met = (false, met) := by
  simp only [mayW, hx]; rw [if_pos h]
/-- what the walk has seen of a term that it goes into -/
def MayG (deep : Int) (met : List Bool) (at_ : Int) (t : Term) : Prop := met[at_.toNat]?.getD false = false ∧ ¬ 24 < deep ∧ ¬ operandsI t.kind < 0 ∧ fieldsB t = true
theorem mayW_0 {l : List Term} {f : Nat} {at_ deep : Int} {met m : List Bool} {t : Term} (hx : l[at_.toNat]? = some t) (h : MayG deep met at_ t)
    (h0 : opW (operandsI t.kind) at_ (fun to m => mayW l f to (deep + 1) m) 0 t.l (met.set at_.toNat true) = (false, m)) : mayW l (f + 1) at_ deep met = (false, m) := by
  obtain ⟨h1, h2, h3, h4⟩ := h
  simp only [mayW, hx]; rw [if_neg (by simp [h1, h2, h3, h4]), h0]; rfl
theorem mayW_1 {l : List Term} {f : Nat} {at_ deep : Int} {met m : List Bool} {t : Term} {r : Bool × List Bool} (hx : l[at_.toNat]? = some t) (h : MayG deep met at_ t)
    (h0 : opW (operandsI t.kind) at_ (fun to m => mayW l f to (deep + 1) m) 0 t.l (met.set at_.toNat true) = (true, m))
    (h5 : opW (operandsI t.kind) at_ (fun to m => mayW l f to (deep + 1) m) 1 t.r m = r) : mayW l (f + 1) at_ deep met = r := by
  obtain ⟨h1, h2, h3, h4⟩ := h
  simp only [mayW, hx]; rw [if_neg (by simp [h1, h2, h3, h4]), h0]; simpa using h5
theorem opW_leF {k at_ : Int} {rec : Int → List Bool → Bool × List Bool} {i to : Int} {met : List Bool} (h : k ≤ i) (hb : ¬ to = -1) : opW k at_ rec i to met = (false, met) := by
  unfold opW; rw [if_pos h]; simp [hb]
theorem opW_leT {k at_ : Int} {rec : Int → List Bool → Bool × List Bool} {i to : Int} {met : List Bool} (h : k ≤ i) (hb : to = -1) : opW k at_ rec i to met = (true, met) := by
  unfold opW; rw [if_pos h]; simp [hb]
theorem opW_r {k at_ : Int} {rec : Int → List Bool → Bool × List Bool} {i to : Int} {met : List Bool} {r : Bool × List Bool} (h : ¬ k ≤ i) (h2 : decide (to < 0) = false) (h3 : decide (at_ ≤ to) = false) (e : rec to met = r) : opW k at_ rec i to met = r := by
  unfold opW; rw [if_neg h, if_neg (by simp at h2 h3; omega)]; exact e
theorem opW_b1 {k at_ : Int} {rec : Int → List Bool → Bool × List Bool} {i to : Int} {met : List Bool} (h : ¬ k ≤ i) (h2 : decide (to < 0) = true) : opW k at_ rec i to met = (false, met) := by
  unfold opW; rw [if_neg h, if_pos (.inl (of_decide_eq_true h2))]
theorem opW_b2 {k at_ : Int} {rec : Int → List Bool → Bool × List Bool} {i to : Int} {met : List Bool} (h : ¬ k ≤ i) (h2 : decide (at_ ≤ to) = true) : opW k at_ rec i to met = (false, met) := by
  unfold opW; rw [if_neg h, if_pos (.inr (of_decide_eq_true h2))]
theorem opW_le {k at_ : Int} {rec : Int → List Bool → Bool × List Bool} {i to : Int} {met : List Bool} (h : k ≤ i) : opW k at_ rec i to met = (decide (to = -1), met) := by
  unfold opW; rw [if_pos h]
theorem opW_bad {k at_ : Int} {rec : Int → List Bool → Bool × List Bool} {i to : Int} {met : List Bool} (h : ¬ k ≤ i) (h2 : to < 0 ∨ at_ ≤ to) : opW k at_ rec i to met = (false, met) := by
  unfold opW; rw [if_neg h, if_pos h2]
theorem opW_rec {k at_ : Int} {rec : Int → List Bool → Bool × List Bool} {i to : Int} {met : List Bool} (h : ¬ k ≤ i) (h2 : ¬ to < 0) (h3 : ¬ at_ ≤ to) : opW k at_ rec i to met = rec to met := by
  unfold opW; rw [if_neg h, if_neg (by omega)]

theorem bools_get {met : List Bool} {i : Nat} (h : i < met.length) : (met.map Value.bool)[0 + i * 1]? = some (.bool (met[i]?.getD false)) := by
  simp [List.getElem?_eq_getElem h]
theorem bools_set (met : List Bool) (i : Nat) (b : Bool) : (met.map Value.bool).set (0 + i * 1) (.bool b) = (met.set i b).map Value.bool := by
  simp [List.map_set]
theorem reps_false (n : Nat) : reps n [Value.bool false] = (List.replicate n false).map Value.bool := by
  induction n with
  | zero => rfl
  | succ n ih => simp [reps, ih, List.replicate_succ]

/-- term.May -/
def mayB (l : List Term) (root : Int) : Bool :=
  if (160 : Int) < l.length then false else if root < 0 then false else if (l.length : Int) ≤ root then false else (mayW l (root.toNat + 1) root 1 (List.replicate l.length false)).1
theorem mayB_F1 {l : List Term} {root : Int} (h : decide ((160 : Int) < l.length) = true) : mayB l root = false := by unfold mayB; rw [if_pos (of_decide_eq_true h)]
theorem mayB_F2 {l : List Term} {root : Int} (h : decide (root < 0) = true) : mayB l root = false := by
  unfold mayB; split
  · rfl
  · rw [if_pos (of_decide_eq_true h)]
theorem mayB_F3 {l : List Term} {root : Int} (h : (l.length : Int) ≤ root) : mayB l root = false := by
  unfold mayB; split
  · rfl
  · split
    · rfl
    · first | rfl | rw [if_pos h]
theorem mayB_in {l : List Term} {root : Int} (h1 : decide ((160 : Int) < l.length) = false) (h2 : decide (root < 0) = false) (h3 : ¬ (l.length : Int) ≤ root) : (l.length : Int) ≤ 160 ∧ 0 ≤ root ∧ root < l.length := by
  have := of_decide_eq_false h1; have := of_decide_eq_false h2; omega
theorem mayB_T {l : List Term} {root : Int} (h : (l.length : Int) ≤ 160 ∧ 0 ≤ root ∧ root < l.length) : mayB l root = (mayW l (root.toNat + 1) root 1 (List.replicate l.length false)).1 := by
  unfold mayB; rw [if_neg (by omega), if_neg (by omega), if_neg (by omega)]
end Go.Sx
