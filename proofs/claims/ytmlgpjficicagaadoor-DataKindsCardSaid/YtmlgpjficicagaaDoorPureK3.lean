import Derived.Test.YtmlgpjficicagaaDoorPureK2
set_option linter.unusedVariables false
set_option linter.unusedSimpArgs false
namespace Go.Sx
open Go
section
variable {l : List Term} {env : List Typing} {f : Nat} {at_ : Int} {t : Term} (hx : l[at_.toNat]? = some t)
include hx
theorem kRef_0 (h : operandsI t.kind = 0) : kRef l env (f + 1) at_ = leafK t env := by simp only [kRef, hx]; rw [if_pos h]
theorem kRef_l (h : ¬ operandsI t.kind = 0) (h1 : ¬ (kRef l env f t.l).2 = 0) : kRef l env (f + 1) at_ = (0, (kRef l env f t.l).2) := by simp only [kRef, hx]; rw [if_neg h, if_pos h1]
theorem kRef_r (h : ¬ operandsI t.kind = 0) (h1 : (kRef l env f t.l).2 = 0) (h2 : operandsI t.kind = 2) (h3 : ¬ (kRef l env f t.r).2 = 0) : kRef l env (f + 1) at_ = (0, (kRef l env f t.r).2) := by simp only [kRef, hx]; rw [if_neg h, if_neg (by simpa using h1), if_pos h2, if_pos h3]
theorem kRef_2 (h : ¬ operandsI t.kind = 0) (h1 : (kRef l env f t.l).2 = 0) (h2 : operandsI t.kind = 2) (h3 : (kRef l env f t.r).2 = 0) : kRef l env (f + 1) at_ = ((mixedI t.kind (kRef l env f t.l).1 (kRef l env f t.r).1).1, (mixedI t.kind (kRef l env f t.l).1 (kRef l env f t.r).1).2) := by simp only [kRef, hx]; rw [if_neg h, if_neg (by simpa using h1), if_pos h2, if_neg (by simpa using h3)]
theorem kRef_1 (h : ¬ operandsI t.kind = 0) (h1 : (kRef l env f t.l).2 = 0) (h2 : ¬ operandsI t.kind = 2) : kRef l env (f + 1) at_ = ((mixedI t.kind (kRef l env f t.l).1 0).1, (mixedI t.kind (kRef l env f t.l).1 0).2) := by simp only [kRef, hx]; rw [if_neg h, if_neg (by simpa using h1), if_neg h2]
end

/-! ## the two ways to tell a valid tree -/
/-- a term's own form, and where its operands may stand -/
def okT (t : Term) (at_ deep : Int) : Bool :=
  (decide (0 ≤ operandsI t.kind) && fieldsB t) && ((decide (deep ≤ 24)) &&
  ((if operandsI t.kind < 1 then decide (t.l = -1) else decide (0 ≤ t.l) && decide (t.l < at_)) && (if operandsI t.kind < 2 then decide (t.r = -1) else decide (0 ≤ t.r) && decide (t.r < at_))))

/-- the places of a tree, the root first -/
def preL (l : List Term) : Nat → Nat → Int → Option (List Nat)
  | 0, _, _ => none
  | f + 1, at_, deep => match l[at_]? with
    | none => none
    | some t => if okT t at_ deep = false then none else
      match (if operandsI t.kind < 1 then some [] else preL l f t.l.toNat (deep + 1)) with
      | none => none
      | some p => match (if operandsI t.kind < 2 then some [] else preL l f t.r.toNat (deep + 1)) with
        | none => none
        | some q => some (at_ :: (p ++ q))

theorem okT_l {t : Term} {at_ deep : Int} (h : okT t at_ deep = true) (hk : ¬ operandsI t.kind < 1) : 0 ≤ t.l ∧ t.l < at_ := by
  unfold okT at h
  simp only [Bool.and_eq_true] at h
  have := h.2.2.1
  rw [if_neg hk] at this
  simpa using this
theorem okT_r {t : Term} {at_ deep : Int} (h : okT t at_ deep = true) (hk : ¬ operandsI t.kind < 2) : 0 ≤ t.r ∧ t.r < at_ := by
  unfold okT at h
  simp only [Bool.and_eq_true] at h
  have := h.2.2.2
  rw [if_neg hk] at this
  simpa using this

/-- a tree's places, written out -/
theorem preL_some {l : List Term} {f at_ : Nat} {deep : Int} {p : List Nat} (h : preL l (f + 1) at_ deep = some p) : ∃ t p0 q0, l[at_]? = some t ∧ okT t at_ deep = true ∧
    (if operandsI t.kind < 1 then some [] else preL l f t.l.toNat (deep + 1)) = some p0 ∧ (if operandsI t.kind < 2 then some [] else preL l f t.r.toNat (deep + 1)) = some q0 ∧ p = at_ :: (p0 ++ q0) := by
  simp only [preL] at h
  cases hx : l[at_]? with
  | none => rw [hx] at h; cases h
  | some t =>
    rw [hx] at h
    simp only at h
    cases hok : okT t at_ deep with
    | false => rw [hok] at h; simp at h
    | true =>
      rw [hok] at h
      simp only [Bool.true_eq_false, if_false] at h
      cases h0 : (if operandsI t.kind < 1 then some [] else preL l f t.l.toNat (deep + 1)) with
      | none => rw [h0] at h; cases h
      | some p0 =>
        rw [h0] at h
        simp only at h
        cases h1 : (if operandsI t.kind < 2 then some [] else preL l f t.r.toNat (deep + 1)) with
        | none => rw [h1] at h; cases h
        | some q0 =>
          rw [h1] at h
          simp only [Option.some.injEq] at h
          exact ⟨t, p0, q0, rfl, hok, h0, h1, h.symm⟩
theorem preL_mk {l : List Term} {f at_ : Nat} {deep : Int} {t : Term} {p0 q0 : List Nat} (hx : l[at_]? = some t) (hok : okT t at_ deep = true)
    (h0 : (if operandsI t.kind < 1 then some [] else preL l f t.l.toNat (deep + 1)) = some p0) (h1 : (if operandsI t.kind < 2 then some [] else preL l f t.r.toNat (deep + 1)) = some q0) : preL l (f + 1) at_ deep = some (at_ :: (p0 ++ q0)) := by
  simp only [preL, hx, hok, h0, h1]
  simp

theorem preL_le {l : List Term} : ∀ (f at_ : Nat) (deep : Int) (p : List Nat), preL l f at_ deep = some p → ∀ x ∈ p, x ≤ at_ := by
  intro f
  induction f with
  | zero => intro at_ deep p h; simp [preL] at h
  | succ f ih =>
    intro at_ deep p h
    obtain ⟨t, p0, q0, hx, hok, h0, h1, rfl⟩ := preL_some h
    intro x hx'
    rcases List.mem_cons.1 hx' with rfl | hx'
    · exact Nat.le_refl _
    rcases List.mem_append.1 hx' with hx' | hx'
    · split at h0
      · simp only [Option.some.injEq] at h0; subst h0; cases hx'
      · rename_i hk
        have := okT_l hok hk
        have := ih _ _ _ h0 x hx'
        omega
    · split at h1
      · simp only [Option.some.injEq] at h1; subst h1; cases hx'
      · rename_i hk
        have := okT_r hok hk
        have := ih _ _ _ h1 x hx'
        omega
theorem preL_self {l : List Term} {f at_ : Nat} {deep : Int} {p : List Nat} (h : preL l f at_ deep = some p) : at_ ∈ p := by
  cases f with
  | zero => simp [preL] at h
  | succ f => obtain ⟨t, p0, q0, hx, hok, h0, h1, rfl⟩ := preL_some h; simp

/-- more fuel than needed makes no difference -/
theorem preL_fuel {l : List Term} : ∀ (f g at_ : Nat) (deep : Int), at_ < f → at_ < g → preL l f at_ deep = preL l g at_ deep := by
  intro f
  induction f with
  | zero => intro g at_ deep h; omega
  | succ f ih =>
    intro g at_ deep hf hg
    cases g with
    | zero => omega
    | succ g =>
      simp only [preL]
      cases hx : l[at_]? with
      | none => rfl
      | some t =>
        simp only
        cases hok : okT t at_ deep with
        | false => simp
        | true =>
          simp only [Bool.true_eq_false, if_false]
          have e0 : (if operandsI t.kind < 1 then some [] else preL l f t.l.toNat (deep + 1)) = (if operandsI t.kind < 1 then some [] else preL l g t.l.toNat (deep + 1)) := by
            split
            · rfl
            · rename_i hk; have := okT_l hok hk; exact ih g _ _ (by omega) (by omega)
          have e1 : (if operandsI t.kind < 2 then some [] else preL l f t.r.toNat (deep + 1)) = (if operandsI t.kind < 2 then some [] else preL l g t.r.toNat (deep + 1)) := by
            split
            · rfl
            · rename_i hk; have := okT_r hok hk; exact ih g _ _ (by omega) (by omega)
          rw [e0, e1]

/-! the program's walk -/
def Clear (met : List Bool) (p : List Nat) : Prop := ∀ x ∈ p, met[x]?.getD false = false

theorem getD_set {met : List Bool} {i y : Nat} (h : i < met.length) : (met.set i true)[y]?.getD false = (met[y]?.getD false || decide (y = i)) := by
  by_cases hy : y = i
  · subst hy; simp [h]
  · simp [hy, List.getElem?_set, Ne.symm hy]

theorem okT_of {t : Term} {at_ deep : Int} (h1 : 0 ≤ operandsI t.kind) (h2 : fieldsB t = true) (h3 : deep ≤ 24) (h4 : operandsI t.kind < 1 → t.l = -1) (h5 : ¬ operandsI t.kind < 1 → 0 ≤ t.l ∧ t.l < at_)
    (h6 : operandsI t.kind < 2 → t.r = -1) (h7 : ¬ operandsI t.kind < 2 → 0 ≤ t.r ∧ t.r < at_) : okT t at_ deep = true := by
  unfold okT
  simp only [Bool.and_eq_true, decide_eq_true_eq]
  refine ⟨⟨h1, h2⟩, h3, ?_, ?_⟩
  · split
    · rename_i h; simpa using h4 h
    · rename_i h; simpa using h5 h
  · split
    · rename_i h; simpa using h6 h
    · rename_i h; simpa using h7 h

theorem mayW_pre {l : List Term} : ∀ (f : Nat) (at_ deep : Int) (met : List Bool), 0 ≤ at_ → at_ < l.length → at_.toNat < f → met.length = l.length →
    ((∃ p, preL l f at_.toNat deep = some p ∧ p.Nodup ∧ Clear met p) → (mayW l f at_ deep met).1 = true) ∧
    ((mayW l f at_ deep met).1 = true → ∃ p, preL l f at_.toNat deep = some p ∧ p.Nodup ∧ Clear met p ∧ (∀ y, (mayW l f at_ deep met).2[y]?.getD false = (met[y]?.getD false || decide (y ∈ p))) ∧ (mayW l f at_ deep met).2.length = l.length) := by
  intro f
  induction f with
  | zero => intro at_ deep met h0 h1 h2; omega
  | succ f ih =>
    intro at_ deep met h0 h1 hf hlen
    obtain ⟨t, hx⟩ := getSome h0 h1
    have hlt : at_.toNat < met.length := by omega
    have hcast : ((at_.toNat : Nat) : Int) = at_ := Int.toNat_of_nonneg h0
    by_cases hg : MayG deep met at_ t
    · obtain ⟨g1, g2, g3, g4⟩ := hg
      have hgg : MayG deep met at_ t := ⟨g1, g2, g3, g4⟩
      -- one operand
      have op : ∀ (i to : Int) (m : List Bool), m.length = l.length → i < 2 → 0 ≤ i → (0 ≤ to → to < at_ → operandsI t.kind > i →
          ((∃ p, preL l f to.toNat (deep + 1) = some p ∧ p.Nodup ∧ Clear m p) → (mayW l f to (deep + 1) m).1 = true) ∧
          ((mayW l f to (deep + 1) m).1 = true → ∃ p, preL l f to.toNat (deep + 1) = some p ∧ p.Nodup ∧ Clear m p ∧ (∀ y, (mayW l f to (deep + 1) m).2[y]?.getD false = (m[y]?.getD false || decide (y ∈ p))) ∧ (mayW l f to (deep + 1) m).2.length = l.length)) :=
        fun i to m hm _ _ ht0 ht1 _ => ih to (deep + 1) m ht0 (by omega) (by omega) hm
      have side : ∀ (i to : Int) (m : List Bool), m.length = l.length → 0 ≤ i → i < 2 →
          (((operandsI t.kind < i + 1 → to = -1) ∧ (¬ operandsI t.kind < i + 1 → 0 ≤ to ∧ to < at_) ∧ ∃ p, (if operandsI t.kind < i + 1 then some [] else preL l f to.toNat (deep + 1)) = some p ∧ p.Nodup ∧ Clear m p) → (opW (operandsI t.kind) at_ (fun to m => mayW l f to (deep + 1) m) i to m).1 = true) ∧
          ((opW (operandsI t.kind) at_ (fun to m => mayW l f to (deep + 1) m) i to m).1 = true → (operandsI t.kind < i + 1 → to = -1) ∧ (¬ operandsI t.kind < i + 1 → 0 ≤ to ∧ to < at_) ∧
            ∃ p, (if operandsI t.kind < i + 1 then some [] else preL l f to.toNat (deep + 1)) = some p ∧ p.Nodup ∧ Clear m p ∧ (∀ y, (opW (operandsI t.kind) at_ (fun to m => mayW l f to (deep + 1) m) i to m).2[y]?.getD false = (m[y]?.getD false || decide (y ∈ p))) ∧ (opW (operandsI t.kind) at_ (fun to m => mayW l f to (deep + 1) m) i to m).2.length = l.length) := by
        intro i to m hm hi0 hi2
        by_cases hk : operandsI t.kind ≤ i
        · rw [opW_le hk]
          have hk' : operandsI t.kind < i + 1 := by omega
          refine ⟨fun h => by simpa using h.1 hk', fun h => ⟨fun _ => by simpa using h, fun hn => absurd hk' hn, [], by rw [if_pos hk'], List.nodup_nil, by simp [Clear], by simp, hm⟩⟩
        · have hk' : ¬ operandsI t.kind < i + 1 := by omega
          by_cases hb : to < 0 ∨ at_ ≤ to
          · rw [opW_bad hk hb]
            refine ⟨fun h => ?_, fun h => by cases h⟩
            have := h.2.1 hk'
            omega
          · rw [opW_rec hk (by omega) (by omega)]
            have hh := op i to m hm hi2 hi0 (by omega) (by omega) (by omega)
            refine ⟨fun h => ?_, fun h => ?_⟩
            · obtain ⟨_, _, p, h1, h2, h3⟩ := h
              rw [if_neg hk'] at h1
              exact hh.1 ⟨p, h1, h2, h3⟩
            · obtain ⟨p, h1, h2, h3, h4, h5⟩ := hh.2 h
              exact ⟨fun hn => absurd hn hk', fun _ => by omega, p, by rw [if_neg hk']; exact h1, h2, h3, h4, h5⟩
      have hm1 : (met.set at_.toNat true).length = l.length := by simp [hlen]
      have s0 := side 0 t.l (met.set at_.toNat true) hm1 (by omega) (by omega)
      generalize h00 : opW (operandsI t.kind) at_ (fun to m => mayW l f to (deep + 1) m) 0 t.l (met.set at_.toNat true) = r0 at s0
      obtain ⟨b0, m0⟩ := r0
      simp only [Int.zero_add] at s0
      constructor
      · rintro ⟨p, hp, hnd, hcl⟩
        obtain ⟨t', p0, q0, hx', hok, e0, e1, rfl⟩ := preL_some hp
        obtain rfl : t = t' := by rw [hx] at hx'; exact Option.some.inj hx'
        rw [hcast] at hok
        simp only [List.nodup_cons, List.nodup_append, List.mem_append, not_or] at hnd
        obtain ⟨⟨n1, n2⟩, n3, n4, n5⟩ := hnd
        have ok' := hok
        unfold okT at ok'
        simp only [Bool.and_eq_true, decide_eq_true_eq] at ok'
        have hb0 : b0 = true := by
          refine s0.1 ⟨fun hk => ?_, fun hk => okT_l hok hk, p0, e0, n3, fun x hxp => ?_⟩
          · have := ok'.2.2.1; rw [if_pos hk] at this; simpa using this
          · rw [getD_set hlt]
            have hne : x ≠ at_.toNat := fun e => n1 (e ▸ hxp)
            simp [hne, hcl x (by simp [hxp])]
        subst hb0
        obtain ⟨_, _, p0', e0', _, _, hm0, hl0⟩ := s0.2 rfl
        obtain rfl : p0 = p0' := by rw [e0] at e0'; exact Option.some.inj e0'
        have s1 := side 1 t.r m0 hl0 (by omega) (by omega)
        simp only [show (1 : Int) + 1 = 2 from rfl] at s1
        rw [mayW_1 hx hgg h00 rfl]
        refine s1.1 ⟨fun hk => ?_, fun hk => okT_r hok hk, q0, e1, n4, fun x hxq => ?_⟩
        · have := ok'.2.2.2; rw [if_pos hk] at this; simpa using this
        · rw [hm0, getD_set hlt]
          have hne : x ≠ at_.toNat := fun e => n2 (e ▸ hxq)
          have hnp : x ∉ p0 := fun hxp => n5 x hxp x hxq rfl
          simp [hne, hnp, hcl x (by simp [hxq])]
      · intro hb
        cases b0 with
        | false => rw [mayW_0 hx hgg h00] at hb; cases hb
        | true =>
          obtain ⟨a1, a2, p0, e0, n3, c0, hm0, hl0⟩ := s0.2 rfl
          have s1 := side 1 t.r m0 hl0 (by omega) (by omega)
          simp only [show (1 : Int) + 1 = 2 from rfl] at s1
          rw [mayW_1 hx hgg h00 rfl] at hb ⊢
          obtain ⟨a3, a4, q0, e1, n4, c1, hm2, hl2⟩ := s1.2 hb
          have hok : okT t at_.toNat deep = true := by
            rw [hcast]; exact okT_of (by omega) g4 (by omega) a1 a2 a3 a4
          have hat0 : at_.toNat ∉ p0 := fun hh => by
            have := c0 _ hh; rw [getD_set hlt] at this; simp at this
          have hat1 : at_.toNat ∉ q0 := fun hh => by
            have := c1 _ hh; rw [hm0, getD_set hlt] at this; simp at this
          refine ⟨at_.toNat :: (p0 ++ q0), preL_mk hx hok e0 e1, ?_, ?_, ?_, hl2⟩
          · simp only [List.nodup_cons, List.nodup_append, List.mem_append, not_or]
            refine ⟨⟨hat0, hat1⟩, n3, n4, fun x hxp y hyq e => ?_⟩
            subst e
            have := c1 x hyq
            rw [hm0] at this
            simp [hxp] at this
          · intro x hxp
            rcases List.mem_cons.1 hxp with rfl | hxp
            · exact g1
            rcases List.mem_append.1 hxp with hxp | hxp
            · have := c0 x hxp; rw [getD_set hlt] at this; simp at this; exact this.1
            · have := c1 x hxp; rw [hm0, getD_set hlt] at this; simp at this; exact this.1.1
          · intro y
            rw [hm2, hm0, getD_set hlt]
            simp only [List.mem_cons, List.mem_append, Bool.or_assoc]
            congr 1
            rw [Bool.eq_iff_iff]
            simp
    · have hbad : met[at_.toNat]?.getD false = true ∨ 24 < deep ∨ operandsI t.kind < 0 ∨ fieldsB t = false := by
        by_cases a1 : met[at_.toNat]?.getD false = true
        · exact .inl a1
        by_cases a2 : 24 < deep
        · exact .inr (.inl a2)
        by_cases a3 : operandsI t.kind < 0
        · exact .inr (.inr (.inl a3))
        by_cases a4 : fieldsB t = false
        · exact .inr (.inr (.inr a4))
        exact absurd ⟨by simpa using a1, a2, a3, by simpa using a4⟩ hg
      rw [mayW_F hx hbad]
      refine ⟨fun h => ?_, fun h => by cases h⟩
      obtain ⟨p, hp, hnd, hcl⟩ := h
      obtain ⟨t', p0, q0, hx', hok, e0, e1, rfl⟩ := preL_some hp
      obtain rfl : t = t' := by rw [hx] at hx'; exact Option.some.inj hx'
      unfold okT at hok
      simp only [Bool.and_eq_true, decide_eq_true_eq] at hok
      have hself := hcl at_.toNat (by simp)
      rcases hbad with h | h | h | h
      · rw [hself] at h; cases h
      · omega
      · omega
      · rw [hok.1.2] at h; cases h

theorem may_pre {l : List Term} {root : Int} (hr : 0 ≤ root ∧ root < l.length) : (mayW l (root.toNat + 1) root 1 (List.replicate l.length false)).1 = true ↔ ∃ p, preL l (root.toNat + 1) root.toNat 1 = some p ∧ p.Nodup := by
  have h := mayW_pre (l := l) (root.toNat + 1) root 1 (List.replicate l.length false) hr.1 hr.2 (by omega) (by simp)
  constructor
  · intro hb
    obtain ⟨p, h1, h2, _⟩ := h.2 hb
    exact ⟨p, h1, h2⟩
  · rintro ⟨p, h1, h2⟩
    exact h.1 ⟨p, h1, h2, fun x _ => by rw [List.getElem?_replicate]; split <;> rfl⟩

/-! the reference's scan -/
def cc (l : List Term) (a : Nat) (v : Int) (y : Nat) : Nat := match preL l (a + 1) a v with
  | some p => p.count y
  | none => 0
/-- how often y stands in the trees of the places below n that have a depth -/
def cnt (l : List Term) : Nat → List Int → Nat → Nat
  | 0, _, _ => 0
  | n + 1, d, y => cnt l n d y + (if d[n]?.getD 0 = 0 then 0 else cc l n (d[n]?.getD 0) y)
def gd (l : List Term) : Nat → List Int → Prop
  | 0, _ => True
  | n + 1, d => gd l n d ∧ (d[n]?.getD 0 = 0 ∨ (preL l (n + 1) n (d[n]?.getD 0)).isSome = true)
def Fgood (l : List Term) (n : Nat) (d : List Int) : Prop := gd l n d ∧ ∀ y, cnt l n d y ≤ 1

theorem cnt_ge {l : List Term} : ∀ (n : Nat) (d : List Int) (y : Nat), n ≤ y → cnt l n d y = 0
  | 0, _, _, _ => rfl
  | n + 1, d, y, h => by
    simp only [cnt, cnt_ge n d y (by omega), Nat.zero_add]
    split
    · rfl
    · unfold cc
      split
      · rename_i p hp
        refine List.count_eq_zero.2 (fun hm => ?_)
        have := preL_le _ _ _ _ hp y hm
        omega
      · rfl

theorem cnt_set_ge {l : List Term} {a : Nat} {v : Int} {y : Nat} : ∀ (n : Nat) (d : List Int), n ≤ a → cnt l n (d.set a v) y = cnt l n d y
  | 0, _, _ => rfl
  | n + 1, d, h => by
    simp only [cnt, cnt_set_ge (a := a) (v := v) n d (by omega), set_ne (show a ≠ n by omega)]
theorem gd_set_ge {l : List Term} {a : Nat} {v : Int} : ∀ (n : Nat) (d : List Int), n ≤ a → (gd l n (d.set a v) ↔ gd l n d)
  | 0, _, _ => Iff.rfl
  | n + 1, d, h => by
    simp only [gd, gd_set_ge (a := a) (v := v) n d (by omega), set_ne (show a ≠ n by omega)]
theorem set_eq {d : List Int} {a : Nat} {v : Int} (h : a < d.length) : (d.set a v)[a]?.getD 0 = v := by simp [h]

theorem cnt_set {l : List Term} {a : Nat} {v : Int} {y : Nat} : ∀ (n : Nat) (d : List Int), a < n → a < d.length → d[a]?.getD 0 = 0 → 0 < v → cnt l n (d.set a v) y = cnt l n d y + cc l a v y
  | 0, _, h, _, _, _ => by omega
  | n + 1, d, h, hl, h0, hv => by
    by_cases ha : a = n
    · subst ha
      simp only [cnt, cnt_set_ge a d (Nat.le_refl _), set_eq hl, h0, if_true]
      rw [if_neg (by omega)]
      omega
    · simp only [cnt, cnt_set n d (by omega) hl h0 hv, set_ne ha]
      omega
theorem gd_set {l : List Term} {a : Nat} {v : Int} : ∀ (n : Nat) (d : List Int), a < n → a < d.length → d[a]?.getD 0 = 0 → 0 < v → (gd l n (d.set a v) ↔ gd l n d ∧ (preL l (a + 1) a v).isSome = true)
  | 0, _, h, _, _, _ => by omega
  | n + 1, d, h, hl, h0, hv => by
    by_cases ha : a = n
    · subst ha
      simp only [gd, gd_set_ge a d (Nat.le_refl _), set_eq hl, h0, true_or, and_true]
      constructor
      · rintro ⟨h1, h2⟩
        refine ⟨h1, h2.resolve_left (by omega)⟩
      · rintro ⟨h1, h2⟩; exact ⟨h1, .inr h2⟩
    · simp only [gd, gd_set n d (by omega) hl h0 hv, set_ne ha]
      constructor
      · rintro ⟨⟨h1, h2⟩, h3⟩; exact ⟨⟨h1, h3⟩, h2⟩
      · rintro ⟨⟨h1, h3⟩, h2⟩; exact ⟨⟨h1, h2⟩, h3⟩

theorem cnt_pos {l : List Term} {a : Nat} : ∀ (n : Nat) (d : List Int), a < n → ¬ d[a]?.getD 0 = 0 → gd l n d → 1 ≤ cnt l n d a
  | 0, _, h, _, _ => by omega
  | n + 1, d, h, h0, hg => by
    simp only [cnt]
    by_cases ha : a = n
    · subst ha
      rw [if_neg h0]
      have := hg.2.resolve_left h0
      obtain ⟨p, hp⟩ := Option.isSome_iff_exists.1 this
      unfold cc
      rw [hp]
      have := List.count_pos_iff.2 (preL_self hp)
      simp only
      omega
    · have := cnt_pos n d (by omega) h0 hg.1
      omega

theorem aloneB_iff {t : Term} : aloneB t = true ↔ 0 ≤ operandsI t.kind ∧ fieldsB t = true ∧ (operandsI t.kind < 1 → t.l = -1) ∧ (operandsI t.kind < 2 → t.r = -1) := by
  have hform : formB t = false ↔ 0 ≤ operandsI t.kind ∧ (operandsI t.kind < 2 → t.r = -1) ∧ (operandsI t.kind < 1 → t.l = -1) := by
    unfold formB
    simp only [Bool.or_eq_false_iff, Bool.and_eq_false_iff, decide_eq_false_iff_not, Bool.not_eq_false', decide_eq_true_eq]
    constructor
    · rintro ⟨h1, h2, h3⟩
      exact ⟨by omega, fun h => h2.resolve_left (by omega), fun h => h3.resolve_left (by omega)⟩
    · rintro ⟨h1, h2, h3⟩
      refine ⟨by omega, ?_, ?_⟩
      · by_cases h : operandsI t.kind < 2
        · exact .inr (h2 h)
        · exact .inl h
      · by_cases h : operandsI t.kind < 1
        · exact .inr (h3 h)
        · exact .inl h
  have hf : (nameB t && (numB t && textB t)) = fieldsB t := by
    unfold nameB numB textB fieldsB
    by_cases k0 : t.kind = 0
    · simp [k0]
    by_cases k1 : t.kind = 1
    · simp [k1]
    by_cases k2 : t.kind = 2
    · simp only [k2]
      simp
      by_cases a : t.name = [] <;> by_cases b : t.text = [] <;> by_cases c : t.n = 0 <;> by_cases e : t.n = 1 <;> simp [a, b, c, e]
    by_cases k3 : t.kind = 3
    · simp only [k3]
      simp
      by_cases a : t.name = [] <;> by_cases b : t.text = [] <;> by_cases c : t.n = 0 <;> simp [a, b, c]
    · simp [k0, k1, k2, k3]
  unfold aloneB
  rw [Bool.and_eq_true, hf, Bool.not_eq_true', hform]
  constructor
  · rintro ⟨⟨h1, h2, h3⟩, h4⟩; exact ⟨h1, h4, h3, h2⟩
  · rintro ⟨h1, h2, h3, h4⟩; exact ⟨⟨h1, h4, h3⟩, h2⟩

theorem okT_iff {t : Term} {at_ deep : Int} : okT t at_ deep = true ↔ aloneB t = true ∧ deep ≤ 24 ∧ (¬ operandsI t.kind < 1 → 0 ≤ t.l ∧ t.l < at_) ∧ (¬ operandsI t.kind < 2 → 0 ≤ t.r ∧ t.r < at_) := by
  rw [aloneB_iff]
  constructor
  · intro h
    have ok' := h
    unfold okT at ok'
    simp only [Bool.and_eq_true, decide_eq_true_eq] at ok'
    refine ⟨⟨ok'.1.1, ok'.1.2, fun hk => ?_, fun hk => ?_⟩, ok'.2.1, okT_l h, okT_r h⟩
    · have := ok'.2.2.1; rw [if_pos hk] at this; simpa using this
    · have := ok'.2.2.2; rw [if_pos hk] at this; simpa using this
  · rintro ⟨⟨h1, h2, h3, h4⟩, h5, h6, h7⟩
    exact okT_of h1 h2 h5 h3 h6 h4 h7

theorem preL_none_of {l : List Term} {n : Nat} {v : Int} {t : Term} (hx : l[n]? = some t) (h : ¬ okT t n v = true) : (preL l (n + 1) n v).isSome = false := by
  cases hp : preL l (n + 1) n v with
  | none => rfl
  | some p =>
    obtain ⟨t', p0, q0, hx', hok, _⟩ := preL_some hp
    obtain rfl : t = t' := by rw [hx] at hx'; exact Option.some.inj hx'
    exact absurd hok h

/-- the scan goes through from place n down, just where the trees of the places below n, each at its depth, are well formed and have no place twice -/
theorem scan {l : List Term} : ∀ (n : Nat) (d : List Int), n ≤ l.length → d.length = l.length → Nn d → ((treeLoop l n d).isSome = true ↔ Fgood l n d) := by
  intro n
  induction n with
  | zero => intro d _ _ _; exact ⟨fun _ => ⟨trivial, fun y => by simp [cnt]⟩, fun _ => rfl⟩
  | succ n ih =>
    intro d hn hd hnn
    have hN := hnn n
    simp only [treeLoop]
    by_cases h0 : d[n]?.getD 0 = 0
    · rw [treeStep_0 (by simpa using h0)]
      simp only
      rw [ih d (by omega) hd hnn]
      unfold Fgood
      simp only [gd, cnt, h0, if_true, true_or, and_true, Nat.add_zero]
    · obtain ⟨t, hx⟩ : ∃ t, l[n]? = some t := ⟨l[n]'(by omega), List.getElem?_eq_getElem (by omega)⟩
      have hpos : 0 < d[n]?.getD 0 := by omega
      have gdN : gd l (n + 1) d → (preL l (n + 1) n (d[n]?.getD 0)).isSome = true := fun h => h.2.resolve_left h0
      by_cases hbad : aloneB t = false ∨ 24 < d[n]?.getD 0
      · rw [treeStep_F (t := t) (by simpa using hx) (by simpa using h0) (by simpa using hbad)]
        refine ⟨fun h => (by cases h), fun h => ?_⟩
        have h1 := gdN h.1
        rw [preL_none_of hx (fun hok => ?_)] at h1
        · cases h1
        · rw [okT_iff] at hok
          rcases hbad with hb | hb
          · rw [hok.1] at hb; cases hb
          · omega
      · have hal : aloneB t = true := by
          cases hb : aloneB t with
          | true => rfl
          | false => exact absurd (.inl hb) hbad
        have h24 : ¬ 24 < d[n]?.getD 0 := fun h => hbad (.inr h)
        rw [treeStep_T (t := t) (by simpa using hx) (by simpa using h0) hal (by simpa using h24)]
        have hself0 : cnt l n d n = 0 := cnt_ge n d n (Nat.le_refl _)
        by_cases k1 : operandsI t.kind < 1
        · rw [treeOps_0 (by omega)]
          simp only
          rw [ih d (by omega) hd hnn]
          have hok : okT t n (d[n]?.getD 0) = true := okT_iff.2 ⟨hal, by omega, fun h => absurd k1 h, fun h => absurd (by omega) h⟩
          have hp : preL l (n + 1) n (d[n]?.getD 0) = some (n :: ([] ++ [])) := preL_mk hx hok (by rw [if_pos k1]) (by rw [if_pos (by omega)])
          have hc : ∀ y, cnt l (n + 1) d y = cnt l n d y + [n].count y := fun y => by
            simp only [cnt, if_neg h0]; unfold cc; rw [hp]; simp
          unfold Fgood
          constructor
          · rintro ⟨a, b⟩
            refine ⟨⟨a, .inr (by rw [hp]; rfl)⟩, fun y => ?_⟩
            rw [hc]
            by_cases hy : y = n
            · subst hy; rw [hself0]; simp
            · have : [n].count y = 0 := List.count_eq_zero.2 (by simpa using hy)
              have := b y; omega
          · rintro ⟨a, b⟩
            exact ⟨a.1, fun y => by have := b y; rw [hc] at this; omega⟩
        · have k1' : ¬ operandsI t.kind ≤ 0 := by omega
          by_cases hb1 : t.l < 0 ∨ (n : Int) ≤ t.l ∨ 0 < d[t.l.toNat]?.getD 0
          · rw [treeOps_n k1' (treeOp_F hb1)]
            refine ⟨fun h => (by cases h), fun h => ?_⟩
            have h1 := gdN h.1
            obtain ⟨p, hp⟩ := Option.isSome_iff_exists.1 h1
            obtain ⟨t', p0, q0, hx', hok, e0, e1, rfl⟩ := preL_some hp
            obtain rfl : t = t' := by rw [hx] at hx'; exact Option.some.inj hx'
            have hl := okT_l hok k1
            rw [if_neg k1] at e0
            have hpos' := hb1.resolve_left (by omega) |>.resolve_left (by omega)
            have c1 := cnt_pos (l := l) n d (a := t.l.toNat) (by omega) (by omega) h.1.1
            have c2 := h.2 t.l.toNat
            simp only [cnt, if_neg h0] at c2
            unfold cc at c2
            rw [hp] at c2
            have hm : 1 ≤ (n :: (p0 ++ q0)).count t.l.toNat := List.count_pos_iff.2 (by simp [preL_self e0])
            simp only at c2
            omega
          · have b1 : ¬ t.l < 0 := fun h => hb1 (.inl h)
            have b2 : ¬ (n : Int) ≤ t.l := fun h => hb1 (.inr (.inl h))
            have b3 : ¬ 0 < d[t.l.toNat]?.getD 0 := fun h => hb1 (.inr (.inr h))
            have b3' : d[t.l.toNat]?.getD 0 = 0 := by have := hnn t.l.toNat; omega
            have o1 := treeOp_T (d := d) (i := (n : Int)) b1 b2 b3
            simp only [Int.toNat_natCast] at o1
            have hln : t.l.toNat < n := by omega
            have hl1 : (d.set t.l.toNat (d[n]?.getD 0 + 1)).length = l.length := by simp [hd]
            have hnn1 : Nn (d.set t.l.toNat (d[n]?.getD 0 + 1)) := Nn_set hnn (by omega)
            have cs1 : ∀ y, cnt l n (d.set t.l.toNat (d[n]?.getD 0 + 1)) y = cnt l n d y + cc l t.l.toNat (d[n]?.getD 0 + 1) y := fun y => cnt_set n d hln (by omega) b3' (by omega)
            have gs1 := gd_set (l := l) (v := d[n]?.getD 0 + 1) n d hln (by omega) b3' (by omega)
            have fu1 : preL l n t.l.toNat (d[n]?.getD 0 + 1) = preL l (t.l.toNat + 1) t.l.toNat (d[n]?.getD 0 + 1) := preL_fuel _ _ _ _ hln (by omega)
            by_cases k2 : operandsI t.kind < 2
            · rw [treeOps_1 k1' o1 (by omega)]
              simp only
              rw [ih _ (by omega) hl1 hnn1]
              have hok : okT t n (d[n]?.getD 0) = true := okT_iff.2 ⟨hal, by omega, fun _ => by omega, fun h => absurd k2 h⟩
              unfold Fgood
              rw [gs1]
              cases hp0 : preL l (t.l.toNat + 1) t.l.toNat (d[n]?.getD 0 + 1) with
              | none =>
                refine ⟨fun h => by simp at h, fun h => ?_⟩
                have h1 := gdN h.1
                obtain ⟨p, hp⟩ := Option.isSome_iff_exists.1 h1
                obtain ⟨t', p0, q0, hx', _, e0, e1, rfl⟩ := preL_some hp
                obtain rfl : t = t' := by rw [hx] at hx'; exact Option.some.inj hx'
                rw [if_neg k1, fu1, hp0] at e0
                cases e0
              | some p0 =>
                have hp : preL l (n + 1) n (d[n]?.getD 0) = some (n :: (p0 ++ [])) := preL_mk hx hok (by rw [if_neg k1, fu1, hp0]) (by rw [if_pos k2])
                have hc : ∀ y, cnt l (n + 1) d y = cnt l n d y + (n :: (p0 ++ [])).count y := fun y => by
                  simp only [cnt, if_neg h0]; unfold cc; rw [hp]
                have hc0 : ∀ y, cc l t.l.toNat (d[n]?.getD 0 + 1) y = p0.count y := fun y => by unfold cc; rw [hp0]
                have hn0 : p0.count n = 0 := List.count_eq_zero.2 (fun hm => by have := preL_le _ _ _ _ hp0 n hm; omega)
                constructor
                · rintro ⟨⟨a, _⟩, b⟩
                  refine ⟨⟨a, .inr (by rw [hp]; rfl)⟩, fun y => ?_⟩
                  have := b y
                  rw [cs1, hc0] at this
                  rw [hc]
                  by_cases hy : y = n
                  · subst hy; simp [hself0, hn0]
                  · simp only [List.append_nil, List.count_cons, beq_iff_eq, Ne.symm hy, if_false]; omega
                · rintro ⟨a, b⟩
                  refine ⟨⟨a.1, rfl⟩, fun y => ?_⟩
                  have := b y
                  rw [hc] at this
                  simp only [List.append_nil, List.count_cons] at this
                  rw [cs1, hc0]
                  omega
            · by_cases hb2 : t.r < 0 ∨ (n : Int) ≤ t.r ∨ 0 < (d.set t.l.toNat (d[n]?.getD 0 + 1))[t.r.toNat]?.getD 0
              · rw [treeOps_2 k1' o1 (by omega) (treeOp_F hb2)]
                refine ⟨fun h => (by cases h), fun h => ?_⟩
                have h1 := gdN h.1
                obtain ⟨p, hp⟩ := Option.isSome_iff_exists.1 h1
                obtain ⟨t', p0, q0, hx', hok, e0, e1, rfl⟩ := preL_some hp
                obtain rfl : t = t' := by rw [hx] at hx'; exact Option.some.inj hx'
                have hr := okT_r hok k2
                rw [if_neg k1] at e0
                rw [if_neg k2] at e1
                have hpos' := hb2.resolve_left (by omega) |>.resolve_left (by omega)
                have c2 := h.2 t.r.toNat
                simp only [cnt, if_neg h0] at c2
                unfold cc at c2
                rw [hp] at c2
                simp only [List.count_cons, List.count_append] at c2
                have hm : 1 ≤ q0.count t.r.toNat := List.count_pos_iff.2 (preL_self e1)
                by_cases he : t.l.toNat = t.r.toNat
                · have hm' : 1 ≤ p0.count t.r.toNat := List.count_pos_iff.2 (he ▸ preL_self e0)
                  omega
                · rw [set_ne he] at hpos'
                  have c1 := cnt_pos (l := l) n d (a := t.r.toNat) (by omega) (by omega) h.1.1
                  omega
              · have b4 : ¬ t.r < 0 := fun h => hb2 (.inl h)
                have b5 : ¬ (n : Int) ≤ t.r := fun h => hb2 (.inr (.inl h))
                have b6 : ¬ 0 < (d.set t.l.toNat (d[n]?.getD 0 + 1))[t.r.toNat]?.getD 0 := fun h => hb2 (.inr (.inr h))
                have b6' : (d.set t.l.toNat (d[n]?.getD 0 + 1))[t.r.toNat]?.getD 0 = 0 := by have := hnn1 t.r.toNat; omega
                have o2 := treeOp_T (d := d.set t.l.toNat (d[n]?.getD 0 + 1)) (i := (n : Int)) b4 b5 b6
                simp only [Int.toNat_natCast, set_ne (show t.l.toNat ≠ n by omega)] at o2
                have hrn : t.r.toNat < n := by omega
                rw [treeOps_2 k1' o1 (by omega) o2]
                simp only
                rw [ih _ (by omega) (by simp [hd]) (Nn_set hnn1 (by omega))]
                have cs2 : ∀ y, cnt l n ((d.set t.l.toNat (d[n]?.getD 0 + 1)).set t.r.toNat (d[n]?.getD 0 + 1)) y = cnt l n d y + cc l t.l.toNat (d[n]?.getD 0 + 1) y + cc l t.r.toNat (d[n]?.getD 0 + 1) y := fun y => by
                  rw [cnt_set n _ hrn (by omega) b6' (by omega), cs1]
                have gs2 := gd_set (l := l) (v := d[n]?.getD 0 + 1) n (d.set t.l.toNat (d[n]?.getD 0 + 1)) hrn (by omega) b6' (by omega)
                have fu2 : preL l n t.r.toNat (d[n]?.getD 0 + 1) = preL l (t.r.toNat + 1) t.r.toNat (d[n]?.getD 0 + 1) := preL_fuel _ _ _ _ hrn (by omega)
                have hok : okT t n (d[n]?.getD 0) = true := okT_iff.2 ⟨hal, by omega, fun _ => by omega, fun _ => by omega⟩
                unfold Fgood
                rw [gs2, gs1]
                have hno : (preL l (t.l.toNat + 1) t.l.toNat (d[n]?.getD 0 + 1) = none ∨ preL l (t.r.toNat + 1) t.r.toNat (d[n]?.getD 0 + 1) = none) → ¬ gd l (n + 1) d := by
                  intro hh hg
                  obtain ⟨p, hp⟩ := Option.isSome_iff_exists.1 (gdN hg)
                  obtain ⟨t', p0, q0, hx', _, e0, e1, rfl⟩ := preL_some hp
                  obtain rfl : t = t' := by rw [hx] at hx'; exact Option.some.inj hx'
                  rw [if_neg k1, fu1] at e0
                  rw [if_neg k2, fu2] at e1
                  rcases hh with hh | hh
                  · rw [hh] at e0; cases e0
                  · rw [hh] at e1; cases e1
                cases hp0 : preL l (t.l.toNat + 1) t.l.toNat (d[n]?.getD 0 + 1) with
                | none => exact ⟨fun h => by simp at h, fun h => absurd h.1 (hno (.inl hp0))⟩
                | some p0 =>
                  cases hq0 : preL l (t.r.toNat + 1) t.r.toNat (d[n]?.getD 0 + 1) with
                  | none => exact ⟨fun h => by simp at h, fun h => absurd h.1 (hno (.inr hq0))⟩
                  | some q0 =>
                    have hp : preL l (n + 1) n (d[n]?.getD 0) = some (n :: (p0 ++ q0)) := preL_mk hx hok (by rw [if_neg k1, fu1, hp0]) (by rw [if_neg k2, fu2, hq0])
                    have hc : ∀ y, cnt l (n + 1) d y = cnt l n d y + (n :: (p0 ++ q0)).count y := fun y => by
                      simp only [cnt, if_neg h0]; unfold cc; rw [hp]
                    have hc0 : ∀ y, cc l t.l.toNat (d[n]?.getD 0 + 1) y = p0.count y := fun y => by unfold cc; rw [hp0]
                    have hc1 : ∀ y, cc l t.r.toNat (d[n]?.getD 0 + 1) y = q0.count y := fun y => by unfold cc; rw [hq0]
                    have hn0 : p0.count n = 0 := List.count_eq_zero.2 (fun hm => by have := preL_le _ _ _ _ hp0 n hm; omega)
                    have hn1 : q0.count n = 0 := List.count_eq_zero.2 (fun hm => by have := preL_le _ _ _ _ hq0 n hm; omega)
                    constructor
                    · rintro ⟨⟨⟨a, _⟩, _⟩, b⟩
                      refine ⟨⟨a, .inr (by rw [hp]; rfl)⟩, fun y => ?_⟩
                      have := b y
                      rw [cs2, hc0, hc1] at this
                      rw [hc]
                      by_cases hy : y = n
                      · subst hy; simp [hself0, hn0, hn1]
                      · simp only [List.count_cons, List.count_append, beq_iff_eq, Ne.symm hy, if_false]; omega
                    · rintro ⟨a, b⟩
                      refine ⟨⟨⟨a.1, rfl⟩, rfl⟩, fun y => ?_⟩
                      have := b y
                      rw [hc] at this
                      simp only [List.count_cons, List.count_append] at this
                      rw [cs2, hc0, hc1]
                      omega

theorem tree_may {l : List Term} {root : Int} : mayB l root = (treeS l root).isSome := by
  by_cases h : (l.length : Int) ≤ 160 ∧ 0 ≤ root ∧ root < l.length
  · rw [mayB_T h, treeS_T h, Bool.eq_iff_iff, may_pre h.2, toNat_succ h.2.1]
    rw [scan (root.toNat + 1) _ (by omega) (by simp) (Nn_start _ _)]
    have hz : ∀ i : Nat, (List.replicate l.length (0 : Int))[i]?.getD 0 = 0 := fun i => by rw [List.getElem?_replicate]; split <;> simp
    have hc0 : ∀ (n y : Nat), cnt l n (List.replicate l.length 0) y = 0 := by
      intro n y
      induction n with
      | zero => rfl
      | succ n ih => simp only [cnt, ih, hz, if_true]
    have hg0 : ∀ n : Nat, gd l n (List.replicate l.length 0) := by
      intro n
      induction n with
      | zero => trivial
      | succ n ih => exact ⟨ih, .inl (hz n)⟩
    unfold Fgood
    rw [gd_set (root.toNat + 1) _ (by omega) (by simp; omega) (hz _) (by omega)]
    constructor
    · rintro ⟨p, h1, h2⟩
      refine ⟨⟨hg0 _, by rw [h1]; rfl⟩, fun y => ?_⟩
      rw [cnt_set (root.toNat + 1) _ (by omega) (by simp; omega) (hz _) (by omega), hc0]
      unfold cc
      rw [h1]
      have := List.nodup_iff_count.1 h2 y
      simp only
      omega
    · rintro ⟨⟨_, h1⟩, h2⟩
      obtain ⟨p, hp⟩ := Option.isSome_iff_exists.1 h1
      refine ⟨p, hp, List.nodup_iff_count.2 (fun y => ?_)⟩
      have := h2 y
      rw [cnt_set (root.toNat + 1) _ (by omega) (by simp; omega) (hz _) (by omega), hc0] at this
      unfold cc at this
      rw [hp] at this
      simp only at this
      omega
  · have h1 : (160 : Int) < l.length ∨ root < 0 ∨ (l.length : Int) ≤ root := by omega
    rw [treeS_F h1]
    rcases h1 with h | h | h
    · rw [mayB_F1 (by simpa using h)]; rfl
    · rw [mayB_F2 (by simpa using h)]; rfl
    · rw [mayB_F3 h]; rfl
end Go.Sx
