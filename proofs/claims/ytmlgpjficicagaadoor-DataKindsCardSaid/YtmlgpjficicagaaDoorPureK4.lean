import Derived.Test.YtmlgpjficicagaaDoorPureK3
set_option linter.unusedVariables false
set_option linter.unusedSimpArgs false
namespace Go.Sx
open Go
theorem fin2 {k a b : Int} (h : operandsI k = 2) : kFin k a b = mixedI k a b := by
  have h0 : 0 ≤ operandsI k := by omega
  revert h
  rcases kind_cases h0 with rfl | rfl | rfl | rfl | rfl | rfl | rfl | rfl | rfl | rfl | rfl | rfl | rfl | rfl | rfl | rfl | rfl | rfl | rfl | rfl <;> intro h <;> first | (exact absurd h (by decide)) | skip
  all_goals
    simp only [kFin, kFin1, kFinB, kFin2, askW, mixedI, mx1, mx2, mx3, mx4, mx5, mx6]
    simp
  all_goals
    (repeat' split) <;> simp_all
theorem fin1 {k a : Int} (h : operandsI k = 1) : kFin k a 0 = mixedI k a 0 := by
  have h0 : 0 ≤ operandsI k := by omega
  revert h
  rcases kind_cases h0 with rfl | rfl | rfl | rfl | rfl | rfl | rfl | rfl | rfl | rfl | rfl | rfl | rfl | rfl | rfl | rfl | rfl | rfl | rfl | rfl <;> intro h <;> first | (exact absurd h (by decide)) | skip
  all_goals
    simp only [kFin, kFin1, kFinB, kFin2, askW, mixedI, mx1, mx2, mx3, mx4, mx5, mx6]
    simp
  all_goals
    (repeat' split) <;> simp_all
theorem askW2 {k : Int} (h : operandsI k = 2) : ¬ (askW k).1 = -1 ∧ ¬ (askW k).2.1 = -1 := by
  have h0 : 0 ≤ operandsI k := by omega
  revert h
  rcases kind_cases h0 with rfl | rfl | rfl | rfl | rfl | rfl | rfl | rfl | rfl | rfl | rfl | rfl | rfl | rfl | rfl | rfl | rfl | rfl | rfl | rfl <;> decide
theorem askW1 {k : Int} (h : operandsI k = 1) : ¬ (askW k).1 = -1 ∧ (askW k).2.1 = -1 := by
  have h0 : 0 ≤ operandsI k := by omega
  revert h
  rcases kind_cases h0 with rfl | rfl | rfl | rfl | rfl | rfl | rfl | rfl | rfl | rfl | rfl | rfl | rfl | rfl | rfl | rfl | rfl | rfl | rfl | rfl <;> decide
theorem askW0 {k : Int} (h : operandsI k = 0) : (askW k).1 = -1 ∧ (askW k).2.1 = -1 := by
  have h0 : 0 ≤ operandsI k := by omega
  revert h
  rcases kind_cases h0 with rfl | rfl | rfl | rfl | rfl | rfl | rfl | rfl | rfl | rfl | rfl | rfl | rfl | rfl | rfl | rfl | rfl | rfl | rfl | rfl <;> decide
theorem fin0k {t : Term} {env : List Typing} (h : operandsI t.kind = 0) (hv : ¬ t.kind = 0) : kFin t.kind 0 0 = leafK t env := by
  have h0 : 0 ≤ operandsI t.kind := by omega
  unfold leafK
  generalize t.kind = k at *
  revert h hv
  rcases kind_cases h0 with rfl | rfl | rfl | rfl | rfl | rfl | rfl | rfl | rfl | rfl | rfl | rfl | rfl | rfl | rfl | rfl | rfl | rfl | rfl | rfl <;> intro h hv <;> first | (exact absurd h (by decide)) | (exact absurd rfl hv) | (simp; decide)
theorem kind2_ne {k : Int} (h : ¬ operandsI k = 0) : ¬ k = 0 := fun e => h (by subst e; decide)

/-- the two agree on every valid tree -/
theorem kOf_kRef {l : List Term} {env : List Typing} : ∀ (f : Nat) (at_ : Int), Tr l f at_ → kOf l env f at_ = kRef l env f at_ := by
  intro f
  induction f with
  | zero => intro at_ h; exact h.elim
  | succ f ih =>
    intro at_ h
    obtain ⟨h0, t, hx, hop, hfd, hTl, _, hTr, _⟩ := h
    have hle := operandsI_le t.kind
    by_cases k0 : operandsI t.kind = 0
    · rw [kRef_0 hx k0]
      by_cases hv : t.kind = 0
      · rw [kOf_var hx hv]; unfold leafK; rw [if_pos hv]
      · obtain ⟨a0, b0⟩ := askW0 k0
        have hA : kOp (askW t.kind).1 (kOf l env f t.l) = (0, 0) := by unfold kOp; rw [if_pos a0]
        have hB : kOp (askW t.kind).2.1 (kOf l env f t.r) = (0, 0) := by unfold kOp; rw [if_pos b0]
        rw [kOf_f hx hv (by rw [hA]) (by rw [hB]), hA, hB]
        exact fin0k k0 hv
    · have hv := kind2_ne k0
      have il := ih t.l (hTl (by omega))
      by_cases k2 : operandsI t.kind = 2
      · have ir := ih t.r (hTr (by omega))
        obtain ⟨a0, b0⟩ := askW2 k2
        have hA : kOp (askW t.kind).1 (kOf l env f t.l) = kRef l env f t.l := by unfold kOp; rw [if_neg a0, il]
        have hB : kOp (askW t.kind).2.1 (kOf l env f t.r) = kRef l env f t.r := by unfold kOp; rw [if_neg b0, ir]
        by_cases e1 : (kRef l env f t.l).2 = 0
        · by_cases e2 : (kRef l env f t.r).2 = 0
          · rw [kRef_2 hx k0 e1 k2 e2, kOf_f hx hv (by rw [hA, e1]) (by rw [hB, e2]), hA, hB, fin2 k2]
          · rw [kRef_r hx k0 e1 k2 e2, kOf_b hx hv (by rw [hA, e1]) (by rw [hB]; exact e2), hB]
        · rw [kRef_l hx k0 e1, kOf_a hx hv (by rw [hA]; exact e1), hA]
      · have k1 : operandsI t.kind = 1 := by omega
        obtain ⟨a0, b0⟩ := askW1 k1
        have hA : kOp (askW t.kind).1 (kOf l env f t.l) = kRef l env f t.l := by unfold kOp; rw [if_neg a0, il]
        have hB : kOp (askW t.kind).2.1 (kOf l env f t.r) = (0, 0) := by unfold kOp; rw [if_pos b0]
        by_cases e1 : (kRef l env f t.l).2 = 0
        · rw [kRef_1 hx k0 e1 k2, kOf_f hx hv (by rw [hA, e1]) (by rw [hB]), hA, hB, fin1 k1]
        · rw [kRef_l hx k0 e1, kOf_a hx hv (by rw [hA]; exact e1), hA]

def kindRef (l : List Term) (root : Int) (env : List Typing) : Int × Int := if mayB l root then kRef l env (root.toNat + 1) root else (0, 500)
theorem of_kind {l : List Term} {root : Int} {env : List Typing} : ofS l root env = kindRef l root env := by
  unfold ofS kindRef
  split
  · rename_i h; exact kOf_kRef _ _ (mayB_Tr h)
  · rfl
end Go.Sx
