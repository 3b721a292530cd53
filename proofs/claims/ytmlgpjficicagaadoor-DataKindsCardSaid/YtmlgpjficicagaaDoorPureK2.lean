import Derived.Test.YtmlgpjficicagaaDoorPureK
set_option linter.unusedVariables false
namespace Go.Sx
open Go
theorem mayW_Tr {l : List Term} : ∀ (f : Nat) (at_ deep : Int) (met : List Bool), 0 ≤ at_ → (mayW l f at_ deep met).1 = true → Tr l f at_ := by
  intro f
  induction f with
  | zero => intro at_ deep met _ h; simp [mayW] at h
  | succ f ih =>
    intro at_ deep met h0 h
    cases hx : l[at_.toNat]? with
    | none => simp [mayW, hx] at h
    | some t =>
      by_cases hg : met[at_.toNat]?.getD false = true ∨ 24 < deep ∨ operandsI t.kind < 0 ∨ fieldsB t = false
      · rw [mayW_F hx hg] at h; cases h
      · have hgg : MayG deep met at_ t := by
          refine ⟨?_, ?_, ?_, ?_⟩
          · cases hb : met[at_.toNat]?.getD false with
            | false => rfl
            | true => exact absurd (.inl hb) hg
          · intro h1; exact hg (.inr (.inl h1))
          · intro h1; exact hg (.inr (.inr (.inl h1)))
          · cases hb : fieldsB t with
            | true => rfl
            | false => exact absurd (.inr (.inr (.inr hb))) hg
        generalize h00 : opW (operandsI t.kind) at_ (fun to m => mayW l f to (deep + 1) m) 0 t.l (met.set at_.toNat true) = r0
        obtain ⟨b0, m0⟩ := r0
        cases b0 with
        | false => rw [mayW_0 hx hgg h00] at h; cases h
        | true =>
          generalize h11 : opW (operandsI t.kind) at_ (fun to m => mayW l f to (deep + 1) m) 1 t.r m0 = r1
          rw [mayW_1 hx hgg h00 h11] at h
          have key : ∀ (i to : Int) (m m' : List Bool), opW (operandsI t.kind) at_ (fun to m => mayW l f to (deep + 1) m) i to m = (true, m') → (i < operandsI t.kind → Tr l f to) ∧ (operandsI t.kind ≤ i → to = -1) := by
            intro i to m m' he
            refine ⟨fun hi => ?_, fun hi => ?_⟩
            · by_cases hb : to < 0 ∨ at_ ≤ to
              · rw [opW_bad (by omega) hb] at he; cases he
              · rw [opW_rec (by omega) (by omega) (by omega)] at he
                exact ih to (deep + 1) m (by omega) (by rw [he])
            · rw [opW_le hi] at he
              simpa using congrArg Prod.fst he
          have k0 := key 0 t.l _ _ h00
          have k1 := key 1 t.r _ r1.2 (by rw [h11]; cases r1; simp at h; simp [h])
          exact ⟨h0, t, hx, by have := hgg.2.2.1; omega, hgg.2.2.2, fun h => k0.1 (by omega), fun h => k0.2 (by omega), fun h => k1.1 (by omega), fun h => k1.2 (by omega)⟩

theorem mayB_Tr {l : List Term} {root : Int} (h : mayB l root = true) : Tr l (root.toNat + 1) root := by
  unfold mayB at h
  split at h
  · cases h
  · split at h
    · cases h
    · split at h
      · cases h
      · exact mayW_Tr _ _ _ _ (by omega) h
end Go.Sx
