import Derived.Test.YtilggjefbbiccaaDoorPureL2
set_option linter.unusedVariables false
set_option linter.unusedSimpArgs false
namespace Go.Sx
open Go
section
variable {w : Bool} {x y : Token} {a b : List Token} {k : Int}
theorem eqT_1 (h : (!decide (x.kind = y.kind)) = true) : true = !eqT w x y := by unfold eqT; simp at h; simp [h]
theorem eqT_2 (h : (!decide (x.text = y.text)) = true) : true = !eqT w x y := by unfold eqT; simp at h; simp [h]
theorem eqT_3 (h : (!decide (x.kind = y.kind)) = false) (h2 : (!decide (x.text = y.text)) = false) (h3 : w = true) : (!decide (x.at_ = y.at_)) = !eqT w x y := by
  unfold eqT; simp at h h2; simp [h, h2, h3]
theorem eqT_4 (h : (!decide (x.kind = y.kind)) = false) (h2 : (!decide (x.text = y.text)) = false) (h3 : w = false) : false = !eqT w x y := by
  unfold eqT; simp at h h2; simp [h, h2, h3]
theorem same_next (k0 : 0 ≤ k) (hx : a[k.toNat]? = some x) (hy : b[k.toNat]? = some y) (h : (!eqT w x y) = false) (hI : sameT w a b = sameT w (a.drop k.toNat) (b.drop k.toNat)) : sameT w a b = sameT w (a.drop (k + 1).toNat) (b.drop (k + 1).toNat) := by
  rw [hI, sameT_step k0 hx hy, show eqT w x y = true by simpa using h, Bool.true_and]
theorem same_bad (k0 : 0 ≤ k) (hx : a[k.toNat]? = some x) (hy : b[k.toNat]? = some y) (h : (!eqT w x y) = true) (hI : sameT w a b = sameT w (a.drop k.toNat) (b.drop k.toNat)) : sameT w a b = false := by
  rw [hI, sameT_step k0 hx hy, show eqT w x y = false by simpa using h, Bool.false_and]
theorem sameT_end (hl : (a.length : Int) = b.length) (h : ¬ k < a.length) (k0 : 0 ≤ k) (hI : sameT w a b = sameT w (a.drop k.toNat) (b.drop k.toNat)) : sameT w a b = true := by
  rw [hI, drop_end h, drop_end (by omega)]; rfl
end
theorem lexS_count {s : Str} (h : s.length ≤ 16384) : (lexS s).l.length ≤ s.length := by
  rw [lexS_N (by omega)]
  exact (lexN_sum _ s (Nat.le_refl _) false 0).2
theorem lexS_places {s : Str} (h : s.length ≤ 2000) : ((lexS s).e = 0 → placesOk s 0 (lexS s).l) ∧ (¬ (lexS s).e = 0 → 0 ≤ (lexS s).at_ ∧ (lexS s).at_ < s.length ∧ (lexS s).l = []) := by
  have hN := lexS_N (s := s) (by omega)
  rw [hN]
  obtain ⟨p, q⟩ := lexN_places s _ s (Nat.le_refl _) false 0 (by omega) rfl (by omega)
  exact ⟨p, fun e => ⟨(q e).1, (q e).2, (lexN_e _ s (Nat.le_refl _) false 0).2 e⟩⟩
section
variable {s : Str} {t : Token} {l : List Token} {e k : Int}
theorem placesOk_at (k0 : 0 ≤ k) (hx : l[k.toNat]? = some t) (h : placesOk s e (l.drop k.toNat)) : e ≤ t.at_ ∧ t.at_ < s.length ∧ if t.kind = 2 then s[t.at_.toNat]? = some 34 ∧ placesOk s (t.at_ + 1) (l.drop (k + 1).toNat) else (t.at_ + t.text.length ≤ s.length ∧ (s.drop t.at_.toNat).take t.text.length = t.text ∧ t.text ≠ []) ∧ placesOk s (t.at_ + t.text.length) (l.drop (k + 1).toNat) := by
  rw [drop_at k0 hx] at h; exact h
theorem placesOk_len {A B : Prop} (h : if t.kind = 2 then A else B) : True := trivial
theorem places_q {A B C : Prop} (h : t.kind = 2) (h3 : if t.kind = 2 then A ∧ B else C) : A ∧ B := by rwa [if_pos h] at h3
theorem places_w {A B : Prop} (h : ¬ t.kind = 2) (h3 : if t.kind = 2 then A else (t.at_ + t.text.length ≤ s.length ∧ (s.drop t.at_.toNat).take t.text.length = t.text ∧ t.text ≠ []) ∧ B) :
    t.at_ + t.text.length ≤ s.length ∧ (s.drop t.at_.toNat).take t.text.length = t.text ∧ ¬ t.text = [] ∧ B := by
  rw [if_neg h] at h3
  exact ⟨h3.1.1, h3.1.2.1, h3.1.2.2, h3.2⟩
theorem pl_1 {a b : Int} (h : ¬ a < b) (g : decide (a < b) = true) : true = false := absurd (of_decide_eq_true g) h
theorem pl_2 {a b : Int} (h : ¬ a < b) (g : decide (a < b) = true) : true = false := absurd (of_decide_eq_true g) h
theorem pl_3 (h0 : 0 ≤ t.at_) (h : (s.drop t.at_.toNat).take t.text.length = t.text) (g : (!decide ((s.take (t.at_ + t.text.length).toNat).drop t.at_.toNat = t.text)) = true) : true = false := by
  rw [two_take (c := 0) h0 _ (by omega), Int.toNat_natCast, h] at g
  simp at g
end
end Go.Sx
