import Derived.Test.YtmlgpjficicagaaDoorPureLb
set_option linter.unusedVariables false
set_option linter.unusedSimpArgs false
namespace Go.Sx
open Go
/-! ## a text's tokens may be written; where they lie -/
theorem quoteL_size : ∀ {s t r : Str}, quoteL s = some (t, r) → t.length + r.length + 1 ≤ s.length
  | [], _, _, h => by simp [quoteL] at h
  | c :: s, t, r, h => by
    unfold quoteL at h
    split at h
    · simp at h
      obtain ⟨rfl, rfl⟩ := h
      simp
    split at h
    · split at h
      · cases h
      rename_i e r2
      split at h
      · obtain ⟨x, hx, he⟩ := Option.map_eq_some_iff.1 h
        have := quoteL_size (t := x.1) (r := x.2) hx
        simp at he; obtain ⟨rfl, rfl⟩ := he
        simp; omega
      split at h
      · obtain ⟨x, hx, he⟩ := Option.map_eq_some_iff.1 h
        have := quoteL_size (t := x.1) (r := x.2) hx
        simp at he; obtain ⟨rfl, rfl⟩ := he
        simp; omega
      split at h
      · split at h
        · rename_i a b r3
          split at h
          · obtain ⟨x, hx, he⟩ := Option.map_eq_some_iff.1 h
            have := quoteL_size (t := x.1) (r := x.2) hx
            simp at he; obtain ⟨rfl, rfl⟩ := he
            simp; omega
          · cases h
        · cases h
      · cases h
    · split at h
      · obtain ⟨x, hx, he⟩ := Option.map_eq_some_iff.1 h
        have := quoteL_size (t := x.1) (r := x.2) hx
        simp at he; obtain ⟨rfl, rfl⟩ := he
        simp; omega
      · cases h
/-- what a token that was read is like -/
theorem tok1_right {after : Bool} {c : UInt8} {r : Str} {k : Int} {t : Str} {n : Nat} {a : Int} (h : tok1 after (c :: r) = .ok k t n) :
    rightB ⟨k, t, a⟩ = true ∧ (k = 1 → t.head? = some 45 → after = false) ∧ (bodyW ⟨k, t, a⟩).length + 1 ≤ 5 * n ∧ (if k = 2 then c = 34 ∧ 1 ≤ n else t = (c :: r).take n ∧ t.length = n ∧ t ≠ []) := by
  have hln := tok1_len h
  rw [tok1_cons] at h
  split at h
  · rename_i hl
    simp only [Tk.ok.injEq] at h
    obtain ⟨rfl, rfl, rfl⟩ := h
    have hle := runL_le nameC (c :: r)
    have hlen : ((c :: r).take (runL nameC (c :: r))).length = runL nameC (c :: r) := by rw [List.length_take]; omega
    obtain ⟨m, hm⟩ : ∃ m, runL nameC (c :: r) = m + 1 := ⟨runL nameC (c :: r) - 1, by omega⟩
    refine ⟨?_, by simp, ?_, ?_⟩
    · unfold rightB
      rw [if_pos rfl, runL_all (runL_take _ _)]
      simp [hm, hl]
    · unfold bodyW; rw [if_neg (show ¬ ((0 : Int)) = 2 by decide)]; simp only [hlen]; omega
    · rw [if_neg (by decide)]
      exact ⟨rfl, hlen, by intro e; rw [e] at hlen; simp at hlen; omega⟩
  split at h
  · rename_i hl hd
    split at h
    · rename_i hn
      simp only [Tk.ok.injEq] at h
      obtain ⟨rfl, rfl, rfl⟩ := h
      have hlen : ((c :: r).take (runL digitB r + 1)).length = runL digitB r + 1 := by rw [List.length_take]; have := runL_le digitB r; simp; omega
      refine ⟨by unfold rightB; rw [if_neg (show ¬ ((1 : Int)) = 0 by decide), if_pos rfl]; exact hn, fun _ h45 => ?_, ?_, ?_⟩
      · simp only [List.take_succ_cons, List.head?_cons, Option.some.injEq] at h45
        subst h45
        have : digitB 45 = false := by decide
        rw [this] at hd
        simp at hd
        exact hd.2
      · unfold bodyW; rw [if_neg (show ¬ ((1 : Int)) = 2 by decide)]; simp only [hlen]; omega
      · rw [if_neg (by decide)]
        exact ⟨rfl, hlen, by simp⟩
    · cases h
  split at h
  · rename_i hc
    obtain ⟨r2, hq, rfl, rfl⟩ := qTk_ok h
    · skip
      have hsz := quoteL_size hq
      have hql := (quotedL_len t).2
      refine ⟨by unfold rightB; rw [if_neg (show ¬ ((2 : Int)) = 0 by decide), if_neg (show ¬ ((2 : Int)) = 1 by decide), if_pos rfl], fun h => absurd h (by decide), ?_, ?_⟩
      · unfold bodyW; rw [if_pos rfl]; simp only; omega
      · rw [if_pos rfl]; exact ⟨hc, by omega⟩
  · rename_i h1 h2 h3
    split at h
    · cases h
    · rename_i hn
      simp only [Tk.ok.injEq] at h
      obtain ⟨rfl, rfl, rfl⟩ := h
      have hs : signL ((c :: r).take (signL (c :: r))) = signL (c :: r) ∧ ((c :: r).take (signL (c :: r))).length = signL (c :: r) ∧ ((c :: r).take (signL (c :: r))) ≠ [] := by
        rw [signL_cons]
        split
        · rename_i h4
          cases r with
          | nil => simp at h4
          | cons x r =>
            refine ⟨?_, by simp, by simp⟩
            simp only [List.take_succ_cons, List.take_zero, List.head?_cons, Option.some.injEq] at h4 ⊢
            rw [signL_cons]
            simp only [List.head?_cons, Option.some.injEq]
            rw [if_pos h4]
        split
        · rename_i h4 h5
          refine ⟨?_, by simp, by simp⟩
          simp [signL_cons, h5]
        · rename_i h4 h5
          exfalso
          rw [signL_cons] at hn
          rw [if_neg h4, if_neg h5] at hn
          exact hn rfl
      refine ⟨?_, fun h => absurd h (by decide), ?_, ?_⟩
      · unfold rightB; rw [if_neg (show ¬ ((3 : Int)) = 0 by decide), if_neg (show ¬ ((3 : Int)) = 1 by decide), if_neg (show ¬ ((3 : Int)) = 2 by decide), if_pos rfl]
        simp only [hs.1, hs.2.1, decide_true, Bool.and_true]
        cases hz : (c :: r).take (signL (c :: r)) with
        | nil => exact absurd hz hs.2.2
        | cons => rfl
      · unfold bodyW; rw [if_neg (show ¬ ((3 : Int)) = 2 by decide)]; simp only [hs.2.1]; omega
      · rw [if_neg (by decide)]; exact ⟨rfl, hs.2.1, hs.2.2⟩
theorem lexN_writes (m : Nat) (s : Str) (hm : s.length ≤ m) (after : Bool) (a : Int) : (lexN after a s).e = 0 → ∀ p : Option Token, (p.map closedB).getD false = after → ∃ x, writeF p (lexN after a s).l = some x ∧ x.length ≤ 5 * s.length :=
  lexN_ind (P := fun after a s r => r.e = 0 → ∀ p : Option Token, (p.map closedB).getD false = after → ∃ x, writeF p r.l = some x ∧ x.length ≤ 5 * s.length)
    (fun _ _ _ p _ => ⟨[], rfl, by simp⟩)
    (fun _ _ _ r _ h he p hp => by obtain ⟨x, h1, h2⟩ := h he p hp; exact ⟨x, h1, by simp; omega⟩)
    (fun _ _ r n _ h1 h2 h he p hp => by
      obtain ⟨x, hx, hl⟩ := h he p hp
      refine ⟨x, hx, Nat.le_trans hl ?_⟩
      simp only [List.length_drop, List.length_cons]; omega)
    (fun _ _ _ _ _ _ _ _ _ p _ => ⟨[], rfl, by simp⟩)
    (by
      intro after a c r k t n hb h35 ht h he p hp
      have hR : (lexN (closedB ⟨k, t, a⟩) (a + n) ((c :: r).drop n)).e = 0 := by
        unfold LexR.after at he
        split at he
        · assumption
        · rename_i hx; exact absurd he hx
      obtain ⟨x, hx, hl⟩ := h hR (some ⟨k, t, a⟩) rfl
      obtain ⟨h1, h2, h3, _⟩ := tok1_right (a := a) ht
      have hn := (tok1_len ht).2
      unfold LexR.after
      rw [if_pos hR]
      simp only [List.cons_append, List.nil_append]
      have hbad : badW p ⟨k, t, a⟩ = false := by
        unfold badW
        rw [h1, hp]
        simp only [Bool.not_true, Bool.false_or]
        by_cases e1 : k = 1
        · by_cases e2 : t.head? = some 45
          · rw [h2 e1 e2]; simp
          · simp [e2]
        · simp [e1]
      unfold writeF
      rw [if_neg (by simp [hbad]), hx]
      refine ⟨_, rfl, ?_⟩
      simp only [List.length_append, List.length_drop, List.length_cons] at hl hn ⊢
      have : (if p.isSome = true then [(32 : UInt8)] else []).length ≤ 1 := by split <;> simp
      omega) m s hm after a
def placesOk (text : Str) : Int → List Token → Prop
  | _, [] => True
  | e, t :: l => e ≤ t.at_ ∧ t.at_ < text.length ∧ if t.kind = 2 then text[t.at_.toNat]? = some 34 ∧ placesOk text (t.at_ + 1) l else (t.at_ + t.text.length ≤ text.length ∧ (text.drop t.at_.toNat).take t.text.length = t.text ∧ t.text ≠ []) ∧ placesOk text (t.at_ + t.text.length) l
theorem placesOk_weak {text : Str} {e e' : Int} {l : List Token} (h : placesOk text e l) (he : e' ≤ e) : placesOk text e' l := by
  cases l with
  | nil => trivial
  | cons t l => exact ⟨by have := h.1; omega, h.2⟩
theorem lexN_places (text : Str) (m : Nat) (s : Str) (hm : s.length ≤ m) (after : Bool) (a : Int) : 0 ≤ a → text.drop a.toNat = s → a + s.length = text.length →
    ((lexN after a s).e = 0 → placesOk text a (lexN after a s).l) ∧ ((lexN after a s).e ≠ 0 → a ≤ (lexN after a s).at_ ∧ (lexN after a s).at_ < text.length) := by
  refine lexN_ind (P := fun after a s r => 0 ≤ a → text.drop a.toNat = s → a + s.length = text.length → (r.e = 0 → placesOk text a r.l) ∧ (r.e ≠ 0 → a ≤ r.at_ ∧ r.at_ < text.length)) ?_ ?_ ?_ ?_ ?_ m s hm after a
  · intro after a _ _ _; exact ⟨fun _ => trivial, fun h => absurd rfl h⟩
  · intro after a c r _ h h0 hd hl
    have hd' : text.drop (a + 1).toNat = r := by
      rw [toNat_succ h0, ← List.drop_drop, hd]; rfl
    obtain ⟨p, q⟩ := h (by omega) hd' (by simp at hl; omega)
    exact ⟨fun e => placesOk_weak (p e) (by omega), fun e => ⟨by have := (q e).1; omega, (q e).2⟩⟩
  · intro after a r n _ h1 h2 h h0 hd hl
    have hd' : text.drop (a + n).toNat = (35 :: r).drop n := by
      rw [show (a + (n : Int)).toNat = a.toNat + n by omega, ← List.drop_drop, hd]
    obtain ⟨p, q⟩ := h (by omega) hd' (by simp only [List.length_drop, List.length_cons] at hl ⊢; omega)
    exact ⟨fun e => placesOk_weak (p e) (by omega), fun e => ⟨by have := (q e).1; omega, (q e).2⟩⟩
  · intro after a c r e _ _ _ h0 hd hl
    exact ⟨fun _ => trivial, fun _ => ⟨Int.le_refl _, by simp at hl ⊢; omega⟩⟩
  · intro after a c r k t n hb h35 ht h h0 hd hl
    have hn := tok1_len ht
    have hd' : text.drop (a + n).toNat = (c :: r).drop n := by
      rw [show (a + (n : Int)).toNat = a.toNat + n by omega, ← List.drop_drop, hd]
    obtain ⟨p, q⟩ := h (by omega) hd' (by simp only [List.length_drop, List.length_cons] at hl hn ⊢; omega)
    generalize lexN (closedB ⟨k, t, a⟩) (a + ↑n) ((c :: r).drop n) = R at p q
    obtain ⟨_, _, _, h4⟩ := tok1_right (a := a) ht
    unfold LexR.after
    by_cases hR : R.e = 0
    · rw [if_pos hR]
      refine ⟨fun _ => ?_, fun e => absurd hR e⟩
      simp only [List.cons_append, List.nil_append]
      refine ⟨Int.le_refl _, by simp at hl ⊢; omega, ?_⟩
      split at h4
      · rename_i hk
        simp only [hk, if_true]
        refine ⟨?_, placesOk_weak (p hR) (by omega)⟩
        have : text[a.toNat]? = (text.drop a.toNat)[0]? := by rw [List.getElem?_drop]; simp
        rw [this, hd, h4.1]; rfl
      · rename_i hk
        simp only [hk, if_false]
        refine ⟨⟨by simp at hl hn ⊢; omega, ?_, h4.2.2⟩, ?_⟩
        · rw [hd, h4.2.1, h4.1]
        · rw [h4.2.1]; exact p hR
    · rw [if_neg hR]
      exact ⟨fun e => absurd e hR, fun e => ⟨by have := (q e).1; omega, (q e).2⟩⟩
end Go.Sx
