import Derived.Test.YtmlgpjficicagaaDoorPureLq
set_option linter.unusedVariables false
set_option linter.unusedSimpArgs false
namespace Go.Sx
open Go
/-! ## places; two texts joined -/
def LexR.shift (d : Int) (r : LexR) : LexR := if r.e = 0 then ⟨r.l.map fun t => ⟨t.kind, t.text, t.at_ + d⟩, r.at_, r.e⟩ else ⟨r.l, r.at_ + d, r.e⟩
theorem lexN_e (m : Nat) (s : Str) (hm : s.length ≤ m) (after : Bool) (a : Int) : let r := lexN after a s; (r.e = 0 → r.at_ = 0) ∧ (r.e ≠ 0 → r.l = []) :=
  lexN_ind (P := fun _ _ _ r => (r.e = 0 → r.at_ = 0) ∧ (r.e ≠ 0 → r.l = [])) (by simp) (fun _ _ _ _ _ h => h) (fun _ _ _ _ _ _ _ h => h)
    (by
      intro after a c r e _ _ ht
      refine ⟨fun he => ?_, fun _ => rfl⟩
      simp only at he
      subst he
      rw [tok1_cons] at ht
      split at ht
      · cases ht
      split at ht
      · split at ht <;> cases ht
      split at ht
      · exact absurd (qTk_err ht) (by decide)
      · split at ht <;> cases ht)
    (by
      intro after a c r k t n _ _ _ h
      unfold LexR.after
      split
      · rename_i he; exact ⟨fun _ => h.1 he, fun hn => absurd he hn⟩
      · exact h) m s hm after a
theorem closedB_at (k : Int) (t : Str) (a b : Int) : closedB ⟨k, t, a⟩ = closedB ⟨k, t, b⟩ := rfl
theorem lexN_shift : ∀ (m : Nat) (s : Str), s.length ≤ m → ∀ (after : Bool) (a d : Int), lexN after (a + d) s = (lexN after a s).shift d := by
  intro m s hm after a
  refine lexN_ind (P := fun after a s r => ∀ d, lexN after (a + d) s = r.shift d) ?_ ?_ ?_ ?_ ?_ m s hm after a
  · intro after a d; rfl
  · intro after a c r hb h d
    rw [lexN_blank hb, show a + d + 1 = a + 1 + d by omega]; exact h d
  · intro after a r n hn h1 h2 h d
    rw [lexN_note, ← hn, show a + d + (n : Int) = a + n + d by omega]; exact h d
  · intro after a c r e hb h35 ht d
    rw [lexN_err hb h35 ht]
    unfold LexR.shift
    split
    · rename_i he
      simp only at he
      have := (lexN_e _ (c :: r) (Nat.le_refl _) after a)
      rw [lexN_err hb h35 ht] at this
      simp only at this
      -- an error is not 0
      exfalso
      subst he
      rw [tok1_cons] at ht
      split at ht
      · cases ht
      split at ht
      · split at ht <;> cases ht
      split at ht
      · exact absurd (qTk_err ht) (by decide)
      · split at ht <;> cases ht
    · rfl
  · intro after a c r k t n hb h35 ht h d
    rw [lexN_ok hb h35 ht, show a + d + (n : Int) = a + n + d by omega, closedB_at k t (a + d) a, h d]
    generalize lexN (closedB ⟨k, t, a⟩) (a + ↑n) ((c :: r).drop n) = R
    unfold LexR.after LexR.shift
    by_cases he : R.e = 0
    · simp [he]
    · simp [he]
/-- what a text's end leaves -/
def LexR.last (after : Bool) (r : LexR) : Bool := (r.l.getLast?.map closedB).getD after
theorem last_after {after : Bool} {t : Token} {r : LexR} (he : r.e = 0) : (LexR.after [t] r).last after = r.last (closedB t) := by
  unfold LexR.after LexR.last
  rw [if_pos he]
  simp only [List.getLast?_append]
  cases r.l.getLast? <;> rfl
theorem runL_end {p : UInt8 → Bool} {b : UInt8} (hp : p b = false) : ∀ (s t : Str), runL p (s ++ b :: t) = runL p s
  | [], t => by simp [runL, hp]
  | c :: s, t => by simp only [List.cons_append, runL]; rw [runL_end hp s t]
theorem quoteL_end {b : UInt8} (hb : plainB b = false) : ∀ (s t : Str), quoteL (s ++ b :: t) = (quoteL s).map fun x => (x.1, x.2 ++ b :: t)
  | [], t => by
    have h1 : ¬ b = 34 := by rintro rfl; exact absurd hb (by decide)
    have h2 : ¬ b = 92 := by rintro rfl; exact absurd hb (by decide)
    simp only [List.nil_append]
    rw [quoteL_plain h1 h2, hb]; rfl
  | [c], t => by
    have h1 : ¬ b = 34 := by rintro rfl; exact absurd hb (by decide)
    have h2 : ¬ b = 92 := by rintro rfl; exact absurd hb (by decide)
    have h3 : ¬ b = 110 := by rintro rfl; exact absurd hb (by decide)
    have h4 : ¬ b = 120 := by rintro rfl; exact absurd hb (by decide)
    have h0 := quoteL_end hb [] t
    simp only [List.nil_append] at h0
    simp only [List.cons_append, List.nil_append]
    rw [quoteL.eq_def (c :: b :: t), quoteL.eq_def [c]]
    simp only
    by_cases hc : c = 34
    · simp [hc]
    by_cases hc2 : c = 92
    · subst hc2
      simp [h1, h2, h3, h4]
    · simp only [hc, hc2, if_false]
      rw [h0]
      split <;> simp [pre, quoteL]
  | [c, e], t => by
    have h0 := quoteL_end hb [] t
    have h01 := quoteL_end hb [e] t
    have hx : hexB b = false := by
      have := u8_all (p := fun c => plainB c || !hexB c) (by decide +kernel) b
      rw [hb] at this; simpa using this
    simp only [List.nil_append, List.cons_append] at h0 h01
    simp only [List.cons_append, List.nil_append]
    rw [quoteL.eq_def (c :: e :: b :: t), quoteL.eq_def [c, e]]
    simp only
    by_cases hc : c = 34
    · simp [hc]
    by_cases hc2 : c = 92
    · subst hc2
      simp only [show ¬ (92 : UInt8) = 34 by decide, if_false, if_true]
      by_cases he : e = 34 ∨ e = 92
      · simp only [he, if_true, h0]; simp [pre, quoteL]
      by_cases he2 : e = 110
      · simp only [he, he2, if_true, if_false, h0]; simp [pre, quoteL]
      by_cases he3 : e = 120
      · simp only [he, he2, he3, if_true, if_false]
        cases t with
        | nil => rfl
        | cons x t => simp [hx]
      · simp [he, he2, he3]
    · simp only [hc, hc2, if_false]
      rw [h01]
      split
      · simp only [pre, Option.map_map]; rfl
      · rfl
  | [c, e, f], t => by
    have h1 := quoteL_end hb [e, f] t
    have h2 := quoteL_end hb [f] t
    have hx : hexB b = false := by
      have := u8_all (p := fun c => plainB c || !hexB c) (by decide +kernel) b
      rw [hb] at this; simpa using this
    simp only [List.nil_append, List.cons_append] at h1 h2
    simp only [List.cons_append, List.nil_append]
    rw [quoteL.eq_def (c :: e :: f :: b :: t), quoteL.eq_def [c, e, f]]
    simp only
    by_cases hc : c = 34
    · simp [hc]
    by_cases hc2 : c = 92
    · subst hc2
      simp only [show ¬ (92 : UInt8) = 34 by decide, if_false, if_true]
      by_cases he : e = 34 ∨ e = 92
      · simp only [he, if_true, h2, pre, Option.map_map]; rfl
      by_cases he2 : e = 110
      · subst he2
        simp only [show ¬ ((110 : UInt8) = 34 ∨ (110 : UInt8) = 92) by decide, if_true, if_false, h2, pre, Option.map_map]; rfl
      by_cases he3 : e = 120
      · simp only [he, he2, he3, if_true, if_false, hx, Bool.and_false]; simp
      · simp [he, he2, he3]
    · simp only [hc, hc2, if_false]
      rw [h1]
      split
      · simp only [pre, Option.map_map]; rfl
      · rfl
  | c :: e :: f :: g :: s, t => by
    have h1 := quoteL_end hb (e :: f :: g :: s) t
    have h2 := quoteL_end hb (f :: g :: s) t
    have h4 := quoteL_end hb s t
    simp only [List.cons_append] at h1 h2 h4
    simp only [List.cons_append]
    rw [quoteL.eq_def (c :: e :: f :: g :: (s ++ b :: t)), quoteL.eq_def (c :: e :: f :: g :: s)]
    simp only
    by_cases hc : c = 34
    · simp [hc]
    by_cases hc2 : c = 92
    · subst hc2
      simp only [show ¬ (92 : UInt8) = 34 by decide, if_false, if_true]
      by_cases he : e = 34 ∨ e = 92
      · simp only [he, if_true, h2, pre, Option.map_map]; rfl
      by_cases he2 : e = 110
      · subst he2
        simp only [show ¬ ((110 : UInt8) = 34 ∨ (110 : UInt8) = 92) by decide, if_true, if_false, h2, pre, Option.map_map]; rfl
      by_cases he3 : e = 120
      · subst he3
        simp only [show ¬ ((120 : UInt8) = 34 ∨ (120 : UInt8) = 92) by decide, show ¬ (120 : UInt8) = 110 by decide, if_true, if_false]
        split
        · rw [h4]; simp only [pre, Option.map_map]; rfl
        · rfl
      · simp [he, he2, he3]
    · simp only [hc, hc2, if_false]
      rw [h1]
      split
      · simp only [pre, Option.map_map]; rfl
      · rfl
/-- a byte that ends every token: none of letters, digits, signs' ends, quotes' insides -/
def endB (b : UInt8) : Bool := !nameC b && (!plainB b || decide (b = 32))
theorem tok1_end {after : Bool} {b : UInt8} (hb : nameC b = false) (hq : plainB b = false) {c : UInt8} {r t : Str} : tok1 after ((c :: r) ++ b :: t) = tok1 after (c :: r) := by
  have hd : digitB b = false := by
    unfold nameC at hb; simp at hb; exact hb.2
  have h61 : ¬ b = 61 := by rintro rfl; exact absurd hq (by decide)
  have h62 : ¬ b = 62 := by rintro rfl; exact absurd hq (by decide)
  simp only [List.cons_append]
  have hr1 : runL nameC (c :: (r ++ b :: t)) = runL nameC (c :: r) := by
    have := runL_end hb (c :: r) t
    simpa using this
  have hr2 := runL_end hd r t
  have hhead : ((r ++ b :: t).head?.map digitB).getD false = (r.head?.map digitB).getD false := by
    cases r with
    | nil => simp [hd]
    | cons x r => rfl
  have htake : ∀ n, n ≤ (c :: r).length → (c :: (r ++ b :: t)).take n = (c :: r).take n := fun n hn => by
    rw [← List.cons_append, List.take_append_of_le_length hn]
  have hs : signL (c :: (r ++ b :: t)) = signL (c :: r) := by
    rw [signL_cons, signL_cons]
    cases r with
    | nil => simp [h61, h62]
    | cons x r => rfl
  have hsl : signL (c :: r) ≤ (c :: r).length := by
    rw [signL_cons]
    split
    · rename_i h2
      have : r ≠ [] := by rintro rfl; simp at h2
      have := List.length_pos_iff.2 this
      simp; omega
    split <;> simp
  have hq2 : qTk (r ++ b :: t).length ((quoteL r).map fun x => (x.1, x.2 ++ b :: t)) = qTk r.length (quoteL r) := by
    cases quoteL r with
    | none => rfl
    | some x =>
      obtain ⟨y, r2⟩ := x
      simp only [Option.map_some, qTk, List.length_append, List.length_cons]
      congr 1
      omega
  rw [tok1_cons, tok1_cons after c r, hr1, hr2, hhead, hs, quoteL_end hq r t, hq2, htake (runL nameC (c :: r)) (runL_le _ _), htake (runL digitB r + 1) (by have := runL_le digitB r; simp; omega), htake _ hsl]
/-- the tokens of a text, and behind a line's end those of another -/
theorem lexN_join (t : Str) : ∀ (m : Nat) (s : Str), s.length ≤ m → ∀ (after : Bool) (a : Int),
    lexN after a (s ++ 10 :: t) = if (lexN after a s).e = 0 then LexR.after (lexN after a s).l (lexN ((lexN after a s).last after) (a + s.length + 1) t) else lexN after a s := by
  intro m s hm after a
  refine lexN_ind (P := fun after a s r => lexN after a (s ++ 10 :: t) = if r.e = 0 then LexR.after r.l (lexN (r.last after) (a + s.length + 1) t) else r) ?_ ?_ ?_ ?_ ?_ m s hm after a
  · intro after a
    simp only [List.nil_append, if_true]
    rw [lexN_blank (by decide)]
    unfold LexR.after LexR.last
    simp
  · intro after a c r hb h
    simp only [List.cons_append]
    rw [lexN_blank hb, h, show a + 1 + (r.length : Int) + 1 = a + ((c :: r).length : Nat) + 1 by simp; omega]
  · intro after a r n hn h1 h2 h
    simp only [List.cons_append]
    rw [lexN_note]
    have e : runL (fun c => !decide (c = 10)) (35 :: (r ++ 10 :: t)) = n := by
      rw [hn]
      have := runL_end (p := fun c => !decide (c = 10)) (b := 10) (by decide) (35 :: r) t
      simpa using this
    rw [e, ← List.cons_append, List.drop_append_of_le_length (by simpa using h2), h]
    have : a + (n : Int) + (((35 :: r).drop n).length : Nat) + 1 = a + ((35 :: r).length : Nat) + 1 := by simp; omega
    rw [this]
  · intro after a c r e hb h35 ht
    have h0 := lexN_e _ (c :: r) (Nat.le_refl _) after a
    have hne : e ≠ 0 := by
      rintro rfl
      rw [tok1_cons] at ht
      split at ht
      · cases ht
      split at ht
      · split at ht <;> cases ht
      split at ht
      · exact absurd (qTk_err ht) (by decide)
      · split at ht <;> cases ht
    rw [if_neg hne]
    have := tok1_end (after := after) (b := 10) (by decide) (by decide) (c := c) (r := r) (t := t)
    simp only [List.cons_append] at this ⊢
    exact lexN_err hb h35 (this.trans ht)
  · intro after a c r k x n hb h35 ht h
    have hl := (tok1_len ht).2
    have he := tok1_end (after := after) (b := 10) (by decide) (by decide) (c := c) (r := r) (t := t)
    simp only [List.cons_append] at he ⊢
    rw [lexN_ok hb h35 (he.trans ht), ← List.cons_append, List.drop_append_of_le_length hl, h]
    have hlen : a + (n : Int) + (((c :: r).drop n).length : Nat) + 1 = a + ((c :: r).length : Nat) + 1 := by simp only [List.length_drop]; omega
    rw [hlen]
    generalize hR : lexN (closedB ⟨k, x, a⟩) (a + ↑n) ((c :: r).drop n) = R
    by_cases hz : R.e = 0
    · rw [if_pos hz, last_after hz]
      have : (LexR.after [⟨k, x, a⟩] R).e = 0 := by unfold LexR.after; rw [if_pos hz]; exact hz
      rw [if_pos this]
      unfold LexR.after
      generalize lexN (R.last (closedB ⟨k, x, a⟩)) (a + ((c :: r).length : Nat) + 1) t = Z
      by_cases hZ : Z.e = 0
      · simp [hZ, hz]
      · simp [hZ]
    · rw [if_neg hz]
      have : LexR.after [⟨k, x, a⟩] R = R := by unfold LexR.after; rw [if_neg hz]
      rw [this, if_neg hz]
end Go.Sx
