import Derived.Test.YtmlgpjficicagaaDoorPureLj
set_option linter.unusedVariables false
set_option linter.unusedSimpArgs false
namespace Go.Sx
open Go
/-! ## what is written is read again -/
def tailB (s : Str) : Prop := s = [] ∨ ∃ b r, s = b :: r ∧ blankB b = true
theorem blank_cases {b : UInt8} (h : blankB b = true) : b = 32 ∨ b = 9 ∨ b = 10 := by unfold blankB at h; simpa using h
theorem runL_tail {p : UInt8 → Bool} (h32 : p 32 = false) (h9 : p 9 = false) (h10 : p 10 = false) {s t : Str} (ht : tailB t) : runL p (s ++ t) = runL p s := by
  rcases ht with rfl | ⟨b, r, rfl, hb⟩
  · simp
  · exact runL_end (by rcases blank_cases hb with rfl | rfl | rfl <;> assumption) s r
theorem head_tail {t : Str} (ht : tailB t) : (t.head?.map digitB).getD false = false ∧ ¬ t.head? = some 61 ∧ ¬ t.head? = some 62 := by
  rcases ht with rfl | ⟨b, r, rfl, hb⟩
  · simp
  · rcases blank_cases hb with rfl | rfl | rfl <;> exact ⟨rfl, by simp, by simp⟩
theorem letter_not {c : UInt8} (h : letterB c = true) : blankB c = false ∧ ¬ c = 35 ∧ digitB c = false ∧ ¬ c = 45 ∧ ¬ c = 34 := by
  have := u8_all (p := fun c => !letterB c || (!blankB c && (!decide (c = 35) && (!digitB c && (!decide (c = 45) && !decide (c = 34)))))) (by decide +kernel) c
  rw [h] at this; simpa using this
theorem digit_not {c : UInt8} (h : digitB c = true) : blankB c = false ∧ ¬ c = 35 ∧ letterB c = false ∧ ¬ c = 45 ∧ ¬ c = 34 := by
  have := u8_all (p := fun c => !digitB c || (!blankB c && (!decide (c = 35) && (!letterB c && (!decide (c = 45) && !decide (c = 34)))))) (by decide +kernel) c
  rw [h] at this; simpa using this
theorem sign_not {c : UInt8} (h : oneSign c = true) : blankB c = false ∧ ¬ c = 35 ∧ letterB c = false ∧ digitB c = false ∧ ¬ c = 34 := by
  have := u8_all (p := fun c => !oneSign c || (!blankB c && (!decide (c = 35) && (!letterB c && (!digitB c && !decide (c = 34)))))) (by decide +kernel) c
  rw [h] at this; simpa using this
theorem runL_all {p : UInt8 → Bool} : ∀ {s : Str}, s.all p = true → runL p s = s.length
  | [], _ => rfl
  | c :: s, h => by
    simp only [List.all_cons, Bool.and_eq_true] at h
    simp [runL, h.1, runL_all h.2]
theorem all_runL {p : UInt8 → Bool} {s : Str} (h : runL p s = s.length) : s.all p = true := by
  have := runL_take p s
  rwa [h, List.take_length] at this
/-- the head of a written token -/
theorem body_head {t : Token} (h : rightB t = true) : ∃ c r, bodyW t = c :: r ∧ blankB c = false ∧ ¬ c = 35 := by
  unfold rightB at h
  unfold bodyW
  split at h
  · rename_i hk
    rw [if_neg (by omega)]
    simp only [Bool.and_eq_true] at h
    cases ht : t.text with
    | nil => rw [ht] at h; simp at h
    | cons c r =>
      rw [ht] at h
      have := letter_not (by simpa using h.2.1)
      exact ⟨c, r, rfl, this.1, this.2.1⟩
  split at h
  · rename_i hk
    rw [if_neg (by omega)]
    unfold numeralB magS at h
    cases ht : t.text with
    | nil => rw [ht] at h; simp at h
    | cons c r =>
      rw [ht] at h
      simp only [List.head?_cons, Option.some.injEq] at h
      refine ⟨c, r, rfl, ?_⟩
      by_cases hc : c = 45
      · subst hc; exact ⟨by decide, by decide⟩
      · simp only [hc, if_false] at h
        simp only [Bool.and_eq_true, List.all_cons] at h
        have := digit_not h.2.1.1
        exact ⟨this.1, this.2.1⟩
  split at h
  · rename_i hk
    rw [if_pos hk]
    exact ⟨34, _, rfl, by decide, by decide⟩
  split at h
  · rename_i hk
    rw [if_neg (by omega)]
    simp only [Bool.and_eq_true, decide_eq_true_eq] at h
    cases ht : t.text with
    | nil => rw [ht] at h; simp at h
    | cons c r =>
      rw [ht] at h
      refine ⟨c, r, rfl, ?_⟩
      have h2 := h.2
      rw [signL_cons] at h2
      split at h2
      · rename_i hs
        rcases hs with ⟨rfl, _⟩ | ⟨rfl, _⟩ <;> exact ⟨by decide, by decide⟩
      split at h2
      · rename_i hs
        have := sign_not hs
        exact ⟨this.1, this.2.1⟩
      · simp at h2
  · cases h
theorem tok1_back {after : Bool} {t : Token} {rest : Str} (hr : rightB t = true) (hm : t.kind = 1 → t.text.head? = some 45 → after = false) (ht : tailB rest) : tok1 after (bodyW t ++ rest) = .ok t.kind t.text (bodyW t).length := by
  unfold rightB at hr
  unfold bodyW
  obtain ⟨hd, h61, h62⟩ := head_tail ht
  split at hr
  · rename_i hk
    rw [if_neg (by omega), hk]
    simp only [Bool.and_eq_true, decide_eq_true_eq] at hr
    cases htx : t.text with
    | nil => rw [htx] at hr; simp at hr
    | cons c r =>
      rw [htx] at hr
      simp only [List.headD_cons] at hr
      have hrun := runL_tail (p := nameC) (by decide) (by decide) (by decide) (s := c :: r) ht
      simp only [List.cons_append] at hrun ⊢
      rw [tok1_cons]
      rw [if_pos hr.2.1]
      rw [hrun, hr.2.2, ← List.cons_append, List.take_left]
  split at hr
  · rename_i hk0 hk
    rw [if_neg (by omega), hk]
    have hn := hr
    unfold numeralB magS at hr
    cases htx : t.text with
    | nil => rw [htx] at hr; simp at hr
    | cons c r =>
      rw [htx] at hr hn
      have hrun : runL digitB (r ++ rest) = runL digitB r := runL_tail (p := digitB) (by decide) (by decide) (by decide) ht
      by_cases hc : c = 45
      · subst hc
        simp only [List.head?_cons, if_true, List.drop_succ_cons, List.drop_zero, Bool.and_eq_true] at hr
        have ha := hm hk (by rw [htx]; rfl)
        subst ha
        have hrl : runL digitB r = r.length := runL_all hr.2.1
        have hh : ((r ++ rest).head?.map digitB).getD false = true := by
          cases r with
          | nil => simp at hr
          | cons x r => simp at hr ⊢; exact hr.1.1
        simp only [List.cons_append]
        rw [tok1_cons]
        rw [if_neg (by decide), if_pos (by rw [hh]; decide)]
        rw [hrun, hrl, ← List.cons_append, show r.length + 1 = ((45 : UInt8) :: r).length from rfl, List.take_left, if_pos hn]
      · simp only [List.head?_cons, Option.some.injEq, hc, if_false, Bool.and_eq_true, List.all_cons] at hr
        have hdc := hr.2.1.1
        have hrl : runL digitB r = r.length := runL_all hr.2.1.2
        simp only [List.cons_append]
        rw [tok1_cons]
        rw [if_neg (by simp [(digit_not hdc).2.2.1]), if_pos (by simp [hdc])]
        rw [hrun, hrl, ← List.cons_append, show r.length + 1 = (c :: r).length from rfl, List.take_left, if_pos hn]
  split at hr
  · rename_i h0 h1 hk
    rw [if_pos hk, hk]
    unfold quotedL
    simp only [List.cons_append, List.append_assoc, List.nil_append]
    rw [tok1_cons]
    rw [if_neg (by decide), if_neg (by simp [show digitB 34 = false by decide]), if_pos rfl, quoteL_quoted]
    simp [qTk]; omega
  split at hr
  · rename_i h0 h1 h2 hk
    rw [if_neg (by omega), hk]
    simp only [Bool.and_eq_true, decide_eq_true_eq] at hr
    cases htx : t.text with
    | nil => rw [htx] at hr; simp at hr
    | cons c r =>
      rw [htx] at hr
      have hs := hr.2
      -- the sign's two shapes
      have key : letterB c = false ∧ (digitB c || (decide (c = 45) && (((r ++ rest).head?.map digitB).getD false && !after))) = false ∧ ¬ c = 34 ∧ signL (c :: (r ++ rest)) = (c :: r).length := by
        rw [signL_cons] at hs
        split at hs
        · rename_i h2
          have hr1 : r.length = 1 := by simp at hs; omega
          obtain ⟨x, rfl⟩ := List.length_eq_one_iff.1 hr1
          rcases h2 with ⟨rfl, hx⟩ | ⟨rfl, hx⟩
          · simp at hx; subst hx
            refine ⟨by decide, by simp [show digitB 61 = false by decide], by decide, ?_⟩
            rw [signL_cons]; rw [if_pos (.inl ⟨rfl, rfl⟩)]; rfl
          · simp at hx; subst hx
            refine ⟨by decide, by simp [show digitB 45 = false by decide, show digitB 62 = false by decide], by decide, ?_⟩
            rw [signL_cons]; rw [if_pos (.inr ⟨rfl, rfl⟩)]; rfl
        split at hs
        · rename_i h2 h3
          have hr0 : r = [] := by cases r with | nil => rfl | cons x r => simp at hs
          subst hr0
          have hn := sign_not h3
          refine ⟨hn.2.2.1, by simp only [List.nil_append, hd, hn.2.2.2.1]; simp, hn.2.2.2.2, ?_⟩
          rw [signL_cons]
          rw [if_neg (by simp only [List.nil_append]; rintro (⟨_, h⟩ | ⟨_, h⟩); exact h61 h; exact h62 h), if_pos h3]; rfl
        · simp at hs
      obtain ⟨k1, k2, k3, k4⟩ := key
      simp only [List.cons_append]
      rw [tok1_cons]
      rw [if_neg (by simp [k1]), if_neg (by simp only [k2]; decide), if_neg k3]
      rw [k4, if_neg (by simp), ← List.cons_append, List.take_left]
  · cases hr
def placedW : Bool → Int → List Token → List Token
  | _, _, [] => []
  | sep, a, t :: l => ⟨t.kind, t.text, if sep then a + 1 else a⟩ :: placedW true ((if sep then a + 1 else a) + (bodyW t).length) l
theorem LexR.after_nil (r : LexR) : LexR.after [] r = r := by unfold LexR.after; split <;> simp
theorem LexR.after_after (x y : List Token) (r : LexR) : LexR.after x (LexR.after y r) = LexR.after (x ++ y) r := by
  unfold LexR.after
  by_cases h : r.e = 0
  · simp [h]
  · simp [h]
theorem badW_not {p : Option Token} {t : Token} (h : badW p t = false) : rightB t = true ∧ (t.kind = 1 → t.text.head? = some 45 → (p.map closedB).getD false = false) := by
  unfold badW at h
  simp only [Bool.or_eq_false_iff, Bool.not_eq_false'] at h
  refine ⟨h.1, fun h1 h2 => ?_⟩
  have := h.2
  simpa [h1, h2] using this
theorem lexN_write : ∀ (l : List Token) (p : Option Token) (s tail : Str), writeF p l = some s → tailB tail → ∀ a : Int,
    lexN ((p.map closedB).getD false) a (s ++ tail) = LexR.after (placedW p.isSome a l) (lexN (((l.getLast?.or p).map closedB).getD false) (a + s.length) tail)
  | [], p, s, tail, h, ht, a => by
    simp only [writeF, Option.some.injEq] at h
    subst h
    simp [placedW, LexR.after_nil]
  | t :: l, p, s, tail, h, ht, a => by
    unfold writeF at h
    split at h
    · cases h
    rename_i hb
    obtain ⟨s2, h2, rfl⟩ := Option.map_eq_some_iff.1 h
    obtain ⟨hr, hm⟩ := badW_not (by simpa using hb)
    obtain ⟨c, r, hbd, hbl, h35⟩ := body_head hr
    have ht2 : tailB (s2 ++ tail) := by
      cases l with
      | nil => simp only [writeF, Option.some.injEq] at h2; subst h2; simpa using ht
      | cons u l =>
        unfold writeF at h2
        split at h2
        · cases h2
        obtain ⟨s3, _, rfl⟩ := Option.map_eq_some_iff.1 h2
        exact .inr ⟨32, _, by simp; rfl, by decide⟩
    have htk := tok1_back (after := (p.map closedB).getD false) hr hm ht2
    have hstep : ∀ a : Int, lexN ((p.map closedB).getD false) a (bodyW t ++ (s2 ++ tail)) = LexR.after (⟨t.kind, t.text, a⟩ :: placedW true (a + (bodyW t).length) l) (lexN ((((t :: l).getLast?.or p).map closedB).getD false) (a + (bodyW t).length + s2.length) tail) := by
      intro a
      rw [hbd] at htk ⊢
      simp only [List.cons_append] at htk ⊢
      rw [lexN_ok hbl h35 htk, ← List.cons_append, List.drop_left]
      have ih := lexN_write l (some t) s2 tail h2 ht (a + ((c :: r).length : Nat))
      simp only [Option.map_some, Option.getD_some, Option.isSome_some] at ih
      rw [show closedB ⟨t.kind, t.text, a⟩ = closedB t from rfl, ih, LexR.after_after]
      congr 2
      cases l with
      | nil => simp
      | cons u l =>
        obtain ⟨x, hx⟩ : ∃ x, (u :: l).getLast? = some x := ⟨_, List.getLast?_eq_some_getLast (by simp)⟩
        simp [List.getLast?_cons_cons, hx]
    cases hp : p.isSome with
    | false =>
      simp only [hp, Bool.false_eq_true, if_false, List.nil_append, List.append_assoc]
      rw [hstep a]
      simp only [placedW, Bool.false_eq_true, if_false, List.length_append]
      congr 2
      omega
    | true =>
      simp only [hp, if_true, List.cons_append, List.nil_append, List.append_assoc]
      rw [lexN_blank (by decide), hstep (a + 1)]
      simp only [placedW, if_true, List.length_append, List.length_cons]
      congr 2
      omega
end Go.Sx
