import Derived.Test.YtmlgpjficicagaaDoorPureLx
set_option linter.unusedVariables false
set_option linter.unusedSimpArgs false
namespace Go.Sx
open Go
theorem hex_back (c : UInt8) : (hexB (quotedC.hexC (c / 16)) && (hexB (quotedC.hexC (c % 16)) && (16 * worthB (quotedC.hexC (c / 16)) + worthB (quotedC.hexC (c % 16)) == c))) = true :=
  u8_all (p := fun c => hexB (quotedC.hexC (c / 16)) && (hexB (quotedC.hexC (c % 16)) && (16 * worthB (quotedC.hexC (c / 16)) + worthB (quotedC.hexC (c % 16)) == c))) (by decide +kernel) c
theorem quoted_plain (c : UInt8) : (quotedC c).all plainB = true := u8_all (p := fun c => (quotedC c).all plainB) (by decide +kernel) c
theorem quotedC_len (c : UInt8) : 1 ≤ (quotedC c).length ∧ (quotedC c).length ≤ 4 := by
  unfold quotedC
  split
  · simp
  split
  · simp
  split <;> simp
theorem quoteL_quotedC (c : UInt8) (r : Str) : quoteL (quotedC c ++ r) = pre [c] (quoteL r) := by
  unfold quotedC
  split
  · rename_i h
    exact quoteL_esc h r
  split
  · rename_i h1 h
    subst h
    exact quoteL_n r
  split
  · rename_i h1 h2 h
    simp only [List.cons_append, List.nil_append]
    rw [quoteL_plain (fun e => h1 (.inl e)) (fun e => h1 (.inr e)), if_pos h]
  · have := hex_back c
    simp only [Bool.and_eq_true, beq_iff_eq] at this
    obtain ⟨h1, h2, h3⟩ := this
    simp only [List.cons_append, List.nil_append]
    rw [quoteL_x, h3, if_pos (by rw [h1, h2]; rfl)]
theorem pre_pre (a b : Str) (q : Option (Str × Str)) : pre a (pre b q) = pre (a ++ b) q := by
  unfold pre; cases q <;> simp
theorem quoteL_quoted : ∀ (s r : Str), quoteL (s.flatMap quotedC ++ 34 :: r) = some (s, r)
  | [], r => quoteL_q r
  | c :: s, r => by
    simp only [List.flatMap_cons, List.append_assoc]
    rw [quoteL_quotedC, quoteL_quoted s r]
    rfl
theorem quotedL_plain (s : Str) : (quotedL s).all plainB = true := by
  unfold quotedL
  simp only [List.all_cons, List.all_append, List.all_nil, Bool.and_true, List.all_flatMap]
  have h34 : plainB 34 = true := by decide
  simp only [h34, Bool.true_and, Bool.and_true]
  exact List.all_eq_true.2 fun c _ => quoted_plain c
theorem flat_quoted_len : ∀ s : Str, s.length ≤ (s.flatMap quotedC).length ∧ (s.flatMap quotedC).length ≤ 4 * s.length
  | [] => by simp
  | c :: s => by
    have := flat_quoted_len s
    have := quotedC_len c
    simp only [List.flatMap_cons, List.length_append, List.length_cons]
    omega
theorem quotedL_len (s : Str) : s.length + 2 ≤ (quotedL s).length ∧ (quotedL s).length ≤ 4 * s.length + 2 := by
  have := flat_quoted_len s
  simp only [quotedL, List.length_cons, List.length_append, List.length_nil]
  omega
/-! ### fuel -/
theorem tok1_len {after : Bool} {s : Str} {k : Int} {t : Str} {n : Nat} (h : tok1 after s = .ok k t n) : 1 ≤ n ∧ n ≤ s.length := by
  cases s with
  | nil => simp [tok1] at h
  | cons c r =>
    rw [tok1_cons] at h
    split at h
    · rename_i hl
      simp only [Tk.ok.injEq] at h
      obtain ⟨_, _, rfl⟩ := h
      refine ⟨?_, runL_le _ _⟩
      unfold runL
      rw [if_pos (by unfold nameC; simp [hl])]; omega
    split at h
    · skip
      split at h
      · simp only [Tk.ok.injEq] at h
        obtain ⟨_, _, rfl⟩ := h
        have := runL_le digitB r
        simp; omega
      · cases h
    split at h
    · obtain ⟨r2, hq, _, rfl⟩ := qTk_ok h
      · skip
        have := quoteL_len hq
        simp; omega
    · skip
      split at h
      · cases h
      · rename_i hn
        simp only [Tk.ok.injEq] at h
        obtain ⟨_, _, rfl⟩ := h
        refine ⟨by omega, ?_⟩
        rw [signL_cons]
        split
        · rename_i h2
          have : r ≠ [] := by rintro rfl; simp at h2
          have := List.length_pos_iff.2 this
          simp; omega
        split <;> simp
theorem lexF_fuel : ∀ (f : Nat) (g : Nat) (after : Bool) (a : Int) (s : Str), s.length ≤ f → s.length ≤ g → lexF f after a s = lexF g after a s
  | f, g, after, a, [], _, _ => by cases f <;> cases g <;> rfl
  | 0, g, after, a, c :: r, h, _ => by simp at h
  | f + 1, 0, after, a, c :: r, _, h => by simp at h
  | f + 1, g + 1, after, a, c :: r, hf, hg => by
    simp only [List.length_cons] at hf hg
    simp only [lexF]
    split
    · exact lexF_fuel f g _ _ _ (by omega) (by omega)
    split
    · rename_i h1 h2
      have : 1 ≤ runL (fun c => !decide (c = 10)) (c :: r) := by
        unfold runL; subst h2; rw [if_pos (by decide)]; omega
      exact lexF_fuel f g _ _ _ (by simp; omega) (by simp; omega)
    · cases ht : tok1 after (c :: r) with
      | err e => rfl
      | ok k t n =>
        have := (tok1_len ht).1
        simp only
        rw [lexF_fuel f g _ _ _ (by simp; omega) (by simp; omega)]
/-- the tokens from a place on -/
def lexN (after : Bool) (a : Int) (s : Str) : LexR := lexF s.length after a s
theorem lexN_nil (after : Bool) (a : Int) : lexN after a [] = ⟨[], 0, 0⟩ := rfl
theorem lexN_blank {after : Bool} {a : Int} {c : UInt8} {r : Str} (h : blankB c = true) : lexN after a (c :: r) = lexN after (a + 1) r := by
  unfold lexN; simp only [List.length_cons, lexF]; rw [if_pos h]
theorem lexN_note {after : Bool} {a : Int} {r : Str} : lexN after a (35 :: r) = lexN after (a + (runL (fun c => !decide (c = 10)) (35 :: r) : Nat)) ((35 :: r).drop (runL (fun c => !decide (c = 10)) (35 :: r))) := by
  unfold lexN; simp only [List.length_cons, lexF]; rw [if_neg (by decide), if_pos trivial]
  refine lexF_fuel _ _ _ _ _ ?_ (Nat.le_refl _)
  have : 1 ≤ runL (fun c => !decide (c = 10)) (35 :: r) := by unfold runL; rw [if_pos (by decide)]; omega
  simp; omega
theorem lexN_err {after : Bool} {a : Int} {c : UInt8} {r : Str} {e : Int} (h1 : blankB c = false) (h2 : ¬ c = 35) (h : tok1 after (c :: r) = .err e) : lexN after a (c :: r) = ⟨[], a, e⟩ := by
  unfold lexN; simp only [List.length_cons, lexF]; rw [if_neg (by simp [h1]), if_neg h2, h]
theorem lexN_ok {after : Bool} {a : Int} {c : UInt8} {r : Str} {k : Int} {t : Str} {n : Nat} (h1 : blankB c = false) (h2 : ¬ c = 35) (h : tok1 after (c :: r) = .ok k t n) :
    lexN after a (c :: r) = LexR.after [⟨k, t, a⟩] (lexN (closedB ⟨k, t, a⟩) (a + n) ((c :: r).drop n)) := by
  unfold lexN; simp only [List.length_cons, lexF]; rw [if_neg (by simp [h1]), if_neg h2, h]
  simp only
  rw [lexF_fuel r.length _ _ _ _ (by have := (tok1_len h).1; simp; omega) (Nat.le_refl _)]
theorem lexS_N {s : Str} (h : (s.length : Int) ≤ 16384) : lexS s = lexN false 0 s := by
  unfold lexS; rw [if_neg (by omega)]; rfl
/-- one step: over a blank, a note or a token, by what is left -/
theorem lexN_ind {P : Bool → Int → Str → LexR → Prop} (hnil : ∀ after a, P after a [] ⟨[], 0, 0⟩)
    (hblank : ∀ after a c r, blankB c = true → P after (a + 1) r (lexN after (a + 1) r) → P after a (c :: r) (lexN after (a + 1) r))
    (hnote : ∀ after a r n, n = runL (fun c => !decide (c = 10)) (35 :: r) → 1 ≤ n → n ≤ r.length + 1 → P after (a + n) ((35 :: r).drop n) (lexN after (a + n) ((35 :: r).drop n)) → P after a (35 :: r) (lexN after (a + n) ((35 :: r).drop n)))
    (herr : ∀ after a c r e, blankB c = false → ¬ c = 35 → tok1 after (c :: r) = .err e → P after a (c :: r) ⟨[], a, e⟩)
    (hok : ∀ after a c r k t n, blankB c = false → ¬ c = 35 → tok1 after (c :: r) = .ok k t n → P (closedB ⟨k, t, a⟩) (a + n) ((c :: r).drop n) (lexN (closedB ⟨k, t, a⟩) (a + n) ((c :: r).drop n)) →
      P after a (c :: r) (LexR.after [⟨k, t, a⟩] (lexN (closedB ⟨k, t, a⟩) (a + n) ((c :: r).drop n)))) :
    ∀ (m : Nat) (s : Str), s.length ≤ m → ∀ after a, P after a s (lexN after a s) := by
  intro m
  induction m with
  | zero =>
    intro s hs after a
    have : s = [] := List.length_eq_zero_iff.1 (by omega)
    subst this
    exact hnil _ _
  | succ m ih =>
    intro s hs after a
    cases s with
    | nil => exact hnil _ _
    | cons c r =>
      simp only [List.length_cons] at hs
      cases hb : blankB c with
      | true => rw [lexN_blank hb]; exact hblank _ _ _ _ hb (ih _ (by omega) _ _)
      | false =>
        by_cases h35 : c = 35
        · subst h35
          rw [lexN_note]
          have h1 : 1 ≤ runL (fun c => !decide (c = 10)) (35 :: r) := by unfold runL; rw [if_pos (by decide)]; omega
          have h2 := runL_le (fun c => !decide (c = 10)) (35 :: r)
          exact hnote _ _ _ _ rfl h1 (by simpa using h2) (ih _ (by simp; omega) _ _)
        · cases ht : tok1 after (c :: r) with
          | err e => rw [lexN_err hb h35 ht]; exact herr _ _ _ _ _ hb h35 ht
          | ok k t n =>
            rw [lexN_ok hb h35 ht]
            have := (tok1_len ht).1
            exact hok _ _ _ _ _ _ _ hb h35 ht (ih _ (by simp; omega) _ _)
/-! ### a text quoted -/
theorem lexS_quoted {s : Str} (h : s.length ≤ 2000) : lexS (quotedL s) = ⟨[⟨2, s, 0⟩], 0, 0⟩ := by
  have hl := (quotedL_len s).2
  rw [lexS_N (by omega)]
  unfold quotedL
  have ht : tok1 false (34 :: (s.flatMap quotedC ++ [34])) = .ok 2 s ((s.flatMap quotedC ++ [34]).length + 1) := by
    rw [tok1_cons]
    rw [if_neg (by decide), if_neg (by simp [show digitB 34 = false by decide]), if_pos rfl, quoteL_quoted]
    simp [qTk]
  rw [lexN_ok (by decide) (by decide) ht, List.drop_eq_nil_of_le (by simp), lexN_nil]
  rfl
end Go.Sx
