import Derived.Test.YtmlgpjficicagaaDoorPureD3
set_option linter.unusedVariables false
set_option linter.unusedSimpArgs false
namespace Go.Sx
open Go
/-! ## the laws of layer 3 -/
theorem itoa_1 : Lib.itoa 1 = [49] := by unfold Lib.itoa; rw [if_neg (by decide), Lib.decDigits_one (by decide)]; rfl
theorem itoa_m2 : Lib.itoa (-2) = [45, 50] := by unfold Lib.itoa; rw [if_pos (by decide), Lib.decDigits_one (by decide)]; rfl
theorem first_show : showV ⟨4, 0, [], [1, -2]⟩ = [91, 49, 32, 45, 50, 93] := by
  unfold showV
  rw [if_pos (by decide), if_neg (by decide), if_neg (by decide), if_neg (by decide), if_neg (by decide), if_pos rfl]
  simp only [List.map_cons, List.map_nil, itoa_1, itoa_m2]
  rfl
theorem first_i64 : i64V ⟨4, 0, [], [1, -2]⟩ := ⟨i64_0, fun n h => by
  simp at h
  rcases h with rfl | rfl
  · exact i64_1
  · exact ⟨by decide, by decide⟩⟩
theorem first_read : readV [91, 93] = (⟨4, 0, [], []⟩, 0) := by
  have h := read_show (a := ⟨4, 0, [], []⟩) (by decide) ⟨i64_0, fun n h => by cases h⟩ (by decide)
  have e : showV ⟨4, 0, [], []⟩ = [91, 93] := by
    unfold showV
    rw [if_pos (by decide), if_neg (by decide), if_neg (by decide), if_neg (by decide), if_neg (by decide), if_pos rfl]
    rfl
  rwa [e] at h
theorem show_len {a : Val} (h : mayV a = true) (hi : i64V a) (hk : a.k ≠ 5) : (showV a).length ≤ 400 := by
  obtain ⟨m0, m1, m2, m3, m4, m5⟩ := may_all h
  unfold showV
  rw [if_pos h]
  split; · simp
  split; · have := itoa_len hi.1; omega
  split; · split <;> simp
  split
  · rename_i h3
    have := (quotedL_len a.s).2
    have := (m3 h3).2
    omega
  split
  · rename_i h4
    have h5 := (m4 h4).2
    have hjl := join_len (m := 21) (a.l.map Lib.itoa) (fun w hw => by obtain ⟨n, hn, rfl⟩ := List.mem_map.1 hw; exact itoa_len (hi.2 n hn))
    rw [List.length_map] at hjl
    simp
    omega
  · rename_i g0 g1 g2 g3 g4
    rcases may_k h with e | e | e | e | e | e
    · exact absurd e g0
    · exact absurd e g1
    · exact absurd e g2
    · exact absurd e g3
    · exact absurd e g4
    · exact absurd e hk
theorem show_no {a : Val} (h : mayV a = false) : showV a = [] := by unfold showV; rw [if_neg (by rw [h]; decide)]
theorem may_text3 {s : Str} (h : s.length ≤ 24) : mayV ⟨3, 0, s, []⟩ = true := by simp [mayV]; omega
theorem may_list4 {l : List Int} (h : l.length ≤ 16) : mayV ⟨4, 0, [], l⟩ = true := by simp [mayV]; omega
theorem show_text {s : Str} (h : s.length ≤ 24) : showV ⟨3, 0, s, []⟩ = quotedL s := by
  unfold showV; rw [if_pos (may_text3 h), if_neg (by simp), if_neg (by simp), if_neg (by simp), if_pos rfl]
theorem show_list {l : List Int} (h : l.length ≤ 16) : showV ⟨4, 0, [], l⟩ = ([91] ++ Lib.join (l.map Lib.itoa) [32]) ++ [93] := by
  unfold showV; rw [if_pos (may_list4 h), if_neg (by simp), if_neg (by simp), if_neg (by simp), if_neg (by simp), if_pos rfl]
theorem text_i64 (s : Str) : i64V ⟨3, 0, s, []⟩ := ⟨i64_0, fun n h => by cases h⟩
theorem txt_no {s : Str} (h : decide (showV ⟨3, 0, s, []⟩ = []) = false) : decide ((s.length : Int) ≤ 24) = true := by
  by_cases hs : s.length ≤ 24
  · exact decide_eq_true (by omega)
  · refine absurd h ?_
    rw [show_no (by simp [mayV]; omega)]; decide
/-- the blanks of a text -/
def cnt32 (s : Str) : Int := (s.filter (fun c => decide (c = 32))).length
theorem cnt_app (a b : Str) : cnt32 (a ++ b) = cnt32 a + cnt32 b := by simp [cnt32]
theorem cnt_T {s : Str} {k : Int} {c : UInt8} (k0 : 0 ≤ k) (hc : s[k.toNat]? = some c) (h : (c.toNat : Int) = 32) : cnt32 (s.take (k + 1).toNat) = cnt32 (s.take k.toNat) + 1 := by
  have : c = 32 := (u8_is 32).1 h
  subst this
  rw [take_snoc k0 hc, cnt_app]; rfl
theorem cnt_F {s : Str} {k : Int} {c : UInt8} (k0 : 0 ≤ k) (hc : s[k.toNat]? = some c) (h : ¬ (c.toNat : Int) = 32) : cnt32 (s.take (k + 1).toNat) = cnt32 (s.take k.toNat) := by
  have : ¬ c = 32 := fun e => h ((u8_is 32).2 e)
  rw [take_snoc k0 hc, cnt_app]; simp [cnt32, this]
theorem cnt_le (s : Str) : 0 ≤ cnt32 s ∧ cnt32 s ≤ s.length := by
  unfold cnt32
  have := List.length_filter_le (fun c => decide (c = (32 : UInt8))) s
  omega
theorem cnt_itoa (n : Int) : cnt32 (Lib.itoa n) = 0 := by
  unfold cnt32
  rw [List.filter_eq_nil_iff.2]
  · rfl
  · intro c hc
    have := (numC_sep (List.all_eq_true.1 (itoa_bytes n) c hc)).1
    simp [this]
theorem cnt_tail : ∀ l : List Int, cnt32 (Lib.joinTail [32] (l.map Lib.itoa)) = l.length
  | [] => rfl
  | n :: l => by
    have e : Lib.joinTail [32] ((n :: l).map Lib.itoa) = [32] ++ (Lib.itoa n ++ Lib.joinTail [32] (l.map Lib.itoa)) := by simp [Lib.joinTail]
    rw [e, cnt_app, cnt_app, cnt_itoa, cnt_tail l]
    simp [cnt32]; omega
theorem cnt_list (l : List Int) : cnt32 (([91] ++ Lib.join (l.map Lib.itoa) [32]) ++ [93]) = if (l.length : Int) - 1 > 0 then (l.length : Int) - 1 else 0 := by
  rw [cnt_app, cnt_app]
  have h1 : cnt32 [91] = 0 := by decide
  have h2 : cnt32 [93] = 0 := by decide
  rw [h1, h2]
  cases l with
  | nil => rfl
  | cons n l =>
    rw [List.map_cons, Lib.join_cons, cnt_app, cnt_itoa, cnt_tail]
    simp only [List.length_cons]
    split <;> omega
theorem cnt_end {s : Str} {k p : Int} (k0 : 0 ≤ k) (hk : ¬ k < s.length) (h : p = cnt32 (s.take k.toNat)) : p = cnt32 s := by rw [h, take_all hk k0]
/-! ### rows of three -/
theorem row_both {a b : Val} (h : lessV a b = true) : ¬ (!lessV b a) = false := by rw [lessV_asym h]; decide
theorem row_eq (a b : Val) : (lessV a b || lessV b a) = !sameV a b := by
  by_cases e : a = b
  · subst e; rw [lessV_irr, (sameV_iff a a).2 rfl]; rfl
  · have hs : sameV a b = false := by
      cases h : sameV a b with
      | false => rfl
      | true => exact absurd ((sameV_iff a b).1 h) e
    rw [hs]
    cases h1 : lessV a b with
    | true => rfl
    | false =>
      cases h2 : lessV b a with
      | true => rfl
      | false => have := lessV_tri h1 h2; rw [hs] at this; cases this
theorem row_1 {a b : Val} (h : lessV a b = true) : (!sameV a b) = true := by rw [← row_eq, h]; rfl
theorem row_2 {a b : Val} (h : lessV a b = false) : lessV b a = !sameV a b := by rw [← row_eq, h]; rfl
theorem same_refl (a : Val) : sameV a a = true := (sameV_iff a a).2 rfl
theorem row_t {a b c : Val} (h1 : (!lessV a b) = false) (h2 : (!lessV b c) = false) : lessV a c = true := lessV_trans (by simpa using h1) (by simpa using h2)
/-! ### kinds -/
theorem same_no {v w : Val} (h : mayV v = true) (h2 : mayV w = false) : sameV v w = false := by
  cases hs : sameV v w with
  | false => rfl
  | true => rw [(sameV_iff v w).1 hs, h2] at h; cases h
section
variable {v : Val} {x : Int}
theorem kd_n (h : mayV v = true) (h1 : ¬ v.k = 1) (h2 : ¬ v.k = 2) (h5 : ¬ v.k = 5) : mayV ⟨v.k, 1, v.s, v.l⟩ = false := by
  rcases may_k h with e | e | e | e | e | e <;> first | contradiction | (simp [mayV, e])
theorem kd_l1 (h1 : v.k = 3 ∨ v.k = 5) : mayV ⟨v.k, v.n, v.s, [x]⟩ = false := by
  rcases h1 with e | e <;> simp [mayV, e]
theorem kd_s (h : mayV v = true) (h1 : ¬ v.k = 3) (h2 : ¬ v.k = 5) : mayV ⟨v.k, v.n, [120], v.l⟩ = false := by
  rcases may_k h with e | e | e | e | e | e <;> first | contradiction | (simp [mayV, e])
theorem kd_l17 (h1 : v.k = 4) {l : List Int} (hl : l.length = 17) : mayV ⟨v.k, v.n, v.s, l⟩ = false := by simp [mayV, h1, hl]
theorem kd_l (h : mayV v = true) (h1 : ¬ v.k = 4) : mayV ⟨v.k, v.n, v.s, [x]⟩ = false := by
  rcases may_k h with e | e | e | e | e | e <;> first | contradiction | (simp [mayV, e])
theorem kd_k (h1 : x < 0 ∨ 5 < x) : mayV ⟨x, v.n, v.s, v.l⟩ = false := by
  unfold mayV
  simp only
  rw [if_neg (by omega), if_neg (by omega), if_neg (by omega), if_neg (by omega), if_neg (by omega), if_neg (by omega)]
end
theorem kd_mod (what : Int) : 0 ≤ IntKind.i64.wrap ((IntKind.u64.wrap what).tmod 100) ∧ IntKind.i64.wrap ((IntKind.u64.wrap what).tmod 100) < 100 := by
  have h0 : 0 ≤ IntKind.u64.wrap what := by
    simp only [IntKind.wrap, IntKind.signed, IntKind.bits]; simp; omega
  have h1 : (IntKind.u64.wrap what).tmod 100 = IntKind.u64.wrap what % 100 := Int.tmod_eq_emod_of_nonneg h0
  rw [h1]
  generalize IntKind.u64.wrap what = z at *
  simp only [IntKind.wrap, IntKind.signed, IntKind.bits]
  simp
  omega
end Go.Sx
