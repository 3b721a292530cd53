import Derived.Test.YtmlgpjficicagaaDoorPureDv
import Derived.Test.YtmlgpjficicagaaDoorPureRx
set_option linter.unusedVariables false
set_option linter.unusedSimpArgs false
namespace Go.Sx
open Go
/-! ## the reference's reading of values -/
def absStep (u : Nat) (c : UInt8) : Nat := if digitB c then (u * 10 + (c.toNat - 48)) % 18446744073709551616 else u
def absR (s : Str) : Nat := s.foldl absStep 0
def intR (s : Str) : Int := IntKind.i64.wrap (if s.head? = some 45 then IntKind.u64.wrap (0 - ((absR s : Nat) : Int)) else ((absR s : Nat) : Int))
theorem absStep_lt {u : Nat} {c : UInt8} (h : u < 18446744073709551616) : absStep u c < 18446744073709551616 := by
  unfold absStep; split
  · exact Nat.mod_lt _ (by decide)
  · exact h
theorem abs_take {s : Str} {k : Int} {c : UInt8} {u : Nat} (h0 : 0 ≤ k) (hc : s[k.toNat]? = some c) (h : absR s = (s.drop k.toNat).foldl absStep u) : absR s = (s.drop (k + 1).toNat).foldl absStep (absStep u c) := by
  rw [h, drop_of hc, List.foldl_cons, show (k + 1).toNat = k.toNat + 1 by omega]
theorem abs_skip {s : Str} {k : Int} {c : UInt8} {u : Nat} (h0 : 0 ≤ k) (hc : s[k.toNat]? = some c) (hd : digitB c = false) (h : absR s = (s.drop k.toNat).foldl absStep u) : absR s = (s.drop (k + 1).toNat).foldl absStep u := by
  have e : absStep u c = u := by unfold absStep; rw [hd]; rfl
  have := abs_take h0 hc h
  rwa [e] at this
theorem head_ofD {s : Str} {z : UInt8} (hz : s[(0 : Int).toNat]? = some z) : s.head? = some z := by
  cases s with
  | nil => cases hz
  | cons x r => simpa using hz
theorem head_is {s : Str} {z : UInt8} (hz : s[(0 : Int).toNat]? = some z) (h : (z.toNat : Int) = 45) : s.head? = some 45 := by
  rw [head_ofD hz, show z = 45 from UInt8.toNat_inj.1 (by show z.toNat = 45; omega)]
theorem head_not {s : Str} {z : UInt8} (hz : s[(0 : Int).toNat]? = some z) (h : ¬ (z.toNat : Int) = 45) : ¬ s.head? = some 45 := by
  rw [head_ofD hz]
  intro e
  injection e with e
  subst e
  exact h rfl
theorem abs_end {s : Str} {k : Int} {u : Nat} (hk : ¬ k < s.length) (h0 : 0 ≤ k) (h : absR s = (s.drop k.toNat).foldl absStep u) : u = absR s := by
  rw [h, List.drop_of_length_le (by omega)]; rfl
theorem abs_byte {u : Nat} {c : UInt8} (hd : digitB c = true) : IntKind.u64.wrap (IntKind.u64.wrap ((u : Int) * 10) + IntKind.u64.wrap (IntKind.u8.wrap ((c.toNat : Int) - 48))) = ((absStep u c : Nat) : Int) := by
  have := digit_nat hd
  unfold absStep
  rw [if_pos hd]
  simp only [IntKind.wrap, IntKind.signed, IntKind.bits]
  simp
  omega
theorem absR_dec (u : Nat) (hu : u < 18446744073709551616) : absR (Lib.decDigits u) = u := by
  have key : ∀ u : Nat, u < 18446744073709551616 → absR (Lib.decDigits u) = u := by
    intro u
    induction u using Nat.strongRecOn with
    | _ u ih =>
      intro hu
      rw [Lib.decDigits]
      split
      · rename_i h
        have hd : digitB (UInt8.ofNat (48 + u)) = true := by simp [digitB]; omega
        simp only [absR, List.foldl_cons, List.foldl_nil, absStep, hd, if_true]
        simp; omega
      · rename_i h
        have hd : digitB (UInt8.ofNat (48 + u % 10)) = true := by simp [digitB]; omega
        have h2 := ih (u / 10) (by omega) (by omega)
        unfold absR at h2 ⊢
        rw [List.foldl_append, h2]
        simp only [List.foldl_cons, List.foldl_nil, absStep, hd, if_true]
        simp; omega
  exact key u hu
theorem intR_itoa {n : Int} (h : i64ok n) : intR (Lib.itoa n) = n := by
  obtain ⟨h0, h1⟩ := h
  unfold intR Lib.itoa
  by_cases hn : n < 0
  · rw [if_pos hn, if_pos (show (45 :: Lib.decDigits n.natAbs).head? = some 45 from rfl)]
    have : absR (45 :: Lib.decDigits n.natAbs) = n.natAbs := by
      have h2 := absR_dec n.natAbs (by omega)
      unfold absR at h2 ⊢
      rw [List.foldl_cons, show absStep 0 45 = 0 by decide, h2]
    rw [this]
    simp only [IntKind.wrap, IntKind.signed, IntKind.bits]
    simp
    omega
  · rw [if_neg hn]
    have hh : ¬ (Lib.decDigits n.toNat).head? = some 45 := by
      have hd := dec_all n.toNat
      cases hs : Lib.decDigits n.toNat with
      | nil => exact absurd hs (decNe _)
      | cons c r =>
        rw [hs] at hd
        simp only [List.all_cons, Bool.and_eq_true] at hd
        have := digit_nat hd.1
        intro e
        simp at e
        subst e
        revert this; decide
    rw [if_neg hh, absR_dec _ (by omega)]
    simp only [IntKind.wrap, IntKind.signed, IntKind.bits]
    simp
    omega
theorem intR_range (s : Str) : i64ok (intR s) := by
  unfold intR i64ok
  generalize (if s.head? = some 45 then IntKind.u64.wrap (0 - ((absR s : Nat) : Int)) else ((absR s : Nat) : Int)) = z
  simp only [IntKind.wrap, IntKind.signed, IntKind.bits]
  simp
  omega
/-- a row of numbers, byte by byte -/
def rlF : List Int → Str → Str → List Int
  | acc, _, [] => acc
  | acc, w, c :: r => if c ≠ 32 ∧ c ≠ 93 then rlF acc (w ++ [c]) r else if w ≠ [] ∧ (acc.length : Int) ≤ 16 then rlF (acc ++ [intR w]) [] r else rlF acc [] r
def rl (s : Str) : List Int := rlF [] [] (s.drop 1)
theorem rlF_len : ∀ (s : Str) (acc : List Int) (w : Str), (acc.length : Int) ≤ 17 → ((rlF acc w s).length : Int) ≤ 17
  | [], acc, w, h => h
  | c :: r, acc, w, h => by
    rw [rlF]
    split
    · exact rlF_len r acc _ h
    · split
      · rename_i h2; exact rlF_len r _ _ (by simp; omega)
      · exact rlF_len r acc _ h
theorem rlF_range : ∀ (s : Str) (acc : List Int) (w : Str), (∀ n ∈ acc, i64ok n) → ∀ n ∈ rlF acc w s, i64ok n
  | [], acc, w, h => h
  | c :: r, acc, w, h => by
    rw [rlF]
    split
    · exact rlF_range r acc _ h
    · split
      · refine rlF_range r _ _ (fun n hn => ?_)
        rcases List.mem_append.1 hn with hn | hn
        · exact h n hn
        · simp at hn; subst hn; exact intR_range w
      · exact rlF_range r acc _ h
section
variable {s w : Str} {k : Int} {c : UInt8} {o : List Int}
theorem rl_add (h0 : 0 ≤ k) (hc : s[k.toNat]? = some c) (hb : ¬ c = 32 ∧ ¬ c = 93) (h : rl s = rlF o w (s.drop k.toNat)) : rl s = rlF o (w ++ [c]) (s.drop (k + 1).toNat) := by
  rw [h, drop_of hc, rlF, if_pos hb, show (k + 1).toNat = k.toNat + 1 by omega]
theorem rl_put (h0 : 0 ≤ k) (hc : s[k.toNat]? = some c) (hb : ¬ (¬ c = 32 ∧ ¬ c = 93)) (hw : ¬ w = []) (hl : (o.length : Int) ≤ 16) (h : rl s = rlF o w (s.drop k.toNat)) : rl s = rlF (o ++ [intR w]) [] (s.drop (k + 1).toNat) := by
  rw [h, drop_of hc, rlF, if_neg hb, if_pos ⟨hw, hl⟩, show (k + 1).toNat = k.toNat + 1 by omega]
theorem rl_skip (h0 : 0 ≤ k) (hc : s[k.toNat]? = some c) (hb : ¬ (¬ c = 32 ∧ ¬ c = 93)) (hw : ¬ (¬ w = [] ∧ (o.length : Int) ≤ 16)) (h : rl s = rlF o w (s.drop k.toNat)) : rl s = rlF o [] (s.drop (k + 1).toNat) := by
  rw [h, drop_of hc, rlF, if_neg hb, if_neg hw, show (k + 1).toNat = k.toNat + 1 by omega]
theorem rl_end (h0 : 0 ≤ k) (hk : ¬ k < s.length) (h : rl s = rlF o w (s.drop k.toNat)) : o = rl s := by
  rw [h, List.drop_of_length_le (by omega)]; rfl
end
theorem numC_sep {c : UInt8} (h : numC c = true) : c ≠ 32 ∧ c ≠ 93 := by
  have := numC_nat h
  constructor <;> (rintro rfl; revert this; decide)
theorem rlF_word : ∀ (w cur rest : Str) (acc : List Int), w.all numC = true → rlF acc cur (w ++ rest) = rlF acc (cur ++ w) rest
  | [], cur, rest, acc, _ => by simp
  | c :: w, cur, rest, acc, h => by
    simp only [List.all_cons, Bool.and_eq_true] at h
    rw [List.cons_append, rlF, if_pos (numC_sep h.1), rlF_word w (cur ++ [c]) rest acc h.2]
    simp
theorem rlF_tail : ∀ (l acc : List Int) (n : Int), (∀ m ∈ n :: l, i64ok m) → acc.length + (l.length + 1) ≤ 16 → rlF acc (Lib.itoa n) (Lib.joinTail [32] (l.map Lib.itoa) ++ [93]) = acc ++ (n :: l)
  | [], acc, n, h, hl => by
    have e : Lib.joinTail [32] (([] : List Int).map Lib.itoa) ++ [93] = [93] := by simp [Lib.joinTail]
    rw [e, rlF, if_neg (by simp), if_pos ⟨itoa_ne n, by omega⟩, rlF, intR_itoa (h n (by simp))]
  | m :: l, acc, n, h, hl => by
    simp only [List.length_cons] at hl
    have e : Lib.joinTail [32] ((m :: l).map Lib.itoa) ++ [93] = 32 :: (Lib.itoa m ++ (Lib.joinTail [32] (l.map Lib.itoa) ++ [93])) := by simp [Lib.joinTail]
    rw [e, rlF, if_neg (by simp), if_pos ⟨itoa_ne n, by omega⟩, intR_itoa (h n (by simp)), rlF_word _ [] _ _ (itoa_bytes m), List.nil_append,
      rlF_tail l (acc ++ [n]) m (fun x hx => h x (by simp at hx ⊢; right; exact hx)) (by simp; omega)]
    simp
theorem rl_show {l : List Int} (h : ∀ m ∈ l, i64ok m) (hl : l.length ≤ 16) : rl (([91] ++ Lib.join (l.map Lib.itoa) [32]) ++ [93]) = l := by
  unfold rl
  have e : ((([91] ++ Lib.join (l.map Lib.itoa) [32]) ++ [93] : Str).drop 1) = Lib.join (l.map Lib.itoa) [32] ++ [93] := by simp
  rw [e]
  cases l with
  | nil => rw [List.map_nil, Lib.join_nil, List.nil_append, rlF, if_neg (by simp), if_neg (by simp), rlF]
  | cons n l =>
    rw [List.map_cons, Lib.join_cons, List.append_assoc, rlF_word _ [] _ _ (itoa_bytes n), List.nil_append, rlF_tail l [] n h (by simpa using hl)]
    rfl
def guessR (s : Str) : Option Val :=
  if s = [116, 114, 117, 101] ∨ s = [102, 97, 108, 115, 101] then some ⟨2, if s = [116, 114, 117, 101] then 1 else 0, [], []⟩
  else if s.head? = some 34 then (match quoteL (s.drop 1) with | some (t, r) => if r = [] then some ⟨3, 0, t, []⟩ else none | none => none)
  else if s.head? = some 91 then some ⟨4, 0, [], rl s⟩
  else if s = [117, 110, 105, 116] then some v0
  else some ⟨1, intR s, [], []⟩
def readR (s : Str) : Val × Int := match guessR s with
  | none => (v0, 300)
  | some v => if showV v = s then (v, 0) else (v0, 300)
theorem guessR_i64 {s : Str} {v : Val} (h : guessR s = some v) : i64V v ∧ v.k ≠ 5 := by
  have nl : ∀ n ∈ ([] : List Int), i64ok n := fun n h => by cases h
  unfold guessR at h
  split at h
  · injection h with h; subst h
    refine ⟨⟨?_, nl⟩, by simp [v0]⟩
    simp only; split
    · exact i64_1
    · exact i64_0
  split at h
  · split at h
    · split at h
      · injection h with h; subst h; exact ⟨⟨i64_0, nl⟩, by simp [v0]⟩
      · cases h
    · cases h
  split at h
  · injection h with h; subst h; exact ⟨⟨i64_0, rlF_range _ _ _ nl⟩, by simp [v0]⟩
  split at h
  · injection h with h; subst h; exact ⟨i64V_v0, by simp [v0]⟩
  · injection h with h; subst h; exact ⟨⟨intR_range s, nl⟩, by simp [v0]⟩
theorem guessR_show {a : Val} (h : mayV a = true) (hi : i64V a) (hk : a.k ≠ 5) : guessR (showV a) = some a := by
  obtain ⟨m0, m1, m2, m3, m4, m5⟩ := may_all h
  unfold showV
  rw [if_pos h]
  rcases may_k h with e | e | e | e | e | e
  · rw [if_pos e, m0 e]; rfl
  · rw [if_neg (by omega), if_pos e]
    have hb := itoa_bytes a.n
    have hp := intR_itoa hi.1
    cases hs : Lib.itoa a.n with
    | nil => exact absurd hs (itoa_ne _)
    | cons c r =>
      rw [hs] at hb hp
      simp only [List.all_cons, Bool.and_eq_true] at hb
      have hc := numC_nat hb.1
      unfold guessR
      rw [if_neg (by rintro (e2 | e2) <;> (injection e2 with e3 _; subst e3; revert hc; decide)), if_neg (by intro e2; simp at e2; subst e2; revert hc; decide), if_neg (by intro e2; simp at e2; subst e2; revert hc; decide),
        if_neg (by intro e2; injection e2 with e3 _; subst e3; revert hc; decide), hp, ← m1 e]
  · rw [if_neg (by omega), if_neg (by omega), if_pos e]
    rcases m2 e with h2 | h2 <;> rw [h2] <;> rfl
  · rw [if_neg (by omega), if_neg (by omega), if_neg (by omega), if_pos e]
    unfold guessR
    rw [if_neg (by unfold quotedL; rintro (e2 | e2) <;> (injection e2 with e3 _; revert e3; decide)), if_pos (by unfold quotedL; rfl)]
    have : (quotedL a.s).drop 1 = a.s.flatMap quotedC ++ 34 :: [] := by unfold quotedL; rfl
    rw [this, quoteL_quoted]
    simp only [if_true]
    rw [← (m3 e).1]
  · rw [if_neg (by omega), if_neg (by omega), if_neg (by omega), if_neg (by omega), if_pos e]
    obtain ⟨h3, h4⟩ := m4 e
    unfold guessR
    rw [if_neg (by rintro (e2 | e2) <;> simp at e2), if_neg (by simp), if_pos (by simp), rl_show hi.2 h4, ← h3]
  · exact absurd e hk
theorem readR_eq (s : Str) : readR s = readV s := by
  unfold readR readV
  cases hr : guessR s with
  | none =>
    simp only
    split
    · rename_i h
      have h1 := guessR_show (show_may (by rw [h.1]; exact h.2)) (guess_i64 s) (guess_kind s)
      rw [h.1, hr] at h1; cases h1
    · rfl
  | some v =>
    simp only
    obtain ⟨hi, hk⟩ := guessR_i64 hr
    by_cases hs : showV v = s
    · rw [if_pos hs]
      have hm : mayV v = true := by
        by_cases h0 : s = []
        · subst h0
          have : guessR [] = some ⟨1, intR [], [], []⟩ := rfl
          rw [this] at hr
          injection hr with hr; subst hr
          simp [mayV]
        · exact show_may (by rw [hs]; exact h0)
      have h2 := guess_show hm hi hk
      rw [hs] at h2
      rw [h2, if_pos ⟨hs, by rw [← hs]; exact show_ne hm⟩]
    · rw [if_neg hs]
      split
      · rename_i h
        have h1 := guessR_show (show_may (by rw [h.1]; exact h.2)) (guess_i64 s) (guess_kind s)
        rw [h.1, hr] at h1
        injection h1 with h1
        rw [h1] at hs
        exact absurd h.1 hs
      · rfl
theorem join_snoc (l : List Str) (w : Str) : Lib.join (l ++ [w]) [32] = if l = [] then w else Lib.join l [32] ++ [32] ++ w := by
  cases l with
  | nil => simp [Lib.join_one]
  | cons x l =>
    rw [List.cons_append, Lib.join_cons, Lib.join_cons, if_neg (by simp)]
    simp [Lib.joinTail]
end Go.Sx
