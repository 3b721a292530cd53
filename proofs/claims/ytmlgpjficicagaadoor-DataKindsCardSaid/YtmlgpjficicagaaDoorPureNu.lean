import Derived.Test.YtmlgpjficicagaaDoorPureLx
import Derived.Lib.ParseIntB
import Derived.Lib.ParseIntBCases
set_option linter.unusedVariables false
set_option linter.unusedSimpArgs false
namespace Go.Sx
open Go
/-! ## numerals: the library's reading of one, and ours -/
theorem foldN_ge : ∀ (s : Str) (a : Nat), a ≤ s.foldl stepN a
  | [], a => Nat.le_refl _
  | c :: s, a => by
    simp only [List.foldl_cons]
    have := foldN_ge s (stepN a c)
    have : a ≤ stepN a c := by unfold stepN; omega
    omega
theorem digit_nat {c : UInt8} (h : digitB c = true) : 48 ≤ c.toNat ∧ c.toNat ≤ 57 := by
  unfold digitB at h
  simp only [Bool.and_eq_true, decide_eq_true_eq] at h
  omega
theorem parse10 : ∀ (s : Str) (a : Nat), s.all digitB = true → a < 18446744073709551616 → Lib.parseUint10 a s = if s.foldl stepN a < 18446744073709551616 then .ok (s.foldl stepN a) else .range
  | [], a, _, ha => by simp [Lib.parseUint10, ha]
  | c :: s, a, h, ha => by
    simp only [List.all_cons, Bool.and_eq_true] at h
    have hc := digit_nat h.1
    have hg := foldN_ge s (stepN a c)
    have he : a * 10 + (c.toNat - 48) = stepN a c := rfl
    show Lib.parseUint10 a (c :: s) = if s.foldl stepN (stepN a c) < 18446744073709551616 then .ok (s.foldl stepN (stepN a c)) else .range
    rw [Lib.parseUint10, if_pos hc, he]
    by_cases h1 : 1844674407370955162 ≤ a
    · rw [if_pos h1, if_neg (by omega)]
    · rw [if_neg h1]
      by_cases h2 : 18446744073709551616 ≤ stepN a c
      · rw [if_pos h2, if_neg (by omega)]
      · rw [if_neg h2]
        exact parse10 s (stepN a c) h.2 (by omega)
theorem parseMag_digits {s : Str} (h0 : s ≠ []) (h : s.all digitB = true) : Lib.parseUintB 64 s = if natS s < 18446744073709551616 then .ok (natS s) else .range := by
  rw [Lib.parseUintB_64]
  unfold Lib.parseMag
  rw [if_neg h0]
  exact parse10 s 0 h (by decide)
/-- a numeral's end: what it is, or out of range -/
theorem parse_num {s : Str} (h0 : magS s ≠ []) (h : (magS s).all digitB = true) : (∃ v, Lib.parseIntB 64 s = .ok v ∧ inR s = true) ∨ (Lib.parseIntB 64 s = .range ∧ inR s = false) := by
  cases s with
  | nil => exact absurd rfl h0
  | cons c r =>
    by_cases hc : c = 45
    · subst hc
      have hm : magS (45 :: r) = r := rfl
      rw [hm] at h0 h
      have hi : inR (45 :: r) = decide (natS r ≤ 9223372036854775808) := rfl
      rw [hi, Lib.parseIntB_minus, parseMag_digits h0 h]
      unfold Lib.signedC
      by_cases h1 : natS r < 18446744073709551616
      · rw [if_pos h1]
        by_cases h2 : natS r ≤ 9223372036854775808
        · left; simp [h2, show ¬ 9223372036854775808 < natS r by omega]
        · right; simp [h2, show 9223372036854775808 < natS r by omega]
      · rw [if_neg h1]; right; simp; omega
    · have hm : magS (c :: r) = c :: r := by unfold magS; rw [if_neg (by simpa using hc)]
      rw [hm] at h0 h
      have hd : digitB c = true := by simp only [List.all_cons, Bool.and_eq_true] at h; exact h.1
      have hn := digit_nat hd
      have hi : inR (c :: r) = decide (natS (c :: r) < 9223372036854775808) := by
        unfold inR; rw [hm]; simp [hc]
      rw [hi, Lib.parseIntB_plain 64 c r (by omega) (by omega), parseMag_digits h0 h]
      unfold Lib.signlessC
      by_cases h1 : natS (c :: r) < 18446744073709551616
      · rw [if_pos h1]
        by_cases h2 : natS (c :: r) < 9223372036854775808
        · left; simp [h2, show ¬ 9223372036854775808 ≤ natS (c :: r) by omega]
        · right; simp [h2, show 9223372036854775808 ≤ natS (c :: r) by omega]
      · rw [if_neg h1]; right; simp; omega
end Go.Sx
