import Derived.Test.YtmlgpjficicagaaDoorPureDr
import Derived.Test.YtmlgpjficicagaaDoorPureLt
import Derived.Test.YtmlgpjficicagaaDoorPureL2
set_option linter.unusedVariables false
set_option linter.unusedSimpArgs false
namespace Go.Sx
open Go
/-! ## for the walks of package data -/
def GV (q : Val) (v : Value) (H : Hp) : Prop := ∃ lv, v = .agg (q.cells lv).toArray ∧ RdV H lv q
theorem GV.of {r q : Val} {lv : Value} {H : Hp} (h : q = r) (hr : RdSl H 1 I64.cells lv q.l) : GV r (.agg (q.cells lv).toArray) H := ⟨lv, by rw [h], h ▸ hr⟩
theorem RdSl.cast {α : Type} {H : Hp} {m : Nat} {enc : α → List Value} {v : Value} {l l' : List α} (h : RdSl H m enc v l) (e : l = l') : RdSl H m enc v l' := e ▸ h
section
variable {s : Str} {k : Int} {w : Str} {ws : List Str} {o : List Int} {n : Int}
theorem text_yes {t0 : Token} (he : (lexS s).e = 0) (hl : ((lexS s).l.length : Int) = 1) (h : (lexS s).l[(0 : Int).toNat]? = some t0) : textV s = ⟨3, 0, t0.text, []⟩ := by
  unfold textV
  rw [if_pos ⟨he, hl⟩]
  cases hh : (lexS s).l with
  | nil => rw [hh] at h; cases h
  | cons x r => rw [hh] at h; simp at h; subst h; rfl
theorem text_no (h : ¬ ((lexS s).e = 0 ∧ ((lexS s).l.length : Int) = 1)) : textV s = v0 := by unfold textV; rw [if_neg h]
theorem nums_next (k0 : 0 ≤ k) (hx : ws[k.toNat]? = some w) (hp : Lib.parseIntB 64 w = .ok n) (hl : ¬ (o.length : Int) = 16) {N : Option (List Int)} (h : N = numsF o (ws.drop k.toNat)) : N = numsF (o ++ [n]) (ws.drop (k + 1).toNat) := by
  rw [h, drop_of hx, numsF, hp]
  simp only
  rw [if_neg hl, show (k + 1).toNat = k.toNat + 1 by omega]
theorem nums_stop (k0 : 0 ≤ k) (hx : ws[k.toNat]? = some w) {N : Option (List Int)} (h : N = numsF o (ws.drop k.toNat)) (hp : (∀ n, Lib.parseIntB 64 w ≠ .ok n) ∨ ((o.length : Int) = 16)) : N = none := by
  rw [h, drop_of hx, numsF]
  cases hq : Lib.parseIntB 64 w with
  | ok n =>
    rcases hp with hp | hp
    · exact absurd hq (hp n)
    · simp only; rw [if_pos hp]
  | «syntax» => rfl
  | range => rfl
theorem nums_out (k0 : 0 ≤ k) (hk : ¬ k < ws.length) {N : Option (List Int)} (h : N = numsF o (ws.drop k.toNat)) : N = some o := by
  rw [h, List.drop_of_length_le (by omega)]; rfl
theorem list_no (h : numsF [] (Lib.fieldsD (innerL s)) = none) : listV s = v0 := by unfold listV; rw [h]
theorem list_yes (h : numsF [] (Lib.fieldsD (innerL s)) = some o) : listV s = ⟨4, 0, [], o⟩ := by unfold listV; rw [h]
theorem int_yes (h : Lib.parseIntB 64 s = .ok n) : intV s = ⟨1, n, [], []⟩ := by unfold intV; rw [h]
theorem int_no (h : ∀ n, Lib.parseIntB 64 s ≠ .ok n) : intV s = v0 := by
  unfold intV
  cases hq : Lib.parseIntB 64 s with
  | ok n => exact absurd hq (h n)
  | «syntax» => rfl
  | range => rfl
theorem brack_len (h : (Lib.hasPrefix s [91] && Lib.hasSuffix s [93]) = true) : 2 ≤ s.length := by
  simp only [Bool.and_eq_true] at h
  obtain ⟨h1, h2⟩ := h
  match s with
  | [] => simp [Lib.hasPrefix, List.isPrefixOf] at h1
  | [c] =>
    have e1 : 91 = c := by simpa [Lib.hasPrefix, List.isPrefixOf] using h1
    subst e1
    exact absurd h2 (by decide)
  | _ :: _ :: r => simp
theorem inner_len (s : Str) : (innerL s).length ≤ s.length := by unfold innerL; rw [List.length_drop, List.length_take]; omega
theorem fieldsGoD_len : ∀ (f : Nat) (cur l : Str), ∀ w ∈ Lib.fieldsGoD f cur l, w.length ≤ cur.length + l.length
  | 0, cur, l, w, h => by
    rw [Lib.fieldsGoD] at h
    split at h
    · cases h
    · simp at h; subst h; omega
  | f + 1, cur, l, w, h => by
    rw [Lib.fieldsGoD] at h
    split at h
    · split at h
      · cases h
      · simp at h; subst h; omega
    split at h
    · rcases List.mem_append.1 h with h | h
      · split at h
        · cases h
        · simp at h; subst h; omega
      · have := fieldsGoD_len f [] _ w h
        rw [List.length_drop] at this
        simp only [List.length_nil] at this
        omega
    · have := fieldsGoD_len f _ _ w h
      rw [List.length_drop, List.length_append, List.length_take] at this
      omega
theorem fields_len (l w : Str) (h : w ∈ Lib.fieldsD l) : w.length ≤ l.length := by
  have := fieldsGoD_len _ [] l w h
  simpa using this
theorem text_len (s : Str) : (textV s).s.length ≤ 100000000000000 := by
  unfold textV
  split
  · rename_i h
    have hs : (s.length : Int) ≤ 16384 := by
      by_cases h2 : 16384 < (s.length : Int)
      · rw [show lexS s = ⟨[], 0, 200⟩ by unfold lexS; rw [if_pos h2]] at h; exact absurd h.1 (by decide)
      · omega
    have hsum := lexS_sum (s := s) (by omega)
    cases hh : (lexS s).l with
    | nil => simp
    | cons t r =>
      rw [hh] at hsum
      simp [sumW] at hsum ⊢
      omega
  · simp [v0]
theorem guess_str (s : Str) : (guessV s).s.length ≤ 100000000000000 := by
  unfold guessV
  split; · simp
  split; · simp
  split; · exact text_len s
  split
  · unfold listV; split <;> simp [v0]
  · unfold intV; split <;> simp [v0]
theorem read_no (h : ¬ (showV (guessV s) = s ∧ s ≠ [])) : (v0, (300 : Int)) = readV s := by unfold readV; rw [if_neg h]
theorem read_yes (h : showV (guessV s) = s) (h2 : ¬ s = []) : (guessV s, (0 : Int)) = readV s := by unfold readV; rw [if_pos ⟨h, h2⟩]
/-! ### the reference's -/
theorem rshow_next0 {l : List Int} {x : Int} {q : Str} (k0 : 0 ≤ k) (hx : l[k.toNat]? = some x) (hk : ¬ 0 < k) (h : q = [91] ++ Lib.join ((l.take k.toNat).map Lib.itoa) [32]) : q ++ Lib.itoa x = [91] ++ Lib.join ((l.take (k + 1).toNat).map Lib.itoa) [32] := by
  obtain rfl : k = 0 := by omega
  rw [h, map_take_snoc (by decide) hx, join_snoc]
  simp [Lib.join_nil]
theorem rshow_next1 {l : List Int} {x : Int} {q : Str} (k0 : 0 ≤ k) (hx : l[k.toNat]? = some x) (hk : 0 < k) (h : q = [91] ++ Lib.join ((l.take k.toNat).map Lib.itoa) [32]) : (q ++ [32]) ++ Lib.itoa x = [91] ++ Lib.join ((l.take (k + 1).toNat).map Lib.itoa) [32] := by
  have hlt := ix_lt hx
  rw [h, map_take_snoc k0 hx, join_snoc, if_neg (by
    intro e
    have := congrArg List.length e
    rw [List.length_map, List.length_take, List.length_nil] at this; omega)]
  simp
theorem u8_is {c : UInt8} (p : UInt8) : ((c.toNat : Int) = (p.toNat : Int)) ↔ c = p := ⟨fun h => UInt8.toNat_inj.1 (by omega), fun h => by rw [h]⟩
theorem sep_1 {a b : Bool} (h : (!a) = true) : (!b) = (!a && !b) := by rw [h]; rfl
theorem sep_2 {a b : Bool} (h : (!a) = false) : false = (!a && !b) := by rw [h]; rfl
theorem sep_T {c : UInt8} (h : (!decide ((c.toNat : Int) = 32) && !decide ((c.toNat : Int) = 93)) = true) : ¬ c = 32 ∧ ¬ c = 93 := by
  simp only [Bool.and_eq_true, Bool.not_eq_true', decide_eq_false_iff_not] at h
  exact ⟨fun e => h.1 ((u8_is 32).2 e), fun e => h.2 ((u8_is 93).2 e)⟩
theorem sep_F {c : UInt8} (h : (!decide ((c.toNat : Int) = 32) && !decide ((c.toNat : Int) = 93)) = false) : ¬ (¬ c = 32 ∧ ¬ c = 93) := by
  rintro ⟨a, b⟩
  have h1 : decide ((c.toNat : Int) = 32) = false := decide_eq_false (fun e => a ((u8_is 32).1 e))
  have h2 : decide ((c.toNat : Int) = 93) = false := decide_eq_false (fun e => b ((u8_is 93).1 e))
  rw [h1, h2] at h
  exact absurd h (by decide)
theorem put_T (h : (!decide (w = []) && decide ((o.length : Int) ≤ 16)) = true) : ¬ w = [] ∧ (o.length : Int) ≤ 16 := by simpa using h
theorem put_F (h : (!decide (w = []) && decide ((o.length : Int) ≤ 16)) = false) : ¬ (¬ w = [] ∧ (o.length : Int) ≤ 16) := by
  rintro ⟨a, b⟩
  rw [decide_eq_false a, decide_eq_true b] at h
  exact absurd h (by decide)
theorem one_byte {c : UInt8} (k0 : 0 ≤ k) (hc : s[k.toNat]? = some c) : (s.take (k + 1).toNat).drop k.toNat = [c] := by
  rw [show (k + 1).toNat = k.toNat + 1 by omega, List.drop_take, show k.toNat + 1 - k.toNat = 1 by omega, drop_of hc]; rfl
theorem or_1 {a b : Prop} [Decidable a] [Decidable b] (h : decide a = true) : true = (decide a || decide b) := by rw [h]; rfl
theorem or_2 {a b : Prop} [Decidable a] [Decidable b] (h : decide a = false) : decide b = (decide a || decide b) := by rw [h]; rfl
theorem hd_0 {c : UInt8} (h : (!decide (s = [])) = false) : false = decide (s.head? = some c) := by
  have : s = [] := by simpa using h
  subst this; rfl
theorem hd_1 {c p : UInt8} {z : Int} (hc : s[(0 : Int).toNat]? = some c) (hz : z = (p.toNat : Int)) : decide ((c.toNat : Int) = z) = decide (s.head? = some p) := by
  subst hz
  have e : s.head? = some c := by
    cases s with
    | nil => cases hc
    | cons x r => simpa using hc
  rw [e]
  refine decide_eq_decide.2 ⟨fun h => ?_, fun h => ?_⟩
  · rw [UInt8.toNat_inj.1 (by omega : c.toNat = p.toNat)]
  · rw [Option.some.inj h]
theorem hd_pos {p : UInt8} (h : decide (s.head? = some p) = true) : 0 < (s.length : Int) := by
  cases s with
  | nil => exact absurd h (by simp)
  | cons x r => simp
theorem tail_nil {r : Str} (h : (s.length : Int) - r.length = s.length) : r = [] := by
  cases r with
  | nil => rfl
  | cons x r => simp at h; omega
theorem rr_none (h : guessR s = none) : (v0, (300 : Int)) = readR s := by unfold readR; rw [h]
theorem rr_bad {v : Val} (h : guessR s = some v) (hs : ¬ showV v = s) : (v0, (300 : Int)) = readR s := by unfold readR; rw [h]; simp only; rw [if_neg hs]
theorem rr_ok {v : Val} (h : guessR s = some v) (hs : showV v = s) : (v, (0 : Int)) = readR s := by unfold readR; rw [h]; simp only; rw [if_pos hs]
section
variable {t r : Str} (h1 : (decide (s = [116, 114, 117, 101]) || decide (s = [102, 97, 108, 115, 101])) = false) (h2 : decide (s.head? = some 34) = false) (h2' : decide (s.head? = some 34) = true) (h3 : decide (s.head? = some 91) = false)
theorem gr_b1 (h : s = [116, 114, 117, 101]) : guessR s = some ⟨2, 1, [], []⟩ := by subst h; rfl
theorem gr_b0 (h1 : (decide (s = [116, 114, 117, 101]) || decide (s = [102, 97, 108, 115, 101])) = true) (h : ¬ s = [116, 114, 117, 101]) : guessR s = some ⟨2, 0, [], []⟩ := by
  have : s = [102, 97, 108, 115, 101] := by simpa [h] using h1
  subst this; rfl
include h1
theorem gr_not : ¬ (s = [116, 114, 117, 101] ∨ s = [102, 97, 108, 115, 101]) := by simpa using h1
include h2'
theorem gr_q0 (hq : quoteL (s.drop ((0 : Int) + 1).toNat) = none) : guessR s = none := by
  unfold guessR
  rw [if_neg (gr_not h1), if_pos (of_decide_eq_true h2')]
  rw [show ((0 : Int) + 1).toNat = 1 from rfl] at hq
  rw [hq]
theorem gr_q1 (hq : quoteL (s.drop ((0 : Int) + 1).toNat) = some (t, r)) (hr : ¬ r = []) : guessR s = none := by
  unfold guessR
  rw [if_neg (gr_not h1), if_pos (of_decide_eq_true h2')]
  rw [show ((0 : Int) + 1).toNat = 1 from rfl] at hq
  rw [hq]; simp only; rw [if_neg hr]
theorem gr_q (hq : quoteL (s.drop ((0 : Int) + 1).toNat) = some (t, r)) (hr : r = []) : guessR s = some ⟨3, 0, t, []⟩ := by
  unfold guessR
  rw [if_neg (gr_not h1), if_pos (of_decide_eq_true h2')]
  rw [show ((0 : Int) + 1).toNat = 1 from rfl] at hq
  rw [hq]; simp only; rw [if_pos hr]
omit h2'
include h2
theorem gr_l (h3 : decide (s.head? = some 91) = true) : guessR s = some ⟨4, 0, [], rl s⟩ := by
  unfold guessR
  rw [if_neg (gr_not h1), if_neg (of_decide_eq_false h2), if_pos (of_decide_eq_true h3)]
include h3
theorem gr_u (h : s = [117, 110, 105, 116]) : guessR s = some v0 := by
  unfold guessR
  rw [if_neg (gr_not h1), if_neg (of_decide_eq_false h2), if_neg (of_decide_eq_false h3), if_pos h]
theorem gr_i (h : ¬ s = [117, 110, 105, 116]) : guessR s = some ⟨1, intR s, [], []⟩ := by
  unfold guessR
  rw [if_neg (gr_not h1), if_neg (of_decide_eq_false h2), if_neg (of_decide_eq_false h3), if_neg h]
end
end
end Go.Sx
