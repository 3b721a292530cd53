import Derived.Test.YtmlgpjficicagaaDoorPureNu
import Derived.Test.YtmlgpjficicagaaDoorPureLq
set_option linter.unusedVariables false
set_option linter.unusedSimpArgs false
namespace Go.Sx
open Go
/-! ## the lexers' loops -/
theorem u8_int (c : UInt8) : (!decide ((c.toNat : Int) = 10)) = !decide (c = 10) := by
  have := u8_all (p := fun c => decide ((!decide ((c.toNat : Int) = 10)) = !decide (c = 10))) (by decide +kernel) c
  exact of_decide_eq_true this
theorem runL_at_cons {p : UInt8 → Bool} {s : Str} {k : Int} {c : UInt8} (h0 : 0 ≤ k) (hc : s[k.toNat]? = some c) : runL p (s.drop k.toNat) = if p c then runL p (s.drop (k + 1).toNat) + 1 else 0 := by
  rw [drop_at h0 hc]; rfl
theorem runL_next {p : UInt8 → Bool} {s : Str} {a k : Int} {c : UInt8} (h : a ≤ k) (h0 : 0 ≤ a) (hc : s[k.toNat]? = some c) (hp : p c = true) (hI : a + (runL p (s.drop a.toNat) : Int) = k + runL p (s.drop k.toNat)) :
    a + (runL p (s.drop a.toNat) : Int) = (k + 1) + runL p (s.drop (k + 1).toNat) := by
  rw [hI, runL_at_cons (by omega) hc, if_pos hp]; push_cast; omega
theorem runL_none {p : UInt8 → Bool} {s : Str} {k : Int} (h : ¬ k < s.length) : runL p (s.drop k.toNat) = 0 := by
  rw [drop_end h]; rfl
theorem runL_hit {p : UInt8 → Bool} {s : Str} {k : Int} {c : UInt8} (h0 : 0 ≤ k) (hc : s[k.toNat]? = some c) (hp : p c = false) : runL p (s.drop k.toNat) = 0 := by
  rw [runL_at_cons h0 hc, if_neg (by simp [hp])]
theorem run_stop {x k : Int} {m : Nat} (h : x = k + m) (hm : m = 0) : x = k := by omega
theorem runL_all' {p : UInt8 → Bool} : ∀ {s : Str}, s.all p = true → runL p s = s.length
  | [], _ => rfl
  | c :: s, h => by
    simp only [List.all_cons, Bool.and_eq_true] at h
    simp [runL, h.1, runL_all' h.2]
theorem closed_12 {t : Token} (h : t.kind = 1 ∨ t.kind = 2) : closedB t = true := by
  rcases h with h | h <;> simp [closedB, h]
/-! ### numerals -/
theorem pos_of {α : Type} {s : List α} (h : ¬ s = []) : (0 : Int) < s.length := by
  have := List.length_pos_iff.2 h; omega
theorem magS_len (s : Str) : (magS s).length ≤ s.length := by unfold magS; split <;> simp
theorem u8_eq {c : UInt8} {n : Nat} (hn : n < 256 := by decide) : ((c.toNat : Int) = n) ↔ c = UInt8.ofNat n := by
  constructor
  · intro h
    apply UInt8.toNat_inj.1
    simp; omega
  · rintro rfl
    simp; omega
theorem head_of {s : Str} {c : UInt8} (hc : s[(0 : Int).toNat]? = some c) : s.head? = some c := by
  cases s with
  | nil => simp at hc
  | cons a s => simpa using hc
theorem magS_T {s : Str} {c : UInt8} (hc : s[(0 : Int).toNat]? = some c) (h : (c.toNat : Int) = 45) : s.drop (1 : Int).toNat = magS s := by
  have := (u8_eq (n := 45)).1 h
  unfold magS
  rw [head_of hc, this]; rfl
theorem magS_F {s : Str} {c : UInt8} (hc : s[(0 : Int).toNat]? = some c) (h : ¬ (c.toNat : Int) = 45) : s = magS s := by
  unfold magS
  rw [head_of hc, if_neg]
  intro e
  exact h ((u8_eq (n := 45)).2 (Option.some.inj e))
theorem magS_N {s : Str} (h : s = []) : s = magS s := by subst h; rfl
section
variable {s d : Str} {c2 : UInt8} (hI : d = magS s)
include hI
theorem num_no1 (h : d = []) : numeralB s = false := by
  unfold numeralB; rw [← hI, h]; rfl
set_option linter.unusedSectionVars false in
theorem all_run : (d.all digitB = true) ↔ (0 : Int) + (runL digitB (d.drop (0 : Int).toNat) : Nat) = d.length := by
  show _ ↔ (0 : Int) + (runL digitB d : Nat) = d.length
  constructor
  · intro h; rw [runL_all' h]; omega
  · intro h
    have := runL_take digitB d
    rwa [show runL digitB d = d.length by omega, List.take_length] at this
theorem num_no2 (h : ¬ (0 : Int) + (runL digitB (d.drop (0 : Int).toNat) : Nat) = d.length) : numeralB s = false := by
  have : d.all digitB = false := by
    cases hx : d.all digitB with
    | false => rfl
    | true => exact absurd ((all_run hI).1 hx) h
  unfold numeralB; rw [← hI, this]; simp
theorem num_no3 (hc2 : d[(0 : Int).toNat]? = some c2) (h : (c2.toNat : Int) = 48) (h2 : (1 : Int) < d.length) : numeralB s = false := by
  have h1 := (u8_eq (n := 48)).1 h
  unfold numeralB; rw [← hI, head_of hc2, h1]
  have : 1 < d.length := by omega
  simp [this]
omit hI in
theorem num_no4 (h : s = [45, 48]) : numeralB s = false := by subst h; decide +kernel
theorem num_is (h1 : ¬ d = []) (h2 : (0 : Int) + (runL digitB (d.drop (0 : Int).toNat) : Nat) = d.length) (h3 : (∃ c, d[(0 : Int).toNat]? = some c ∧ ¬ (c.toNat : Int) = 48) ∨ ¬ (1 : Int) < d.length) (h4 : ¬ s = [45, 48]) : numeralB s = inR s := by
  have ha := (all_run hI).2 h2
  have h0 : d.isEmpty = false := by cases d with | nil => exact absurd rfl h1 | cons => rfl
  have h5 : (decide (d.head? = some 48) && decide (1 < d.length)) = false := by
    rcases h3 with ⟨c, hc, hn⟩ | h3
    · rw [head_of hc]
      have : ¬ c = 48 := fun e => hn ((u8_eq (n := 48)).2 e)
      simp [this]
    · have : ¬ 1 < d.length := by omega
      simp [this]
  unfold numeralB; rw [← hI, ha, h0, h5]; simp [h4]
theorem num_T {n : Int} (h1 : ¬ d = []) (h2 : (0 : Int) + (runL digitB (d.drop (0 : Int).toNat) : Nat) = d.length) (h3 : (∃ c, d[(0 : Int).toNat]? = some c ∧ ¬ (c.toNat : Int) = 48) ∨ ¬ (1 : Int) < d.length) (h4 : ¬ s = [45, 48]) (hp : Lib.parseIntB 64 s = .ok n) : numeralB s = true := by
  rw [num_is hI h1 h2 h3 h4]
  have ha := (all_run hI).2 h2
  rw [hI] at h1 ha
  rcases parse_num h1 ha with ⟨v, _, h⟩ | ⟨hr, _⟩
  · exact h
  · rw [hr] at hp; cases hp
theorem num_F (h1 : ¬ d = []) (h2 : (0 : Int) + (runL digitB (d.drop (0 : Int).toNat) : Nat) = d.length) (h3 : (∃ c, d[(0 : Int).toNat]? = some c ∧ ¬ (c.toNat : Int) = 48) ∨ ¬ (1 : Int) < d.length) (h4 : ¬ s = [45, 48]) (hp : ∀ n, Lib.parseIntB 64 s ≠ .ok n) : numeralB s = false := by
  rw [num_is hI h1 h2 h3 h4]
  have ha := (all_run hI).2 h2
  rw [hI] at h1 ha
  rcases parse_num h1 ha with ⟨v, hv, _⟩ | ⟨_, h⟩
  · exact absurd hv (hp v)
  · exact h
end
/-! ### signs -/
def sgI (n : Int) : Bool := (decide (n = 40) || (decide (n = 41) || (decide (n = 123) || (decide (n = 125) || (decide (n = 44) || (decide (n = 59) || (decide (n = 58) || (decide (n = 46) || (decide (n = 61) || (decide (n = 60) || (decide (n = 43) || (decide (n = 45) || (decide (n = 42) || decide (n = 47))))))))))))))
theorem sgI_eq (c : UInt8) : sgI c.toNat = oneSign c := by
  have := u8_all (p := fun c => decide (sgI c.toNat = oneSign c)) (by decide +kernel) c
  exact of_decide_eq_true this
theorem two_take {s : Str} {k : Int} {c : UInt8} (h0 : 0 ≤ k) (m : Int) (hm : 0 ≤ m) : (s.take (k + m).toNat).drop k.toNat = (s.drop k.toNat).take m.toNat := by
  rw [List.drop_take, show (k + m).toNat - k.toNat = m.toNat by omega]
theorem sg_two {s : Str} {k : Int} {c : UInt8} (h0 : 0 ≤ k) (hc : s[k.toNat]? = some c) (h1 : k + 1 < s.length) (h : (decide ((s.take (k + 2).toNat).drop k.toNat = [61, 61]) || decide ((s.take (k + 2).toNat).drop k.toNat = [45, 62])) = true) :
    (s.take (k + 2).toNat).drop k.toNat = (s.drop k.toNat).take (signL (s.drop k.toNat)) := by
  rw [two_take (c := c) h0 2 (by decide)] at h ⊢
  rw [drop_at h0 hc] at h ⊢
  have : signL (c :: s.drop (k + 1).toNat) = 2 := by
    rw [signL_cons, if_pos]
    cases hd : s.drop (k + 1).toNat with
    | nil => rw [hd] at h; simp at h
    | cons x r =>
      rw [hd] at h
      simp only [show (2 : Int).toNat = 2 from rfl, List.take_succ_cons, List.take_zero, List.cons.injEq, and_true, Bool.or_eq_true, decide_eq_true_eq] at h
      rcases h with ⟨h1, h2⟩ | ⟨h1, h2⟩
      · exact .inl ⟨h1, by rw [h2]; rfl⟩
      · exact .inr ⟨h1, by rw [h2]; rfl⟩
  rw [this]; rfl
theorem sg_not {s : Str} {k : Int} {c : UInt8} (h0 : 0 ≤ k) (hc : s[k.toNat]? = some c) (h : (¬ k + 1 < s.length) ∨ (decide ((s.take (k + 2).toNat).drop k.toNat = [61, 61]) || decide ((s.take (k + 2).toNat).drop k.toNat = [45, 62])) = false) :
    signL (s.drop k.toNat) = if oneSign c then 1 else 0 := by
  rw [drop_at h0 hc, signL_cons, if_neg]
  intro hx
  rcases h with h | h
  · rw [drop_end h] at hx; simp at hx
  · rw [two_take (c := c) h0 2 (by decide), drop_at h0 hc] at h
    cases hd : s.drop (k + 1).toNat with
    | nil => rw [hd] at hx; simp at hx
    | cons x r =>
      rw [hd] at h hx
      simp only [List.head?_cons, Option.some.injEq] at hx
      rcases hx with ⟨rfl, rfl⟩ | ⟨rfl, rfl⟩ <;> simp at h
theorem sg_one {s : Str} {k : Int} {c : UInt8} (h0 : 0 ≤ k) (hc : s[k.toNat]? = some c) (h : (¬ k + 1 < s.length) ∨ (decide ((s.take (k + 2).toNat).drop k.toNat = [61, 61]) || decide ((s.take (k + 2).toNat).drop k.toNat = [45, 62])) = false) (hs : sgI c.toNat = true) :
    (s.take (k + 1).toNat).drop k.toNat = (s.drop k.toNat).take (signL (s.drop k.toNat)) := by
  rw [sg_not h0 hc h, ← sgI_eq, if_pos hs, two_take (c := c) h0 1 (by decide)]; rfl
theorem sg_none {s : Str} {k : Int} {c : UInt8} (h0 : 0 ≤ k) (hc : s[k.toNat]? = some c) (h : (¬ k + 1 < s.length) ∨ (decide ((s.take (k + 2).toNat).drop k.toNat = [61, 61]) || decide ((s.take (k + 2).toNat).drop k.toNat = [45, 62])) = false) (hs : sgI c.toNat = false) :
    [] = (s.drop k.toNat).take (signL (s.drop k.toNat)) := by
  rw [sg_not h0 hc h, ← sgI_eq, hs]; rfl
/-! ### quotes -/
def behindC (s : Str) (i : Int) : UInt8 := (s[i.toNat]?).getD 0
theorem behind_at {s : Str} {i : Int} {c : UInt8} (h : s[i.toNat]? = some c) : behindC s i = c := by unfold behindC; rw [h]; rfl
theorem behind_no {s : Str} {i : Int} (h0 : 0 ≤ i) (h : ¬ i < s.length) : behindC s i = 0 := by
  unfold behindC; rw [List.getElem?_eq_none (by omega)]; rfl
theorem behind_some {s : Str} {i : Int} (h : behindC s i ≠ 0) : ∃ e, s[i.toNat]? = some e ∧ behindC s i = e := by
  unfold behindC at h ⊢
  cases hx : s[i.toNat]? with
  | none => rw [hx] at h; exact absurd rfl h
  | some e => exact ⟨e, rfl, rfl⟩
theorem behind_is {s : Str} {i : Int} {n : Nat} (h : ((behindC s i).toNat : Int) = n) (hn : n < 256 := by decide) (h0 : UInt8.ofNat n ≠ 0 := by decide) : ∃ e, s[i.toNat]? = some e ∧ e = UInt8.ofNat n := by
  have h1 := (u8_eq hn).1 h
  obtain ⟨e, h2, h3⟩ := behind_some (s := s) (i := i) (by rw [h1]; exact h0)
  exact ⟨e, h2, by rw [← h3, h1]⟩
theorem behind_or {s : Str} {i : Int} (h : (decide (((behindC s i).toNat : Int) = 34) || decide (((behindC s i).toNat : Int) = 92)) = true) : ∃ e, s[i.toNat]? = some e ∧ (e = 34 ∨ e = 92) := by
  simp only [Bool.or_eq_true, decide_eq_true_eq] at h
  rcases h with h | h
  · obtain ⟨e, h1, h2⟩ := behind_is (n := 34) h; exact ⟨e, h1, .inl h2⟩
  · obtain ⟨e, h1, h2⟩ := behind_is (n := 92) h; exact ⟨e, h1, .inr h2⟩
theorem behind_hex {s : Str} {i : Int} (h : hexB (behindC s i) = true) : ∃ e, s[i.toNat]? = some e ∧ behindC s i = e :=
  behind_some (by intro e; rw [e] at h; exact absurd h (by decide))
theorem ix_lt {α : Type} {s : List α} {i : Int} {e : α} (h : s[i.toNat]? = some e) : i < s.length := by
  have := (List.getElem?_eq_some_iff.1 h).1; omega
theorem plain_1 {c : UInt8} (h : decide ((c.toNat : Int) < 32) = true) : true = !plainB c := by
  have := of_decide_eq_true h
  unfold plainB
  have : ¬ 32 ≤ c.toNat := by omega
  simp [this]
theorem plain_2 {c : UInt8} (h : decide ((c.toNat : Int) < 32) = false) : decide ((126 : Int) < c.toNat) = !plainB c := by
  have := of_decide_eq_false h
  unfold plainB
  have h2 : 32 ≤ c.toNat := by omega
  by_cases h3 : c.toNat ≤ 126
  · have : ¬ (126 : Int) < c.toNat := by omega
    simp [h2, h3, this]
  · have : (126 : Int) < c.toNat := by omega
    simp [h2, h3, this]
def quoteV (s : Str) (q : Option (Str × Str)) : Value := match q with
  | none => .tuple #[gs [], .int .i64 0, .bool false]
  | some (t, r) => .tuple #[gs t, .int .i64 ((s.length : Int) - r.length), .bool true]
section
variable {s : Str} {k : Int} {c e a b : UInt8} {o : Str} {Q : Option (Str × Str)}
theorem q_plain (k0 : 0 ≤ k) (hc : s[k.toNat]? = some c) (h1 : ¬ (c.toNat : Int) = 34) (h2 : ¬ (c.toNat : Int) = 92) (h3 : (!plainB c) = false) (hq : Q = pre o (quoteL (s.drop k.toNat))) : Q = pre (o ++ [c]) (quoteL (s.drop (k + 1).toNat)) := by
  rw [drop_at k0 hc, quoteL_plain (fun e => h1 ((u8_eq (n := 34)).2 e)) (fun e => h2 ((u8_eq (n := 92)).2 e)), if_pos (by simpa using h3), pre_pre] at hq
  exact hq
theorem q_esc (k0 : 0 ≤ k) (hc : s[k.toNat]? = some c) (h2 : (c.toNat : Int) = 92) (he : s[(k + 1).toNat]? = some e) (h : e = 34 ∨ e = 92) (hq : Q = pre o (quoteL (s.drop k.toNat))) : Q = pre (o ++ [e]) (quoteL (s.drop (k + 1 + 1).toNat)) := by
  rw [drop_at k0 hc, drop_at (by omega) he, (u8_eq (n := 92)).1 h2, show (UInt8.ofNat 92) = 92 from rfl, quoteL_esc h, pre_pre] at hq
  exact hq
theorem q_n (k0 : 0 ≤ k) (hc : s[k.toNat]? = some c) (h2 : (c.toNat : Int) = 92) (he : s[(k + 1).toNat]? = some e) (h : e = UInt8.ofNat 110) (hq : Q = pre o (quoteL (s.drop k.toNat))) : Q = pre (o ++ [10]) (quoteL (s.drop (k + 1 + 1).toNat)) := by
  rw [drop_at k0 hc, drop_at (by omega) he, (u8_eq (n := 92)).1 h2, h, show (UInt8.ofNat 92) = 92 from rfl, show (UInt8.ofNat 110) = 110 from rfl, quoteL_n, pre_pre] at hq
  exact hq
theorem q_x (k0 : 0 ≤ k) (hc : s[k.toNat]? = some c) (h2 : (c.toNat : Int) = 92) (he : s[(k + 1).toNat]? = some e) (h : e = UInt8.ofNat 120) (ha : s[(k + 1 + 1).toNat]? = some a) (hb : s[(k + 1 + 2).toNat]? = some b) (h3 : hexB a = true) (h4 : hexB b = true) (hq : Q = pre o (quoteL (s.drop k.toNat))) :
    Q = pre (o ++ [16 * worthB a + worthB b]) (quoteL (s.drop (k + 1 + 2 + 1).toNat)) := by
  rw [show k + 1 + 2 = k + 1 + 1 + 1 by omega] at hb ⊢
  rw [drop_at k0 hc, drop_at (by omega) he, drop_at (by omega) ha, drop_at (by omega) hb, (u8_eq (n := 92)).1 h2, h, show (UInt8.ofNat 92) = 92 from rfl, show (UInt8.ofNat 120) = 120 from rfl, quoteL_x, h3, h4] at hq
  simp only [Bool.and_self, if_true] at hq
  rw [pre_pre] at hq
  exact hq
theorem q_end (k0 : 0 ≤ k) (hc : s[k.toNat]? = some c) (h : (c.toNat : Int) = 34) (hq : Q = pre o (quoteL (s.drop k.toNat))) : .tuple #[gs o, .int .i64 (k + 1), .bool true] = quoteV s Q := by
  have hl := ix_lt hc
  rw [drop_at k0 hc, (u8_eq (n := 34)).1 h, show (UInt8.ofNat 34) = 34 from rfl, quoteL_q] at hq
  subst hq
  simp only [pre, Option.map_some, quoteV, List.append_nil, List.length_drop]
  have e : (s.length : Int) - ((s.length - (k + 1).toNat : Nat) : Int) = k + 1 := by omega
  rw [e]
theorem q_none (h : Q = none) : .tuple #[gs [], .int .i64 0, .bool false] = quoteV s Q := by subst h; rfl
theorem q_out (h : ¬ k < s.length) (hq : Q = pre o (quoteL (s.drop k.toNat))) : Q = none := by
  rw [drop_end h] at hq; exact hq
theorem q_badc (k0 : 0 ≤ k) (hc : s[k.toNat]? = some c) (h1 : ¬ (c.toNat : Int) = 34) (h2 : ¬ (c.toNat : Int) = 92) (h3 : (!plainB c) = true) (hq : Q = pre o (quoteL (s.drop k.toNat))) : Q = none := by
  rw [drop_at k0 hc, quoteL_plain (fun e => h1 ((u8_eq (n := 34)).2 e)) (fun e => h2 ((u8_eq (n := 92)).2 e)), if_neg (by simpa using h3)] at hq
  exact hq
theorem q_bad0 (k0 : 0 ≤ k) (hc : s[k.toNat]? = some c) (h2 : (c.toNat : Int) = 92) (h3 : (decide (((behindC s (k + 1)).toNat : Int) = 34) || decide (((behindC s (k + 1)).toNat : Int) = 92)) = false) (h4 : ¬ ((behindC s (k + 1)).toNat : Int) = 110) (h5 : ¬ ((behindC s (k + 1)).toNat : Int) = 120)
    (hq : Q = pre o (quoteL (s.drop k.toNat))) : Q = none := by
  rw [drop_at k0 hc, (u8_eq (n := 92)).1 h2, show (UInt8.ofNat 92) = 92 from rfl] at hq
  cases hx : s[(k + 1).toNat]? with
  | none =>
    have hl := List.getElem?_eq_none_iff.1 hx
    rw [List.drop_eq_nil_of_le hl, quoteL_0] at hq
    exact hq
  | some e =>
    rw [behind_at hx] at h3 h4 h5
    simp only [Bool.or_eq_false_iff, decide_eq_false_iff_not] at h3
    rw [drop_at (by omega) hx, quoteL_no (by rintro (e | e); exact h3.1 ((u8_eq (n := 34)).2 e); exact h3.2 ((u8_eq (n := 92)).2 e)) (fun e => h4 ((u8_eq (n := 110)).2 e)) (fun e => h5 ((u8_eq (n := 120)).2 e))] at hq
    exact hq
theorem q_badx (k0 : 0 ≤ k) (hc : s[k.toNat]? = some c) (h2 : (c.toNat : Int) = 92) (he : s[(k + 1).toNat]? = some e) (h : e = UInt8.ofNat 120) (hx : (hexB (behindC s (k + 1 + 1)) && hexB (behindC s (k + 1 + 2))) = false) (hq : Q = pre o (quoteL (s.drop k.toNat))) : Q = none := by
  rw [show k + 1 + 2 = k + 1 + 1 + 1 by omega] at hx
  rw [drop_at k0 hc, drop_at (by omega) he, (u8_eq (n := 92)).1 h2, h, show (UInt8.ofNat 92) = 92 from rfl, show (UInt8.ofNat 120) = 120 from rfl] at hq
  cases h1 : s[(k + 1 + 1).toNat]? with
  | none =>
    have hl := List.getElem?_eq_none_iff.1 h1
    rw [List.drop_eq_nil_of_le hl, quoteL_x0] at hq
    exact hq
  | some a =>
    rw [drop_at (by omega) h1] at hq
    cases h2 : s[(k + 1 + 1 + 1).toNat]? with
    | none =>
      have hl := List.getElem?_eq_none_iff.1 h2
      rw [List.drop_eq_nil_of_le hl, quoteL_x1] at hq
      exact hq
    | some b =>
      rw [behind_at h1, behind_at h2] at hx
      rw [drop_at (by omega) h2, quoteL_x, hx] at hq
      exact hq
end
end Go.Sx
