import Derived.Test.YtmlgpjficicagaaDoorPureLw
set_option linter.unusedVariables false
set_option linter.unusedSimpArgs false
namespace Go.Sx
open Go
/-! ## the reference's lexer -/
def endsB (t : Token) : Bool := if t.kind = 0 then !keywordB t.text else if t.kind = 1 then true else if t.kind = 2 then true else decide (t.kind = 3) && decide (t.text = [41])
theorem ends_12 {t : Token} (h : t.kind = 1 ∨ t.kind = 2) : endsB t = true := by rcases h with h | h <;> simp [endsB, h]
theorem endsB_eq {t : Token} (h : 0 ≤ t.kind ∧ t.kind ≤ 3) : endsB t = closedB t := by
  unfold endsB closedB
  split
  · rfl
  split
  · rfl
  split
  · rfl
  · have : t.kind = 3 := by omega
    simp [this]
theorem wrap_u8 (d : UInt8) : IntKind.i64.wrap (d.toNat : Int) = (d.toNat : Int) := by
  have := d.toNat_lt
  exact wrap64_in (by omega) (by omega)
def hexI (c : UInt8) : Int := if digitB c then ((c - 48).toNat : Int) else if decide ((97 : Int) ≤ c.toNat) && decide ((c.toNat : Int) ≤ 102) then ((c - 97).toNat : Int) + 10 else -1
section
variable {c a b d e : UInt8} {w : Bool} {p : UInt8 → Bool} {s o : Str} {k : Int} {Q : Option (Str × Str)}
theorem hexI_1 (h : digitB c = true) : hexI c = ((c - 48).toNat : Int) := by unfold hexI; rw [if_pos h]
theorem hexI_2 (h : digitB c = false) (h2 : (decide ((97 : Int) ≤ c.toNat) && decide ((c.toNat : Int) ≤ 102)) = true) : hexI c = ((c - 97).toNat : Int) + 10 := by unfold hexI; rw [if_neg (by simp [h]), if_pos h2]
theorem hexI_3 (h : digitB c = false) (h2 : (decide ((97 : Int) ≤ c.toNat) && decide ((c.toNat : Int) ≤ 102)) = false) : hexI c = -1 := by unfold hexI; rw [if_neg (by simp [h]), if_neg (by rw [h2]; decide)]
theorem hexI_all (c : UInt8) : (if hexB c then decide (hexI c = (worthB c).toNat) && decide (hexI c ≤ 15) else decide (hexI c = -1)) = true :=
  u8_all (p := fun c => if hexB c then decide (hexI c = (worthB c).toNat) && decide (hexI c ≤ 15) else decide (hexI c = -1)) (by decide +kernel) c
theorem hexI_ok (h : hexB c = true) : hexI c = (worthB c).toNat ∧ 0 ≤ hexI c ∧ hexI c ≤ 15 := by
  have := hexI_all c
  rw [if_pos h] at this
  simp only [Bool.and_eq_true, decide_eq_true_eq] at this
  omega
theorem hexI_no (h : hexI c < 0) : hexB c = false := by
  cases hx : hexB c with
  | false => rfl
  | true => have := hexI_ok hx; omega
theorem hexI_yes (h : ¬ hexI c < 0) : hexB c = true := by
  cases hx : hexB c with
  | true => rfl
  | false =>
    have := hexI_all c
    rw [hx] at this
    simp at this; omega
theorem hex_both (h1 : ¬ hexI a < 0) (h2 : ¬ hexI b < 0) : hexB a = true ∧ hexB b = true := ⟨hexI_yes h1, hexI_yes h2⟩
theorem hex_byte (h1 : hexB a = true) (h2 : hexB b = true) : IntKind.u8.wrap (16 * hexI a + hexI b) = ((16 * worthB a + worthB b).toNat : Int) := by
  rw [(hexI_ok h1).1, (hexI_ok h2).1]
  simp only [IntKind.wrap, IntKind.signed, IntKind.bits, UInt8.toNat_add, UInt8.toNat_mul]
  simp
theorem rp_1 (hp : ∀ c : UInt8, p c = (digitB c || (w && letterB c))) (h : digitB c = true) : p c = true := by rw [hp, h]; rfl
theorem rp_2 (hp : ∀ c : UInt8, p c = (digitB c || (w && letterB c))) (h : w = true) (h2 : letterB c = true) : p c = true := by rw [hp, h, h2]; simp
theorem rp_3 (hp : ∀ c : UInt8, p c = (digitB c || (w && letterB c))) (h : digitB c = false) (h2 : w = false) : p c = false := by rw [hp, h, h2]; rfl
theorem rp_4 (hp : ∀ c : UInt8, p c = (digitB c || (w && letterB c))) (h : digitB c = false) (h2 : letterB c = false) : p c = false := by rw [hp, h, h2]; simp
theorem nameC_or (c : UInt8) : nameC c = (digitB c || (true && letterB c)) := by unfold nameC; rw [Bool.true_and, Bool.or_comm]
/-! ### signs -/
def sgL : Str := [40, 41, 123, 125, 44, 59, 58, 46, 61, 60, 43, 45, 42, 47]
theorem sg_no (h : (decide (k + 1 < s.length) && (decide ((s.take (k + 2).toNat).drop k.toNat = [61, 61]) || decide ((s.take (k + 2).toNat).drop k.toNat = [45, 62]))) = false) : (¬ k + 1 < s.length) ∨ (decide ((s.take (k + 2).toNat).drop k.toNat = [61, 61]) || decide ((s.take (k + 2).toNat).drop k.toNat = [45, 62])) = false := by
  rcases Bool.and_eq_false_iff.1 h with h | h
  · exact .inl (of_decide_eq_false h)
  · exact .inr h
theorem sg_r2 (h0 : 0 ≤ k) (hc : s[k.toNat]? = some c) (h : (decide (k + 1 < s.length) && (decide ((s.take (k + 2).toNat).drop k.toNat = [61, 61]) || decide ((s.take (k + 2).toNat).drop k.toNat = [45, 62]))) = true) : ((signL (s.drop k.toNat) : Nat) : Int) = 2 := by
  simp only [Bool.and_eq_true, decide_eq_true_eq] at h
  have := sg_two h0 hc h.1 h.2
  have hl := congrArg List.length this
  rw [two_take (c := c) h0 2 (by decide)] at hl
  have h1 := signL_le (s.drop k.toNat)
  simp only [List.length_take, List.length_drop] at hl h1
  have : (2 : Int).toNat = 2 := rfl
  omega
theorem sg_r1 {g : UInt8} (h0 : 0 ≤ k) (hc : s[k.toNat]? = some c) (hno : (¬ k + 1 < s.length) ∨ (decide ((s.take (k + 2).toNat).drop k.toNat = [61, 61]) || decide ((s.take (k + 2).toNat).drop k.toNat = [45, 62])) = false) {j : Int} (hg : sgL[j.toNat]? = some g) (he : (g.toNat : Int) = c.toNat) : ((signL (s.drop k.toNat) : Nat) : Int) = 1 := by
  have e : g = c := UInt8.toNat_inj.1 (by omega)
  have : oneSign c = true := by rw [← e]; unfold oneSign; exact List.contains_iff_mem.2 (List.mem_of_getElem? hg)
  rw [sg_not h0 hc hno, if_pos this]; rfl
theorem sg_r0 (h0 : 0 ≤ k) (hc : s[k.toNat]? = some c) (hno : (¬ k + 1 < s.length) ∨ (decide ((s.take (k + 2).toNat).drop k.toNat = [61, 61]) || decide ((s.take (k + 2).toNat).drop k.toNat = [45, 62])) = false) {j : Int} (hj : ¬ j < (sgL.length : Nat)) (j0 : 0 ≤ j) (hn : c ∉ sgL.take j.toNat) : ((signL (s.drop k.toNat) : Nat) : Int) = 0 := by
  rw [take_all hj j0] at hn
  have : oneSign c = false := by
    cases hx : oneSign c with
    | false => rfl
    | true => unfold oneSign at hx; exact absurd (List.contains_iff_mem.1 hx) hn
  rw [sg_not h0 hc hno, if_neg (by simp [this])]; rfl
theorem sg_next {g : UInt8} (k0 : 0 ≤ k) (hg : sgL[k.toNat]? = some g) (hne : ¬ (g.toNat : Int) = c.toNat) (hn : c ∉ sgL.take k.toNat) : c ∉ sgL.take (k + 1).toNat := by
  rw [take_snoc k0 hg]
  simp only [List.mem_append, List.mem_singleton]
  rintro (h | h)
  · exact hn h
  · subst h; exact hne rfl
/-! ### numerals -/
theorem u64_in {n : Int} (h0 : 0 ≤ n) (h1 : n < 18446744073709551616) : IntKind.u64.wrap n = n := by
  simp only [IntKind.wrap, IntKind.signed, IntKind.bits]
  simp
  omega
theorem sub48 (h : digitB c = true) : (c - 48).toNat = c.toNat - 48 := by
  have := digit_nat h
  rw [UInt8.toNat_sub]
  simp
  omega
theorem u64_step {u : Nat} (h : digitB c = true) (hu : u < 1000000000000000000) : IntKind.u64.wrap ((u : Int) * 10 + ((c - 48).toNat : Int)) = ((stepN u c : Nat) : Int) := by
  have h1 := digit_nat h
  rw [sub48 h, u64_in (by omega) (by omega)]
  unfold stepN
  push_cast
  omega
def NumI (d : Str) (u : Nat) (k : Int) : Prop := u = natS (d.take k.toNat) ∧ (d.take k.toNat).all digitB = true ∧ u < 10 ^ k.toNat
variable {t : Str} {u : Nat} {x : UInt8}
theorem NumI.zero : NumI t 0 0 := ⟨rfl, rfl, by decide⟩
theorem NumI.lt (h : NumI t u k) (hk : k ≤ 18) : u < 1000000000000000000 := by
  have h1 := h.2.2
  have h2 : (10 : Nat) ^ k.toNat ≤ 10 ^ 18 := Nat.pow_le_pow_right (by decide) (by omega)
  have h3 : (10 : Nat) ^ 18 = 1000000000000000000 := by decide
  omega
theorem NumI.next (h : NumI t u k) (k0 : 0 ≤ k) (hx : t[k.toNat]? = some x) (hd : digitB x = true) : NumI t (stepN u x) (k + 1) := by
  obtain ⟨h1, h2, h3⟩ := h
  have hn := digit_nat hd
  refine ⟨?_, ?_, ?_⟩
  · rw [take_snoc k0 hx, h1]; simp [natS]
  · rw [take_snoc k0 hx]; simp [h2, hd]
  · rw [toNat_succ k0, Nat.pow_succ]; unfold stepN; omega
def nuBad (s d : Str) : Bool := d.isEmpty || (decide (19 < d.length) || (decide (d.head? = some 48) && decide (1 < s.length)))
theorem nu_ne (h : decide (t = []) = false) : ¬ t = [] := of_decide_eq_false h
theorem isEmpty_F (h : decide (t = []) = false) : t.isEmpty = false := by
  cases t with
  | nil => simp at h
  | cons => rfl
theorem nb_1 (h : decide (t = []) = true) : true = nuBad s t := by have := of_decide_eq_true h; subst this; rfl
theorem nb_2 (h : decide (t = []) = false) (h2 : decide ((19 : Int) < t.length) = true) : true = nuBad s t := by
  have := of_decide_eq_true h2
  have h3 : 19 < t.length := by omega
  unfold nuBad; simp [h3]
theorem nb_3 (h : decide (t = []) = false) (h2 : decide ((19 : Int) < t.length) = false) (hc : t[(0 : Int).toNat]? = some c) (h3 : decide ((c.toNat : Int) = 48) = false) : false = nuBad s t := by
  have h4 : ¬ 19 < t.length := by have := of_decide_eq_false h2; omega
  have h5 : ¬ c = 48 := fun e => of_decide_eq_false h3 ((u8_eq (n := 48)).2 e)
  unfold nuBad; rw [isEmpty_F h, head_of hc]; simp [h4, h5]
theorem nb_4 (h : decide (t = []) = false) (h2 : decide ((19 : Int) < t.length) = false) (hc : t[(0 : Int).toNat]? = some c) (h3 : decide ((c.toNat : Int) = 48) = true) : decide ((1 : Int) < s.length) = nuBad s t := by
  have h4 : ¬ 19 < t.length := by have := of_decide_eq_false h2; omega
  have h5 : c = 48 := (u8_eq (n := 48)).1 (of_decide_eq_true h3)
  unfold nuBad; rw [isEmpty_F h, head_of hc]; simp [h4, h5]; omega
theorem nuBad_F (h : nuBad s t = false) : t.isEmpty = false ∧ t.length ≤ 19 ∧ ¬ (t.head? = some 48 ∧ 1 < s.length) := by
  unfold nuBad at h
  simp only [Bool.or_eq_false_iff, Bool.and_eq_false_iff, decide_eq_false_iff_not] at h
  refine ⟨h.1, by omega, fun hx => ?_⟩
  rcases h.2.2 with h | h
  · exact h hx.1
  · exact h hx.2
theorem natS_ge : ∀ (r : Str) (a m : Nat), r.all digitB = true → m ≤ a → m * 10 ^ r.length ≤ r.foldl stepN a
  | [], a, m, _, h => by simpa using h
  | c :: r, a, m, h, hm => by
    simp only [List.all_cons, Bool.and_eq_true] at h
    have := natS_ge r (stepN a c) (m * 10) h.2 (by unfold stepN; omega)
    simp only [List.foldl_cons, List.length_cons, Nat.pow_succ]
    rw [show m * (10 ^ r.length * 10) = m * 10 * 10 ^ r.length by rw [Nat.mul_assoc, Nat.mul_comm 10]]
    exact this
theorem natS_big (h : t.all digitB = true) (h0 : ¬ t.head? = some 48) (hl : 19 < t.length) : 10000000000000000000 ≤ natS t := by
  cases t with
  | nil => simp at hl
  | cons c r =>
    simp only [List.all_cons, Bool.and_eq_true] at h
    have hc := digit_nat h.1
    have hne : c.toNat ≠ 48 := fun e => h0 (by rw [show c = 48 from UInt8.toNat_inj.1 e]; rfl)
    have h1 := natS_ge r (stepN 0 c) 1 h.2 (by unfold stepN; omega)
    have h2 : (10 : Nat) ^ 19 ≤ 10 ^ r.length := Nat.pow_le_pow_right (by decide) (by simp at hl; omega)
    have h3 : (10 : Nat) ^ 19 = 10000000000000000000 := by decide
    show _ ≤ r.foldl stepN (stepN 0 c)
    omega
theorem nu_bad (hd : t = magS s) (h : nuBad s t = true) : numeralB s = false := by
  cases hx : numeralB s with
  | false => rfl
  | true =>
    exfalso
    unfold numeralB at hx
    rw [← hd] at hx
    simp only [Bool.and_eq_true, Bool.not_eq_true', Bool.and_eq_false_iff, decide_eq_false_iff_not] at hx
    obtain ⟨h1, h2, h3, h4, h5⟩ := hx
    unfold nuBad at h
    rw [h1] at h
    simp only [Bool.false_or, Bool.or_eq_true, decide_eq_true_eq, Bool.and_eq_true] at h
    rcases h with h | ⟨h6, h7⟩
    · by_cases h0 : t.head? = some 48
      · rcases h3 with h3 | h3
        · exact h3 h0
        · omega
      · have hb := natS_big h2 h0 h
        unfold inR at h5
        rw [← hd] at h5
        have := of_decide_eq_true h5
        split at this <;> omega
    · rcases h3 with h3 | h3
      · exact h3 h6
      · -- the numeral is 0 behind a sign
        have hl1 : t.length = 1 := by
          have : t ≠ [] := by rintro rfl; simp at h1
          have := List.length_pos_iff.2 this
          omega
        obtain ⟨y, hy⟩ := List.length_eq_one_iff.1 hl1
        rw [hy] at h6
        simp at h6
        subst h6
        unfold magS at hd
        split at hd
        · rename_i hs
          cases s with
          | nil => simp at hs
          | cons z r =>
            simp at hs hd
            rw [hy] at hd
            subst hs
            exact h4 (by rw [← hd])
        · rw [← hd, hy] at h7; simp at h7
theorem nu_digit (hd : t = magS s) (k0 : 0 ≤ k) (hx : t[k.toNat]? = some x) (h : digitB x = false) : numeralB s = false := by
  have : t.all digitB = false := by
    cases ha : t.all digitB with
    | false => rfl
    | true => have := List.all_eq_true.1 ha x (List.mem_of_getElem? hx); rw [h] at this; cases this
  unfold numeralB; rw [← hd, this]; simp
theorem nu_is (hd : t = magS s) (h1 : t.isEmpty = false) (h2 : ¬ (t.head? = some 48 ∧ 1 < s.length)) (ha : t.all digitB = true) : numeralB s = inR s := by
  have hl : t.length ≤ s.length := by rw [hd]; exact magS_len s
  have h3 : (decide (t.head? = some 48) && decide (1 < t.length)) = false := by
    rw [Bool.and_eq_false_iff]
    by_cases e : t.head? = some 48
    · right; exact decide_eq_false fun e2 => h2 ⟨e, by omega⟩
    · left; exact decide_eq_false e
  have h4 : ¬ s = [45, 48] := by
    rintro rfl
    exact h2 ⟨by rw [hd]; rfl, by simp⟩
  unfold numeralB; rw [← hd, h1, ha, h3]; simp [h4]
theorem nu_neg (hd : t = magS s) (h1 : t.isEmpty = false) (hl : t.length ≤ 19) (h2 : ¬ (t.head? = some 48 ∧ 1 < s.length)) (hN : NumI t u k) (hk : ¬ k < t.length) (k0 : 0 ≤ k) (hm : (t.length : Int) < s.length) : decide ((u : Int) ≤ 9223372036854775808) = numeralB s := by
  obtain ⟨e1, e2, _⟩ := hN
  rw [take_all hk k0] at e1 e2
  rw [nu_is hd h1 h2 e2]
  have hs : s.head? = some 45 := by
    by_cases h : s.head? = some 45
    · exact h
    · unfold magS at hd; rw [if_neg h] at hd; rw [hd] at hm; omega
  unfold inR
  refine decide_eq_decide.2 ?_
  rw [if_pos hs, ← hd, ← e1]
  omega
theorem nu_pos (hd : t = magS s) (h1 : t.isEmpty = false) (hl : t.length ≤ 19) (h2 : ¬ (t.head? = some 48 ∧ 1 < s.length)) (hN : NumI t u k) (hk : ¬ k < t.length) (k0 : 0 ≤ k) (hm : ¬ (t.length : Int) < s.length) : decide ((u : Int) < 9223372036854775808) = numeralB s := by
  obtain ⟨e1, e2, _⟩ := hN
  rw [take_all hk k0] at e1 e2
  rw [nu_is hd h1 h2 e2]
  have hs : ¬ s.head? = some 45 := by
    intro h
    unfold magS at hd; rw [if_pos h] at hd
    have : s ≠ [] := by rintro rfl; simp at h
    have := List.length_pos_iff.2 this
    rw [hd] at hm; simp at hm; omega
  unfold inR
  refine decide_eq_decide.2 ?_
  rw [if_neg hs, ← hd, ← e1]
  omega
/-! ### quotes -/
theorem two_or (h : (decide ((e.toNat : Int) = 34) || decide ((e.toNat : Int) = 92)) = true) : e = 34 ∨ e = 92 := by
  simp only [Bool.or_eq_true, decide_eq_true_eq] at h
  rcases h with h | h
  · exact .inl (u8_34.1 h)
  · exact .inr (u8_92.1 h)
theorem q_esc2 (k0 : 0 ≤ k) (hc : s[k.toNat]? = some c) (h2 : (c.toNat : Int) = 92) (he : s[(k + 1).toNat]? = some e) (h : e = 34 ∨ e = 92) (hq : Q = pre o (quoteL (s.drop k.toNat))) : Q = pre (o ++ [e]) (quoteL (s.drop (k + 2).toNat)) := by
  have := q_esc k0 hc h2 he h hq
  rwa [show k + 1 + 1 = k + 2 by omega] at this
theorem q_n2 (k0 : 0 ≤ k) (hc : s[k.toNat]? = some c) (h2 : (c.toNat : Int) = 92) (he : s[(k + 1).toNat]? = some e) (h : (e.toNat : Int) = 110) (hq : Q = pre o (quoteL (s.drop k.toNat))) : Q = pre (o ++ [10]) (quoteL (s.drop (k + 2).toNat)) := by
  have := q_n k0 hc h2 he ((u8_eq (n := 110)).1 h) hq
  rwa [show k + 1 + 1 = k + 2 by omega] at this
theorem q_x2 (k0 : 0 ≤ k) (hc : s[k.toNat]? = some c) (h2 : (c.toNat : Int) = 92) (he : s[(k + 1).toNat]? = some e) (h : (e.toNat : Int) = 120) (ha : s[(k + 2).toNat]? = some a) (hb : s[(k + 3).toNat]? = some b) (h3 : hexB a = true) (h4 : hexB b = true) (hq : Q = pre o (quoteL (s.drop k.toNat))) :
    Q = pre (o ++ [16 * worthB a + worthB b]) (quoteL (s.drop (k + 4).toNat)) := by
  have := q_x (a := a) (b := b) k0 hc h2 he ((u8_eq (n := 120)).1 h) (by rw [show k + 1 + 1 = k + 2 by omega]; exact ha) (by rw [show k + 1 + 2 = k + 3 by omega]; exact hb) h3 h4 hq
  rwa [show k + 1 + 2 + 1 = k + 4 by omega] at this
theorem q_badc2 (k0 : 0 ≤ k) (hc : s[k.toNat]? = some c) (h1 : ¬ (c.toNat : Int) = 34) (h3 : (!plainB c) = true) (hq : Q = pre o (quoteL (s.drop k.toNat))) : Q = none := by
  refine q_badc k0 hc h1 (fun h => ?_) h3 hq
  rw [u8_92.1 h] at h3
  exact absurd h3 (by decide)
theorem q_short (k0 : 0 ≤ k) (hc : s[k.toNat]? = some c) (h2 : (c.toNat : Int) = 92) (h : (s.length : Int) ≤ k + 1) (hq : Q = pre o (quoteL (s.drop k.toNat))) : Q = none := by
  rw [drop_at k0 hc, u8_92.1 h2, List.drop_eq_nil_of_le (by omega), quoteL_0] at hq
  exact hq
theorem q_bad3 (k0 : 0 ≤ k) (hc : s[k.toNat]? = some c) (h2 : (c.toNat : Int) = 92) (he : s[(k + 1).toNat]? = some e) (h3 : (decide ((e.toNat : Int) = 34) || decide ((e.toNat : Int) = 92)) = false) (h4 : ¬ (e.toNat : Int) = 110) (h5 : ¬ (e.toNat : Int) = 120)
    (hq : Q = pre o (quoteL (s.drop k.toNat))) : Q = none := by
  refine q_bad0 k0 hc h2 ?_ ?_ ?_ hq <;> rw [behind_at he] <;> assumption
theorem q_x3 (k0 : 0 ≤ k) (hc : s[k.toNat]? = some c) (h2 : (c.toNat : Int) = 92) (he : s[(k + 1).toNat]? = some e) (h : (e.toNat : Int) = 120) (hl : (s.length : Int) ≤ k + 3) (hq : Q = pre o (quoteL (s.drop k.toNat))) : Q = none := by
  refine q_badx k0 hc h2 he ((u8_eq (n := 120)).1 h) ?_ hq
  rw [behind_no (i := k + 1 + 2) (by omega) (by omega), show hexB 0 = false by decide, Bool.and_false]
theorem q_x4 (k0 : 0 ≤ k) (hc : s[k.toNat]? = some c) (h2 : (c.toNat : Int) = 92) (he : s[(k + 1).toNat]? = some e) (h : (e.toNat : Int) = 120) (ha : s[(k + 2).toNat]? = some a) (hb : s[(k + 3).toNat]? = some b) (hx : hexI a < 0 ∨ hexI b < 0) (hq : Q = pre o (quoteL (s.drop k.toNat))) : Q = none := by
  refine q_badx k0 hc h2 he ((u8_eq (n := 120)).1 h) ?_ hq
  rw [behind_at (i := k + 1 + 1) (by rw [show k + 1 + 1 = k + 2 by omega]; exact ha), behind_at (i := k + 1 + 2) (by rw [show k + 1 + 2 = k + 3 by omega]; exact hb)]
  rcases hx with hx | hx
  · rw [hexI_no hx]; rfl
  · rw [hexI_no hx, Bool.and_false]
theorem quote_two (q : Option (Str × Str)) : q = none ∨ ∃ t r, q = some (t, r) := by
  cases q with
  | none => exact .inl rfl
  | some x => exact .inr ⟨x.1, x.2, rfl⟩
/-! ### a token -/
def tokV (at_ : Int) : Tk → Value
  | .err e => .tuple #[.agg (Token.cells ⟨0, [], 0⟩).toArray, .int .i64 0, .int .i64 e]
  | .ok k t n => .tuple #[.agg (Token.cells ⟨k, t, at_⟩).toArray, .int .i64 (at_ + n), .int .i64 0]
theorem tokV_eq {y : Int} {n : Nat} {kd : Int} {t : Str} (h : y = k + n) : Value.tuple #[.agg (Token.cells ⟨kd, t, k⟩).toArray, .int .i64 y, .int .i64 0] = tokV k (.ok kd t n) := by subst h; rfl
theorem tm_1 (h : digitB c = true) : true = (digitB c || (decide (c = 45) && ((((s.drop (k + 1).toNat).head?).map digitB).getD false && !w))) := by rw [h]; rfl
theorem tm_2 (h : digitB c = false) (h2 : decide ((c.toNat : Int) = 45) = false) : false = (digitB c || (decide (c = 45) && ((((s.drop (k + 1).toNat).head?).map digitB).getD false && !w))) := by
  have : ¬ c = 45 := fun e => of_decide_eq_false h2 (u8_45.2 e)
  rw [h]; simp [this]
theorem tm_3 (h : digitB c = false) (h2 : decide ((c.toNat : Int) = 45) = true) (h3 : (!w) = false) : false = (digitB c || (decide (c = 45) && ((((s.drop (k + 1).toNat).head?).map digitB).getD false && !w))) := by
  rw [h, h3]; simp
theorem tm_4 (h : digitB c = false) (h2 : decide ((c.toNat : Int) = 45) = true) (h3 : (!w) = true) (h4 : decide (k + 1 < s.length) = false) : false = (digitB c || (decide (c = 45) && ((((s.drop (k + 1).toNat).head?).map digitB).getD false && !w))) := by
  rw [h, drop_end (of_decide_eq_false h4)]; simp
theorem tm_5 (h : digitB c = false) (h2 : decide ((c.toNat : Int) = 45) = true) (h3 : (!w) = true) (hd : s[(k + 1).toNat]? = some d) : digitB d = (digitB c || (decide (c = 45) && ((((s.drop (k + 1).toNat).head?).map digitB).getD false && !w))) := by
  rw [h, head_drop hd, h3, u8_45.1 (of_decide_eq_true h2)]; simp
theorem tk_sign2 {after : Bool} (k0 : 0 ≤ k) (hc : s[k.toNat]? = some c) (h : letterB c = false) (h2 : (digitB c || (decide (c = 45) && ((((s.drop (k + 1).toNat).head?).map digitB).getD false && !after))) = false) (h3 : ¬ (c.toNat : Int) = 34) (hs : ¬ ((signL (s.drop k.toNat) : Nat) : Int) = 0) :
    tok1 after (s.drop k.toNat) = .ok 3 ((s.take (k + (signL (s.drop k.toNat) : Nat)).toNat).drop k.toNat) (signL (s.drop k.toNat)) := by
  have hl := (signL_bound s k0 (ix_lt hc)).2
  have := tk_sign (after := after) k0 hc h h2 h3 (fun e => hs (by rw [e] at hl; simp at hl; omega))
  rw [hl] at this
  exact this
theorem tk_nosign2 {after : Bool} (k0 : 0 ≤ k) (hc : s[k.toNat]? = some c) (h : letterB c = false) (h2 : (digitB c || (decide (c = 45) && ((((s.drop (k + 1).toNat).head?).map digitB).getD false && !after))) = false) (h3 : ¬ (c.toNat : Int) = 34) (hs : ((signL (s.drop k.toNat) : Nat) : Int) = 0) :
    tok1 after (s.drop k.toNat) = .err 201 := tk_nosign k0 hc h h2 h3 (by rw [show signL (s.drop k.toNat) = 0 by omega]; rfl)
/-! ### what is passed over -/
def SkipT (s : Str) (a k : Int) : Prop := ∀ after, lexN after a (s.drop a.toNat) = lexN after k (s.drop k.toNat)
def SkipP (s : Str) (a : Int) (r : Value) : Prop := ∃ k : Int, r = .int .i64 k ∧ a ≤ k ∧ k ≤ s.length ∧ SkipT s a k ∧ (k < s.length → ∃ c, s[k.toNat]? = some c ∧ blankB c = false ∧ ¬ (c.toNat : Int) = 35)
theorem SkipT.refl {a : Int} : SkipT s a a := fun _ => rfl
theorem SkipT.blank {a : Int} (h : SkipT s a k) (k0 : 0 ≤ k) (hc : s[k.toNat]? = some c) (hb : blankB c = true) : SkipT s a (k + 1) := fun after => by
  rw [h after, drop_at k0 hc, lexN_blank hb]
theorem SkipT.note {a j : Int} (h : SkipT s a k) (k0 : 0 ≤ k) (hc : s[k.toNat]? = some c) (hb : (c.toNat : Int) = 35) (hr : k + (runL (fun c => !decide (c = 10)) (s.drop k.toNat) : Nat) = j) : SkipT s a j := fun after => by
  subst hr
  have hd := drop_at k0 hc
  rw [u8_35.1 hb] at hd
  rw [h after, hd, lexN_note, ← hd, List.drop_drop]
  congr 2
  omega
theorem tok1_kind {after : Bool} {k : Int} {t : Str} {n : Nat} (h : tok1 after s = .ok k t n) : 0 ≤ k ∧ k ≤ 3 := by
  cases s with
  | nil => cases h
  | cons c r =>
    rw [tok1_cons] at h
    split at h
    · cases h; omega
    split at h
    · split at h
      · cases h; omega
      · cases h
    split at h
    · obtain ⟨_, _, rfl, _⟩ := qTk_ok h; omega
    · split at h
      · cases h
      · cases h; omega
theorem right_kind {t : Token} (h : rightB t = true) : 0 ≤ t.kind ∧ t.kind ≤ 3 := by
  unfold rightB at h
  split at h
  · omega
  split at h
  · omega
  split at h
  · omega
  split at h
  · omega
  · cases h
theorem u8_ne10 (h : ¬ (c.toNat : Int) = 10) : (!decide (c = 10)) = true := by rw [← u8_int]; simp [h]
theorem u8_is10 (h : (c.toNat : Int) = 10) : (!decide (c = 10)) = false := by rw [← u8_int]; simp [h]
theorem kinds_snoc {l : List Token} {kd : Int} {t : Str} (h : ∀ t ∈ l, 0 ≤ t.kind ∧ t.kind ≤ 3) (hk : 0 ≤ kd ∧ kd ≤ 3) : ∀ x ∈ l ++ [⟨kd, t, k⟩], 0 ≤ x.kind ∧ x.kind ≤ 3 := by
  intro x hx
  rcases List.mem_append.1 hx with hx | hx
  · exact h x hx
  · simp at hx; subst hx; exact hk
theorem le_0 {l : List Token} (h : ¬ (0 : Int) < l.length) : false = lastB l := by
  have : l = [] := List.length_eq_zero_iff.1 (by omega)
  subst this; rfl
theorem le_1 {l : List Token} {tl : Token} (h : ∀ t ∈ l, 0 ≤ t.kind ∧ t.kind ≤ 3) (hl : l[((l.length : Int) - 1).toNat]? = some tl) : endsB tl = lastB l := by
  rw [lastB_at hl, endsB_eq (h tl (List.mem_of_getElem? hl))]
theorem bw_6 {l : List Token} {t tp : Token} (h : (!rightB t) = false) (h1 : t.kind = 1) (hc : t.text[(0 : Int).toNat]? = some c) (h2 : decide ((c.toNat : Int) = 45) = true) (hp : l[(k - 1).toNat]? = some tp) (hk : 0 < k) (hpr : ∀ t, prevT l k = some t → rightB t = true) : endsB tp = badW (prevT l k) t := by
  rw [← bw_5 h h1 hc h2 hp hk]
  refine endsB_eq (right_kind (hpr tp ?_))
  unfold prevT; rw [if_neg (by omega), hp]
theorem right_s2 {t : Token} (h : t.kind = 3) (h2 : ¬ t.text = []) : decide (((signL (t.text.drop (0 : Int).toNat) : Nat) : Int) = t.text.length) = rightB t := by
  unfold rightB; rw [if_neg (by omega), if_neg (by omega), if_neg (by omega), if_pos h]
  have he : t.text.isEmpty = false := by cases ht : t.text with | nil => exact absurd ht h2 | cons => rfl
  rw [he]
  show decide (((signL t.text : Nat) : Int) = t.text.length) = _
  simp; omega
def lastE (l : List Token) : Bool := (l.getLast?.map endsB).getD false
theorem lastE_at {l : List Token} {t : Token} (h : l[((l.length : Int) - 1).toNat]? = some t) : lastE l = endsB t := by
  unfold lastE
  rw [List.getLast?_eq_getElem?, show l.length - 1 = ((l.length : Int) - 1).toNat by omega, h]; rfl
theorem lastE_eq {l : List Token} (h : ∀ t ∈ l, 0 ≤ t.kind ∧ t.kind ≤ 3) : lastE l = lastB l := by
  unfold lastE lastB
  cases hl : l.getLast? with
  | none => rfl
  | some t => simp [endsB_eq (h t (List.mem_of_getLast? hl))]
theorem tokV_two (at_ : Int) (x : Tk) : (∃ e, x = .err e) ∨ ∃ kd t n, x = .ok kd t n := by
  cases x with
  | err e => exact .inl ⟨e, rfl⟩
  | ok kd t n => exact .inr ⟨kd, t, n, rfl⟩
end
end Go.Sx
