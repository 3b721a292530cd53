import Derived.Test.YtgagehpnkecmkaaDoorPurePu
import Derived.Test.YtgagehpnkecmkaaDoorSx17
import Derived.Lib.ItoaNum
set_option linter.unusedVariables false
set_option linter.unusedSimpArgs false
namespace Go.Sx
open Go
/-! ## names: once, put, fresh -/
def onceS (l : List Str) : Bool := decide l.Nodup
theorem take_nodup {l : List Str} {k : Int} {x : Str} (k0 : 0 ≤ k) (hx : l[k.toNat]? = some x) (h : (l.take k.toNat).Nodup) (hn : x ∉ l.take k.toNat) : (l.take (k + 1).toNat).Nodup := by
  rw [take_snoc k0 hx, List.nodup_append]
  refine ⟨h, by simp, fun a ha b hb e => ?_⟩
  simp at hb; subst hb; subst e; exact hn ha
theorem once_next {l : List Str} {k : Int} {x : Str} (k0 : 0 ≤ k) (hx : l[k.toNat]? = some x) (hn : x ∉ l.take k.toNat) (h : (l.take k.toNat).Nodup) : 0 ≤ k + 1 → (l.take (k + 1).toNat).Nodup := fun _ => take_nodup k0 hx h hn
theorem place_first {l : List Str} {k : Int} {x : Str} (k0 : 0 ≤ k) (hx : l[k.toNat]? = some x) (h : placeS l x = k) : x ∉ l.take k.toNat := by
  intro hm
  obtain ⟨j, hj, he⟩ := List.mem_iff_getElem.1 hm
  rw [List.length_take] at hj
  -- the least such place
  have key : ∀ (l : List Str) (j : Nat), l[j]? = some x → placeS l x ≤ j := by
    intro l
    induction l with
    | nil => intro j h; simp at h
    | cons y l ih =>
      intro j h
      unfold placeS
      split
      · omega
      · cases j with
        | zero => simp at h; subst h; rename_i hne; exact absurd rfl hne
        | succ j =>
          have := ih j (by simpa using h)
          split <;> omega
  have h2 : l[j]? = some x := by rw [List.getElem_take] at he; rw [← he]; exact List.getElem?_eq_getElem (by omega)
  have := key l j h2
  omega
theorem once_end {l : List Str} {k : Int} (hk : ¬ k < l.length) (k0 : 0 ≤ k) (h : (l.take k.toNat).Nodup) : onceS l = true := by
  rw [take_all hk k0] at h; exact decide_eq_true h
theorem not_nodup {l : List Str} {k : Int} {x : Str} (k0 : 0 ≤ k) (hx : l[k.toNat]? = some x) (hm : x ∈ l.take k.toNat) : onceS l = false := by
  refine decide_eq_false fun hn => ?_
  have h1 : (l.take (k + 1).toNat).Nodup := hn.sublist (List.take_sublist _ _)
  rw [take_snoc k0 hx, List.nodup_append] at h1
  exact h1.2.2 x hm x (by simp) rfl
theorem once_has {l : List Str} {k : Int} {x : Str} (k0 : 0 ≤ k) (hx : l[k.toNat]? = some x) (h : hasS ((l.take k.toNat).drop 0) x = true) : onceS l = false := not_nodup k0 hx (by simpa [hasS] using h)
theorem has_not {l : List Str} {x : Str} (h : hasS (l.drop 0) x = false) : x ∉ l := by simpa [hasS] using h
theorem once_place {l : List Str} {k : Int} {x : Str} (k0 : 0 ≤ k) (hx : l[k.toNat]? = some x) (h : ¬ placeS l x = k) : onceS l = false := by
  refine decide_eq_false fun hn => h ?_
  refine placeS_hit k0 hx (fun j hj he => ?_)
  have h1 := (List.getElem?_eq_some_iff.1 hx)
  have h2 := (List.getElem?_eq_some_iff.1 he)
  obtain ⟨a1, b1⟩ := h1; obtain ⟨a2, b2⟩ := h2
  have := (List.getElem_inj hn (h₀ := a2) (h₁ := a1)).1 (b2.trans b1.symm)
  omega
/-! ### put -/
def putP (l : List Str) (s : Str) : List Str := Lib.compact (sortS (l ++ [s]))
theorem putP_rise (l : List Str) (s : Str) : Rise (putP l s) := compact_rise (sortS_rise _)
theorem mem_putP {l : List Str} {s x : Str} : x ∈ putP l s ↔ x ∈ l ∨ x = s := by unfold putP; rw [mem_compact, mem_sortS]; simp
theorem putP_len (l : List Str) (s : Str) : (putP l s).length ≤ l.length + 1 := by
  unfold putP
  have := compact_len (sortS (l ++ [s]))
  rw [sortS_len] at this
  simpa using this
theorem foldPut_len (s : Str) (l : List Str) : (l.foldl putS [s]).length ≤ l.length + 1 := by
  have : ∀ (l a : List Str), (l.foldl putS a).length ≤ l.length + a.length := by
    intro l
    induction l with
    | nil => intro a; simp
    | cons x l ih =>
      intro a
      have h1 := ih (putS a x)
      have h2 := put_len a x
      simp only [List.foldl_cons, List.length_cons]; omega
  simpa using this l [s]
theorem foldPut_rise (l : List Str) : ∀ a : List Str, Rise a → Rise (l.foldl putS a) := by
  induction l with
  | nil => intro a h; exact h
  | cons x l ih => intro a h; exact ih _ (put_rise h)
theorem mem_foldPut {x : Str} (l : List Str) : ∀ a : List Str, x ∈ l.foldl putS a ↔ x ∈ l ∨ x ∈ a := by
  induction l with
  | nil => intro a; simp
  | cons y l ih =>
    intro a
    rw [List.foldl_cons, ih, mem_put]
    simp only [List.mem_cons]
    constructor
    · rintro (h | h | h); exact .inl (.inr h); exact .inl (.inl h); exact .inr h
    · rintro ((h | h) | h); exact .inr (.inl h); exact .inl h; exact .inr (.inr h)
theorem putP_eq (l : List Str) (s : Str) : l.foldl putS [s] = putP l s := by
  refine rise_eq _ _ (foldPut_rise l [s] (List.pairwise_singleton _ _)) (putP_rise l s) fun x => ?_
  rw [mem_foldPut, mem_putP]; simp
/-! ### fresh -/
def cand (s : Str) (k : Nat) : Str := s.take (12 - (Lib.itoa (k : Int)).length) ++ Lib.itoa (k : Int)
def freshF (l : List Str) (s : Str) : Nat → Nat → Str
  | 0, k => cand s k
  | f + 1, k => if cand s k ∈ l then freshF l s f (k + 1) else cand s k
def freshS (l : List Str) (s : Str) : Str := if s ∈ l then freshF l s 97 2 else s
theorem freshF_at {l : List Str} {s : Str} {k : Nat} (hn : cand s k ∉ l) : ∀ (f k0 : Nat), k0 ≤ k → k ≤ k0 + f → (∀ j, k0 ≤ j → j < k → cand s j ∈ l) → freshF l s f k0 = cand s k
  | 0, k0, h1, h2, _ => by have : k0 = k := by omega
                           subst this; rfl
  | f + 1, k0, h1, h2, hc => by
    unfold freshF
    by_cases e : k0 = k
    · subst e; rw [if_neg hn]
    · rw [if_pos (hc k0 (Nat.le_refl _) (by omega))]
      exact freshF_at hn f (k0 + 1) (by omega) (by omega) fun j a b => hc j (by omega) b
theorem fresh_char {l : List Str} {s : Str} {k : Nat} (hin : s ∈ l) (h2 : 2 ≤ k) (h9 : k ≤ 99) (hc : ∀ j, 2 ≤ j → j < k → cand s j ∈ l) (hn : cand s k ∉ l) : freshS l s = cand s k := by
  unfold freshS
  rw [if_pos hin]
  exact freshF_at hn 97 2 h2 (by omega) hc
theorem nodup_sub : ∀ (a l : List Str), a.Nodup → (∀ x ∈ a, x ∈ l) → a.length ≤ l.length
  | [], _, _, _ => Nat.zero_le _
  | x :: a, l, hn, hs => by
    rw [List.nodup_cons] at hn
    have hx := hs x (by simp)
    have h := nodup_sub a (l.erase x) hn.2 fun y hy => by
      have hne : y ≠ x := by rintro rfl; exact hn.1 hy
      exact (List.mem_erase_of_ne hne).2 (hs y (List.mem_cons_of_mem _ hy))
    rw [List.length_erase_of_mem hx] at h
    have := List.length_pos_of_mem hx
    simp only [List.length_cons]; omega
theorem itoa_two {k : Nat} (h1 : 10 ≤ k) (h2 : k ≤ 99) : Lib.itoa (k : Int) = [UInt8.ofNat (48 + k / 10), UInt8.ofNat (48 + k % 10)] := by
  unfold Lib.itoa
  rw [if_neg (by omega)]
  simp only [Int.toNat_natCast]
  exact Lib.decDigits_two (by omega) (by omega)
theorem itoa_one {k : Nat} (h2 : k < 10) : Lib.itoa (k : Int) = [UInt8.ofNat (48 + k)] := by
  unfold Lib.itoa
  rw [if_neg (by omega)]
  simp only [Int.toNat_natCast]
  exact Lib.decDigits_one h2
theorem itoa_len {k : Int} (h1 : 2 ≤ k) (h2 : k ≤ 99) : 1 ≤ (Lib.itoa k).length ∧ (Lib.itoa k).length ≤ 2 := by
  obtain ⟨n, rfl⟩ : ∃ n : Nat, k = n := ⟨k.toNat, by omega⟩
  by_cases h : n < 10
  · rw [itoa_one h]; simp
  · rw [itoa_two (by omega) (by omega)]; simp
theorem cand_inj {s : Str} {i j : Nat} (hi : 10 ≤ i ∧ i ≤ 99) (hj : 10 ≤ j ∧ j ≤ 99) (h : cand s i = cand s j) : i = j := by
  unfold cand at h
  rw [itoa_two hi.1 hi.2, itoa_two hj.1 hj.2] at h
  have h2 := List.append_cancel_left (show s.take 10 ++ [UInt8.ofNat (48 + i / 10), UInt8.ofNat (48 + i % 10)] = s.take 10 ++ [UInt8.ofNat (48 + j / 10), UInt8.ofNat (48 + j % 10)] from h)
  simp only [List.cons.injEq, and_true] at h2
  have e1 := congrArg UInt8.toNat h2.1
  have e2 := congrArg UInt8.toNat h2.2
  simp at e1 e2
  omega
theorem fresh_bound {l : List Str} {s : Str} (hl : l.length ≤ 60) (h : ∀ j : Nat, 10 ≤ j → j ≤ 99 → cand s j ∈ l) : False := by
  have hn : ((List.range' 10 90).map (cand s)).Nodup := by
    rw [List.nodup_iff_pairwise_ne] at *
    rw [List.pairwise_map]
    refine (List.nodup_range' (s := 10) (n := 90)).imp_of_mem ?_
    intro a b ha hb hab e
    simp only [List.mem_range'_1] at ha hb
    exact hab (cand_inj ⟨ha.1, by omega⟩ ⟨hb.1, by omega⟩ e)
  have := nodup_sub _ l hn fun x hx => by
    obtain ⟨j, hj, rfl⟩ := List.mem_map.1 hx
    simp only [List.mem_range'_1] at hj
    exact h j (by omega) (by omega)
  simp at this
  omega
section
variable {l : List Str} {s h : Str} {k : Int}
theorem head_T (k2 : 2 ≤ k) (k3 : k ≤ 99) : s.take (if (0 : Int) > 12 - ((Lib.itoa k).length : Int) then 0 else 12 - ((Lib.itoa k).length : Int)).toNat = s.take (12 - (Lib.itoa k).length) := by
  have := itoa_len k2 k3
  congr 1
  split <;> omega
theorem head_F (k2 : 2 ≤ k) (k3 : k ≤ 99) (hc : ¬ 12 - ((Lib.itoa k).length : Int) < s.length) : s = s.take (12 - (Lib.itoa k).length) := by
  have := itoa_len k2 k3
  rw [List.take_of_length_le (by omega)]
theorem head_len (hI : h = s.take (12 - (Lib.itoa k).length)) : h.length ≤ 12 := by subst hI; rw [List.length_take]; omega
theorem cand_of (k2 : 2 ≤ k) (hI : h = s.take (12 - (Lib.itoa k).length)) : h ++ Lib.itoa k = cand s k.toNat := by
  subst hI
  unfold cand
  rw [show ((k.toNat : Nat) : Int) = k by omega]
theorem fresh_no (h : (!hasS l s) = true) : freshS l s = s := by unfold freshS; rw [if_neg (by simpa [hasS] using h)]
theorem fresh_hit (hin : s ∈ l) (k2 : 2 ≤ k) (hc : ∀ j : Nat, 2 ≤ j → j < k.toNat → cand s j ∈ l) (hI : h = s.take (12 - (Lib.itoa k).length)) (hn : (!hasS l (h ++ Lib.itoa k)) = true) (k3 : k ≤ 99) : freshS l s = h ++ Lib.itoa k := by
  rw [cand_of k2 hI] at hn ⊢
  exact fresh_char hin (by omega) (by omega) hc (by simpa [hasS] using hn)
theorem fresh_next (hl : l.length ≤ 60) (k2 : 2 ≤ k) (k3 : k ≤ 99) (hc : ∀ j : Nat, 2 ≤ j → j < k.toNat → cand s j ∈ l) (hI : h = s.take (12 - (Lib.itoa k).length)) (hn : (!hasS l (h ++ Lib.itoa k)) = false) :
    2 ≤ k + 1 ∧ k + 1 ≤ 99 ∧ ∀ j : Nat, 2 ≤ j → j < (k + 1).toNat → cand s j ∈ l := by
  rw [cand_of k2 hI] at hn
  have hm : cand s k.toNat ∈ l := by simpa [hasS] using hn
  have hall : ∀ j : Nat, 2 ≤ j → j < (k + 1).toNat → cand s j ∈ l := fun j a b => by
    by_cases e : j = k.toNat
    · subst e; exact hm
    · exact hc j a (by omega)
  refine ⟨by omega, ?_, hall⟩
  rcases Int.lt_or_le k 99 with h | h
  · omega
  · exact (fresh_bound hl fun j a b => hall j (by omega) (by omega)).elim
/-- the reference's way -/
def FreshI (l : List Str) (s : Str) (t : Str) (k : Int) : Prop := 2 ≤ k ∧ ((k = 2 ∧ t = s) ∨ (2 < k ∧ k ≤ 100 ∧ s ∈ l ∧ t = cand s (k - 1).toNat ∧ ∀ j : Nat, 2 ≤ j → j < (k - 1).toNat → cand s j ∈ l))
theorem FreshI.le {t : Str} (hl : l.length ≤ 60) (hI : FreshI l s t k) (h : hasS l t = true) : k ≤ 99 := by
  have hm : t ∈ l := by simpa [hasS] using h
  obtain ⟨h2, ⟨h3, _⟩ | ⟨h3, h4, _, rfl, hc⟩⟩ := hI
  · omega
  · rcases Int.lt_or_le k 100 with h | h
    · omega
    · refine (fresh_bound (s := s) hl fun j a b => ?_).elim
      by_cases e : j = (k - 1).toNat
      · subst e; exact hm
      · exact hc j (by omega) (by omega)
theorem FreshI.next {t : Str} (hI : FreshI l s t k) (h : hasS l t = true) (k3 : k ≤ 99) : FreshI l s (s.take (if 12 - ((Lib.itoa k).length : Int) < s.length then 12 - ((Lib.itoa k).length : Int) else s.length).toNat ++ Lib.itoa k) (k + 1) := by
  have hm : t ∈ l := by simpa [hasS] using h
  obtain ⟨h2, hx⟩ := hI
  have hl := itoa_len h2 k3
  have e1 : s.take (if 12 - ((Lib.itoa k).length : Int) < s.length then 12 - ((Lib.itoa k).length : Int) else s.length).toNat = s.take (12 - (Lib.itoa k).length) := by
    split
    · congr 1; omega
    · rw [List.take_of_length_le (by omega), List.take_of_length_le (by omega)]
  refine ⟨by omega, .inr ⟨by omega, by omega, ?_, ?_, ?_⟩⟩
  · rcases hx with ⟨_, rfl⟩ | ⟨_, _, h, _⟩
    · exact hm
    · exact h
  · rw [e1, cand_of h2 rfl, show k + 1 - 1 = k by omega]
  · intro j a b
    rcases hx with ⟨rfl, _⟩ | ⟨h3, _, _, rfl, hc⟩
    · omega
    · by_cases e : j = (k - 1).toNat
      · subst e; exact hm
      · exact hc j a (by omega)
theorem FreshI.end_ {t : Str} (hl : l.length ≤ 60) (hI : FreshI l s t k) (h : hasS l t = false) : t = freshS l s := by
  have hm : t ∉ l := by simpa [hasS] using h
  obtain ⟨h2, ⟨_, rfl⟩ | ⟨h3, h4, hin, rfl, hc⟩⟩ := hI
  · unfold freshS; rw [if_neg hm]
  · exact (fresh_char hin (by omega) (by omega) hc hm).symm
theorem fresh_notin (hl : l.length ≤ 60) : freshS l s ∉ l := by
  unfold freshS
  split
  · -- a number that is free
    rename_i hin
    have hex : ∃ k : Nat, 2 ≤ k ∧ k ≤ 99 ∧ cand s k ∉ l := by
      by_cases h : ∃ k : Nat, 2 ≤ k ∧ k ≤ 99 ∧ cand s k ∉ l
      · exact h
      · exact (fresh_bound hl fun j a b => Classical.byContradiction fun hj => h ⟨j, by omega, b, hj⟩).elim
    have key : ∀ (f k0 : Nat), (∃ k, k0 ≤ k ∧ k ≤ k0 + f ∧ cand s k ∉ l) → freshF l s f k0 ∉ l := by
      intro f
      induction f with
      | zero => rintro k0 ⟨k, a, b, hk⟩; have : k0 = k := by omega
                subst this; exact hk
      | succ f ih =>
        rintro k0 ⟨k, a, b, hk⟩
        unfold freshF
        split
        · rename_i hm
          refine ih (k0 + 1) ⟨k, ?_, by omega, hk⟩
          have : k0 ≠ k := by rintro rfl; exact hk hm
          omega
        · assumption
    obtain ⟨k, a, b, hk⟩ := hex
    exact key 97 2 ⟨k, a, by omega, hk⟩
  · assumption
theorem fresh_form (l : List Str) (s : Str) : freshS l s = s ∨ ∃ k : Nat, 2 ≤ k ∧ k ≤ 99 ∧ freshS l s = cand s k := by
  unfold freshS
  split
  · right
    have key : ∀ (f k0 : Nat), 2 ≤ k0 → k0 + f ≤ 99 → ∃ k, 2 ≤ k ∧ k ≤ 99 ∧ freshF l s f k0 = cand s k := by
      intro f
      induction f with
      | zero => intro k0 a b; exact ⟨k0, a, by omega, rfl⟩
      | succ f ih =>
        intro k0 a b
        unfold freshF
        split
        · exact ih (k0 + 1) (by omega) (by omega)
        · exact ⟨k0, a, by omega, rfl⟩
    exact key 97 2 (by omega) (by omega)
  · left; rfl
/-- of a name: it stays as short, and begins alike -/
theorem fresh_name (hn : nameMay s = true) : (freshS l s).length ≤ 12 ∧ 1 ≤ (freshS l s).length ∧ (freshS l s).headD 0 = s.headD 0 := by
  have hs : 1 ≤ s.length ∧ s.length ≤ 12 := by
    unfold nameMay at hn
    split at hn
    · cases hn
    split at hn
    · cases hn
    omega
  rcases fresh_form l s with h | ⟨k, h1, h2, h⟩
  · rw [h]; exact ⟨hs.2, hs.1, rfl⟩
  · rw [h]
    have hl := itoa_len (k := k) (by omega) (by omega)
    unfold cand
    rw [List.length_append, List.length_take]
    refine ⟨by omega, by omega, ?_⟩
    cases s with
    | nil => simp at hs
    | cons c r =>
      obtain ⟨m, hm⟩ : ∃ m, 12 - (Lib.itoa (k : Int)).length = m + 1 := ⟨11 - (Lib.itoa (k : Int)).length, by omega⟩
      rw [hm]; rfl
end
end Go.Sx
