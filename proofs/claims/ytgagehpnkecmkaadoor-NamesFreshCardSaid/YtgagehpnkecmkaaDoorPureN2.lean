import Derived.Test.YtgagehpnkecmkaaDoorPureN1
import Derived.Test.YtgagehpnkecmkaaDoorPureL4
set_option linter.unusedVariables false
set_option linter.unusedSimpArgs false
namespace Go.Sx
open Go
theorem cut_room (l : List Str) : ((([] ++ l) ++ [[114, 111, 111, 109]] : List Str).take l.length).drop 0 = l := by simp
theorem wrap_len {n : Int} (h0 : 0 ≤ n) (h1 : n ≤ 9223372036854775807) : IntKind.u64.wrap n = n := by
  simp only [IntKind.wrap, IntKind.signed, IntKind.bits]
  simp
  omega
theorem name_facts {s : Str} (h : nameMay s = true) : (1 ≤ s.length) ∧ s.length ≤ 12 ∧ ∀ (k : Nat) (d : UInt8), s[k]? = some d → letterB d = true ∨ (0 < k ∧ digitB d = true) := by
  unfold nameMay at h
  split at h
  · cases h
  split at h
  · cases h
  split at h
  · cases h
  split at h
  · cases h
  rename_i h1 h2 h3 h4
  refine ⟨by omega, by omega, fun k d hd => ?_⟩
  cases s with
  | nil => simp at hd
  | cons c r =>
    cases k with
    | zero => simp at hd; subst hd; left; simpa using h3
    | succ k =>
      have := List.all_eq_true.1 h d (List.mem_of_getElem? (show ((c :: r).drop 1)[k]? = some d by simpa using hd))
      unfold nameC at this
      rcases Bool.or_eq_true _ _ |>.mp this with h | h
      · exact .inl h
      · exact .inr ⟨by omega, h⟩
theorem name_at {s : Str} {k : Int} {d : UInt8} (h : ∀ (k : Nat) (d : UInt8), s[k]? = some d → letterB d = true ∨ (0 < k ∧ digitB d = true)) (k0 : 0 ≤ k) (hd : s[k.toNat]? = some d) :
    ((97 : Int) ≤ d.toNat ∧ (d.toNat : Int) ≤ 122) ∨ (0 < k ∧ (48 : Int) ≤ d.toNat ∧ (d.toNat : Int) ≤ 57) := by
  rcases h _ _ hd with h | ⟨h0, h⟩
  · left; unfold letterB at h; simpa using h
  · right; unfold digitB at h; simp at h; omega
theorem name_long {s : Str} (h : 1 ≤ s.length) : (!nameMay (s ++ [97, 98, 99, 100, 101, 102, 103, 104, 105, 106, 107, 108])) = true := by
  have : nameMay (s ++ [97, 98, 99, 100, 101, 102, 103, 104, 105, 106, 107, 108]) = false := by
    unfold nameMay
    split
    · rfl
    rw [if_pos (by simp; omega)]
  rw [this]; rfl
theorem name_has {x : Str} {c : UInt8} (hm : c ∈ x) (h : nameC c = false) : nameMay x = false := by
  cases hx : nameMay x with
  | false => rfl
  | true =>
    obtain ⟨_, _, hf⟩ := name_facts hx
    obtain ⟨k, hk⟩ := List.mem_iff_getElem?.1 hm
    unfold nameC at h
    simp only [Bool.or_eq_false_iff] at h
    rcases hf k c hk with e | ⟨_, e⟩
    · rw [h.1] at e; cases e
    · rw [h.2] at e; cases e
theorem name_bad1 {s : Str} {c : UInt8} (h : nameC c = false) : (!nameMay (s ++ [c])) = true := by
  rw [name_has (x := s ++ [c]) (c := c) (by simp) h]; rfl
theorem name_bad2 {a b : Str} {c : UInt8} (h : nameC c = false) (g : (!nameMay ((a ++ [c]) ++ b)) = false) : false = true := by
  rw [name_has (x := (a ++ [c]) ++ b) (c := c) (by simp) h] at g; cases g
/-! ### put -/
section
variable {l : List Str} {s x z : Str} {k : Int}
theorem put_has (g : (!hasS (putP l s) s) = true) : true = false := by
  have : hasS (putP l s) s = true := by unfold hasS; exact decide_eq_true (mem_putP.2 (.inr rfl))
  rw [this] at g; cases g
theorem rise_nodup {a : List Str} (h : Rise a) : a.Nodup := by
  refine List.Pairwise.imp (fun {x y} hxy e => ?_) h
  subst e; exact absurd hxy (List.lt_irrefl _)
theorem put_once (g : (!onceS (putP l s)) = true) : true = false := by
  have : onceS (putP l s) = true := decide_eq_true (rise_nodup (putP_rise l s))
  rw [this] at g; cases g
theorem put_up (k0 : 0 < k) (hz : (putP l s)[(k - 1).toNat]? = some z) (hx : (putP l s)[k.toNat]? = some x) (g : (!Op.bytesLess z x) = true) : true = false := by
  have h := List.pairwise_iff_getElem.1 (putP_rise l s) (k - 1).toNat k.toNat (List.getElem?_eq_some_iff.1 hz).1 (List.getElem?_eq_some_iff.1 hx).1 (by omega)
  rw [(List.getElem?_eq_some_iff.1 hz).2, (List.getElem?_eq_some_iff.1 hx).2] at h
  rw [Go.Proofs.bytesLess_eq] at g
  simp at g
  exact absurd h (List.not_lt.2 g)
theorem put_in (hm : x ∈ l ∨ x = s) (g : (!decide (x = s)) = true) : (!hasS l x) = false := by
  have hne : ¬ x = s := by simpa using g
  have : hasS l x = true := decide_eq_true (hm.resolve_right hne)
  rw [this]; rfl
theorem putP_twice : putP (putP l s) s = putP l s := rise_eq _ _ (putP_rise _ _) (putP_rise _ _) fun x => by
  rw [mem_putP, mem_putP]
  constructor
  · rintro (h | h); exact h; exact .inr h
  · intro h; exact .inl h
theorem shorter : ∀ {l : List Str}, ¬ l.Nodup → ∃ r : List Str, r.length < l.length ∧ ∀ x, x ∈ r ↔ x ∈ l
  | [], h => absurd List.nodup_nil h
  | y :: l, h => by
    by_cases hy : y ∈ l
    · exact ⟨l, by simp, fun x => by simp; rintro rfl; exact hy⟩
    · obtain ⟨r, h1, h2⟩ := shorter (l := l) (fun hn => h (List.nodup_cons.2 ⟨hy, hn⟩))
      exact ⟨y :: r, by simpa using h1, fun x => by simp [h2]⟩
theorem put_count : ((putP l s).length = l.length + 1) ↔ (l.Nodup ∧ s ∉ l) := by
  have hn := rise_nodup (putP_rise l s)
  constructor
  · intro h
    refine ⟨Classical.byContradiction fun hd => ?_, fun hm => ?_⟩
    · obtain ⟨r, h1, h2⟩ := shorter hd
      have := nodup_sub (putP l s) (s :: r) hn fun x hx => by
        rcases mem_putP.1 hx with h | h
        · exact List.mem_cons_of_mem _ ((h2 x).2 h)
        · rw [h]; simp
      simp at this; omega
    · have := nodup_sub (putP l s) l hn fun x hx => by
        rcases mem_putP.1 hx with h | h
        · exact h
        · rw [h]; exact hm
      omega
  · rintro ⟨h1, h2⟩
    have h3 := nodup_sub (s :: l) (putP l s) (List.nodup_cons.2 ⟨h2, h1⟩) fun x hx => by
      rw [mem_putP]
      rcases List.mem_cons.1 hx with h | h
      · exact .inr h
      · exact .inl h
    have := putP_len l s
    simp at h3; omega
theorem put_count1 (g : onceS l = true) : decide (decide (((putP l s).length : Int) = (l.length : Int) + 1) = !hasS l s) = true := by
  have hn : l.Nodup := of_decide_eq_true g
  have e : (((putP l s).length : Int) = (l.length : Int) + 1) ↔ s ∉ l := by
    rw [← show ((putP l s).length = l.length + 1) ↔ _ from put_count.trans ⟨fun h => h.2, fun h => ⟨hn, h⟩⟩]; omega
  refine decide_eq_true ?_
  unfold hasS
  by_cases h : s ∈ l
  · have h2 : ¬ (((putP l s).length : Int) = (l.length : Int) + 1) := fun x => (e.1 x) h
    simp only [h, h2, decide_false, decide_true, Bool.not_true]
  · simp only [h, e.2 h, decide_false, decide_true, Bool.not_false]
theorem put_count0 (g : onceS l = false) : decide (decide (((putP l s).length : Int) = (l.length : Int) + 1) = false) = true := by
  have hn : ¬ l.Nodup := of_decide_eq_false g
  refine decide_eq_true (decide_eq_false fun h => hn (put_count (s := s).1 (by omega)).1)
theorem first_put : putP [[98], [97], [98]] [99] = [[97], [98], [99]] := rise_eq _ _ (putP_rise _ _) (by unfold Rise; simp; decide) fun x => by
  rw [mem_putP]
  simp only [List.mem_cons, List.not_mem_nil, or_false]
  constructor
  · rintro ((h | h | h) | h)
    · exact .inr (.inl h)
    · exact .inl h
    · exact .inr (.inl h)
    · exact .inr (.inr h)
  · rintro (h | h | h)
    · exact .inl (.inr (.inl h))
    · exact .inl (.inl h)
    · exact .inr h
/-! ### fresh -/
theorem fr_1 (h : freshS l s ∉ l) (g : hasS l (freshS l s) = true) : true = false := absurd (of_decide_eq_true g) h
theorem fr_2 {f : Str} {G : Str} (h : G ∉ [f] ++ l) (g : hasS l G = true) : true = false := absurd (List.mem_append_right _ (of_decide_eq_true g)) h
theorem fr_3 {f : Str} {G : Str} (h : G ∉ [f] ++ l) (g : decide (f = G) = true) : true = false := absurd (by rw [of_decide_eq_true g]; simp) h
theorem fr_4 (g : (!hasS l s) = true) : (!decide (freshS l s = s)) = false := by rw [fresh_no g]; simp
theorem name_pos (h : nameMay s = true) : (0 : Int) < s.length := by have := (name_facts h).1; omega
theorem fr_head {x y : UInt8} (h : (freshS l s).headD 0 = s.headD 0) (hx : (freshS l s)[(0 : Int).toNat]? = some x) (hy : s[(0 : Int).toNat]? = some y) : decide ((x.toNat : Int) = y.toNat) = true := by
  have h1 := headD_of hx; have h2 := headD_of hy
  rw [h1, h2] at h
  rw [h]; simp
end
/-! ### keywords -/
def keyL : List Str := [[97, 110, 100], [97, 115], [97, 116], [98, 111, 111, 108], [99, 97, 108, 108], [99, 104, 97, 110], [100, 114, 111, 112], [101, 108, 115, 101], [101, 109, 112, 116, 121], [101, 110, 100], [102, 97, 105, 108], [102, 97, 108, 115, 101], [102, 114, 111, 109], [104, 101, 97, 114], [105, 102], [105, 110, 116], [106, 111, 105, 110], [108, 101, 110], [108, 101, 116], [108, 105, 115, 116], [108, 111, 99, 97, 108], [108, 111, 115, 116], [109, 111, 100], [110, 111, 116], [111, 112, 101, 110], [111, 114], [112, 114, 105, 110, 116], [112, 114, 111, 99], [112, 114, 111, 116, 111, 99, 111, 108], [112, 117, 115, 104], [114, 111, 108, 101, 115], [115, 97, 121], [115, 112, 97, 119, 110], [115, 116, 111, 112], [116, 101, 120, 116], [116, 111], [116, 114, 117, 101], [117, 110, 105, 116], [119, 105, 116, 104]]
theorem key_facts {x : Str} (h : x ∈ keyL) : keywordB x = true ∧ nameMay x = false ∧ keywordB (x ++ [49]) = false ∧ nameMay (x ++ [49]) = true ∧ x.length ≤ 11 := by
  have hall : keyL.all (fun x => keywordB x && (!nameMay x && (!keywordB (x ++ [49]) && (nameMay (x ++ [49]) && decide (x.length ≤ 11))))) = true := by decide +kernel
  have := List.all_eq_true.1 hall x h
  simpa using this
theorem key_once : onceS keyL = true := by decide +kernel
theorem key_cell {k : Int} {x : Str} (k0 : 0 ≤ k) (hx : keyL[k.toNat]? = some x) : (keyL.map gs)[0 + k.toNat * 1]? = some (gs x) := by
  rw [Nat.zero_add, Nat.mul_one, List.getElem?_map, hx]; rfl
end Go.Sx
