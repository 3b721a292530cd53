import Derived.Test.YtgagehpnkecmkaaDoorPureS
import Derived.Test.YtgagehpnkecmkaaDoorPureK2
set_option linter.unusedVariables false
namespace Go.Sx
open Go
/-! ## a term of two variables -/
def pqT (k : Int) : List Term := [⟨0, [112], 0, [], -1, -1⟩, ⟨0, [113], 0, [], -1, -1⟩, ⟨k, [], 0, [], 0, 1⟩]
def pqE (a b : Val) (la lb : Value) : List Bind := [⟨[112], a, la⟩, ⟨[113], b, lb⟩]
theorem mayV_kind {x : Val} (h : mayV x = true) : 0 ≤ x.k ∧ x.k ≤ 5 := by
  by_cases hk : 0 ≤ x.k ∧ x.k ≤ 5
  · exact hk
  · unfold mayV at h
    rw [if_neg (by omega), if_neg (by omega), if_neg (by omega), if_neg (by omega), if_neg (by omega), if_neg (by omega)] at h
    cases h
theorem two_cases {k : Int} (h : 6 ≤ k ∧ k ≤ 19) (h1 : ¬ k = 15) (h2 : ¬ k = 16) : k = 6 ∨ k = 7 ∨ k = 8 ∨ k = 9 ∨ k = 10 ∨ k = 11 ∨ k = 12 ∨ k = 13 ∨ k = 14 ∨ k = 17 ∨ k = 18 ∨ k = 19 := by omega
theorem pq_may {k : Int} (h : 6 ≤ k ∧ k ≤ 19) (h1 : ¬ k = 15) (h2 : ¬ k = 16) : mayB (pqT k) 2 = true := by
  rcases two_cases h h1 h2 with rfl | rfl | rfl | rfl | rfl | rfl | rfl | rfl | rfl | rfl | rfl | rfl <;> decide +kernel
theorem two_ask {k : Int} (h : 6 ≤ k ∧ k ≤ 19) (h1 : ¬ k = 15) (h2 : ¬ k = 16) : ¬ (askW k).1 = -1 ∧ ¬ (askW k).2.1 = -1 ∧ operandsI k = 2 := by
  rcases two_cases h h1 h2 with rfl | rfl | rfl | rfl | rfl | rfl | rfl | rfl | rfl | rfl | rfl | rfl <;> decide
theorem pq_of {k : Int} {a b : Val} {la lb : Value} (h : 6 ≤ k ∧ k ≤ 19) (h1 : ¬ k = 15) (h2 : ¬ k = 16) (ha : mayV a = true) (hb : mayV b = true) : ofS (pqT k) 2 ((pqE a b la lb).map typingOf) = kFin k a.k b.k := by
  obtain ⟨w1, w2, _⟩ := two_ask h h1 h2
  have ka := mayV_kind ha; have kb := mayV_kind hb
  unfold ofS
  rw [if_pos (pq_may h h1 h2)]
  have e0 : kOf (pqT k) ((pqE a b la lb).map typingOf) 2 0 = (a.k, 0) := by
    rw [kOf_var (t := ⟨0, [112], 0, [], -1, -1⟩) rfl rfl]
    simp only [pqE, List.map_cons, typingOf, heldS]
    rw [if_pos trivial, if_neg (by omega)]
  have e1 : kOf (pqT k) ((pqE a b la lb).map typingOf) 2 1 = (b.k, 0) := by
    rw [kOf_var (t := ⟨0, [113], 0, [], -1, -1⟩) rfl rfl]
    simp only [pqE, List.map_cons, typingOf, heldS]
    rw [if_neg (by decide), if_pos trivial, if_neg (by omega)]
  show kOf (pqT k) ((pqE a b la lb).map typingOf) (2 + 1) 2 = _
  have o0 : kOp (askW k).1 (kOf (pqT k) ((pqE a b la lb).map typingOf) 2 0) = (a.k, 0) := by unfold kOp; rw [if_neg w1, e0]
  have o1 : kOp (askW k).2.1 (kOf (pqT k) ((pqE a b la lb).map typingOf) 2 1) = (b.k, 0) := by unfold kOp; rw [if_neg w2, e1]
  rw [kOf_f (t := ⟨k, [], 0, [], 0, 1⟩) rfl (by show ¬ k = 0; omega) (by show (kOp (askW k).1 (kOf (pqT k) _ 2 0)).2 = 0; rw [o0]) (by show (kOp (askW k).2.1 (kOf (pqT k) _ 2 1)).2 = 0; rw [o1])]
  show kFin k (kOp (askW k).1 (kOf (pqT k) _ 2 0)).1 (kOp (askW k).2.1 (kOf (pqT k) _ 2 1)).1 = _
  rw [o0, o1]
theorem pq_eval {k : Int} {a b : Val} {la lb : Value} (h : 6 ≤ k ∧ k ≤ 19) (h1 : ¬ k = 15) (h2 : ¬ k = 16) (ha : mayV a = true) (hb : mayV b = true) : evalS (pqT k) 2 (pqE a b la lb) = applyV k a b := by
  obtain ⟨_, _, w⟩ := two_ask h h1 h2
  unfold evalS
  rw [if_pos (pq_may h h1 h2)]
  have e0 : evalW (pqT k) (pqE a b la lb) 2 0 = (a, 0) := by
    rw [evalW_leaf (t := ⟨0, [112], 0, [], -1, -1⟩) rfl rfl]
    simp only [leafV, holdV, pqE]
    rw [if_neg (by decide), if_neg (by decide), if_neg (by decide), if_neg (by decide), if_neg (by decide), if_pos trivial, if_pos ha]
  have e1 : evalW (pqT k) (pqE a b la lb) 2 1 = (b, 0) := by
    rw [evalW_leaf (t := ⟨0, [113], 0, [], -1, -1⟩) rfl rfl]
    simp only [leafV, holdV, pqE]
    rw [if_neg (by decide), if_neg (by decide), if_neg (by decide), if_neg (by decide), if_neg (by decide), if_neg (by decide), if_pos trivial, if_pos hb]
  show evalW (pqT k) (pqE a b la lb) (2 + 1) 2 = _
  rw [evalW_2 (t := ⟨k, [], 0, [], 0, 1⟩) rfl (by show ¬ operandsI k = 0; omega) (by show (evalW (pqT k) _ 2 0).2 = 0; rw [e0]) w (by show (evalW (pqT k) _ 2 1).2 = 0; rw [e1])]
  show applyV k (evalW (pqT k) _ 2 0).1 (evalW (pqT k) _ 2 1).1 = _
  rw [e0, e1]
theorem pq_len {a b : Val} {la lb : Value} (ha : mayV a = true) (hb : mayV b = true) : ∀ z ∈ pqE a b la lb, z.v.l.length ≤ 100000 := by
  intro z hz
  simp only [pqE, List.mem_cons, List.not_mem_nil, or_false] at hz
  rcases hz with rfl | rfl
  · exact mayV_len ha
  · exact mayV_len hb
theorem pq_env {H : Hp} {a b : Val} {la lb : Value} (ha : RdV H la a) (hb : RdV H lb b) : EnvOk H (pqE a b la lb) := by
  intro z hz
  simp only [pqE, List.mem_cons, List.not_mem_nil, or_false] at hz
  rcases hz with rfl | rfl
  · exact ha
  · exact hb
/-- KindMore's answer -/
theorem pq_more {k : Int} {a b c d : Val} {la lb lc ld : Value} (h : 6 ≤ k ∧ k ≤ 19) (h1 : ¬ k = 15) (h2 : ¬ k = 16) (ha : mayV a = true) (hb : mayV b = true) (hc : mayV c = true) (hd : mayV d = true) (e1 : a.k = c.k) (e2 : b.k = d.k) :
    ((ofS (pqT k) 2 ((pqE a b la lb).map typingOf)).2 = 0 ∧ ((evalS (pqT k) 2 (pqE a b la lb)).2 = 0 → (evalS (pqT k) 2 (pqE a b la lb)).1.k = (ofS (pqT k) 2 ((pqE a b la lb).map typingOf)).1) ∧
      ((evalS (pqT k) 2 (pqE c d lc ld)).2 = 0 → (evalS (pqT k) 2 (pqE c d lc ld)).1.k = (ofS (pqT k) 2 ((pqE a b la lb).map typingOf)).1)) ∨
    ((ofS (pqT k) 2 ((pqE a b la lb).map typingOf)).2 = 502 ∧ (evalS (pqT k) 2 (pqE a b la lb)).2 = 402 ∧ (evalS (pqT k) 2 (pqE c d lc ld)).2 = 402) := by
  rw [pq_of h h1 h2 ha hb, pq_eval h h1 h2 ha hb, pq_eval h h1 h2 hc hd]
  have s1 := kFin_sndK h ha hb
  have s2 := kFin_sndK h hc hd
  rw [← e1, ← e2] at s2
  rcases s1 with ⟨p, q⟩ | ⟨p, q⟩
  · left
    rcases s2 with ⟨p2, q2⟩ | ⟨p2, q2⟩
    · refine ⟨p, fun e => ?_, fun e => ?_⟩
      · rcases q with q | q | q | q
        · exact q.2.1
        all_goals (rw [e] at q; exact absurd q (by decide))
      · rcases q2 with q | q | q | q
        · exact q.2.1
        all_goals (rw [e] at q; exact absurd q (by decide))
    · rw [p] at p2; exact absurd p2 (by decide)
  · right
    rcases s2 with ⟨p2, q2⟩ | ⟨p2, q2⟩
    · rw [p] at p2; exact absurd p2 (by decide)
    · exact ⟨p, q, q2⟩
end Go.Sx
