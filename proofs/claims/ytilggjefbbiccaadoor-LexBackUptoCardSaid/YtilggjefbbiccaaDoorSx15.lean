import Derived.Test.YtilggjefbbiccaaDoorSx14
import Derived.Laws.Slices
import Derived.Laws.Strings2
set_option linter.unusedSimpArgs false
set_option linter.unusedVariables false
namespace Go.Sx
open Go

/-! ## parts of slices and of texts -/
section
variable {P : Program} {n : Nat} {ops : Array Oper} {Q : Exit → Act → World → Prop} {E : Env} {M : List Nat} {w0 : World} {H0 H : Hp} {L : Blks} {C : World → Prop} {rest : List Oper} {dst : Option Nat} {op : Op} {ty : TypeId} {pos : String} {aft : Array Edge}

theorem El.elem {t e k : Nat} (h : El P t e k) : P.underlying t = some (.slice (P.elem t)) ∧ (∀ w, (sizeOf (P.elem t)).run P w = .ok k w) := by
  obtain ⟨hu, inf, hi, hs⟩ := h.und
  have he : P.elem t = e := by simp [Program.elem, hu]
  rw [he]
  exact ⟨hu, fun w => by simp [sizeOf, typeInfo, hi, hs]⟩
theorem pr_sliceH {t e k : Nat} {x y : Operand} {a : Option Addr} {m c : Nat} {kd : IntKind} {h : Int} (hx : ev E x = some (.slice a m c)) (hy : ev E y = some (.int kd h)) [hel : El P t e k] (h0 : 0 ≤ h) (h1 : h ≤ c) :
    PR P E C (.slice t x none (some y) none) (sliced a 0 h.toNat c k) := by
  intro n ac w o ho he hw
  unfold execOp
  rw [ho]
  obtain ⟨e1, e2⟩ := hel.elem
  simp [he.eval hx, he.eval hy, run_sliceAt_slice (P := P) w t _ _ _ _ e1, run_slice_h (P := P) w t a m c e1 kd h h0 h1, e2, Result.andThen]
theorem pr_sliceL {t e k : Nat} {x y : Operand} {a : Option Addr} {m c : Nat} {kd : IntKind} {h : Int} (hx : ev E x = some (.slice a m c)) (hy : ev E y = some (.int kd h)) [hel : El P t e k] (h0 : 0 ≤ h) (h1 : h ≤ m) :
    PR P E C (.slice t x (some y) none none) (sliced a h.toNat m c k) := by
  intro n ac w o ho he hw
  unfold execOp
  rw [ho]
  obtain ⟨e1, e2⟩ := hel.elem
  simp [he.eval hx, he.eval hy, run_sliceAt_slice (P := P) w t _ _ _ _ e1, run_slice_l (P := P) w t a m c e1 kd h h0 h1, e2, Result.andThen]
theorem RdSl.sliced {α : Type} {k : Nat} {enc : α → List Value} {a : Option Addr} {m c : Nat} {l : List α} {i j : Nat} (h : RdSl H k enc (.slice a m c) l) (hij : i ≤ j) (hj : j ≤ l.length) : RdSl H k enc (Go.sliced a i j c k) ((l.take j).drop i) := by
  have hc := h.room a m c rfl
  have hlen : ((l.take j).drop i).length = j - i := by simp; omega
  have hmax := h.max
  by_cases he : i = j
  · subst he
    have : (l.take i).drop i = [] := List.drop_eq_nil_of_le (by simp; omega)
    rw [this]
    refine ⟨⟨(if c = i then a else a.map (·.add (i * k))), c - i, by simp [Go.sliced]⟩, by simp, fun h => absurd rfl h, fun i x hx => by simp at hx, fun a n c _ => by simp⟩
  · have hne : l ≠ [] := by intro e; subst e; simp at hj; omega
    obtain ⟨cap, e⟩ := h.addr hne
    injection e with e1 e2 e3
    subst e3
    have hci : ¬ c = i := by omega
    have hs : Go.sliced a i j c k = .slice (some ⟨blk (.slice a m c), off (.slice a m c) + i * k, none⟩) (j - i) (c - i) := by
      unfold Go.sliced
      rw [if_neg hci]
      generalize blk (.slice a m c) = B at *
      generalize off (.slice a m c) = O at *
      subst e1
      simp [Addr.add]
    refine ⟨⟨_, _, by rw [hs, hlen]⟩, by omega, fun _ => ⟨_, by rw [hs, hlen]; rfl⟩, fun q x hx u v hv => ?_, fun a' n' c' e' => ?_⟩
    · rw [List.getElem?_drop, List.getElem?_take] at hx
      split at hx
      · have := h.get (i + q) x hx u v hv
        rw [hs]
        show H (blk (.slice a m c)) (off (.slice a m c) + i * k + q * k + u) = some v
        rw [Nat.add_mul] at this
        rw [Nat.add_assoc (off _)]; exact this
      · cases hx
    · rw [hs] at e'
      injection e' with _ _ e'
      omega
theorem sliced_form (a : Option Addr) (i j c k : Nat) : ∃ b, Go.sliced a i j c k = .slice b (j - i) (c - i) := ⟨_, rfl⟩

theorem pr_strLH {t : TypeId} {x y z : Operand} {l : List UInt8} {k1 k2 : IntKind} {i j : Int} (hx : ev E x = some (gs l)) (hy : ev E y = some (.int k1 i)) (hz : ev E z = some (.int k2 j)) [hu : Und P t .string] (h0 : 0 ≤ i) (h1 : i ≤ j) (h2 : j ≤ l.length) :
    PR P E C (.slice t x (some y) (some z) none) (gs ((l.take j.toNat).drop i.toNat)) := by
  intro n ac w o ho he hw
  unfold execOp
  rw [ho]
  have hsz : j ≤ (ByteArray.mk l.toArray).size := by simpa [ByteArray.size] using h2
  have e := run_slice_string (P := P) w t ⟨l.toArray⟩ k1 k2 i j hu.out h0 h1 hsz
  simp [he.eval hx, he.eval hy, he.eval hz, gs, run_sliceAt_string (P := P) w t _ _ _ _ hu.out, e, ByteArray.extract_mk, List.drop_take]
theorem pr_strH {t : TypeId} {x z : Operand} {l : List UInt8} {k2 : IntKind} {j : Int} (hx : ev E x = some (gs l)) (hz : ev E z = some (.int k2 j)) [hu : Und P t .string] (h1 : 0 ≤ j) (h2 : j ≤ l.length) :
    PR P E C (.slice t x none (some z) none) (gs (l.take j.toNat)) := by
  intro n ac w o ho he hw
  unfold execOp
  rw [ho]
  have hsz : j ≤ (ByteArray.mk l.toArray).size := by simpa [ByteArray.size] using h2
  have e := run_slice_string_h (P := P) w t ⟨l.toArray⟩ hu.out k2 j h1 hsz
  simp [he.eval hx, he.eval hz, gs, run_sliceAt_string (P := P) w t _ _ _ _ hu.out, e, ByteArray.extract_mk]
theorem pr_strL {t : TypeId} {x y : Operand} {l : List UInt8} {k1 : IntKind} {i : Int} (hx : ev E x = some (gs l)) (hy : ev E y = some (.int k1 i)) [hu : Und P t .string] (h0 : 0 ≤ i) (h2 : i ≤ l.length) :
    PR P E C (.slice t x (some y) none none) (gs (l.drop i.toNat)) := by
  intro n ac w o ho he hw
  unfold execOp
  rw [ho]
  have hsz : i ≤ (ByteArray.mk l.toArray).size := by simpa [ByteArray.size] using h2
  have e := run_slice_string_l (P := P) w t ⟨l.toArray⟩ hu.out k1 i h0 hsz
  have hs2 : (ByteArray.mk l.toArray).size = l.length := by simp [ByteArray.size]
  simp [he.eval hx, he.eval hy, gs, run_sliceAt_string (P := P) w t _ _ _ _ hu.out, e, ByteArray.extract_mk, hs2]
  exact List.take_of_length_le (by simp)
end
end Go.Sx
