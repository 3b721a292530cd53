import Derived.Test.YtilggjefbbiccaaDoorSx10
import Derived.Laws.Cover3
set_option linter.unusedSimpArgs false
set_option linter.unusedVariables false
namespace Go.Sx
open Go

section
variable {P : Program} {n : Nat} {ops : Array Oper} {Q : Exit → Act → World → Prop} {E : Env} {M : List Nat} {w0 : World} {H0 H : Hp} {L : Blks} {C : World → Prop} {rest : List Oper} {dst : Option Nat} {ty : TypeId} {pos : String} {aft : Array Edge}

/-- is a slice nil? -/
theorem pr_slNil {t t' e k : TypeId} {x y : Operand} {a : Option Addr} {m c : Nat} (hx : ev E x = some (.slice a m c)) (hy : ev E y = some (.slice none 0 0)) [hel : El P t e k] : PR P E C (.binOp .eql t x y t') (.bool a.isNone) := by
  intro n ac w o ho he hw
  unfold execOp
  rw [ho]
  obtain ⟨hu, inf, hi, hs⟩ := hel.und
  have hb : (binOp .eql t (.slice a m c) (.slice none 0 0)).run P w = .ok (.bool a.isNone) w := by
    simp only [binOp]
    simp [run_equal_slice_nil (P := P) w t e a m c hu]
  have hg : (eqGuard .eql t x y (.slice a m c) (.slice none 0 0)).run P w = .ok () w := rfl
  simp [he.eval hx, he.eval hy, hb, hg]
theorem pr_slNot {t t' e k : TypeId} {x y : Operand} {a : Option Addr} {m c : Nat} (hx : ev E x = some (.slice a m c)) (hy : ev E y = some (.slice none 0 0)) [hel : El P t e k] : PR P E C (.binOp .neq t x y t') (.bool (!a.isNone)) := by
  intro n ac w o ho he hw
  unfold execOp
  rw [ho]
  obtain ⟨hu, inf, hi, hs⟩ := hel.und
  have hg : (eqGuard .neq t x y (.slice a m c) (.slice none 0 0)).run P w = .ok () w := rfl
  simp [he.eval hx, he.eval hy, run_neq_slice_nil (P := P) w t e a m c hu, hg]

/-- a loop whose state is an index, a value, blocks of one's own and what may be read -/
theorem TC.loop4 {ι : Type} {c : Code} (V : ι → Value → Blks → Hp → Env) (K : Env) (L : ι → Value → Blks → Hp → World → Prop) (I : ι → Value → Blks → Hp → Prop) (μ : ι → Nat) (i : ι) (v : Value) (ob : Blks) (H1 : Hp) (h0 : Sub (V i v ob H1 ++ K) E) (hi : I i v ob H1) (hC : ∀ w, C w → L i v ob H1 w)
    (round : ∀ i v ob H1, I i v ob H1 → TC P n c (Exit.then (fun a w => ∃ j v' ob' H', I j v' ob' H' ∧ EOk n (V j v' ob' H' ++ K) a ∧ L j v' ob' H' w ∧ μ j < μ i) Q) (V i v ob H1 ++ K) (L i v ob H1)) : TC P n (.loop c) Q E C :=
  TC.loop (ι := ι × Value × Blks × Hp) (V := fun i => V i.1 i.2.1 i.2.2.1 i.2.2.2) (K := K) (L := fun i => L i.1 i.2.1 i.2.2.1 i.2.2.2) (I := fun i => I i.1 i.2.1 i.2.2.1 i.2.2.2) (μ := fun i => μ i.1) (i := (i, v, ob, H1)) h0 hi hC
    (fun i hI a w he hw => Code.wp_mono (fun e a' w' hq => by
      cases e with
      | normal => obtain ⟨j, v', ob', H', h1, h2, h3, h4⟩ := hq; exact ⟨(j, v', ob', H'), h1, h2, h3, h4⟩
      | exit id => exact hq
      | goto l => exact hq
      | ret => exact hq
      | panic ch => exact hq
      | outgrown => exact hq) (round i.1 i.2.1 i.2.2.1 i.2.2.2 hI a w he hw))
theorem TX.round4 {ι : Type} {V : ι → Value → Blks → Hp → Env} {L : ι → Value → Blks → Hp → World → Prop} {I : ι → Value → Blks → Hp → Prop} {μ : ι → Nat} {i : ι} {E0 : Env} (j : ι) (v' : Value) (ob' : Blks) (H' : Hp) (hI : I j v' ob' H') (hs : Sub (V j v' ob' H' ++ E0) E) (hC : ∀ w, C w → L j v' ob' H' w) (hm : μ j < μ i) :
    TX n (Exit.then (fun a w => ∃ j v' ob' H', I j v' ob' H' ∧ EOk n (V j v' ob' H' ++ E0) a ∧ L j v' ob' H' w ∧ μ j < μ i) Q .normal) E C := fun a w he hw => ⟨j, v', ob', H', hI, he.sub hs, hC w hw, hm⟩

/-- own blocks, those in front dropped -/
theorem St.dropN {M : List Nat} {w0 w : World} {H0 H : Hp} {A L : Blks} (h : St M w0 H0 H (A ++ L) w) : St M w0 H0 H L w := by
  induction A with
  | nil => exact h
  | cons x A ih => exact ih h.drop
end
end Go.Sx
