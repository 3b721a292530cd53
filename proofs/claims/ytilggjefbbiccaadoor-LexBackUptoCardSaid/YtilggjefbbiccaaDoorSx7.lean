import Derived.Test.YtilggjefbbiccaaDoorSx6
import Derived.Laws.Append
import Derived.ArgAppend
set_option linter.unusedSimpArgs false
set_option linter.unusedVariables false
namespace Go.Sx
open Go

section
variable {P : Program} {n : Nat} {ops : Array Oper} {Q : Exit → Act → World → Prop} {E : Env} {M : List Nat} {w0 : World} {H0 H : Hp} {L : Blks} {C : World → Prop} {rest : List Oper} {dst : Option Nat} {ty : TypeId} {pos : String} {aft : Array Edge}

theorem PR.to {op : Op} {v u : Value} (h : PR P E C op v) (e : v = u) : PR P E C op u := e ▸ h

theorem pr_conv {s t : TypeId} {x : Operand} {k0 k : IntKind} {a : Int} {d : TypeDesc} (hx : ev E x = some (.int k0 a)) [hs : Und P s d] [ht : Und P t (.int k)] : PR P E C (.convert s t x) (.int k (k.wrap a)) := by
  intro n ac w o ho he hw
  unfold execOp
  rw [ho]
  simp [he.eval hx, convert, run_underlying hs.out, run_underlying ht.out, Conv.intToInt]

theorem pr_quo {k : IntKind} {t t' : TypeId} {x y : Operand} {a b : Int} (hx : ev E x = some (.int k a)) (hy : ev E y = some (.int k b)) (hb : b ≠ 0) : PR P E C (.binOp .quo t x y t') (.int k (k.wrap (a.tdiv b))) := by
  intro n ac w o ho he hw
  unfold execOp
  rw [ho]
  simp [he.eval hx, he.eval hy, eqGuard_at_int, eqGuard, binOp, Op.intDiv, hb]
theorem pr_rem {k : IntKind} {t t' : TypeId} {x y : Operand} {a b : Int} (hx : ev E x = some (.int k a)) (hy : ev E y = some (.int k b)) (hb : b ≠ 0) : PR P E C (.binOp .rem t x y t') (.int k (a.tmod b)) := by
  intro n ac w o ho he hw
  unfold execOp
  rw [ho]
  simp [he.eval hx, he.eval hy, eqGuard_at_int, eqGuard, binOp, Op.intDiv, hb]
theorem pr_concat {t t' : TypeId} {x y : Operand} {a b : List UInt8} (hx : ev E x = some (gs a)) (hy : ev E y = some (gs b)) (hr : a.length + b.length ≤ 9223372036854775807) : PR P E C (.binOp .add t x y t') (gs (a ++ b)) := by
  intro n ac w o ho he hw
  unfold execOp
  rw [ho]
  have h1 : ByteArray.mk a.toArray ++ ByteArray.mk b.toArray = ByteArray.mk (a ++ b).toArray := by
    apply ByteArray.ext
    simp
  simp [he.eval hx, he.eval hy, gs, eqGuard_at_string, eqGuard, binOp, Op.stringOp, h1]
  have h2 : (ByteArray.mk a.toArray).size = a.length := by simp [ByteArray.size]
  have h3 : (ByteArray.mk b.toArray).size = b.length := by simp [ByteArray.size]
  rw [h2, h3]; omega

/-- an index that is taken modulo a size -/
theorem mod_conv (a : Int) {m : Int} (h0 : 0 < m) (h1 : m ≤ 9223372036854775807) : IntKind.i64.wrap ((IntKind.u64.wrap a).tmod m) = a % 18446744073709551616 % m := by
  have h2 : IntKind.u64.wrap a = a % 18446744073709551616 := by
    simp [IntKind.wrap, IntKind.bits, IntKind.signed]
  rw [h2, Int.tmod_eq_emod_of_nonneg (Int.emod_nonneg _ (by decide))]
  have h3 := Int.emod_nonneg (a % 18446744073709551616) (show m ≠ 0 by omega)
  have h4 := Int.emod_lt_of_pos (a % 18446744073709551616) h0
  exact wrap64_in (by omega) (by omega)
end
end Go.Sx
