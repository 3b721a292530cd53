import Derived.Test.YtilggjefbbiccaaDoorSx16
import Derived.WideLaws
import Derived.Below
import Derived.Lib.SmallJoins
import Derived.Lib.ParseIntB
set_option linter.unusedSimpArgs false
set_option linter.unusedVariables false
namespace Go.Sx
open Go
section
variable {P : Program} {n : Nat} {ops : Array Oper} {Q : Exit → Act → World → Prop} {E : Env} {M : List Nat} {w0 : World} {H0 H : Hp} {L : Blks} {C : World → Prop}
/-! ## errors: nil or not -/
theorem pr_ifNil0 {t t' : TypeId} {x y : Operand} (hx : ev E x = some .nilIface) (hy : y = .const .nilIface) (ht : P.underlying t = some (.interface (P.methodsAt t))) : PR P E C (.binOp .eql t x y t') (.bool true) := by
  subst hy
  intro n ac w o ho he hw
  unfold execOp
  rw [ho]
  have hg : (eqGuard .eql t x (.const .nilIface) .nilIface .nilIface).run P w = .ok () w := by rw [eqGuard_nil_constR]; rfl
  have hev : ac.eval (.const .nilIface) = .nilIface := rfl
  simp [he.eval hx, hev, hg, run_eql_nil_nil w t ht]
theorem pr_ifNil1 {t t' u : TypeId} {v : Value} {x y : Operand} (hx : ev E x = some (.iface u v)) (hy : y = .const .nilIface) (ht : P.underlying t = some (.interface (P.methodsAt t))) : PR P E C (.binOp .eql t x y t') (.bool false) := by
  subst hy
  intro n ac w o ho he hw
  unfold execOp
  rw [ho]
  have hg : (eqGuard .eql t x (.const .nilIface) (.iface u v) .nilIface).run P w = .ok () w := by rw [eqGuard_at_iface]; rfl
  have hev : ac.eval (.const .nilIface) = .nilIface := rfl
  simp [he.eval hx, hev, hg, run_eql_held_nil w t u v ht]
/-! ## the greater and the lesser -/
theorem pr_max {c : Call} {x y : Operand} {k k2 : IntKind} {a b : Int} {ts : Array TypeId} (hc : c = { callee := .builtin .max, args := #[x, y], argTypes := ts }) (hx : ev E x = some (.int k a)) (hy : ev E y = some (.int k2 b)) : PR P E C (.call c) (.int k (if b > a then b else a)) := by
  subst hc
  intro n ac w o ho he hw
  unfold execOp
  rw [ho]
  simp [resolve, invoke, builtin, he.eval hx, he.eval hy, run_max_int2]
theorem pr_min {c : Call} {x y : Operand} {k k2 : IntKind} {a b : Int} {ts : Array TypeId} (hc : c = { callee := .builtin .min, args := #[x, y], argTypes := ts }) (hx : ev E x = some (.int k a)) (hy : ev E y = some (.int k2 b)) : PR P E C (.call c) (.int k (if b < a then b else a)) := by
  subst hc
  intro n ac w o ho he hw
  unfold execOp
  rw [ho]
  simp [resolve, invoke, builtin, he.eval hx, he.eval hy, run_min_int2]
theorem FnS.same {f : FuncId} {args : List Value} {v : Value} (h : ∀ w, Calls P f args.toArray w (fun e w' => e = .returned v ∧ w' = w)) : FnS P f args H v := by
  intro w hw
  refine (h w).mono ?_
  rintro e w' ⟨rfl, rfl⟩
  exact ⟨v, H, [], rfl, hw, rfl, rfl, rfl⟩
/-! ## the library's numerals -/
def ErrAt (H : Hp) (g : Nat) : Prop := ∃ te pe, H g 0 = some (.iface te pe)
theorem ErrAt.le {H H' : Hp} {g : Nat} (h : ErrAt H g) (hl : H.le H') : ErrAt H' g := by
  obtain ⟨t, p, h⟩ := h
  exact ⟨t, p, hl _ _ _ h⟩
theorem Ext.below {w w' : World} (h : RowKit.Below w.heap.size w w') : Ext w w' := ⟨h.os, h.tape, h.output, h.size, h.block⟩
theorem Ext.bytes {w w' : World} {e : TypeId} {s : ByteArray} (h : w' = w ∨ ∃ t, w' = Lib.bytesWorld w e t) : Ext w w' := by
  rcases h with rfl | ⟨t, rfl⟩
  · exact Ext.refl _
  · exact Ext.below (Joins.below_bytesWorld _ w e t (Nat.le_refl _))
def ParseR (s : List UInt8) (v : Value) : Prop := (∃ n, Lib.parseIntB 64 s = .ok n ∧ v = .tuple #[.int .i64 n, .nilIface]) ∨ ((∀ n, Lib.parseIntB 64 s ≠ .ok n) ∧ ∃ n t p, v = .tuple #[.int .i64 n, .iface t p])
/-- the library's ParseInt(s, 10, 64), from its contracts -/
theorem parse_fn {f : FuncId} {gS gR : Nat} {s : List UInt8} {te : TypeId}
    (hok : ∀ (s : ByteArray) (hmax : s.size ≤ 9223372036854775806) (v : Int) (h : Lib.parseIntB 64 s.data.toList = .ok v) (w : World), Calls P f #[.string s, .int .i64 10, .int .i64 64] w fun e w' => e = .returned (.tuple #[.int .i64 v, .nilIface]) ∧ (w' = w ∨ ∃ t, w' = Lib.bytesWorld w te t))
    (hsy : ∀ (s : ByteArray) (hlim : s.size ≤ 281474976710656) (h : Lib.parseIntB 64 s.data.toList = .«syntax») (ev : Value) (w : World) (hv : w.cell? ⟨gS, 0, none⟩ = some ev) (hev : ev = .nilIface ∨ ∃ te pe, ev = .iface te pe), Calls P f #[.string s, .int .i64 10, .int .i64 64] w fun e w' => ∃ N t, e = .returned (.tuple #[.int .i64 (0), .iface t (.pointer (some ⟨N, 0, none⟩))]) ∧ RowKit.Below w.heap.size w w')
    (hrg : ∀ (s : ByteArray) (hlim : s.size ≤ 281474976710656) (h : Lib.parseIntB 64 s.data.toList = .range) (ev : Value) (w : World) (hv : w.cell? ⟨gR, 0, none⟩ = some ev) (hev : ev = .nilIface ∨ ∃ te pe, ev = .iface te pe), Calls P f #[.string s, .int .i64 10, .int .i64 64] w fun e w' => ∃ N n t, e = .returned (.tuple #[.int .i64 n, .iface t (.pointer (some ⟨N, 0, none⟩))]) ∧ RowKit.Below w.heap.size w w')
    (hs : s.length ≤ 281474976710656) (hS : ErrAt H gS) (hR : ErrAt H gR) : Fn P f [gs s, .int .i64 10, .int .i64 64] H (fun v H' => H' = H ∧ ParseR s v) := by
  have hsz : (ByteArray.mk s.toArray).size = s.length := by simp [ByteArray.size]
  intro w hw
  have hw' : St [] w H H [] w := hw
  have key : Calls P f #[gs s, .int .i64 10, .int .i64 64] w fun e w' => ∃ v, e = .returned v ∧ ParseR s v ∧ Ext w w' := by
    cases h : Lib.parseIntB 64 s with
    | ok v =>
      refine (hok ⟨s.toArray⟩ (by rw [hsz]; omega) v h w).mono ?_
      rintro e w' ⟨rfl, hx⟩
      exact ⟨_, rfl, .inl ⟨v, h, rfl⟩, Ext.bytes (s := ⟨#[]⟩) hx⟩
    | «syntax» =>
      obtain ⟨te, pe, hg⟩ := hS
      refine (hsy ⟨s.toArray⟩ (by rw [hsz]; exact hs) h _ w (hw'.hp _ _ _ hg) (.inr ⟨te, pe, rfl⟩)).mono ?_
      rintro e w' ⟨N, t, rfl, hx⟩
      exact ⟨_, rfl, .inr ⟨(fun n hn => by rw [h] at hn; cases hn), _, _, _, rfl⟩, Ext.below hx⟩
    | range =>
      obtain ⟨te, pe, hg⟩ := hR
      refine (hrg ⟨s.toArray⟩ (by rw [hsz]; exact hs) h _ w (hw'.hp _ _ _ hg) (.inr ⟨te, pe, rfl⟩)).mono ?_
      rintro e w' ⟨N, n, t, rfl, hx⟩
      exact ⟨_, rfl, .inr ⟨(fun n hn => by rw [h] at hn; cases hn), _, _, _, rfl⟩, Ext.below hx⟩
  refine key.mono ?_
  rintro e w' ⟨v, rfl, hΦ, hx⟩
  exact ⟨v, H, [], rfl, hx.st hw, rfl, rfl, hΦ⟩
end
end Go.Sx
