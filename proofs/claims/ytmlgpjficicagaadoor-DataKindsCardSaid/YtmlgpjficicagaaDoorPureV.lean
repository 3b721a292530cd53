import Derived.Test.YtmlgpjficicagaaDoorPureB
import Derived.Test.YtmlgpjficicagaaDoorSxB
set_option linter.unusedVariables false
namespace Go.Sx
open Go
/-! ## values, and rows of numbers and names -/
def I64.cells (n : Int) : List Value := [.int .i64 n]
def Str.cells (s : Str) : List Value := [gs s]
structure Val where
  k : Int
  n : Int
  s : Str
  l : List Int
/-- a value's cells; lv: its list -/
def Val.cells (x : Val) (lv : Value) : List Value := [.int .i64 x.k, .int .i64 x.n, gs x.s, lv]
structure Bind where
  name : Str
  v : Val
  lv : Value
def Bind.cells (b : Bind) : List Value := [gs b.name, .int .i64 b.v.k, .int .i64 b.v.n, gs b.v.s, b.lv]
instance : Cells 1 I64.cells := ⟨fun _ => rfl, by decide, fun _ => rfl⟩
instance : Cells 1 Str.cells := ⟨fun _ => rfl, by decide, fun _ => rfl⟩
instance : Cells 3 Typing.cells := ⟨fun _ => rfl, by decide, fun _ => rfl⟩
instance : Cells 6 Term.cells := ⟨fun _ => rfl, by decide, fun _ => rfl⟩
/-- the list of a value may be read -/
def RdV (H : Hp) (lv : Value) (x : Val) : Prop := RdSl H 1 I64.cells lv x.l
def EnvOk (H : Hp) (env : List Bind) : Prop := ∀ b ∈ env, RdV H b.lv b.v
theorem RdV.le {H H' : Hp} {lv : Value} {x : Val} (h : RdV H lv x) (hl : H.le H') : RdV H' lv x := RdSl.le h hl
theorem EnvOk.le {H H' : Hp} {env : List Bind} (h : EnvOk H env) (hl : H.le H') : EnvOk H' env := fun b hb => (h b hb).le hl
theorem EnvOk.nil {H : Hp} : EnvOk H [] := fun b hb => by cases hb
theorem lens_nil : ∀ b ∈ ([] : List Bind), b.v.l.length ≤ 100000 := fun b hb => by cases hb
theorem binds_nil {H : Hp} : RdSl H 5 Bind.cells (.slice none 0 0) [] := RdSl.nil
theorem take_snoc {α : Type} {l : List α} {k : Int} {x : α} (hk : 0 ≤ k) (hx : l[k.toNat]? = some x) : l.take (k + 1).toNat = l.take k.toNat ++ [x] := by
  rw [show (k + 1).toNat = k.toNat + 1 by omega, List.take_add_one, hx]; rfl
theorem take_all {α : Type} {l : List α} {k : Int} (h : ¬ k < l.length) (h2 : 0 ≤ k) : l.take k.toNat = l := List.take_of_length_le (by omega)
/-- the end of a row -/
theorem map_take_snoc {α β : Type} {f : α → β} {l : List α} {k : Int} {x : α} (hk : 0 ≤ k) (hx : l[k.toNat]? = some x) : (l.take (k + 1).toNat).map f = (l.take k.toNat).map f ++ [f x] := by
  rw [take_snoc hk hx]; simp
theorem RdSl.ofNone {α : Type} {H : Hp} {enc : α → List Value} {k : Nat} {l : List α} {a : Option Addr} {n c : Nat} (h : RdSl H k enc (.slice a n c) l) (ha : a.isNone = true) : RdSl H k enc (.slice none 0 0) l := by
  cases a with
  | some a => cases ha
  | none =>
    by_cases hl : l = []
    · subst hl; exact RdSl.nil
    · obtain ⟨_, h⟩ := h.addr hl; cases h
theorem RdSl.ownNone {α : Type} {H : Hp} {enc : α → List Value} {k : Nat} {l : List α} {a : Option Addr} {n c : Nat} (h : RdSl H k enc (.slice a n c) l) (ha : a.isNone = true) : OwnSl k enc (.slice none 0 0) l [] := by
  cases a with
  | some a => cases ha
  | none =>
    by_cases hl : l = []
    · subst hl; exact OwnSl.nil
    · obtain ⟨_, h⟩ := h.addr hl; cases h
def typingOf (b : Bind) : Typing := ⟨b.name, b.v.k, 0⟩
end Go.Sx
