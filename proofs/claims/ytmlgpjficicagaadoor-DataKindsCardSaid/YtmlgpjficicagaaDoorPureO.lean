import Derived.Test.YtmlgpjficicagaaDoorLaw
import Derived.Test.YtmlgpjficicagaaDoorPureV
set_option linter.unusedVariables false
namespace Go.Sx
open Go
/-! ## arguments that hold lists -/
/-- a value with its list's place -/
abbrev VL := Val × Value
def VL.cells (x : VL) : List Value := x.1.cells x.2
def Val.ok (x : Val) : Prop := ((i64ok x.k ∧ i64ok x.n) ∧ x.s.length ≤ 9223372036854775807) ∧ ∀ n ∈ x.l, i64ok n
def VL.ok (H : Hp) (x : VL) : Prop := RdV H x.2 x.1 ∧ x.1.ok
def Bind.ok (H : Hp) (b : Bind) : Prop := RdV H b.lv b.v ∧ (b.v.ok ∧ b.name.length ≤ 9223372036854775807)
def Str.ok (_ : Hp) (s : Str) : Prop := s.length ≤ 9223372036854775807
theorem opens_Str {P : Program} {t : TypeId} (ht : P.underlying t = some .string) : Opens P t Str.cells Str.ok := opens_str ht
def I64.ok (_ : Hp) (n : Int) : Prop := i64ok n
theorem opens_I64 {P : Program} {t : TypeId} (ht : P.underlying t = some (.int .i64)) : Opens P t I64.cells I64.ok := opens_i64 ht
end Go.Sx
