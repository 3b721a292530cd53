import Derived.Test.YtjnlogbbcceaoaaPuA
import Derived.Lib.IndexMore
set_option linter.unusedVariables false
namespace Go.Sx
open Go
/-- a text parted at its first dot -/
def cutS (s : Str) : Str × Str × Bool := Lib.cut s [46]
end Go.Sx
