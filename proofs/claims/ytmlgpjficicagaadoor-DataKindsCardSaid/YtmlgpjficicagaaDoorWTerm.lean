import Derived.Test.YtmlgpjficicagaaDoorWNames
import Derived.Test.YtmlgpjficicagaaDoorPureT
set_option linter.unusedVariables false
set_option linter.unusedSimpArgs false
namespace Go.Sx
open Go Go.Proofs

end Go.Sx
