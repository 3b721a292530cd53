import Derived.Test.YtgagehpnkecmkaaDoorPureO
import Derived.Test.YtgagehpnkecmkaaDoorFacts
set_option linter.unusedVariables false
namespace Go.Sx
open Go Go.Proofs
end Go.Sx
