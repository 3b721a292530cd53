import Derived.Test.YtgagehpnkecmkaaDoorWNames
import Derived.Test.YtgagehpnkecmkaaDoorPureT
set_option linter.unusedVariables false
set_option linter.unusedSimpArgs false
namespace Go.Sx
open Go Go.Proofs

end Go.Sx
