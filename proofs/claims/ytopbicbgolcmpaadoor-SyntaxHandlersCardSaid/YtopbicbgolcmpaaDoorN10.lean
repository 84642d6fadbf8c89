/- A part of the walk (Tryd_N10): its theorems have no condition beyond what they state. -/
import Derived.Test.YtopbicbgolcmpaaDoorN7
import Derived.Test.YtopbicbgolcmpaaDoorLib3
set_option linter.unusedSimpArgs false
set_option linter.unusedVariables false
set_option linter.defProp false
namespace Go.Proofs.YtopbicbgolcmpaaDoor
open Go Go.Abs Go.RowKit
end Go.Proofs.YtopbicbgolcmpaaDoor
