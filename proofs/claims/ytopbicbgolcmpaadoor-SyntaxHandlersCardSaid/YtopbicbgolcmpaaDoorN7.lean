/- A part of the walk (Tryd_N7): its theorems have no condition beyond what they state. -/
import Derived.Test.YtopbicbgolcmpaaDoorN6
set_option linter.unusedSimpArgs false
set_option linter.unusedVariables false
set_option linter.defProp false
namespace Go.Proofs.YtopbicbgolcmpaaDoor
open Go Go.Abs Go.RowKit
end Go.Proofs.YtopbicbgolcmpaaDoor
