/- A part of the walk (Tryd_S2): its theorems have no condition beyond what they state. -/
import Derived.Test.YtopbicbgolcmpaaDoorS1
set_option linter.unusedSimpArgs false
set_option linter.unusedVariables false
set_option linter.defProp false
namespace Go.Proofs.YtopbicbgolcmpaaDoor
open Go Go.Abs
end Go.Proofs.YtopbicbgolcmpaaDoor
