/- A part of the walk (Tryz_N8): its theorems have no condition beyond what they state. -/
import Derived.Test.YtopbicbgolcmpaaGreatDoorN7
import Derived.Test.YtopbicbgolcmpaaGreatDoorLib3
set_option linter.unusedSimpArgs false
set_option linter.unusedVariables false
set_option linter.defProp false
namespace Go.Proofs.YtopbicbgolcmpaaGreatDoor
open Go Go.Abs Go.RowKit
end Go.Proofs.YtopbicbgolcmpaaGreatDoor
