/- A part of the walk (Tryz_W4): its theorems have no condition beyond what they state. -/
import Derived.Test.YtopbicbgolcmpaaGreatDoorW3
import Derived.Test.YtopbicbgolcmpaaGreatDoorS5
set_option linter.unusedSimpArgs false
set_option linter.unusedVariables false
set_option linter.defProp false
namespace Go.Proofs.YtopbicbgolcmpaaGreatDoor
open Go Go.Abs Go.RowKit
end Go.Proofs.YtopbicbgolcmpaaGreatDoor
namespace Go.Proofs.YtopbicbgolcmpaaGreatDoor
open Go Go.Abs Go.RowKit
end Go.Proofs.YtopbicbgolcmpaaGreatDoor
