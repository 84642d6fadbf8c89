/- The reference's lines and words. No condition. -/
import Derived.Test.YtfinhhblcdkpgaaGreatDoorK3
import Derived.Test.YtfinhhblcdkpgaaGreatDoorLib4
set_option linter.unusedSimpArgs false
set_option linter.unusedVariables false
set_option linter.defProp false
namespace Go.Proofs.YtfinhhblcdkpgaaGreatDoor
open Go Go.Abs Go.RowKit
end Go.Proofs.YtfinhhblcdkpgaaGreatDoor
namespace Go.Proofs.YtfinhhblcdkpgaaGreatDoor
open Go Go.Abs Go.RowKit
end Go.Proofs.YtfinhhblcdkpgaaGreatDoor
namespace Go.Proofs.YtfinhhblcdkpgaaGreatDoor
open Go Go.Abs Go.RowKit
end Go.Proofs.YtfinhhblcdkpgaaGreatDoor
