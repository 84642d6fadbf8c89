/- A part of the walk (Tryz_N5): its theorems have no condition beyond what they state. -/
import Derived.Test.YtopbicbgolcmpaaGreatDoorN4
set_option linter.unusedSimpArgs false
set_option linter.unusedVariables false
set_option linter.defProp false
namespace Go.Proofs.YtopbicbgolcmpaaGreatDoor
open Go Go.Abs Go.RowKit
set_option maxRecDepth 10000 in
theorem rletter_ac (n : Int) : AC Tryz.prog gl 53 [.pv (.int .u8 n)] [] (.pv (.bool (letterF n))) [] := by
  refine body0 (fun _ => 0) 0 Tryz.func53 rfl Tryz.ntmps53 (by rw [Tryz.results53]) (by simp) ?_
  simp -implicitDefEqProofs +contextual (maxSteps := 9000000) only [kx, ↓ky, tq53, simprocAttr]
  grind [letterF]
set_option maxRecDepth 10000 in
theorem rdigit_ac (n : Int) : AC Tryz.prog gl 54 [.pv (.int .u8 n)] [] (.pv (.bool (digitF n))) [] := by
  refine body0 (fun _ => 0) 0 Tryz.func54 rfl Tryz.ntmps54 (by rw [Tryz.results54]) (by simp) ?_
  simp -implicitDefEqProofs +contextual (maxSteps := 9000000) only [kx, ↓ky, tq54, simprocAttr]
  grind [digitF]
end Go.Proofs.YtopbicbgolcmpaaGreatDoor
