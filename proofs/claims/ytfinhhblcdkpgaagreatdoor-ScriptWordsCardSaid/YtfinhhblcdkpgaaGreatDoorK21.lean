/- The example of the chapter, and the words of the kinds of steps. No condition. -/
import Derived.Test.YtfinhhblcdkpgaaGreatDoorK20
import Derived.Test.YtfinhhblcdkpgaaGreatDoorK22
set_option linter.unusedSimpArgs false
set_option linter.unusedVariables false
set_option linter.defProp false
namespace Go.Proofs.YtfinhhblcdkpgaaGreatDoor
open Go Go.Abs Go.RowKit
def exS : List UInt8 := [112, 114, 111, 116, 111, 99, 111, 108, 32, 99, 97, 117, 115, 97, 108, 32, 49, 10, 112, 114, 111, 99, 101, 115, 115, 10, 111, 110, 32, 115, 116, 97, 114, 116, 32, 123, 32, 111, 117, 116, 112, 117, 116, 32, 49, 59, 32, 125, 10, 101, 110, 100, 10, 115, 116, 101, 112, 115, 10, 116, 105, 99, 107, 32, 48, 32, 53, 10, 99, 111, 109, 109, 105, 116, 10]
theorem ex_val : readF exS = (⟨[⟨[], [smE 6 [] exZ (exC 1) [] []], [], [], []⟩], 8, 1, [⟨2, 0, 0, 5⟩, ⟨13, 0, 0, 0⟩]⟩, 0, 0) := by kernel_rfl
set_option maxRecDepth 100000 in
set_option maxHeartbeats 8000000 in
theorem awake_ac : AC Tryz.prog gl 8 [] [] (.pv (.bool true)) [] := by
  have c := sparse_ac exS (by decide)
  rw [ex_val] at c
  have e1 : encSt ⟨2, 0, 0, 5⟩ = [.int .i64 2, .int .i64 0, .int .i64 0, .int .i64 5] := rfl
  have e2 : encSt ⟨13, 0, 0, 0⟩ = [.int .i64 13, .int .i64 0, .int .i64 0, .int .i64 0] := rfl
  unfold exS scA at c
  refine body0 (fun _ => 0) 1 Tryz.func8 rfl Tryz.ntmps8 (by rw [Tryz.results8]) (by simp) ?_
  (repeat' (first | simp -implicitDefEqProofs +contextual (maxSteps := 9000000) only [kx, ↓ky, tq8, simprocAttr, e1, e2, List.append_eq] | (with_reducible first | refine SB.c (fun _ => ?_) (fun _ => ?_) | refine REG.i ?_ | exact REG.j) | refine CK.d0 enters20 c ?_ | with_reducible refine AndI ?_ | omega))
set_option maxRecDepth 100000 in
set_option maxHeartbeats 8000000 in
theorem scriptWords_ac (n : Int) : AC Tryz.prog gl 4 [.pv (.int .i64 n)] [] (.pv (.bool true)) [] := by
  have cM := mod_ac n 17 (by omega) (by omega)
  generalize rmodF n 17 = m at *
  have c1 := sword_ac n
  have c2 := kword_ac n
  have c3 := sword_ac (IntKind.i64.wrap (m - 1))
  have c4 := kword_ac (IntKind.i64.wrap (m - 1))
  refine body0 (fun _ => 0) 0 Tryz.func4 rfl Tryz.ntmps4 (by rw [Tryz.results4]) (by simp) ?_
  (repeat' (first | simp -implicitDefEqProofs +contextual (maxSteps := 9000000) only [kx, ↓ky, tq4, simprocAttr] | (with_reducible first | refine SB.c (fun _ => ?_) (fun _ => ?_) | refine REG.i ?_ | exact REG.j) | refine CK.d0 enters13 cM ?_ | refine CK.d0 enters8 awake_ac ?_ | refine CK.d0 enters14 c1 ?_ | refine CK.d0 enters15 c2 ?_ | refine CK.d0 enters14 c3 ?_ | refine CK.d0 enters15 c4 ?_ | with_reducible refine AndI ?_ | omega))
end Go.Proofs.YtfinhhblcdkpgaaGreatDoor
