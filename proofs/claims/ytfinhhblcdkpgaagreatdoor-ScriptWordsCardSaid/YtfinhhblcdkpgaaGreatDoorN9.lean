/- A part of the walk (Tryz_N9): its theorems have no condition beyond what they state. -/
import Derived.Test.YtfinhhblcdkpgaaGreatDoorN12
import Derived.Test.YtfinhhblcdkpgaaGreatDoorN9a
set_option linter.unusedSimpArgs false
set_option linter.unusedVariables false
set_option linter.defProp false
namespace Go.Proofs.YtfinhhblcdkpgaaGreatDoor
open Go Go.Abs Go.RowKit
set_option maxHeartbeats 2000000 in
set_option maxRecDepth 10000 in
theorem reserved_ac (s : List UInt8) : AC Tryz.prog gl 128 [.pv (.str s)] [] (.pv (.bool (resF s))) [] := by
  refine body0 (fun _ => 0) 0 Tryz.func128 rfl Tryz.ntmps128 (by rw [Tryz.results128]) (by simp) ?_
  (repeat' (first | simp -implicitDefEqProofs +contextual (maxSteps := 9000000) only [kx, ↓ky, tq128, simprocAttr] | (with_reducible first | refine SB.c (fun _ => ?_) (fun _ => ?_) | refine REG.i ?_ | exact REG.j) | with_reducible refine AndI ?_ | omega))
  all_goals grind [resF]
set_option maxRecDepth 10000 in
set_option maxHeartbeats 1000000 in
theorem valid_ac (s : List UInt8) : AC Tryz.prog gl 92 [.pv (.str s)] [] (.pv (.bool (validF s))) [] := by
  refine body0 (fun _ => 0) 0 Tryz.func92 rfl Tryz.ntmps92 (by rw [Tryz.results92]) (by simp) ?_
  by_cases h0 : s = []
  · subst h0
    (repeat' (first | simp -implicitDefEqProofs +contextual (maxSteps := 9000000) only [kx, ↓ky, tq92, simprocAttr] | (with_reducible first | refine SB.c (fun _ => ?_) (fun _ => ?_) | refine REG.i ?_ | exact REG.j) | with_reducible refine AndI ?_ | omega))
    simp [validF]
  have h0' : (s == []) = false := by simpa using h0
  have hlen : 0 < s.length := List.length_pos_iff.2 h0
  by_cases h16 : (s.length : Int) > 16
  · rw [validF_long s (by omega)]
    (repeat' (first | simp -implicitDefEqProofs +contextual (maxSteps := 9000000) only [kx, ↓ky, tq92, simprocAttr, h0', h16] | (with_reducible first | refine SB.c (fun _ => ?_) (fun _ => ?_) | refine REG.i ?_ | exact REG.j) | with_reducible refine AndI ?_ | omega))
  · have cW := word_ac s 0 (by omega) (by omega)
    have cR := reserved_ac s
    have hlen' : (0 : Int) < s.length := by omega
    have hv : validF s = (letterF (s.getD 0 0).toNat && ((((runF isW s 0 : Nat) : Int) == (s.length : Int)) && !resF s)) := by
      unfold validF
      rw [h0', decide_eq_false h16]
      simp [wordF_run]
    rw [hv]
    (repeat' (first | simp -implicitDefEqProofs +contextual (maxSteps := 9000000) only [kx, ↓ky, tq92, simprocAttr, h0', h16, hlen, hlen'] | (with_reducible first | refine SB.c (fun _ => ?_) (fun _ => ?_) | refine REG.i ?_ | exact REG.j) | refine CK.d0 enters126 (letter_ac _) ?_ | refine CK.d0 enters127 cW ?_ | refine CK.d0 enters128 cR ?_ | with_reducible refine AndI ?_ | omega))
    all_goals grind
end Go.Proofs.YtfinhhblcdkpgaaGreatDoor
