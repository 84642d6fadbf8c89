/- The remainder that is never negative. No condition. -/
import Derived.Test.YtfinhhblcdkpgaaGreatDoorT0
import Derived.Test.YtfinhhblcdkpgaaGreatDoorLib3
import Derived.Test.YtfinhhblcdkpgaaGreatDoorLib4
set_option linter.unusedSimpArgs false
set_option linter.unusedVariables false
set_option linter.defProp false
namespace Go.Proofs.YtfinhhblcdkpgaaGreatDoor
open Go Go.Abs
set_option maxRecDepth 100000 in
set_option maxHeartbeats 1000000 in
theorem mod_ac (x n : Int) (h0 : 0 < n) (h1 : n ≤ 9223372036854775807) : AC Tryz.prog gl 13 [.pv (.int .i64 x), .pv (.int .i64 n)] [] (.pv (.int .i64 (rmodF x n))) [] := by
  have hm := rmodF_lt x n h0
  have h2 := Int.tmod_lt_of_pos x h0
  have h3 : -n < x.tmod n := Int.lt_tmod_of_pos x h0
  have e1 : IntKind.i64.wrap (x.tmod n) = x.tmod n := wrap64 _ (by omega) (by omega)
  have e2 : ¬ n = 0 := by omega
  have e3 : x.tmod n < 0 → IntKind.i64.wrap (x.tmod n + n) = x.tmod n + n := fun h => wrap64 _ (by omega) (by omega)
  have hd : rmodF x n = if x.tmod n < 0 then x.tmod n + n else x.tmod n := rfl
  refine body0 (fun _ => 0) 0 Tryz.func13 rfl Tryz.ntmps13 (by rw [Tryz.results13]) (by simp) ?_
  by_cases h : x.tmod n < 0
  · rw [hd, if_pos h]
    have e4 := e3 h
    (repeat' (first | simp -implicitDefEqProofs +contextual (maxSteps := 9000000) only [kx, ↓ky, tq13, simprocAttr, e1, e2, e4, h] | (with_reducible first | refine SB.c (fun _ => ?_) (fun _ => ?_) | refine REG.i ?_ | exact REG.j) | with_reducible refine AndI ?_ | omega))
  · rw [hd, if_neg h]
    (repeat' (first | simp -implicitDefEqProofs +contextual (maxSteps := 9000000) only [kx, ↓ky, tq13, simprocAttr, e1, e2, h] | (with_reducible first | refine SB.c (fun _ => ?_) (fun _ => ?_) | refine REG.i ?_ | exact REG.j) | with_reducible refine AndI ?_ | omega))
end Go.Proofs.YtfinhhblcdkpgaaGreatDoor
