/- A part of the walk (Tryz_K1): its theorems have no condition beyond what they state. -/
import Derived.Test.YtfinhhblcdkpgaaGreatDoorT0
import Derived.Test.YtfinhhblcdkpgaaGreatDoorLib3
set_option linter.unusedSimpArgs false
set_option linter.unusedVariables false
set_option linter.defProp false
namespace Go.Proofs.YtfinhhblcdkpgaaGreatDoor
open Go Go.Abs
abbrev rObj (f : Fl) : Option AObj := some (.cells [.map 1, .pv (.bool f.1), .pv (.bool f.2)])
abbrev mObj (pl : List Pl) : Option AObj := some (.map .string (pl.map encPl))
set_option maxRecDepth 100000 in
set_option maxHeartbeats 4000000 in
theorem find_ac (pl : List Pl) (n : List UInt8) (arr : Bool) (f : Fl) : AC Tryz.prog gl 94 [.ref 0 0, .pv (.str n), .pv (.bool arr)] [rObj f, mObj pl]
    (.tup [.pv (.int .i64 (findF pl n arr f).1.1), .pv (.int .i64 (findF pl n arr f).1.2)]) [rObj (findF pl n arr f).2, mObj pl] := by
  have hm := mfind_enc n pl
  cases h : plFind n pl with
  | none =>
    simp only [h, Option.map_none] at hm
    have hq : findF pl n arr f = ((0, 0), (true, f.2)) := by simp [findF, h]
    rw [hq]
    refine bodyO (fun d => 2) 3 Tryz.func94 rfl Tryz.ntmps94 (by rw [Tryz.results94]) (by simp) (by simp) ?_
    (repeat' (first | simp -implicitDefEqProofs +contextual (maxSteps := 9000000) only [kx, ↓ky, tq94, simprocAttr, hm, mval, Option.getD_none, Option.isSome_none, keyOk] | (with_reducible first | refine SB.c (fun _ => ?_) (fun _ => ?_) | refine REG.i ?_ | exact REG.j) | with_reducible refine AndI ?_ | omega))
    (refine retQ.mk [0, 1, 2] ?_ ?_ <;> simp [kwr, tq94])
  | some q =>
    simp only [h, Option.map_some] at hm
    by_cases h2 : arr = decide (q.2 > 0)
    · have hq : findF pl n arr f = (q, f) := by simp [findF, h, h2]
      have h3 : (arr == decide (q.2 > 0)) = true := by simpa using h2
      rw [hq]
      refine bodyO (fun d => 2) 3 Tryz.func94 rfl Tryz.ntmps94 (by rw [Tryz.results94]) (by simp) (by simp) ?_
      (repeat' (first | simp -implicitDefEqProofs +contextual (maxSteps := 9000000) only [kx, ↓ky, tq94, simprocAttr, hm, mval, Option.getD_some, Option.isSome_some, keyOk, h3] | (with_reducible first | refine SB.c (fun _ => ?_) (fun _ => ?_) | refine REG.i ?_ | exact REG.j) | with_reducible refine AndI ?_ | omega))
      (refine retQ.mk [0, 1, 2] ?_ ?_ <;> simp [kwr, tq94])
    · have hq : findF pl n arr f = (q, (f.1, true)) := by
        have : (arr != decide (q.2 > 0)) = true := by simpa using h2
        simp only [findF, h, this, Bool.or_true]
      have h3 : (arr == decide (q.2 > 0)) = false := by simpa using h2
      rw [hq]
      refine bodyO (fun d => 2) 3 Tryz.func94 rfl Tryz.ntmps94 (by rw [Tryz.results94]) (by simp) (by simp) ?_
      (repeat' (first | simp -implicitDefEqProofs +contextual (maxSteps := 9000000) only [kx, ↓ky, tq94, simprocAttr, hm, mval, Option.getD_some, Option.isSome_some, keyOk, h3] | (with_reducible first | refine SB.c (fun _ => ?_) (fun _ => ?_) | refine REG.i ?_ | exact REG.j) | with_reducible refine AndI ?_ | omega))
      (refine retQ.mk [0, 1, 2] ?_ ?_ <;> simp [kwr, tq94])
end Go.Proofs.YtfinhhblcdkpgaaGreatDoor
