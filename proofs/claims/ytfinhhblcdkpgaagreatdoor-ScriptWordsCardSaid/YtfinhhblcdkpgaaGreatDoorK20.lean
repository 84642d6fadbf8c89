/- The program's reading of a script. No condition. -/
import Derived.Test.YtfinhhblcdkpgaaGreatDoorK17
import Derived.Test.YtfinhhblcdkpgaaGreatDoorLib4
set_option linter.unusedSimpArgs false
set_option linter.unusedVariables false
set_option linter.defProp false
namespace Go.Proofs.YtfinhhblcdkpgaaGreatDoor
open Go Go.Abs Go.RowKit
set_option maxRecDepth 100000 in
set_option maxHeartbeats 16000000 in
theorem sparse_ac (s : List UInt8) (hsl : s.length ≤ 4000000000) : AC Tryz.prog gl 20 [.pv (.str s)] [] (scA (readF s)) [] := by
  have hS := readF_S s
  generalize readF s = G at *
  by_cases hl : 65536 < s.length
  · have hl' : (s.length : Int) > 65536 := by omega
    rw [if_pos hl] at hS
    subst hS
    refine body0 (fun d => if d = 2 then 0 else 1) 4 Tryz.func20 rfl Tryz.ntmps20 (by rw [Tryz.results20]) (by simp) ?_
    (repeat' (first | simp -implicitDefEqProofs +contextual (maxSteps := 9000000) only [kx, ↓ky, tq20, simprocAttr, hl', scA, sc0] | (with_reducible first | refine SB.c (fun _ => ?_) (fun _ => ?_) | refine REG.i ?_ | exact REG.j) | with_reducible refine AndI ?_ | omega))
  rw [if_neg hl] at hS
  have hl' : ¬ (s.length : Int) > 65536 := by omega
  obtain ⟨b1, b2⟩ := linesF_sum s
  have cR := read_ac (linesF s) (tornF s) (by omega) (by omega)
  have cP := split_ac s 10 (by omega)
  have hp : 0 < (splitF 10 s).length := List.length_pos_iff.2 (splitF_ne 10 s)
  have hnum := split_num 10 s
  have htk := linesF_take s
  obtain ⟨t1, t2⟩ := tornF_last s
  have hwn : IntKind.i64.wrap (((splitF 10 s).length : Int) - 1) = (((splitF 10 s).length - 1 : Nat) : Int) := by rw [wrap64 _ (by omega) (by omega)]; omega
  have c1 : (splitF 10 s).length - 1 < (splitF 10 s).length := by omega
  have c2 : (((splitF 10 s).length - 1 : Nat) : Int) ≤ ((splitF 10 s).length : Int) := by omega
  generalize (splitF 10 s).getLast (splitF_ne 10 s) = last at *
  generalize splitF 10 s = L at *
  by_cases he : (readS (linesF s) (tornF s)).2.2 = 0
  · obtain ⟨d, hd⟩ := readS_ok _ _ he
    rw [readR_ok hd] at cR
    rw [hd] at hS
    subst hS
    refine body0 (fun d => if d = 2 then 0 else 1) 4 Tryz.func20 rfl Tryz.ntmps20 (by rw [Tryz.results20]) (by simp) ?_
    (repeat' (first | simp -implicitDefEqProofs +contextual (maxSteps := 9000000) only [kx, ↓ky, tq20, simprocAttr, hl', htk, t1, t2, hwn, c1, c2, Bool.not_not, scA, kz] | (with_reducible first | refine SB.c (fun _ => ?_) (fun _ => ?_) | refine REG.i ?_ | exact REG.j) | refine CK.d0 enters40 cP ?_ | refine CK.dx [1] [2, 3] enters41 cR ?_ | with_reducible refine AndI ?_ | omega))
    all_goals rfl
  · obtain ⟨a, e, hd, he0⟩ := readS_bad _ _ he
    rw [readR_bad hd he0] at cR
    rw [hd] at hS
    subst hS
    have he' : (e != 0) = true := by simpa using he0
    refine body0 (fun d => if d = 2 then 0 else 1) 4 Tryz.func20 rfl Tryz.ntmps20 (by rw [Tryz.results20]) (by simp) ?_
    (repeat' (first | simp -implicitDefEqProofs +contextual (maxSteps := 9000000) only [kx, ↓ky, tq20, simprocAttr, hl', htk, t1, t2, hwn, c1, c2, Bool.not_not, he', scA, sc0, kz] | (with_reducible first | refine SB.c (fun _ => ?_) (fun _ => ?_) | refine REG.i ?_ | exact REG.j) | refine CK.d0 enters40 cP ?_ | refine CK.dx [1] [2, 3] enters41 cR ?_ | with_reducible refine AndI ?_ | omega))
end Go.Proofs.YtfinhhblcdkpgaaGreatDoor
