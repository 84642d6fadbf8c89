/- A part of the walk (Tryz_S3): its theorems have no condition beyond what they state. -/
import Derived.Test.YtfinhhblcdkpgaaGreatDoorP13
import Derived.Test.YtfinhhblcdkpgaaGreatDoorS1
import Derived.Test.YtfinhhblcdkpgaaGreatDoorN12
import Derived.Test.YtfinhhblcdkpgaaGreatDoorLib4
set_option linter.unusedSimpArgs false
set_option linter.unusedVariables false
set_option linter.defProp false
namespace Go.Proofs.YtfinhhblcdkpgaaGreatDoor
open Go Go.Abs Go.RowKit
def rP (r : PgD × Int × Int) : AVal := .tup [pgA r.1, .pv (.int .i64 r.2.1), .pv (.int .i64 r.2.2)]
set_option maxRecDepth 100000 in
set_option maxHeartbeats 4000000 in
theorem Parse_ac (s : List UInt8) : AC Tryz.prog gl 90 [.pv (.str s)] [] (rP (parF s)) [] := by
  have cS := scan_ac s
  unfold parF rP
  by_cases h0 : (scan s).2.2 = 0
  rotate_left
  · rw [if_pos h0]
    have e1 := (scan_err s h0).1
    have h0' : ((scan s).2.2 != 0) = true := by simpa using h0
    generalize scan s = r at *
    obtain ⟨l, a, e⟩ := r
    simp only at e1 h0' h0
    subst e1
    refine bodyW (fun d => if d = 2 then 0 else 1) 2 Tryz.func90 rfl Tryz.ntmps90 (by rw [Tryz.results90]) (by simp) (by simp) ?_
    (repeat' (first | simp -implicitDefEqProofs +contextual (maxSteps := 9000000) only [kx, ↓ky, tq90, simprocAttr, rS, h0'] | (with_reducible first | refine SB.c (fun _ => ?_) (fun _ => ?_) | refine REG.i ?_ | exact REG.j) | refine CK.d0 enters123 cS ?_ | with_reducible refine AndI ?_ | omega))
    refine ⟨_, Weak.nz, ?_⟩
    simp only [St.nz, nzL, nzOs, nzO, nz]
    (refine retQ.mk [0] ?_ ?_ <;> simp [kwr, tq90, pgA, pg0, pgZ])
  · rw [if_neg (by simpa using h0)]
    obtain ⟨hs, l, hSc, e⟩ := scan_sc s h0
    rw [e] at cS ⊢
    have hl : l.length ≤ 100000 := by have := hSc.len; omega
    have cP := parse_ac l s.length hl (vals_of hSc)
    have ho := progF_out (l := l)
    simp only
    cases hr : progF l with
    | out => rw [hr] at ho; cases ho
    | bad k =>
      rw [hr] at cP
      refine bodyW (fun d => if d = 2 then 0 else 1) 2 Tryz.func90 rfl Tryz.ntmps90 (by rw [Tryz.results90]) (by simp) (by simp) ?_
      (repeat' (first | simp -implicitDefEqProofs +contextual (maxSteps := 9000000) only [kx, ↓ky, tq90, simprocAttr, rS, resP, pgA] | (with_reducible first | refine SB.c (fun _ => ?_) (fun _ => ?_) | refine REG.i ?_ | exact REG.j) | refine CK.d0 enters123 cS ?_ | refine CK.d0 enters124 cP ?_ | with_reducible refine AndI ?_ | omega))
      refine ⟨_, Weak.nz, ?_⟩
      simp only [St.nz, nzL, nzOs, nzO, nz]
      (refine retQ.mk [0] ?_ ?_ <;> simp [kwr, tq90, pgA, pg0, pgZ])
    | ok p k =>
      rw [hr] at cP
      have hsz := progF_sz hr
      have cD := depth_ac p (by omega)
      simp only
      by_cases hd : depP p > 16
      · rw [if_pos hd]
        unfold pgA at cD
        refine bodyW (fun d => if d = 2 then 0 else 1) 2 Tryz.func90 rfl Tryz.ntmps90 (by rw [Tryz.results90]) (by simp) (by simp) ?_
        (repeat' (first | simp -implicitDefEqProofs +contextual (maxSteps := 9000000) only [kx, ↓ky, tq90, simprocAttr, rS, resP, pgA, hd] | (with_reducible first | refine SB.c (fun _ => ?_) (fun _ => ?_) | refine REG.i ?_ | exact REG.j) | refine CK.d0 enters123 cS ?_ | refine CK.d0 enters124 cP ?_ | refine CK.d0 enters64 cD ?_ | with_reducible refine AndI ?_ | omega))
        refine ⟨_, Weak.nz, ?_⟩
        simp only [St.nz, nzL, nzOs, nzO, nz]
        (refine retQ.mk [0] ?_ ?_ <;> simp [kwr, tq90, pgA, pg0, pgZ])
      · rw [if_neg hd]
        unfold pgA at cD
        refine bodyW (fun d => if d = 2 then 0 else 1) 2 Tryz.func90 rfl Tryz.ntmps90 (by rw [Tryz.results90]) (by simp) (by simp) ?_
        (repeat' (first | simp -implicitDefEqProofs +contextual (maxSteps := 9000000) only [kx, ↓ky, tq90, simprocAttr, rS, resP, pgA, hd] | (with_reducible first | refine SB.c (fun _ => ?_) (fun _ => ?_) | refine REG.i ?_ | exact REG.j) | refine CK.d0 enters123 cS ?_ | refine CK.d0 enters124 cP ?_ | refine CK.d0 enters64 cD ?_ | with_reducible refine AndI ?_ | omega))
        refine ⟨_, Weak.nz, ?_⟩
        simp only [St.nz, nzL, nzOs, nzO, nz]
        (refine retQ.mk [0] ?_ ?_ <;> simp [kwr, tq90, pgA, pg0, pgZ])
end Go.Proofs.YtfinhhblcdkpgaaGreatDoor
