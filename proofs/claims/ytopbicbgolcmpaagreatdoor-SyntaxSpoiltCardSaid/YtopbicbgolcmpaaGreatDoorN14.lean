/- A part of the walk (Tryz_S3r): its theorems have no condition beyond what they state. -/
import Derived.Test.YtopbicbgolcmpaaGreatDoorS3
import Derived.Test.YtopbicbgolcmpaaGreatDoorR8
import Derived.Test.YtopbicbgolcmpaaGreatDoorS2
import Derived.Test.YtopbicbgolcmpaaGreatDoorW3
import Derived.Test.YtopbicbgolcmpaaGreatDoorLib3
set_option linter.unusedSimpArgs false
set_option linter.unusedVariables false
set_option linter.defProp false
namespace Go.Proofs.YtopbicbgolcmpaaGreatDoor
open Go Go.Abs Go.RowKit
set_option maxRecDepth 100000 in
set_option maxHeartbeats 4000000 in
theorem rParse_ac (s : List UInt8) : AC Tryz.prog gl 8 [.pv (.str s)] [] (rP (parF s)) [] := by
  have cS := rscan_ac s
  unfold parF rP
  by_cases h0 : (scan s).2.2 = 0
  rotate_left
  · rw [if_pos h0]
    have e1 := (scan_err s h0).1
    have h0' : ((scan s).2.2 != 0) = true := by simpa using h0
    generalize scan s = r at *
    obtain ⟨l, a, e⟩ := r
    simp only at e1 h0' h0
    subst e1
    refine bodyW (fun d => if d = 2 then 0 else if d = 8 then 1 else 2) 3 Tryz.func8 rfl Tryz.ntmps8 (by rw [Tryz.results8]) (by simp) (by simp) ?_
    (repeat' (first | simp -implicitDefEqProofs +contextual (maxSteps := 9000000) only [kx, ↓ky, tq8, simprocAttr, rS, h0'] | (with_reducible first | refine SB.c (fun _ => ?_) (fun _ => ?_) | refine REG.i ?_ | exact REG.j) | refine CK.d0 enters13 cS ?_ | with_reducible refine AndI ?_ | omega))
    refine ⟨_, Weak.nz, ?_⟩
    simp only [St.nz, nzL, nzOs, nzO, nz]
    (refine retQ.mk [0] ?_ ?_ <;> simp [kwr, tq8, pgA, pg0, pgZ])
  · rw [if_neg (by simpa using h0)]
    obtain ⟨hs, l, hSc, e⟩ := scan_sc s h0
    rw [e] at cS ⊢
    have hl : l.length ≤ 100000 := by have := hSc.len; omega
    have cP := rprog_run l s.length (allOK_of hSc) hl (vals_of hSc)
    have ho := progF_out (l := l)
    simp only
    cases hr : progF l with
    | out => rw [hr] at ho; cases ho
    | bad k =>
      rw [hr] at cP
      obtain ⟨g, c1⟩ := cP
      refine bodyW (fun d => if d = 2 then 0 else if d = 8 then 1 else 2) 3 Tryz.func8 rfl Tryz.ntmps8 (by rw [Tryz.results8]) (by simp) (by simp) ?_
      (repeat' (first | simp -implicitDefEqProofs +contextual (maxSteps := 9000000) only [kx, ↓ky, tq8, simprocAttr, rS, pgA, kz] | (with_reducible first | refine SB.c (fun _ => ?_) (fun _ => ?_) | refine REG.i ?_ | exact REG.j) | refine CK.d0 enters13 cS ?_ | refine CK.dx [1] [] enters23 c1 ?_ | with_reducible refine AndI ?_ | omega))
      refine ⟨_, Weak.nz, ?_⟩
      simp only [St.nz, nzL, nzOs, nzO, nz]
      (refine retQ.mk [0] ?_ ?_ <;> simp [kwr, tq8, pgA, pg0, pgZ])
    | ok p k =>
      rw [hr] at cP
      have c1 : AC _ _ _ _ _ _ _ := cP
      have hsz := progF_sz hr
      have cD := rdepth_ac p (by omega)
      simp only
      by_cases hd : depP p > 16
      · rw [if_pos hd]
        unfold pgA at cD
        refine bodyW (fun d => if d = 2 then 0 else if d = 8 then 1 else 2) 3 Tryz.func8 rfl Tryz.ntmps8 (by rw [Tryz.results8]) (by simp) (by simp) ?_
        (repeat' (first | simp -implicitDefEqProofs +contextual (maxSteps := 9000000) only [kx, ↓ky, tq8, simprocAttr, rS, pgA, hd, kz] | (with_reducible first | refine SB.c (fun _ => ?_) (fun _ => ?_) | refine REG.i ?_ | exact REG.j) | refine CK.d0 enters13 cS ?_ | refine CK.dx [1] [] enters23 c1 ?_ | refine CK.d0 enters20 cD ?_ | with_reducible refine AndI ?_ | omega))
        refine ⟨_, Weak.nz, ?_⟩
        simp only [St.nz, nzL, nzOs, nzO, nz]
        (refine retQ.mk [0] ?_ ?_ <;> simp [kwr, tq8, pgA, pg0, pgZ])
      · rw [if_neg hd]
        unfold pgA at cD
        refine bodyW (fun d => if d = 2 then 0 else if d = 8 then 1 else 2) 3 Tryz.func8 rfl Tryz.ntmps8 (by rw [Tryz.results8]) (by simp) (by simp) ?_
        (repeat' (first | simp -implicitDefEqProofs +contextual (maxSteps := 9000000) only [kx, ↓ky, tq8, simprocAttr, rS, pgA, hd, kz] | (with_reducible first | refine SB.c (fun _ => ?_) (fun _ => ?_) | refine REG.i ?_ | exact REG.j) | refine CK.d0 enters13 cS ?_ | refine CK.dx [1] [] enters23 c1 ?_ | refine CK.d0 enters20 cD ?_ | with_reducible refine AndI ?_ | omega))
        refine ⟨_, Weak.nz, ?_⟩
        simp only [St.nz, nzL, nzOs, nzO, nz]
        (refine retQ.mk [0] ?_ ?_ <;> simp [kwr, tq8, pgA, pg0, pgZ])
end Go.Proofs.YtopbicbgolcmpaaGreatDoor
namespace Go.Proofs.YtopbicbgolcmpaaGreatDoor
open Go Go.Abs Go.RowKit
end Go.Proofs.YtopbicbgolcmpaaGreatDoor
namespace Go.Proofs.YtopbicbgolcmpaaGreatDoor
open Go Go.Abs Go.RowKit
end Go.Proofs.YtopbicbgolcmpaaGreatDoor
