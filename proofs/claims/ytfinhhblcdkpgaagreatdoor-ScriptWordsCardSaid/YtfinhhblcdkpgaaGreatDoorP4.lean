/- A part of the walk (Tryz_P4): its theorems have no condition beyond what they state. -/
import Derived.Test.YtfinhhblcdkpgaaGreatDoorP3
import Derived.Test.YtfinhhblcdkpgaaGreatDoorLib4
set_option linter.unusedSimpArgs false
set_option linter.unusedVariables false
set_option linter.defProp false
namespace Go.Proofs.YtfinhhblcdkpgaaGreatDoor
open Go Go.Abs Go.RowKit
def RunE (f : FuncId) (args : List AVal) (l : List TkD) (n k : Nat) : PR Ex → Prop
  | .ok e k' => AC Tryz.prog gl f (.ref 0 0 :: args) (psO l n k) (exA e) (psO l n k')
  | .bad k' => AP Tryz.prog gl f (.ref 0 0 :: args) (psO l n k) (fv l n k') (psO l n k')
  | .out => True
set_option maxRecDepth 100000 in
set_option maxHeartbeats 4000000 in
theorem unary_step (l : List TkD) (n m k : Nat) (hl : l.length ≤ 100000) (hk : k ≤ l.length)
    (hU : ∀ k, k ≤ l.length → (exF l m .un k).isOut = false → RunE 201 [] l n k (exF l m .un k))
    (hP : ∀ k, k ≤ l.length → (exF l m .prim k).isOut = false → RunE 204 [] l n k (exF l m .prim k))
    (ho : (exF l (m + 1) .un k).isOut = false) : RunE 201 [] l n k (exF l (m + 1) .un k) := by
  rw [exF_un] at ho ⊢
  by_cases h1 : isT l k [45] = true
  · have cA := accept_t l n k _ h1 (by omega)
    have hlt := isT_lt h1 (by simp)
    rw [if_pos h1] at ho ⊢
    have c := hU (k + 1) (by omega)
    cases hr : exF l m .un (k + 1) with
    | ok e k' =>
      rw [hr] at c
      have c1 : AC _ _ _ _ _ _ _ := c rfl
      show AC _ _ _ _ _ _ _
      refine bodyO (fun _ => 1) 2 Tryz.func201 rfl Tryz.ntmps201 (by rw [Tryz.results201]) (by simp) (by simp) ?_
      (repeat' (first | simp -implicitDefEqProofs +contextual (maxSteps := 9000000) only [kx, ↓ky, tq201, simprocAttr, exA, kA, kz] | (with_reducible first | refine SB.c (fun _ => ?_) (fun _ => ?_) | refine REG.i ?_ | exact REG.j) | refine CK.dx [0] [] enters182 cA ?_ | refine CK.dx [0] [] enters201 c1 ?_ | with_reducible refine AndI ?_ | omega))
      (refine retQ.mk [0] ?_ ?_ <;> simp [kwr, tq201, exU, exA, Ex.op, Ex.value, Ex.name, Ex.slot, Ex.size, Ex.args, arg_cons, encEx_eq])
    | bad k' =>
      rw [hr] at c
      have c1 : AP _ _ _ _ _ _ _ := c rfl
      show AP _ _ _ _ _ _ _
      refine bodyP (fun _ => 1) 2 Tryz.func201 rfl Tryz.ntmps201 (by simp) (by simp) ?_
      (repeat' (first | simp -implicitDefEqProofs +contextual (maxSteps := 9000000) only [kx, ↓ky, tq201, simprocAttr, exA, kA, kz] | (with_reducible first | refine SB.c (fun _ => ?_) (fun _ => ?_) | refine REG.i ?_ | refine PREG.i ?_ | exact REG.j | refine fun (_ : List AVal) => ?_) | refine CK.dx [0] [] enters182 cA ?_ | refine CK.dp [0] [] enters201 c1 ?_ | with_reducible refine AndI ?_ | omega))
      (refine panQ.mk [0] ?_ <;> simp [kwt])
    | out => rw [hr] at ho; cases ho
  · have cA := accept_f l n k _ (by simpa using h1)
    rw [if_neg h1] at ho ⊢
    by_cases h2 : isT l k [33] = true
    · have cB := accept_t l n k _ h2 (by omega)
      have hlt := isT_lt h2 (by simp)
      rw [if_pos h2] at ho ⊢
      have c := hU (k + 1) (by omega)
      cases hr : exF l m .un (k + 1) with
      | ok e k' =>
        rw [hr] at c
        have c1 : AC _ _ _ _ _ _ _ := c rfl
        show AC _ _ _ _ _ _ _
        refine bodyO (fun _ => 1) 2 Tryz.func201 rfl Tryz.ntmps201 (by rw [Tryz.results201]) (by simp) (by simp) ?_
        (repeat' (first | simp -implicitDefEqProofs +contextual (maxSteps := 9000000) only [kx, ↓ky, tq201, simprocAttr, exA, kA, kz] | (with_reducible first | refine SB.c (fun _ => ?_) (fun _ => ?_) | refine REG.i ?_ | exact REG.j) | refine CK.dx [0] [] enters182 cA ?_ | refine CK.dx [0] [] enters182 cB ?_ | refine CK.dx [0] [] enters201 c1 ?_ | with_reducible refine AndI ?_ | omega))
        (refine retQ.mk [0] ?_ ?_ <;> simp [kwr, tq201, exU, exA, Ex.op, Ex.value, Ex.name, Ex.slot, Ex.size, Ex.args, arg_cons, encEx_eq])
      | bad k' =>
        rw [hr] at c
        have c1 : AP _ _ _ _ _ _ _ := c rfl
        show AP _ _ _ _ _ _ _
        refine bodyP (fun _ => 1) 2 Tryz.func201 rfl Tryz.ntmps201 (by simp) (by simp) ?_
        (repeat' (first | simp -implicitDefEqProofs +contextual (maxSteps := 9000000) only [kx, ↓ky, tq201, simprocAttr, exA, kA, kz] | (with_reducible first | refine SB.c (fun _ => ?_) (fun _ => ?_) | refine REG.i ?_ | refine PREG.i ?_ | exact REG.j | refine fun (_ : List AVal) => ?_) | refine CK.dx [0] [] enters182 cA ?_ | refine CK.dx [0] [] enters182 cB ?_ | refine CK.dp [0] [] enters201 c1 ?_ | with_reducible refine AndI ?_ | omega))
        (refine panQ.mk [0] ?_ <;> simp [kwt])
      | out => rw [hr] at ho; cases ho
    · have cB := accept_f l n k _ (by simpa using h2)
      rw [if_neg h2] at ho ⊢
      have c := hP k hk ho
      cases hr : exF l m .prim k with
      | ok e k' =>
        rw [hr] at c
        have c1 : AC _ _ _ _ _ _ _ := c
        show AC _ _ _ _ _ _ _
        refine bodyO (fun _ => 1) 2 Tryz.func201 rfl Tryz.ntmps201 (by rw [Tryz.results201]) (by simp) (by simp) ?_
        (repeat' (first | simp -implicitDefEqProofs +contextual (maxSteps := 9000000) only [kx, ↓ky, tq201, simprocAttr, exA, kA, kz] | (with_reducible first | refine SB.c (fun _ => ?_) (fun _ => ?_) | refine REG.i ?_ | exact REG.j) | refine CK.dx [0] [] enters182 cA ?_ | refine CK.dx [0] [] enters182 cB ?_ | refine CK.dx [0] [] enters204 c1 ?_ | with_reducible refine AndI ?_ | omega))
        (refine retQ.mk [0] ?_ ?_ <;> simp [kwr, tq201, exA, sc_arg, ren_arg])
      | bad k' =>
        rw [hr] at c
        have c1 : AP _ _ _ _ _ _ _ := c
        show AP _ _ _ _ _ _ _
        refine bodyP (fun _ => 1) 2 Tryz.func201 rfl Tryz.ntmps201 (by simp) (by simp) ?_
        (repeat' (first | simp -implicitDefEqProofs +contextual (maxSteps := 9000000) only [kx, ↓ky, tq201, simprocAttr, exA, kA, kz] | (with_reducible first | refine SB.c (fun _ => ?_) (fun _ => ?_) | refine REG.i ?_ | refine PREG.i ?_ | exact REG.j | refine fun (_ : List AVal) => ?_) | refine CK.dx [0] [] enters182 cA ?_ | refine CK.dx [0] [] enters182 cB ?_ | refine CK.dp [0] [] enters204 c1 ?_ | with_reducible refine AndI ?_ | omega))
        (refine panQ.mk [0] ?_ <;> simp [kwt])
      | out => rw [hr] at ho; cases ho
end Go.Proofs.YtfinhhblcdkpgaaGreatDoor
