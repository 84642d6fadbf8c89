/- A part of the walk (Tryz_R2): its theorems have no condition beyond what they state. -/
import Derived.Test.YtopbicbgolcmpaaGreatDoorR1
import Derived.Test.YtopbicbgolcmpaaGreatDoorLib3
set_option linter.unusedSimpArgs false
set_option linter.unusedVariables false
set_option linter.defProp false
namespace Go.Proofs.YtopbicbgolcmpaaGreatDoor
open Go Go.Abs Go.RowKit
set_option maxRecDepth 100000 in
set_option maxHeartbeats 8000000 in
theorem level_ac (lv : Nat) (s : List UInt8) (h : lv ≤ 4) : AC Tryz.prog gl 111 [.pv (.str s), .pv (.int .i64 lv)] [] (.pv (.int .i64 (opF lv s : Nat))) [] := by
  have : lv = 0 ∨ lv = 1 ∨ lv = 2 ∨ lv = 3 ∨ lv = 4 := by omega
  rcases this with rfl | rfl | rfl | rfl | rfl
  all_goals
    refine body0 (fun _ => 0) 0 Tryz.func111 rfl Tryz.ntmps111 (by rw [Tryz.results111]) (by simp) ?_
    (repeat' (first | simp -implicitDefEqProofs +contextual (maxSteps := 9000000) only [kx, ↓ky, tq111, simprocAttr] | (with_reducible first | refine SB.c (fun _ => ?_) (fun _ => ?_) | refine REG.i ?_ | exact REG.j) | with_reducible refine AndI ?_ | omega))
    all_goals first | (subst_vars; rfl) | (simp_all [opF]; done) | skip
def spF (s : List UInt8) : Int := if s = [115, 101, 108, 102] then 4 else if s = [112, 114, 111, 99, 115] then 5 else if s = [102, 114, 111, 109] then 6 else if s = [118, 97, 108, 117, 101] then 7 else 0
set_option maxRecDepth 100000 in
set_option maxHeartbeats 8000000 in
theorem special_ac (s : List UInt8) : AC Tryz.prog gl 140 [.pv (.str s)] [] (.pv (.int .i64 (spF s))) [] := by
  refine body0 (fun _ => 0) 0 Tryz.func140 rfl Tryz.ntmps140 (by rw [Tryz.results140]) (by simp) ?_
  (repeat' (first | simp -implicitDefEqProofs +contextual (maxSteps := 9000000) only [kx, ↓ky, tq140, simprocAttr] | (with_reducible first | refine SB.c (fun _ => ?_) (fun _ => ?_) | refine REG.i ?_ | exact REG.j) | with_reducible refine AndI ?_ | omega))
  all_goals first | (subst_vars; rfl) | (simp_all [spF]; done) | skip
def RunRE (f : FuncId) (args : List AVal) (l : List TkD) (n k : Nat) : PR Ex → Prop
  | .ok e k' => AC Tryz.prog gl f (.ref 0 0 :: args) (okO l n k) (exA e) (okO l n k')
  | .bad k' => ∃ e, AC Tryz.prog gl f (.ref 0 0 :: args) (okO l n k) (exA e) (flO l n k' (placeF l n k'))
  | .out => True
set_option maxRecDepth 100000 in
set_option maxHeartbeats 2000000 in
theorem rprim_fl (l : List TkD) (n k : Nat) (b : Int) : AC Tryz.prog gl 126 [.ref 0 0] (flO l n k b) (exA exZ) (flO l n k b) := by
  have cF := rfail_fl l n k b
  refine bodyO (fun d => if d = 2 then 1 else if d = 3 then 2 else if d = 5 then 3 else 4) 5 Tryz.func126 rfl Tryz.ntmps126 (by rw [Tryz.results126]) (by simp) (by simp) ?_
  (repeat' (first | simp -implicitDefEqProofs +contextual (maxSteps := 9000000) only [kx, ↓ky, tq126, simprocAttr, kz] | (with_reducible first | refine SB.c (fun _ => ?_) (fun _ => ?_) | refine REG.i ?_ | exact REG.j) | refine CK.dx [0] [] enters48 cF ?_ | with_reducible refine AndI ?_ | omega))
  (refine retQ.mk [0] ?_ ?_ <;> simp [kwr, tq126, exZ, exA_K])
set_option maxRecDepth 100000 in
set_option maxHeartbeats 2000000 in
theorem runary_fl (l : List TkD) (n k : Nat) (b : Int) : AC Tryz.prog gl 110 [.ref 0 0] (flO l n k b) (exA exZ) (flO l n k b) := by
  have c1 := rsign_fl l n k b [45]
  have c2 := rsign_fl l n k b [33]
  have c3 := rprim_fl l n k b
  rw [exZ, exA_K] at *
  refine bodyO (fun _ => 1) 2 Tryz.func110 rfl Tryz.ntmps110 (by rw [Tryz.results110]) (by simp) (by simp) ?_
  (repeat' (first | simp -implicitDefEqProofs +contextual (maxSteps := 9000000) only [kx, ↓ky, tq110, simprocAttr, kz] | (with_reducible first | refine SB.c (fun _ => ?_) (fun _ => ?_) | refine REG.i ?_ | exact REG.j) | refine CK.dx [0] [] enters81 c1 ?_ | refine CK.dx [0] [] enters81 c2 ?_ | refine CK.dx [0] [] enters126 c3 ?_ | with_reducible refine AndI ?_ | omega))
  (refine retQ.mk [0] ?_ ?_ <;> simp [kwr, tq110])
set_option maxRecDepth 100000 in
set_option maxHeartbeats 4000000 in
theorem rbin_fl (l : List TkD) (n k : Nat) (b : Int) : ∀ (d lv : Nat), lv + d = 5 → AC Tryz.prog gl 99 [.ref 0 0, .pv (.int .i64 lv)] (flO l n k b) (exA exZ) (flO l n k b)
  | 0, lv, h => by
    have : lv = 5 := by omega
    subst this
    have c3 := runary_fl l n k b
    rw [exZ, exA_K] at *
    refine bodyO (fun d => if d = 4 then 1 else 2) 3 Tryz.func99 rfl Tryz.ntmps99 (by rw [Tryz.results99]) (by simp) (by simp) ?_
    (repeat' (first | simp -implicitDefEqProofs +contextual (maxSteps := 9000000) only [kx, ↓ky, tq99, simprocAttr, kz] | (with_reducible first | refine SB.c (fun _ => ?_) (fun _ => ?_) | refine REG.i ?_ | exact REG.j) | refine CK.dx [0] [] enters110 c3 ?_ | with_reducible refine AndI ?_ | omega))
    (refine retQ.mk [0] ?_ ?_ <;> simp [kwr, tq99])
  | d + 1, lv, h => by
    have c3 := rbin_fl l n k b d (lv + 1) (by omega)
    have hw := wrapS lv (by omega)
    have h4 : ¬ (lv : Int) > 4 := by omega
    rw [exZ, exA_K] at *
    refine bodyO (fun d => if d = 4 then 1 else 2) 3 Tryz.func99 rfl Tryz.ntmps99 (by rw [Tryz.results99]) (by simp) (by simp) ?_
    (repeat' (first | simp -implicitDefEqProofs +contextual (maxSteps := 9000000) only [kx, ↓ky, tq99, simprocAttr, hw, h4, kz] | (with_reducible first | refine SB.c (fun _ => ?_) (fun _ => ?_) | refine REG.i ?_ | exact REG.j) | refine CK.dx [0] [] enters99 c3 ?_ | with_reducible refine AndI ?_ | omega))
    refine loopV (ι := Unit) (fun _ => ⟨(.ref 0 0 :: .pv (.int .i64 lv) :: .junk :: .junk :: .ref 1 0 :: .ref 2 0 :: .junk :: .junk :: .junk :: .junk :: .junk :: .junk :: .junk :: .junk :: .junk :: .junk :: .junk :: .junk :: .junk :: .junk :: .junk :: .junk :: .junk :: .junk :: .junk :: .junk :: .junk :: .junk :: .junk :: .junk :: .junk :: .junk :: .junk :: .junk :: .junk :: .junk :: .junk :: .junk :: .junk :: .junk :: .junk :: .junk :: .junk :: .junk :: .junk :: .junk :: .junk :: .junk :: .junk :: .junk :: .junk :: .junk :: .junk :: .junk :: .junk :: .junk :: .junk :: .junk :: .junk :: .junk :: .junk :: .junk :: .junk :: .junk :: .junk :: .junk :: .junk :: .junk :: .junk :: .junk :: .junk :: .junk :: .junk :: .junk :: .junk :: .junk :: .junk :: .junk :: .junk :: .junk :: .junk :: .junk :: .junk :: .junk :: .junk :: .junk :: .junk :: .junk :: .junk :: .junk :: []), [some (flC l n k b), some (.cells [.pv (.int .i64 0), .pv (.int .i64 0), .pv (.str []), .pv (.int .i64 0), .pv (.int .i64 0), .snil]), some (.cells [.pv (.int .i64 0), .pv (.int .i64 0), .pv (.str []), .pv (.int .i64 0), .pv (.int .i64 0), .snil])]⟩) (fun _ => 0) () WFn ?_
    intro _
    (repeat' (first | simp -implicitDefEqProofs +contextual (maxSteps := 9000000) only [kx, ↓ky, tq99, simprocAttr] | (with_reducible first | refine SB.c (fun _ => ?_) (fun _ => ?_) | refine REG.i ?_ | exact REG.j) | with_reducible refine AndI ?_ | omega))
    (refine retQ.mk [0] ?_ ?_ <;> simp [kwr, tq99])
set_option maxRecDepth 100000 in
set_option maxHeartbeats 4000000 in
theorem runary_step (l : List TkD) (n m k : Nat) (hT : AllOK l) (hl : l.length ≤ 100000) (hk : k ≤ l.length)
    (hU : ∀ k, k ≤ l.length → (exF l m .un k).isOut = false → RunRE 110 [] l n k (exF l m .un k))
    (hP : ∀ k, k ≤ l.length → (exF l m .prim k).isOut = false → RunRE 126 [] l n k (exF l m .prim k))
    (ho : (exF l (m + 1) .un k).isOut = false) : RunRE 110 [] l n k (exF l (m + 1) .un k) := by
  rw [exF_un] at ho ⊢
  have cA := rsign_ac l n k [45] hT rfl
  have cB := rsign_ac l n k [33] hT rfl
  have hw := wrapS k (by omega)
  by_cases h1 : isT l k [45] = true
  · have hlt := isT_lt h1 (by simp)
    rw [h1] at cA
    rw [if_pos h1] at ho ⊢
    have c := hU (k + 1) (by omega)
    cases hr : exF l m .un (k + 1) with
    | ok e k' =>
      rw [hr] at c
      have c1 : AC _ _ _ _ _ _ _ := c rfl
      show AC _ _ _ _ _ _ _
      refine bodyO (fun _ => 1) 2 Tryz.func110 rfl Tryz.ntmps110 (by rw [Tryz.results110]) (by simp) (by simp) ?_
      (repeat' (first | simp -implicitDefEqProofs +contextual (maxSteps := 9000000) only [kx, ↓ky, tq110, simprocAttr, exA, kA, hw, kz] | (with_reducible first | refine SB.c (fun _ => ?_) (fun _ => ?_) | refine REG.i ?_ | exact REG.j) | refine CK.dx [0] [] enters81 cA ?_ | refine CK.dx [0] [] enters110 c1 ?_ | with_reducible refine AndI ?_ | omega))
      (refine retQ.mk [0] ?_ ?_ <;> simp [kwr, tq110, exU, exA, Ex.op, Ex.value, Ex.name, Ex.slot, Ex.size, Ex.args, arg_cons, encEx_eq])
    | bad k' =>
      rw [hr] at c
      obtain ⟨e, c1⟩ := c rfl
      refine ⟨exU 8 e, ?_⟩
      refine bodyO (fun _ => 1) 2 Tryz.func110 rfl Tryz.ntmps110 (by rw [Tryz.results110]) (by simp) (by simp) ?_
      (repeat' (first | simp -implicitDefEqProofs +contextual (maxSteps := 9000000) only [kx, ↓ky, tq110, simprocAttr, exA, kA, hw, kz] | (with_reducible first | refine SB.c (fun _ => ?_) (fun _ => ?_) | refine REG.i ?_ | exact REG.j) | refine CK.dx [0] [] enters81 cA ?_ | refine CK.dx [0] [] enters110 c1 ?_ | with_reducible refine AndI ?_ | omega))
      (refine retQ.mk [0] ?_ ?_ <;> simp [kwr, tq110, exU, exA, Ex.op, Ex.value, Ex.name, Ex.slot, Ex.size, Ex.args, arg_cons, encEx_eq])
    | out => rw [hr] at ho; cases ho
  · rw [show isT l k [45] = false by simpa using h1] at cA
    rw [if_neg h1] at ho ⊢
    by_cases h2 : isT l k [33] = true
    · have hlt := isT_lt h2 (by simp)
      rw [h2] at cB
      rw [if_pos h2] at ho ⊢
      have c := hU (k + 1) (by omega)
      cases hr : exF l m .un (k + 1) with
      | ok e k' =>
        rw [hr] at c
        have c1 : AC _ _ _ _ _ _ _ := c rfl
        show AC _ _ _ _ _ _ _
        refine bodyO (fun _ => 1) 2 Tryz.func110 rfl Tryz.ntmps110 (by rw [Tryz.results110]) (by simp) (by simp) ?_
        (repeat' (first | simp -implicitDefEqProofs +contextual (maxSteps := 9000000) only [kx, ↓ky, tq110, simprocAttr, exA, kA, hw, kz] | (with_reducible first | refine SB.c (fun _ => ?_) (fun _ => ?_) | refine REG.i ?_ | exact REG.j) | refine CK.dx [0] [] enters81 cA ?_ | refine CK.dx [0] [] enters81 cB ?_ | refine CK.dx [0] [] enters110 c1 ?_ | with_reducible refine AndI ?_ | omega))
        (refine retQ.mk [0] ?_ ?_ <;> simp [kwr, tq110, exU, exA, Ex.op, Ex.value, Ex.name, Ex.slot, Ex.size, Ex.args, arg_cons, encEx_eq])
      | bad k' =>
        rw [hr] at c
        obtain ⟨e, c1⟩ := c rfl
        refine ⟨exU 9 e, ?_⟩
        refine bodyO (fun _ => 1) 2 Tryz.func110 rfl Tryz.ntmps110 (by rw [Tryz.results110]) (by simp) (by simp) ?_
        (repeat' (first | simp -implicitDefEqProofs +contextual (maxSteps := 9000000) only [kx, ↓ky, tq110, simprocAttr, exA, kA, hw, kz] | (with_reducible first | refine SB.c (fun _ => ?_) (fun _ => ?_) | refine REG.i ?_ | exact REG.j) | refine CK.dx [0] [] enters81 cA ?_ | refine CK.dx [0] [] enters81 cB ?_ | refine CK.dx [0] [] enters110 c1 ?_ | with_reducible refine AndI ?_ | omega))
        (refine retQ.mk [0] ?_ ?_ <;> simp [kwr, tq110, exU, exA, Ex.op, Ex.value, Ex.name, Ex.slot, Ex.size, Ex.args, arg_cons, encEx_eq])
      | out => rw [hr] at ho; cases ho
    · rw [show isT l k [33] = false by simpa using h2] at cB
      rw [if_neg h2] at ho ⊢
      have c := hP k hk ho
      cases hr : exF l m .prim k with
      | ok e k' =>
        rw [hr] at c
        have c1 : AC _ _ _ _ _ _ _ := c
        show AC _ _ _ _ _ _ _
        refine bodyO (fun _ => 1) 2 Tryz.func110 rfl Tryz.ntmps110 (by rw [Tryz.results110]) (by simp) (by simp) ?_
        (repeat' (first | simp -implicitDefEqProofs +contextual (maxSteps := 9000000) only [kx, ↓ky, tq110, simprocAttr, exA, kA, kz] | (with_reducible first | refine SB.c (fun _ => ?_) (fun _ => ?_) | refine REG.i ?_ | exact REG.j) | refine CK.dx [0] [] enters81 cA ?_ | refine CK.dx [0] [] enters81 cB ?_ | refine CK.dx [0] [] enters126 c1 ?_ | with_reducible refine AndI ?_ | omega))
        (refine retQ.mk [0] ?_ ?_ <;> simp [kwr, tq110, exA, sc_arg, ren_arg])
      | bad k' =>
        rw [hr] at c
        obtain ⟨e, c1⟩ := c
        refine ⟨e, ?_⟩
        refine bodyO (fun _ => 1) 2 Tryz.func110 rfl Tryz.ntmps110 (by rw [Tryz.results110]) (by simp) (by simp) ?_
        (repeat' (first | simp -implicitDefEqProofs +contextual (maxSteps := 9000000) only [kx, ↓ky, tq110, simprocAttr, exA, kA, kz] | (with_reducible first | refine SB.c (fun _ => ?_) (fun _ => ?_) | refine REG.i ?_ | exact REG.j) | refine CK.dx [0] [] enters81 cA ?_ | refine CK.dx [0] [] enters81 cB ?_ | refine CK.dx [0] [] enters126 c1 ?_ | with_reducible refine AndI ?_ | omega))
        (refine retQ.mk [0] ?_ ?_ <;> simp [kwr, tq110, exA, sc_arg, ren_arg])
      | out => rw [hr] at ho; cases ho
end Go.Proofs.YtopbicbgolcmpaaGreatDoor
