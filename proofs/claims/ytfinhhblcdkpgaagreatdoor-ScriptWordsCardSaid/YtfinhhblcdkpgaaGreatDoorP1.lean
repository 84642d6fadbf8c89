/- A part of the walk (Tryz_P1): its theorems have no condition beyond what they state. -/
import Derived.Test.YtfinhhblcdkpgaaGreatDoorN9
import Derived.Test.YtfinhhblcdkpgaaGreatDoorLib3
set_option linter.unusedSimpArgs false
set_option linter.unusedVariables false
set_option linter.defProp false
namespace Go.Proofs.YtfinhhblcdkpgaaGreatDoor
open Go Go.Abs Go.RowKit
abbrev psC (l : List TkD) (n k : Nat) : AObj := .cells [.pv (.slice (l.map encTk)), .pv (.int .i64 k), .pv (.int .i64 n)]
abbrev psO (l : List TkD) (n k : Nat) : List (Option AObj) := [some (psC l n k)]
def fv (l : List TkD) (n k : Nat) : Value := .iface 213 (.agg #[.int .i64 (placeF l n k)])
theorem getTk (l : List TkD) (k : Nat) (h : k < l.length) : (l.map encTk).getD k [] = [.int .i64 (l.getD k tk0).kind, .str (l.getD k tk0).text, .int .i64 (l.getD k tk0).value, .int .i64 (l.getD k tk0).pos] := by
  simp [List.getD, h, encTk]
set_option maxRecDepth 100000 in
set_option maxHeartbeats 1000000 in
theorem peek_ac (l : List TkD) (n k : Nat) : AC Tryz.prog gl 196 [.ref 0 0] (psO l n k) (.pv (.str (peekF l k))) (psO l n k) := by
  refine bodyO (fun _ => 0) 1 Tryz.func196 rfl Tryz.ntmps196 (by rw [Tryz.results196]) (by simp) (by simp) ?_
  by_cases h : k < l.length
  · have h' : (k : Int) < l.length := by omega
    have hg := getTk l k h
    have hp : peekF l k = (l.getD k tk0).text := by unfold peekF; rw [if_pos h]
    rw [hp]
    (repeat' (first | simp -implicitDefEqProofs +contextual (maxSteps := 9000000) only [kx, ↓ky, tq196, simprocAttr, h, h', hg] | (with_reducible first | refine SB.c (fun _ => ?_) (fun _ => ?_) | refine REG.i ?_ | exact REG.j) | with_reducible refine AndI ?_ | omega))
    (refine retQ.mk [0] ?_ ?_ <;> simp [kwr, tq196])
  · have h' : ¬ (k : Int) < l.length := by omega
    have hp : peekF l k = [] := by unfold peekF; rw [if_neg h]
    rw [hp]
    (repeat' (first | simp -implicitDefEqProofs +contextual (maxSteps := 9000000) only [kx, ↓ky, tq196, simprocAttr, h, h'] | (with_reducible first | refine SB.c (fun _ => ?_) (fun _ => ?_) | refine REG.i ?_ | exact REG.j) | with_reducible refine AndI ?_ | omega))
    (refine retQ.mk [0] ?_ ?_ <;> simp [kwr, tq196])
set_option maxRecDepth 100000 in
set_option maxHeartbeats 1000000 in
theorem accept_t (l : List TkD) (n k : Nat) (s : List UInt8) (h : isT l k s = true) (hk : k ≤ 1000000) : AC Tryz.prog gl 182 [.ref 0 0, .pv (.str s)] (psO l n k) (.pv (.bool true)) (psO l n (k + 1)) := by
  have cP := peek_ac l n k
  have e : (peekF l k == s) = true := h
  have hw := wrapS k (by omega)
  refine bodyO (fun _ => 0) 1 Tryz.func182 rfl Tryz.ntmps182 (by rw [Tryz.results182]) (by simp) (by simp) ?_
  (repeat' (first | simp -implicitDefEqProofs +contextual (maxSteps := 9000000) only [kx, ↓ky, tq182, simprocAttr, e, hw, kz] | (with_reducible first | refine SB.c (fun _ => ?_) (fun _ => ?_) | refine REG.i ?_ | exact REG.j) | refine CK.dx [0] [] enters196 cP ?_ | with_reducible refine AndI ?_ | omega))
  (refine retQ.mk [0] ?_ ?_ <;> simp [kwr, tq182])
set_option maxRecDepth 100000 in
set_option maxHeartbeats 1000000 in
theorem accept_f (l : List TkD) (n k : Nat) (s : List UInt8) (h : isT l k s = false) : AC Tryz.prog gl 182 [.ref 0 0, .pv (.str s)] (psO l n k) (.pv (.bool false)) (psO l n k) := by
  have cP := peek_ac l n k
  have e : (peekF l k == s) = false := h
  refine bodyO (fun _ => 0) 1 Tryz.func182 rfl Tryz.ntmps182 (by rw [Tryz.results182]) (by simp) (by simp) ?_
  (repeat' (first | simp -implicitDefEqProofs +contextual (maxSteps := 9000000) only [kx, ↓ky, tq182, simprocAttr, e, kz] | (with_reducible first | refine SB.c (fun _ => ?_) (fun _ => ?_) | refine REG.i ?_ | exact REG.j) | refine CK.dx [0] [] enters196 cP ?_ | with_reducible refine AndI ?_ | omega))
  (refine retQ.mk [0] ?_ ?_ <;> simp [kwr, tq182])
set_option maxRecDepth 100000 in
set_option maxHeartbeats 1000000 in
theorem fail_ap (l : List TkD) (n k : Nat) : AP Tryz.prog gl 187 [.ref 0 0] (psO l n k) (fv l n k) (psO l n k) := by
  unfold fv placeF
  refine bodyP (fun _ => 0) 1 Tryz.func187 rfl Tryz.ntmps187 (by simp) (by simp) ?_
  by_cases h : k < l.length
  · have h' : (k : Int) < l.length := by omega
    have hg := getTk l k h
    rw [if_pos h]
    (repeat' (first | simp -implicitDefEqProofs +contextual (maxSteps := 9000000) only [kx, ↓ky, tq187, simprocAttr, h, h', hg] | (with_reducible first | refine SB.c (fun _ => ?_) (fun _ => ?_) | refine REG.i ?_ | refine PREG.i ?_ | exact REG.j | refine fun (_ : List AVal) => ?_) | with_reducible refine AndI ?_ | omega))
    (refine panQ.mk [0] ?_ <;> simp [kwt])
  · have h' : ¬ (k : Int) < l.length := by omega
    rw [if_neg h]
    (repeat' (first | simp -implicitDefEqProofs +contextual (maxSteps := 9000000) only [kx, ↓ky, tq187, simprocAttr, h, h'] | (with_reducible first | refine SB.c (fun _ => ?_) (fun _ => ?_) | refine REG.i ?_ | refine PREG.i ?_ | exact REG.j | refine fun (_ : List AVal) => ?_) | with_reducible refine AndI ?_ | omega))
    (refine panQ.mk [0] ?_ <;> simp [kwt])
set_option maxRecDepth 100000 in
set_option maxHeartbeats 1000000 in
theorem expect_ok (l : List TkD) (n k k' : Nat) (s : List UInt8) (h : expF l s k = .ok () k') (hk : k ≤ 1000000) : AC Tryz.prog gl 185 [.ref 0 0, .pv (.str s)] (psO l n k) (.tup []) (psO l n k') := by
  unfold expF at h
  split at h
  · rename_i e
    cases h
    have cA := accept_t l n k s e hk
    refine bodyO (fun _ => 0) 1 Tryz.func185 rfl Tryz.ntmps185 (by rw [Tryz.results185]) (by simp) (by simp) ?_
    (repeat' (first | simp -implicitDefEqProofs +contextual (maxSteps := 9000000) only [kx, ↓ky, tq185, simprocAttr, kz] | (with_reducible first | refine SB.c (fun _ => ?_) (fun _ => ?_) | refine REG.i ?_ | exact REG.j) | refine CK.dx [0] [] enters182 cA ?_ | with_reducible refine AndI ?_ | omega))
    (refine retQ.mk [0] ?_ ?_ <;> simp [kwr, tq185])
  · cases h
set_option maxRecDepth 100000 in
set_option maxHeartbeats 1000000 in
theorem expect_bad (l : List TkD) (n k k' : Nat) (s : List UInt8) (h : expF l s k = .bad k') : AP Tryz.prog gl 185 [.ref 0 0, .pv (.str s)] (psO l n k) (fv l n k') (psO l n k') := by
  unfold expF at h
  split at h
  · cases h
  · rename_i e
    cases h
    have cA := accept_f l n k s (by simpa using e)
    have cF := fail_ap l n k
    refine bodyP (fun _ => 0) 1 Tryz.func185 rfl Tryz.ntmps185 (by simp) (by simp) ?_
    (repeat' (first | simp -implicitDefEqProofs +contextual (maxSteps := 9000000) only [kx, ↓ky, tq185, simprocAttr, kz] | (with_reducible first | refine SB.c (fun _ => ?_) (fun _ => ?_) | refine REG.i ?_ | refine PREG.i ?_ | exact REG.j | refine fun (_ : List AVal) => ?_) | refine CK.dx [0] [] enters182 cA ?_ | refine CK.dp [0] [] enters187 cF ?_ | with_reducible refine AndI ?_ | omega))
    (refine panQ.mk [0] ?_ <;> simp [kwt])
end Go.Proofs.YtfinhhblcdkpgaaGreatDoor
