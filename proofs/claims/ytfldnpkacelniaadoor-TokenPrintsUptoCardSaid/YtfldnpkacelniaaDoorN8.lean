/- A part of the walk (Tryd_N8): its theorems have no condition beyond what they state. -/
import Derived.Test.YtfldnpkacelniaaDoorN7
import Derived.Test.YtfldnpkacelniaaDoorLib3
set_option linter.unusedSimpArgs false
set_option linter.unusedVariables false
set_option linter.defProp false
namespace Go.Proofs.YtfldnpkacelniaaDoor
open Go Go.Abs Go.RowKit
set_option maxRecDepth 10000 in
set_option maxHeartbeats 1000000 in
theorem awake_ac : AC Tryd.prog gl 11 [] [] (.pv (.bool true)) [] := by
  have cS := scan_ac [97, 61, 61, 33, 98, 32, 35, 32, 99]
  rw [scan_aw] at cS
  simp only [rS, List.map_cons, List.map_nil, encTk] at cS
  refine body0 (fun _ => 0) 0 Tryd.func11 rfl Tryd.ntmps11 (by rw [Tryd.results11]) (by simp) ?_
  (repeat' (first | simp -implicitDefEqProofs +contextual (maxSteps := 9000000) only [kx, ↓ky, tyS, tyX3, tyX9, tyX23, tyX24, tyX31, Nat.reduceAdd, Nat.reduceMul, Nat.reduceSub, Nat.reduceLT, Nat.reduceLeDiff, Nat.reduceEqDiff, Nat.reduceBEq, Int.reduceAdd, Int.reduceSub, Int.reduceMul, Int.reduceLT, Int.reduceLE, Int.reduceToNat, Int.reduceBEq, Int.reduceBNe, Int.reduceNeg, Int.reduceGT, Nat.reduceGT, Int.reduceEq, reduceCtorEq, ↓reduceIte] | (with_reducible first | refine SB.d (fun _ => ?_) (fun _ => ?_) | refine SB.e (fun _ => ?_) (fun _ => ?_) | refine SB.n (fun _ => ?_) (fun _ => ?_) | refine SB.b (fun _ => ?_) (fun _ => ?_) | refine And.intro (REG.ok (by kernel_rfl)) ?_ | exact REG.ok (by kernel_rfl)) | refine CK.c0 enters12 (cS) rfl rfl ?_ | refine CK.cp enters12 (fun _ => cS) rfl rfl ?_ | (with_reducible refine And.intro ?_ ?_); (focus (intros; (try simp only [decide_eq_true_eq, decide_eq_false_iff_not, beq_iff_eq, bne_iff_ne, Bool.and_eq_true, Bool.or_eq_true] at *); omega)) | omega))
set_option maxRecDepth 10000 in
set_option maxHeartbeats 1000000 in
theorem scans_ac (s : List UInt8) : AC Tryd.prog gl 3 [.pv (.str s)] [] (.pv (.bool true)) [] := by
  have cA := awake_ac
  have cS := scan_ac s
  have cR := rscan_ac s
  have cE := equal_ac (scan s).1 (by have := scan_len s; omega)
  simp only [rS] at cS cR
  generalize scan s = r at *
  refine body0 (fun _ => 0) 0 Tryd.func3 rfl Tryd.ntmps3 (by rw [Tryd.results3]) (by simp) ?_
  (repeat' (first | simp -implicitDefEqProofs +contextual (maxSteps := 9000000) only [kx, ↓ky, tyS, tyX3, tyX4, tyX9, tyX23, tyX24, Nat.reduceAdd, Nat.reduceMul, Nat.reduceSub, Nat.reduceLT, Nat.reduceLeDiff, Nat.reduceEqDiff, Nat.reduceBEq, Int.reduceAdd, Int.reduceSub, Int.reduceMul, Int.reduceLT, Int.reduceLE, Int.reduceToNat, Int.reduceBEq, Int.reduceBNe, Int.reduceNeg, Int.reduceGT, Nat.reduceGT, Int.reduceEq, reduceCtorEq, ↓reduceIte] | (with_reducible first | refine SB.d (fun _ => ?_) (fun _ => ?_) | refine SB.e (fun _ => ?_) (fun _ => ?_) | refine SB.n (fun _ => ?_) (fun _ => ?_) | refine SB.b (fun _ => ?_) (fun _ => ?_) | refine And.intro (REG.ok (by kernel_rfl)) ?_ | exact REG.ok (by kernel_rfl)) | refine CK.c0 enters11 (cA) rfl rfl ?_ | refine CK.cp enters11 (fun _ => cA) rfl rfl ?_ | refine CK.c0 enters12 (cS) rfl rfl ?_ | refine CK.cp enters12 (fun _ => cS) rfl rfl ?_ | refine CK.c0 enters13 (cR) rfl rfl ?_ | refine CK.cp enters13 (fun _ => cR) rfl rfl ?_ | refine CK.c0 enters14 (cE) rfl rfl ?_ | refine CK.cp enters14 (fun _ => cE) rfl rfl ?_ | (with_reducible refine And.intro ?_ ?_); (focus (intros; (try simp only [decide_eq_true_eq, decide_eq_false_iff_not, beq_iff_eq, bne_iff_ne, Bool.and_eq_true, Bool.or_eq_true] at *); omega)) | omega))
end Go.Proofs.YtfldnpkacelniaaDoor
