/- A part of the walk (Tryd_N13): its theorems have no condition beyond what they state. -/
import Derived.Test.YtfldnpkacelniaaDoorN12
import Derived.Test.YtfldnpkacelniaaDoorLib3
set_option linter.unusedSimpArgs false
set_option linter.unusedVariables false
set_option linter.defProp false
namespace Go.Proofs.YtfldnpkacelniaaDoor
open Go Go.Abs Go.RowKit
set_option maxRecDepth 100000 in
set_option maxHeartbeats 4000000 in
theorem print_ac (l : List TkD) (hn : l.length ≤ 1000000) (hv : ∀ t ∈ l, t.value ≤ 9223372036854775807) (hp : (printF l).length ≤ 140737488355328) : AC Tryd.prog gl 20 [.pv (.slice (l.map encTk))] [] (.pv (.str (printF l))) [] := by
  have h16 : (l.length : Int) * 16 ≤ 140737488355328 := by omega
  have hlen : (l.map encTk).length = l.length := by simp
  have hz := rowP_zero l
  have cJ := join_ac (l.map wordT) [32] hp (by simp; omega)
  rw [List.length_map, List.length_map, ← rowP_end] at cJ
  refine body0 (fun d => if d = 8 then 0 else 1) 2 Tryd.func20 rfl Tryd.ntmps20 (by rw [Tryd.results20]) (by simp) ?_
  simp -implicitDefEqProofs +contextual (maxSteps := 9000000) only [kx, ↓ky, tyS, tyX3, tyX9, tyX23, tyX31, tyX32, Nat.reduceAdd, Nat.reduceMul, Nat.reduceSub, Nat.reduceLT, Nat.reduceLeDiff, Nat.reduceEqDiff, Nat.reduceBEq, Int.reduceAdd, Int.reduceSub, Int.reduceMul, Int.reduceLT, Int.reduceLE, Int.reduceToNat, Int.reduceBEq, Int.reduceBNe, Int.reduceNeg, Int.reduceGT, Nat.reduceGT, Int.reduceEq, reduceCtorEq, ↓reduceIte, h16, ← hz]
  refine loopV (ι := {k : Nat // k ≤ l.length}) (fun i => ⟨(.pv (.slice (l.map encTk)) :: .junk :: .pv (.str []) :: .row 0 l.length :: .junk :: .junk :: .junk :: .junk :: .junk :: .pv (.slice (l.map encTk)) :: .pv (.int .i64 l.length) :: .pv (.int .i64 i.1) :: .junk :: .junk :: .junk :: .junk :: .junk :: .junk :: .junk :: .junk :: .junk :: .junk :: .junk :: .junk :: .junk :: .junk :: .junk :: .junk :: .junk :: .junk :: .junk :: .junk :: .junk :: .junk :: .junk :: .junk :: .junk :: .junk :: []), [some (.row 1 (rowP l i.1)), none]⟩) (fun i => l.length - i.1) ⟨0, by omega⟩ (Weak.forget rfl (pinsF (by simp) (by simp)) (by simp [wkSlots, wkObjs, ren, renL, renO, inScope, inScopeL, inScopeO, hasObj, St.obj, List.getD]) (by simp [wkSlots, wkObjs, ren, renL, renO, inScope, inScopeL, inScopeO, hasObj, St.obj, List.getD])) ?_
  rintro ⟨k, hk⟩
  by_cases hlt : k < l.length
  · have hlt' : (k : Int) < l.length := by omega
    have hge : (l.map encTk).getD k [] = encTk (l.getD k tk0) := by simp [List.getD, hlt]
    have hrow := rowP_len l k hk
    have hvk : (l.getD k tk0).value ≤ 9223372036854775807 := hv _ (by simp [List.getD, hlt])
    have hst := rowP_put l k hlt
    have hsa := rowP_same l k hlt
    unfold wordT at hst hsa
    have hw := wrapS k (by omega)
    have cI := itoa_ac (imax (l.getD k tk0).value 0) (by unfold imax; split <;> omega) (by unfold imax; split <;> omega)
    rw [itoa_dec _ hvk] at cI
    generalize hT : l.getD k tk0 = T at *
    obtain ⟨kd, tx, vl, ps⟩ := T
    (repeat' (first | simp -implicitDefEqProofs +contextual (maxSteps := 9000000) only [kx, ↓ky, tyS, tyX3, tyX9, tyX23, tyX31, tyX32, Nat.reduceAdd, Nat.reduceMul, Nat.reduceSub, Nat.reduceLT, Nat.reduceLeDiff, Nat.reduceEqDiff, Nat.reduceBEq, Int.reduceAdd, Int.reduceSub, Int.reduceMul, Int.reduceLT, Int.reduceLE, Int.reduceToNat, Int.reduceBEq, Int.reduceBNe, Int.reduceNeg, Int.reduceGT, Nat.reduceGT, Int.reduceEq, reduceCtorEq, ↓reduceIte, hlt, hlt', hge, encTk, hrow, hw] | (with_reducible first | refine SB.d (fun _ => ?_) (fun _ => ?_) | refine SB.e (fun _ => ?_) (fun _ => ?_) | refine SB.n (fun _ => ?_) (fun _ => ?_) | refine SB.b (fun _ => ?_) (fun _ => ?_) | refine And.intro (REG.ok (by kernel_rfl)) ?_ | exact REG.ok (by kernel_rfl)) | refine CK.c0 enters34 (cI) rfl rfl ?_ | refine CK.cp enters34 (fun _ => cI) rfl rfl ?_ | (with_reducible refine And.intro ?_ ?_); (focus (intros; (try simp only [decide_eq_true_eq, decide_eq_false_iff_not, beq_iff_eq, bne_iff_ne, Bool.and_eq_true, Bool.or_eq_true] at *); omega)) | omega))
    · rename_i h1
      exact ⟨⟨k + 1, by omega⟩, (Weak.forget rfl (pinsF (by simp) (by simp)) (by simp [wkSlots, wkObjs, ren, renL, renO, inScope, inScopeL, inScopeO, hasObj, St.obj, List.getD, hst tx (by simp [h1])]) (by simp [wkSlots, wkObjs, ren, renL, renO, inScope, inScopeL, inScopeO, hasObj, St.obj, List.getD, hst tx (by simp [h1])])), by simp; omega⟩
    · rename_i h1 h3
      exact ⟨⟨k + 1, by omega⟩, (Weak.forget rfl (pinsF (by simp) (by simp)) (by simp [wkSlots, wkObjs, ren, renL, renO, inScope, inScopeL, inScopeO, hasObj, St.obj, List.getD, hst tx (by simp [h3])]) (by simp [wkSlots, wkObjs, ren, renL, renO, inScope, inScopeL, inScopeO, hasObj, St.obj, List.getD, hst tx (by simp [h3])])), by simp; omega⟩
    · rename_i h1 h3 h2
      exact ⟨⟨k + 1, by omega⟩, (Weak.forget rfl (pinsF (by simp) (by simp)) (by simp [wkSlots, wkObjs, ren, renL, renO, inScope, inScopeL, inScopeO, hasObj, St.obj, List.getD, hst (decF vl) (by simp [h2])]) (by simp [wkSlots, wkObjs, ren, renL, renO, inScope, inScopeL, inScopeO, hasObj, St.obj, List.getD, hst (decF vl) (by simp [h2])])), by simp; omega⟩
    · rename_i h1 h3 h2
      exact ⟨⟨k + 1, by omega⟩, (Weak.forget rfl (pinsF (by simp) (by simp)) (by simp [wkSlots, wkObjs, ren, renL, renO, inScope, inScopeL, inScopeO, hasObj, St.obj, List.getD, hsa (by simp [h1, h2, h3])]) (by simp [wkSlots, wkObjs, ren, renL, renO, inScope, inScopeL, inScopeO, hasObj, St.obj, List.getD, hsa (by simp [h1, h2, h3])])), by simp; omega⟩
  · have hke : k = l.length := by omega
    subst hke
    have hlt' : ¬ (l.length : Int) < l.length := by omega
    (repeat' (first | simp -implicitDefEqProofs +contextual (maxSteps := 9000000) only [kx, ↓ky, tyS, tyX3, tyX9, tyX23, tyX31, tyX32, Nat.reduceAdd, Nat.reduceMul, Nat.reduceSub, Nat.reduceLT, Nat.reduceLeDiff, Nat.reduceEqDiff, Nat.reduceBEq, Int.reduceAdd, Int.reduceSub, Int.reduceMul, Int.reduceLT, Int.reduceLE, Int.reduceToNat, Int.reduceBEq, Int.reduceBNe, Int.reduceNeg, Int.reduceGT, Nat.reduceGT, Int.reduceEq, reduceCtorEq, ↓reduceIte, hlt', kz] | (with_reducible first | refine SB.d (fun _ => ?_) (fun _ => ?_) | refine SB.e (fun _ => ?_) (fun _ => ?_) | refine SB.n (fun _ => ?_) (fun _ => ?_) | refine SB.b (fun _ => ?_) (fun _ => ?_) | refine And.intro (REG.ok (by kernel_rfl)) ?_ | exact REG.ok (by kernel_rfl)) | refine CK.co [0] [] enters35 (cJ) rfl rfl rfl rfl rfl (by decide) rfl (by simp) ?_ | (with_reducible refine And.intro ?_ ?_); (focus (intros; (try simp only [decide_eq_true_eq, decide_eq_false_iff_not, beq_iff_eq, bne_iff_ne, Bool.and_eq_true, Bool.or_eq_true] at *); omega)) | omega))
    rfl
end Go.Proofs.YtfldnpkacelniaaDoor
