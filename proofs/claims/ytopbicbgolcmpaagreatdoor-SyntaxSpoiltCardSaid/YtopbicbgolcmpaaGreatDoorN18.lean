/- A part of the walk (Tryz_N18): its theorems have no condition beyond what they state. -/
import Derived.Test.YtopbicbgolcmpaaGreatDoorN14
set_option linter.unusedSimpArgs false
set_option linter.unusedVariables false
set_option linter.defProp false
namespace Go.Proofs.YtopbicbgolcmpaaGreatDoor
open Go Go.Abs Go.RowKit
theorem print_step (l : List TkD) (k : Nat) (h : k < l.length) : printF (l.take (k + 1)) = (if 0 < k then printF (l.take k) ++ [32] else printF (l.take k)) ++ wordT (l.getD k tk0) := by
  have e : l.getD k tk0 = l[k] := by simp [List.getD, h]
  rw [e, List.take_succ_eq_append_getElem h]
  by_cases hk : 0 < k
  · have hne : l.take k ≠ [] := by
      intro h0
      have := congrArg List.length h0
      rw [List.length_take, List.length_nil] at this
      omega
    rw [if_pos hk, print_snoc _ _ hne]
    simp
  · have : k = 0 := by omega
    subst this
    simp only [List.take_zero, List.nil_append, Nat.lt_irrefl, if_false, print_one]
    rfl
theorem print_mono (l : List TkD) (k : Nat) : ∀ d, k + d ≤ l.length → (printF (l.take k)).length ≤ (printF (l.take (k + d))).length
  | 0, _ => Nat.le_refl _
  | d + 1, h => by
    have h1 := print_mono l k d (by omega)
    have h2 := print_step l (k + d) (by omega)
    have h3 := congrArg List.length h2
    rw [List.length_append] at h3
    rw [show k + (d + 1) = k + d + 1 by omega]
    split at h3
    · rw [List.length_append] at h3; omega
    · omega
theorem print_take (l : List TkD) (k : Nat) (h : k ≤ l.length) : (printF (l.take k)).length ≤ (printF l).length := by
  have := print_mono l k (l.length - k) (by omega)
  rw [show k + (l.length - k) = l.length by omega, List.take_length] at this
  exact this
set_option maxRecDepth 100000 in
set_option maxHeartbeats 4000000 in
theorem rprint_ac (l : List TkD) (hn : l.length ≤ 1000000) (hv : ∀ t ∈ l, t.value ≤ 9223372036854775807) (hp : (printF l).length ≤ 140737488355328) : AC Tryz.prog gl 14 [.pv (.slice (l.map encTk))] [] (.pv (.str (printF l))) [] := by
  refine body0 (fun _ => 0) 0 Tryz.func14 rfl Tryz.ntmps14 (by rw [Tryz.results14]) (by simp) ?_
  simp -implicitDefEqProofs +contextual (maxSteps := 9000000) only [kx, ↓ky, tq14, simprocAttr]
  refine loopV (ι := {k : Nat // k ≤ l.length}) (fun i => ⟨(.pv (.slice (l.map encTk)) :: .junk :: .pv (.str []) :: .pv (.str (printF (l.take i.1))) :: .pv (.int .i64 i.1) :: .junk :: .junk :: .junk :: .junk :: .junk :: .junk :: .junk :: .junk :: .junk :: .junk :: .junk :: .junk :: .junk :: .junk :: .junk :: .junk :: .junk :: .junk :: .junk :: .junk :: .junk :: .junk :: .junk :: .junk :: .junk :: .junk :: .junk :: .junk :: .junk :: .junk :: .junk :: .junk :: .junk :: .junk :: .junk :: .junk :: []), []⟩) (fun i => l.length - i.1) ⟨0, by omega⟩ (WFe (by simp [kwf, printF, Lib.join]) (by simp [kwf, printF, Lib.join])) ?_
  rintro ⟨k, hk⟩
  by_cases hlt : k < l.length
  · have hlt' : (k : Int) < l.length := by omega
    have hge : (l.map encTk).getD k [] = encTk (l.getD k tk0) := by simp [List.getD, hlt]
    have hvk : (l.getD k tk0).value ≤ 9223372036854775807 := hv _ (by simp [List.getD, hlt])
    have hst := print_step l k hlt
    have hb := print_take l (k + 1) hlt
    have hst2 := congrArg List.length hst
    rw [List.length_append] at hst2
    have hw := wrapS k (by omega)
    have cD := decimal_ac (l.getD k tk0).value hvk
    generalize hG : printF (l.take (k + 1)) = G at *
    generalize printF (l.take k) = F at *
    generalize l.getD k tk0 = T at *
    obtain ⟨kd, tx, vl, ps⟩ := T
    unfold wordT at hst hst2
    by_cases h0 : 0 < k
    · have h0' : (k : Int) > 0 := by omega
      rw [if_pos h0] at hst hst2
      rw [List.length_append] at hst2
      have u1 : F.length + [32].length ≤ 4611686018427387904 := by simp only [List.length_cons, List.length_nil] at *; omega
      by_cases k1 : kd = 1
      · subst k1
        replace hst : G = (F ++ [32]) ++ tx := by rw [hst]; simp
        have u2 : (F ++ [32]).length + (tx).length ≤ 4611686018427387904 := by have := congrArg List.length hst; rw [List.length_append] at this; omega
        (repeat' (first | simp -implicitDefEqProofs +contextual (maxSteps := 9000000) only [kx, ↓ky, tq14, simprocAttr, hlt, hlt', hge, encTk, hw, h0', u1, u2] | (with_reducible first | refine SB.c (fun _ => ?_) (fun _ => ?_) | refine REG.i ?_ | exact REG.j) | refine CK.d0 enters25 cD ?_ | with_reducible refine AndI ?_ | omega))
        exact ⟨⟨k + 1, by omega⟩, (WFe (by simp [kwf, hG, hst]) (by simp [kwf, hG, hst])), by simp; omega⟩
      by_cases k3 : kd = 3
      · subst k3
        replace hst : G = (F ++ [32]) ++ tx := by rw [hst]; simp
        have u2 : (F ++ [32]).length + (tx).length ≤ 4611686018427387904 := by have := congrArg List.length hst; rw [List.length_append] at this; omega
        (repeat' (first | simp -implicitDefEqProofs +contextual (maxSteps := 9000000) only [kx, ↓ky, tq14, simprocAttr, hlt, hlt', hge, encTk, hw, h0', u1, u2] | (with_reducible first | refine SB.c (fun _ => ?_) (fun _ => ?_) | refine REG.i ?_ | exact REG.j) | refine CK.d0 enters25 cD ?_ | with_reducible refine AndI ?_ | omega))
        exact ⟨⟨k + 1, by omega⟩, (WFe (by simp [kwf, hG, hst]) (by simp [kwf, hG, hst])), by simp; omega⟩
      by_cases k2 : kd = 2
      · subst k2
        replace hst : G = (F ++ [32]) ++ decF vl := by rw [hst]; simp
        have u2 : (F ++ [32]).length + (decF vl).length ≤ 4611686018427387904 := by have := congrArg List.length hst; rw [List.length_append] at this; omega
        (repeat' (first | simp -implicitDefEqProofs +contextual (maxSteps := 9000000) only [kx, ↓ky, tq14, simprocAttr, hlt, hlt', hge, encTk, hw, h0', u1, u2] | (with_reducible first | refine SB.c (fun _ => ?_) (fun _ => ?_) | refine REG.i ?_ | exact REG.j) | refine CK.d0 enters25 cD ?_ | with_reducible refine AndI ?_ | omega))
        exact ⟨⟨k + 1, by omega⟩, (WFe (by simp [kwf, hG, hst]) (by simp [kwf, hG, hst])), by simp; omega⟩
      replace hst : G = (F ++ [32]) := by rw [hst]; simp [k1, k2, k3]
      have e1 : (kd == 1) = false := by simpa using k1
      have e2 : (kd == 2) = false := by simpa using k2
      have e3 : (kd == 3) = false := by simpa using k3
      (repeat' (first | simp -implicitDefEqProofs +contextual (maxSteps := 9000000) only [kx, ↓ky, tq14, simprocAttr, hlt, hlt', hge, encTk, hw, e1, e2, e3, h0', u1] | (with_reducible first | refine SB.c (fun _ => ?_) (fun _ => ?_) | refine REG.i ?_ | exact REG.j) | with_reducible refine AndI ?_ | omega))
      exact ⟨⟨k + 1, by omega⟩, (WFe (by simp [kwf, hG, hst]) (by simp [kwf, hG, hst])), by simp; omega⟩
    · have h0' : ¬ (k : Int) > 0 := by omega
      rw [if_neg h0] at hst hst2
      by_cases k1 : kd = 1
      · subst k1
        replace hst : G = F ++ tx := by rw [hst]; simp
        have u2 : F.length + (tx).length ≤ 4611686018427387904 := by have := congrArg List.length hst; rw [List.length_append] at this; omega
        (repeat' (first | simp -implicitDefEqProofs +contextual (maxSteps := 9000000) only [kx, ↓ky, tq14, simprocAttr, hlt, hlt', hge, encTk, hw, h0', u2] | (with_reducible first | refine SB.c (fun _ => ?_) (fun _ => ?_) | refine REG.i ?_ | exact REG.j) | refine CK.d0 enters25 cD ?_ | with_reducible refine AndI ?_ | omega))
        exact ⟨⟨k + 1, by omega⟩, (WFe (by simp [kwf, hG, hst]) (by simp [kwf, hG, hst])), by simp; omega⟩
      by_cases k3 : kd = 3
      · subst k3
        replace hst : G = F ++ tx := by rw [hst]; simp
        have u2 : F.length + (tx).length ≤ 4611686018427387904 := by have := congrArg List.length hst; rw [List.length_append] at this; omega
        (repeat' (first | simp -implicitDefEqProofs +contextual (maxSteps := 9000000) only [kx, ↓ky, tq14, simprocAttr, hlt, hlt', hge, encTk, hw, h0', u2] | (with_reducible first | refine SB.c (fun _ => ?_) (fun _ => ?_) | refine REG.i ?_ | exact REG.j) | refine CK.d0 enters25 cD ?_ | with_reducible refine AndI ?_ | omega))
        exact ⟨⟨k + 1, by omega⟩, (WFe (by simp [kwf, hG, hst]) (by simp [kwf, hG, hst])), by simp; omega⟩
      by_cases k2 : kd = 2
      · subst k2
        replace hst : G = F ++ decF vl := by rw [hst]; simp
        have u2 : F.length + (decF vl).length ≤ 4611686018427387904 := by have := congrArg List.length hst; rw [List.length_append] at this; omega
        (repeat' (first | simp -implicitDefEqProofs +contextual (maxSteps := 9000000) only [kx, ↓ky, tq14, simprocAttr, hlt, hlt', hge, encTk, hw, h0', u2] | (with_reducible first | refine SB.c (fun _ => ?_) (fun _ => ?_) | refine REG.i ?_ | exact REG.j) | refine CK.d0 enters25 cD ?_ | with_reducible refine AndI ?_ | omega))
        exact ⟨⟨k + 1, by omega⟩, (WFe (by simp [kwf, hG, hst]) (by simp [kwf, hG, hst])), by simp; omega⟩
      replace hst : G = F := by rw [hst]; simp [k1, k2, k3]
      have e1 : (kd == 1) = false := by simpa using k1
      have e2 : (kd == 2) = false := by simpa using k2
      have e3 : (kd == 3) = false := by simpa using k3
      (repeat' (first | simp -implicitDefEqProofs +contextual (maxSteps := 9000000) only [kx, ↓ky, tq14, simprocAttr, hlt, hlt', hge, encTk, hw, e1, e2, e3, h0'] | (with_reducible first | refine SB.c (fun _ => ?_) (fun _ => ?_) | refine REG.i ?_ | exact REG.j) | with_reducible refine AndI ?_ | omega))
      exact ⟨⟨k + 1, by omega⟩, (WFe (by simp [kwf, hG, hst]) (by simp [kwf, hG, hst])), by simp; omega⟩
  · have hke : k = l.length := by omega
    subst hke
    have hlt' : ¬ (l.length : Int) < l.length := by omega
    (repeat' (first | simp -implicitDefEqProofs +contextual (maxSteps := 9000000) only [kx, ↓ky, tq14, simprocAttr, hlt', List.take_length] | (with_reducible first | refine SB.c (fun _ => ?_) (fun _ => ?_) | refine REG.i ?_ | exact REG.j) | with_reducible refine AndI ?_ | omega))
end Go.Proofs.YtopbicbgolcmpaaGreatDoor
