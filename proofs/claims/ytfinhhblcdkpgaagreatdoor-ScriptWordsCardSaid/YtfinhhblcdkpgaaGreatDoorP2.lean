/- A part of the walk (Tryz_P2): its theorems have no condition beyond what they state. -/
import Derived.Test.YtfinhhblcdkpgaaGreatDoorP1
set_option linter.unusedSimpArgs false
set_option linter.unusedVariables false
set_option linter.defProp false
namespace Go.Proofs.YtfinhhblcdkpgaaGreatDoor
open Go Go.Abs Go.RowKit
theorem wrapM (k : Nat) (h : k ≤ 1000000) : IntKind.i64.wrap (((k + 1 : Nat) : Int) - 1) = (k : Int) := by rw [wrap64 _ (by omega) (by omega)]; omega
set_option maxRecDepth 100000 in
set_option maxHeartbeats 2000000 in
theorem name_ok (l : List TkD) (n k k' : Nat) (nm : List UInt8) (h : pnmF l k = .ok nm k') (hl : l.length ≤ 1000000) : AC Tryz.prog gl 183 [.ref 0 0] (psO l n k) (.pv (.str nm)) (psO l n k') := by
  unfold pnmF at h
  split at h
  · rename_i hc
    obtain ⟨h1, h2, h3⟩ := hc
    cases h
    have cV := valid_ac (l.getD k tk0).text
    rw [h3] at cV
    have hg := getTk l k h1
    rw [h2] at hg
    generalize (l.getD k tk0).text = tx at *
    have hk' : (k : Int) < l.length := by omega
    have hne : ((k : Int) == l.length) = false := by simp; omega
    have hw := wrapS k (by omega)
    have hm := wrapM k (by omega)
    refine bodyO (fun _ => 0) 1 Tryz.func183 rfl Tryz.ntmps183 (by rw [Tryz.results183]) (by simp) (by simp) ?_
    (repeat' (first | simp -implicitDefEqProofs +contextual (maxSteps := 9000000) only [kx, ↓ky, tq183, simprocAttr, h1, hk', hne, hg, hw, hm] | (with_reducible first | refine SB.c (fun _ => ?_) (fun _ => ?_) | refine REG.i ?_ | exact REG.j) | refine CK.d0 enters92 cV ?_ | with_reducible refine AndI ?_ | omega))
    (refine retQ.mk [0] ?_ ?_ <;> simp [kwr, tq183])
  · cases h
set_option maxRecDepth 100000 in
set_option maxHeartbeats 2000000 in
theorem name_bad (l : List TkD) (n k k' : Nat) (h : pnmF l k = .bad k') (hk : k ≤ l.length) : AP Tryz.prog gl 183 [.ref 0 0] (psO l n k) (fv l n k') (psO l n k') := by
  unfold pnmF at h
  split at h
  · cases h
  · rename_i hc
    cases h
    have cF := fail_ap l n k
    refine bodyP (fun _ => 0) 1 Tryz.func183 rfl Tryz.ntmps183 (by simp) (by simp) ?_
    by_cases h1 : k < l.length
    · have hk' : (k : Int) < l.length := by omega
      have hne : ((k : Int) == l.length) = false := by simp; omega
      have hg := getTk l k h1
      have cV := valid_ac (l.getD k tk0).text
      by_cases h2 : (l.getD k tk0).kind = 1
      · have h3 : validF (l.getD k tk0).text = false := by
          cases hv : validF (l.getD k tk0).text with
          | false => rfl
          | true => exact absurd ⟨h1, h2, hv⟩ hc
        rw [h3] at cV
        rw [h2] at hg
        generalize (l.getD k tk0).text = tx at *
        (repeat' (first | simp -implicitDefEqProofs +contextual (maxSteps := 9000000) only [kx, ↓ky, tq183, simprocAttr, h1, hk', hne, hg, kz] | (with_reducible first | refine SB.c (fun _ => ?_) (fun _ => ?_) | refine REG.i ?_ | refine PREG.i ?_ | exact REG.j | refine fun (_ : List AVal) => ?_) | refine CK.d0 enters92 cV ?_ | refine CK.dp [0] [] enters187 cF ?_ | with_reducible refine AndI ?_ | omega))
        (refine panQ.mk [0] ?_ <;> simp [kwt])
      · have h2' : ((l.getD k tk0).kind != 1) = true := by simpa using h2
        (repeat' (first | simp -implicitDefEqProofs +contextual (maxSteps := 9000000) only [kx, ↓ky, tq183, simprocAttr, h1, hk', hne, hg, h2', kz] | (with_reducible first | refine SB.c (fun _ => ?_) (fun _ => ?_) | refine REG.i ?_ | refine PREG.i ?_ | exact REG.j | refine fun (_ : List AVal) => ?_) | refine CK.d0 enters92 cV ?_ | refine CK.dp [0] [] enters187 cF ?_ | with_reducible refine AndI ?_ | omega))
        (refine panQ.mk [0] ?_ <;> simp [kwt])
    · have he : k = l.length := by omega
      have hne : ((k : Int) == l.length) = true := by simp; omega
      (repeat' (first | simp -implicitDefEqProofs +contextual (maxSteps := 9000000) only [kx, ↓ky, tq183, simprocAttr, hne, kz] | (with_reducible first | refine SB.c (fun _ => ?_) (fun _ => ?_) | refine REG.i ?_ | refine PREG.i ?_ | exact REG.j | refine fun (_ : List AVal) => ?_) | refine CK.dp [0] [] enters187 cF ?_ | with_reducible refine AndI ?_ | omega))
      (refine panQ.mk [0] ?_ <;> simp [kwt])
set_option maxRecDepth 100000 in
set_option maxHeartbeats 2000000 in
theorem number_ok (l : List TkD) (n k k' : Nat) (z v : Int) (h : nmF l z k = .ok v k') (hl : l.length ≤ 1000000) : AC Tryz.prog gl 184 [.ref 0 0, .pv (.int .i64 z)] (psO l n k) (.pv (.int .i64 v)) (psO l n k') := by
  unfold nmF at h
  split at h
  · rename_i hc
    obtain ⟨h1, h2, h3⟩ := hc
    cases h
    have hg := getTk l k h1
    rw [h2] at hg
    generalize (l.getD k tk0).value = tv at *
    have hlt : ¬ tv < z := by omega
    have hk' : (k : Int) < l.length := by omega
    have hne : ((k : Int) == l.length) = false := by simp; omega
    have hw := wrapS k (by omega)
    have hm := wrapM k (by omega)
    refine bodyO (fun _ => 0) 1 Tryz.func184 rfl Tryz.ntmps184 (by rw [Tryz.results184]) (by simp) (by simp) ?_
    (repeat' (first | simp -implicitDefEqProofs +contextual (maxSteps := 9000000) only [kx, ↓ky, tq184, simprocAttr, h1, hk', hne, hg, hw, hm, hlt] | (with_reducible first | refine SB.c (fun _ => ?_) (fun _ => ?_) | refine REG.i ?_ | exact REG.j) | with_reducible refine AndI ?_ | omega))
    (refine retQ.mk [0] ?_ ?_ <;> simp [kwr, tq184])
  · cases h
set_option maxRecDepth 100000 in
set_option maxHeartbeats 2000000 in
theorem number_bad (l : List TkD) (n k k' : Nat) (z : Int) (h : nmF l z k = .bad k') (hk : k ≤ l.length) : AP Tryz.prog gl 184 [.ref 0 0, .pv (.int .i64 z)] (psO l n k) (fv l n k') (psO l n k') := by
  unfold nmF at h
  split at h
  · cases h
  · rename_i hc
    cases h
    have cF := fail_ap l n k
    refine bodyP (fun _ => 0) 1 Tryz.func184 rfl Tryz.ntmps184 (by simp) (by simp) ?_
    by_cases h1 : k < l.length
    · have hk' : (k : Int) < l.length := by omega
      have hne : ((k : Int) == l.length) = false := by simp; omega
      have hg := getTk l k h1
      by_cases h2 : (l.getD k tk0).kind = 2
      · have h3 : (l.getD k tk0).value < z := by
          rcases Int.lt_or_le (l.getD k tk0).value z with h | h
          · exact h
          · exact absurd ⟨h1, h2, h⟩ hc
        rw [h2] at hg
        (repeat' (first | simp -implicitDefEqProofs +contextual (maxSteps := 9000000) only [kx, ↓ky, tq184, simprocAttr, h1, hk', hne, hg, h3, kz] | (with_reducible first | refine SB.c (fun _ => ?_) (fun _ => ?_) | refine REG.i ?_ | refine PREG.i ?_ | exact REG.j | refine fun (_ : List AVal) => ?_) | refine CK.dp [0] [] enters187 cF ?_ | with_reducible refine AndI ?_ | omega))
        (refine panQ.mk [0] ?_ <;> simp [kwt])
      · have h2' : ((l.getD k tk0).kind != 2) = true := by simpa using h2
        (repeat' (first | simp -implicitDefEqProofs +contextual (maxSteps := 9000000) only [kx, ↓ky, tq184, simprocAttr, h1, hk', hne, hg, h2', kz] | (with_reducible first | refine SB.c (fun _ => ?_) (fun _ => ?_) | refine REG.i ?_ | refine PREG.i ?_ | exact REG.j | refine fun (_ : List AVal) => ?_) | refine CK.dp [0] [] enters187 cF ?_ | with_reducible refine AndI ?_ | omega))
        (refine panQ.mk [0] ?_ <;> simp [kwt])
    · have he : k = l.length := by omega
      have hne : ((k : Int) == l.length) = true := by simp; omega
      (repeat' (first | simp -implicitDefEqProofs +contextual (maxSteps := 9000000) only [kx, ↓ky, tq184, simprocAttr, hne, kz] | (with_reducible first | refine SB.c (fun _ => ?_) (fun _ => ?_) | refine REG.i ?_ | refine PREG.i ?_ | exact REG.j | refine fun (_ : List AVal) => ?_) | refine CK.dp [0] [] enters187 cF ?_ | with_reducible refine AndI ?_ | omega))
      (refine panQ.mk [0] ?_ <;> simp [kwt])
end Go.Proofs.YtfinhhblcdkpgaaGreatDoor
