/- A part of the walk (Tryz_P3): its theorems have no condition beyond what they state. -/
import Derived.Test.YtfinhhblcdkpgaaGreatDoorP2
import Derived.Test.YtfinhhblcdkpgaaGreatDoorLib3
set_option linter.unusedSimpArgs false
set_option linter.unusedVariables false
set_option linter.defProp false
namespace Go.Proofs.YtfinhhblcdkpgaaGreatDoor
open Go Go.Abs Go.RowKit
set_option maxRecDepth 100000 in
set_option maxHeartbeats 1000000 in
theorem levelOf_ac (op : Nat) (h1 : 10 ≤ op) (h2 : op ≤ 22) : AC Tryz.prog gl 205 [.pv (.int .i64 op)] [] (.pv (.int .i64 (lvF op : Nat))) [] := by
  have : op = 10 ∨ op = 11 ∨ op = 12 ∨ op = 13 ∨ op = 14 ∨ op = 15 ∨ op = 16 ∨ op = 17 ∨ op = 18 ∨ op = 19 ∨ op = 20 ∨ op = 21 ∨ op = 22 := by omega
  rcases this with rfl | rfl | rfl | rfl | rfl | rfl | rfl | rfl | rfl | rfl | rfl | rfl | rfl
  all_goals
    refine body0 (fun _ => 0) 0 Tryz.func205 rfl Tryz.ntmps205 (by rw [Tryz.results205]) (by simp) ?_
    simp -implicitDefEqProofs +contextual (maxSteps := 9000000) only [kx, ↓ky, tq205, simprocAttr]
    try rfl
set_option maxRecDepth 100000 in
set_option maxHeartbeats 4000000 in
theorem signOf_ac (op : Nat) (h1 : 8 ≤ op) (h2 : op ≤ 22) : AC Tryz.prog gl 190 [.pv (.int .i64 op)] [] (.pv (.str (sgF op))) [] := by
  have : op = 8 ∨ op = 9 ∨ op = 10 ∨ op = 11 ∨ op = 12 ∨ op = 13 ∨ op = 14 ∨ op = 15 ∨ op = 16 ∨ op = 17 ∨ op = 18 ∨ op = 19 ∨ op = 20 ∨ op = 21 ∨ op = 22 := by omega
  rcases this with rfl | rfl | rfl | rfl | rfl | rfl | rfl | rfl | rfl | rfl | rfl | rfl | rfl | rfl | rfl
  all_goals
    refine body0 (fun _ => 0) 0 Tryz.func190 rfl Tryz.ntmps190 (by rw [Tryz.results190]) (by simp) ?_
    simp -implicitDefEqProofs +contextual (maxSteps := 9000000) only [kx, ↓ky, tq190, simprocAttr]
    try rfl
set_option maxRecDepth 100000 in
set_option maxHeartbeats 2000000 in
theorem operator_ac (lv : Nat) (s : List UInt8) : AC Tryz.prog gl 203 [.pv (.int .i64 lv), .pv (.str s)] [] (.pv (.int .i64 (opF lv s : Nat))) [] := by
  refine body0 (fun _ => 0) 0 Tryz.func203 rfl Tryz.ntmps203 (by rw [Tryz.results203]) (by simp) ?_
  simp -implicitDefEqProofs +contextual (maxSteps := 9000000) only [kx, ↓ky, tq203, simprocAttr]
  refine loopV (ι := {k : Nat // 10 ≤ k ∧ k ≤ 23 ∧ ∀ j, 10 ≤ j → j < k → ¬ (lvF j = lv ∧ sgF j = s)}) (fun i => ⟨[.pv (.int .i64 lv), .pv (.str s), .junk, .junk, .pv (.int .i64 0), .pv (.int .i64 i.1), .junk, .junk, .junk, .junk, .junk, .junk, .junk, .junk, .junk, .junk, .junk, .junk, .junk, .junk, .junk], []⟩) (fun i => 23 - i.1) ⟨10, by omega, by omega, fun j _ _ => by omega⟩ WFn ?_
  rintro ⟨k, h1, h2, h3⟩
  by_cases hlt : k ≤ 22
  · have hlt' : (k : Int) ≤ 22 := by omega
    have cL := levelOf_ac k h1 hlt
    have cS := signOf_ac k (by omega) hlt
    have hw := wrapS k (by omega)
    by_cases ha : lvF k = lv
    · have ha' : (((lvF k : Nat) : Int) == (lv : Int)) = true := by simp [ha]
      by_cases hb : sgF k = s
      · have hb' : (sgF k == s) = true := by simp [hb]
        have he : opF lv s = k := by rw [← ha, ← hb]; exact opF_of k h1 hlt
        rw [he]
        (repeat' (first | simp -implicitDefEqProofs +contextual (maxSteps := 9000000) only [kx, ↓ky, tq203, simprocAttr, hlt', ha', hb'] | (with_reducible first | refine SB.c (fun _ => ?_) (fun _ => ?_) | refine REG.i ?_ | exact REG.j) | refine CK.d0 enters205 cL ?_ | refine CK.d0 enters190 cS ?_ | with_reducible refine AndI ?_ | omega))
      · have hb' : (sgF k == s) = false := by simpa using hb
        (repeat' (first | simp -implicitDefEqProofs +contextual (maxSteps := 9000000) only [kx, ↓ky, tq203, simprocAttr, hlt', ha', hb', hw] | (with_reducible first | refine SB.c (fun _ => ?_) (fun _ => ?_) | refine REG.i ?_ | exact REG.j) | refine CK.d0 enters205 cL ?_ | refine CK.d0 enters190 cS ?_ | with_reducible refine AndI ?_ | omega))
        exact ⟨⟨k + 1, by omega, by omega, fun j j1 j2 => by
          by_cases hj : j = k
          · subst hj; exact fun h => hb h.2
          · exact h3 j j1 (by omega)⟩, WFn, by simp; omega⟩
    · have ha' : (((lvF k : Nat) : Int) == (lv : Int)) = false := by simp; omega
      (repeat' (first | simp -implicitDefEqProofs +contextual (maxSteps := 9000000) only [kx, ↓ky, tq203, simprocAttr, hlt', ha', hw] | (with_reducible first | refine SB.c (fun _ => ?_) (fun _ => ?_) | refine REG.i ?_ | exact REG.j) | refine CK.d0 enters205 cL ?_ | refine CK.d0 enters190 cS ?_ | with_reducible refine AndI ?_ | omega))
      exact ⟨⟨k + 1, by omega, by omega, fun j j1 j2 => by
        by_cases hj : j = k
        · subst hj; exact fun h => ha h.1
        · exact h3 j j1 (by omega)⟩, WFn, by simp; omega⟩
  · have hlt' : ¬ (k : Int) ≤ 22 := by omega
    have he : opF lv s = 0 := by
      by_cases h0 : opF lv s = 0
      · exact h0
      · obtain ⟨a1, a2, a3, a4⟩ := opF_ne h0
        exact absurd ⟨a3, a4⟩ (h3 _ a1 (by omega))
    rw [he]
    (repeat' (first | simp -implicitDefEqProofs +contextual (maxSteps := 9000000) only [kx, ↓ky, tq203, simprocAttr, hlt'] | (with_reducible first | refine SB.c (fun _ => ?_) (fun _ => ?_) | refine REG.i ?_ | exact REG.j) | with_reducible refine AndI ?_ | omega))
def nxK (l : List TkD) (lv k : Nat) : Nat := if opF lv (peekF l k) = 0 then k else k + 1
set_option maxRecDepth 100000 in
set_option maxHeartbeats 2000000 in
theorem next_ac (l : List TkD) (n lv k : Nat) (hk : k ≤ 1000000) : AC Tryz.prog gl 202 [.ref 0 0, .ref 1 0] [some (.cells [.pv (.int .i64 lv)]), some (.cells [.ref 2 0]), some (psC l n k)] (.pv (.int .i64 (opF lv (peekF l k) : Nat)))
    [some (.cells [.pv (.int .i64 lv)]), some (.cells [.ref 2 0]), some (psC l n (nxK l lv k))] := by
  have cP := peek_ac l n k
  have cO := operator_ac lv (peekF l k)
  have hw := wrapS k (by omega)
  unfold nxK
  generalize hop : opF lv (peekF l k) = op at *
  refine bodyO (fun _ => 0) 3 Tryz.func202 rfl Tryz.ntmps202 (by rw [Tryz.results202]) (by simp) (by simp) ?_
  by_cases h : op = 0
  · subst h
    (repeat' (first | simp -implicitDefEqProofs +contextual (maxSteps := 9000000) only [kx, ↓ky, tq202, simprocAttr, kz] | (with_reducible first | refine SB.c (fun _ => ?_) (fun _ => ?_) | refine REG.i ?_ | exact REG.j) | refine CK.dx [2] [] enters196 cP ?_ | refine CK.d0 enters203 cO ?_ | with_reducible refine AndI ?_ | omega))
    (refine retQ.mk [0, 1, 2] ?_ ?_ <;> simp [kwr, tq202])
  · have h' : ((op : Int) != 0) = true := by simp; omega
    rw [if_neg h]
    (repeat' (first | simp -implicitDefEqProofs +contextual (maxSteps := 9000000) only [kx, ↓ky, tq202, simprocAttr, h', hw, kz] | (with_reducible first | refine SB.c (fun _ => ?_) (fun _ => ?_) | refine REG.i ?_ | exact REG.j) | refine CK.dx [2] [] enters196 cP ?_ | refine CK.d0 enters203 cO ?_ | with_reducible refine AndI ?_ | omega))
    (refine retQ.mk [0, 1, 2] ?_ ?_ <;> simp [kwr, tq202])
end Go.Proofs.YtfinhhblcdkpgaaGreatDoor
