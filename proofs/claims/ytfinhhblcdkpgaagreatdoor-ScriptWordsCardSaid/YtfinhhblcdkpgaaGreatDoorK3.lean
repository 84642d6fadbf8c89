/- Words, names, fields of steps. No condition. -/
import Derived.Test.YtfinhhblcdkpgaaGreatDoorK2
import Derived.Test.YtfinhhblcdkpgaaGreatDoorLib4
set_option linter.unusedSimpArgs false
set_option linter.unusedVariables false
set_option linter.defProp false
namespace Go.Proofs.YtfinhhblcdkpgaaGreatDoor
open Go Go.Abs Go.RowKit
set_option maxRecDepth 100000 in
set_option maxHeartbeats 4000000 in
theorem sword_ac (k : Int) : AC Tryz.prog gl 14 [.pv (.int .i64 k)] [] (.pv (.str (wdF k))) [] := by
  by_cases h : k < 1
  · have e : wdF k = [] := by unfold wdF; rw [if_pos (.inl h)]
    rw [e]
    refine body0 (fun _ => 0) 0 Tryz.func14 rfl Tryz.ntmps14 (by rw [Tryz.results14]) (by simp) ?_
    (repeat' (first | simp -implicitDefEqProofs +contextual (maxSteps := 9000000) only [kx, ↓ky, tq14, simprocAttr, h] | (with_reducible first | refine SB.c (fun _ => ?_) (fun _ => ?_) | refine REG.i ?_ | exact REG.j) | with_reducible refine AndI ?_ | omega))
  · by_cases h2 : 14 < k
    · have e : wdF k = [] := by unfold wdF; rw [if_pos (.inr h2)]
      have h2' : k > 14 := h2
      rw [e]
      refine body0 (fun _ => 0) 0 Tryz.func14 rfl Tryz.ntmps14 (by rw [Tryz.results14]) (by simp) ?_
      (repeat' (first | simp -implicitDefEqProofs +contextual (maxSteps := 9000000) only [kx, ↓ky, tq14, simprocAttr, h, h2, h2'] | (with_reducible first | refine SB.c (fun _ => ?_) (fun _ => ?_) | refine REG.i ?_ | exact REG.j) | with_reducible refine AndI ?_ | omega))
    · refine wd_range (fun k => AC Tryz.prog gl 14 [.pv (.int .i64 k)] [] (.pv (.str (wdF k))) []) ?_ k (by omega) (by omega)
      refine ⟨?_, ?_, ?_, ?_, ?_, ?_, ?_, ?_, ?_, ?_, ?_, ?_, ?_, ?_⟩ <;> (refine body0 (fun _ => 0) 0 Tryz.func14 rfl Tryz.ntmps14 (by rw [Tryz.results14]) (by simp) ?_; (repeat' (first | simp -implicitDefEqProofs +contextual (maxSteps := 9000000) only [kx, ↓ky, tq14, simprocAttr, wdF, wdsT, or_self, if_false] | (with_reducible first | refine SB.c (fun _ => ?_) (fun _ => ?_) | refine REG.i ?_ | exact REG.j) | with_reducible refine AndI ?_ | omega)))
set_option maxRecDepth 100000 in
set_option maxHeartbeats 4000000 in
theorem kword_ac (k : Int) : AC Tryz.prog gl 15 [.pv (.int .i64 k)] [] (.pv (.str (wdF k))) [] := by
  by_cases h : k < 0
  · have e : wdF k = [] := by unfold wdF; rw [if_pos (by omega)]
    rw [e]
    refine body0 (fun _ => 0) 0 Tryz.func15 rfl Tryz.ntmps15 (by rw [Tryz.results15]) (by simp) ?_
    (repeat' (first | simp -implicitDefEqProofs +contextual (maxSteps := 9000000) only [kx, ↓ky, tq15, simprocAttr, h] | (with_reducible first | refine SB.c (fun _ => ?_) (fun _ => ?_) | refine REG.i ?_ | exact REG.j) | with_reducible refine AndI ?_ | omega))
  · by_cases h2 : 15 ≤ k
    · have e : wdF k = [] := by unfold wdF; rw [if_pos (by omega)]
      have h2' : k ≥ 15 := h2
      rw [e]
      refine body0 (fun _ => 0) 0 Tryz.func15 rfl Tryz.ntmps15 (by rw [Tryz.results15]) (by simp) ?_
      (repeat' (first | simp -implicitDefEqProofs +contextual (maxSteps := 9000000) only [kx, ↓ky, tq15, simprocAttr, h, h2, h2'] | (with_reducible first | refine SB.c (fun _ => ?_) (fun _ => ?_) | refine REG.i ?_ | exact REG.j) | with_reducible refine AndI ?_ | omega))
    · by_cases h0 : k = 0
      · subst h0
        refine body0 (fun _ => 0) 0 Tryz.func15 rfl Tryz.ntmps15 (by rw [Tryz.results15]) (by simp) ?_
        (repeat' (first | simp -implicitDefEqProofs +contextual (maxSteps := 9000000) only [kx, ↓ky, tq15, simprocAttr, wdF, true_or, or_self, if_true] | (with_reducible first | refine SB.c (fun _ => ?_) (fun _ => ?_) | refine REG.i ?_ | exact REG.j) | with_reducible refine AndI ?_ | omega))
      · refine wd_range (fun k => AC Tryz.prog gl 15 [.pv (.int .i64 k)] [] (.pv (.str (wdF k))) []) ?_ k (by omega) (by omega)
        refine ⟨?_, ?_, ?_, ?_, ?_, ?_, ?_, ?_, ?_, ?_, ?_, ?_, ?_, ?_⟩ <;> (refine body0 (fun _ => 0) 0 Tryz.func15 rfl Tryz.ntmps15 (by rw [Tryz.results15]) (by simp) ?_; (repeat' (first | simp -implicitDefEqProofs +contextual (maxSteps := 9000000) only [kx, ↓ky, tq15, simprocAttr, wdF, wdsT, or_self, if_false] | (with_reducible first | refine SB.c (fun _ => ?_) (fun _ => ?_) | refine REG.i ?_ | exact REG.j) | with_reducible refine AndI ?_ | omega)))
abbrev stO (x : StD) : Option AObj := some (.cells [.pv (.int .i64 x.kind), .pv (.int .i64 x.proc), .pv (.int .i64 x.place), .pv (.int .i64 x.value)])
theorem shF_cases (k : Int) : ((k = 1 ∨ k = 4 ∨ k = 5) ∧ shF k = 1) ∨ ((k = 2 ∨ k = 3 ∨ k = 10) ∧ shF k = 2) ∨ ((k = 6 ∨ k = 7 ∨ k = 8 ∨ k = 9 ∨ k = 12) ∧ shF k = 3) ∨ (k ≠ 1 ∧ k ≠ 2 ∧ k ≠ 3 ∧ k ≠ 4 ∧ k ≠ 5 ∧ k ≠ 6 ∧ k ≠ 7 ∧ k ≠ 8 ∧ k ≠ 9 ∧ k ≠ 10 ∧ k ≠ 12 ∧ shF k = 0) := by
  unfold shF
  by_cases h1 : k = 1 ∨ k = 4 ∨ k = 5
  · exact .inl ⟨h1, if_pos h1⟩
  · rw [if_neg h1]
    by_cases h2 : k = 2 ∨ k = 3 ∨ k = 10
    · exact .inr (.inl ⟨h2, if_pos h2⟩)
    · rw [if_neg h2]
      by_cases h3 : k = 6 ∨ k = 7 ∨ k = 8 ∨ k = 9 ∨ k = 12
      · exact .inr (.inr (.inl ⟨h3, if_pos h3⟩))
      · rw [if_neg h3]
        exact .inr (.inr (.inr ⟨by omega, by omega, by omega, by omega, by omega, by omega, by omega, by omega, by omega, by omega, by omega, rfl⟩))
set_option maxRecDepth 100000 in
set_option maxHeartbeats 4000000 in
theorem fields1_ac (x : StD) (h : shF x.kind = 1) : AC Tryz.prog gl 58 [.ref 0 0] [stO x] (.csl 1 1 1) [stO x, some (.cells [.ref 0 2])] := by
  rcases shF_cases x.kind with ⟨h1, _⟩ | ⟨_, h2⟩ | ⟨_, h2⟩ | ⟨_, _, _, _, _, _, _, _, _, _, _, h2⟩ <;> try (rw [h] at h2; cases h2)
  rcases h1 with h1 | h1 | h1 <;>
  · refine bodyO (fun _ => 1) 2 Tryz.func58 rfl Tryz.ntmps58 (by rw [Tryz.results58]) (by simp) (by simp) ?_
    (repeat' (first | simp -implicitDefEqProofs +contextual (maxSteps := 9000000) only [kx, ↓ky, tq58, simprocAttr, h1] | (with_reducible first | refine SB.c (fun _ => ?_) (fun _ => ?_) | refine REG.i ?_ | exact REG.j) | with_reducible refine AndI ?_ | omega))
    (refine retQ.mk [0, 1] ?_ ?_ <;> simp [kwr, tq58])
set_option maxRecDepth 100000 in
set_option maxHeartbeats 4000000 in
theorem fields2_ac (x : StD) (h : shF x.kind = 2) : AC Tryz.prog gl 58 [.ref 0 0] [stO x] (.csl 1 2 1) [stO x, some (.cells [.ref 0 1, .ref 0 3])] := by
  rcases shF_cases x.kind with ⟨_, h2⟩ | ⟨h1, _⟩ | ⟨_, h2⟩ | ⟨_, _, _, _, _, _, _, _, _, _, _, h2⟩ <;> try (rw [h] at h2; cases h2)
  rcases h1 with h1 | h1 | h1 <;>
  · refine bodyO (fun _ => 1) 2 Tryz.func58 rfl Tryz.ntmps58 (by rw [Tryz.results58]) (by simp) (by simp) ?_
    (repeat' (first | simp -implicitDefEqProofs +contextual (maxSteps := 9000000) only [kx, ↓ky, tq58, simprocAttr, h1] | (with_reducible first | refine SB.c (fun _ => ?_) (fun _ => ?_) | refine REG.i ?_ | exact REG.j) | with_reducible refine AndI ?_ | omega))
    (refine retQ.mk [0, 1] ?_ ?_ <;> simp [kwr, tq58])
set_option maxRecDepth 100000 in
set_option maxHeartbeats 4000000 in
theorem fields3_ac (x : StD) (h : shF x.kind = 3) : AC Tryz.prog gl 58 [.ref 0 0] [stO x] (.csl 1 1 1) [stO x, some (.cells [.ref 0 1])] := by
  rcases shF_cases x.kind with ⟨_, h2⟩ | ⟨_, h2⟩ | ⟨h1, _⟩ | ⟨_, _, _, _, _, _, _, _, _, _, _, h2⟩ <;> try (rw [h] at h2; cases h2)
  rcases h1 with h1 | h1 | h1 | h1 | h1 <;>
  · refine bodyO (fun _ => 1) 2 Tryz.func58 rfl Tryz.ntmps58 (by rw [Tryz.results58]) (by simp) (by simp) ?_
    (repeat' (first | simp -implicitDefEqProofs +contextual (maxSteps := 9000000) only [kx, ↓ky, tq58, simprocAttr, h1] | (with_reducible first | refine SB.c (fun _ => ?_) (fun _ => ?_) | refine REG.i ?_ | exact REG.j) | with_reducible refine AndI ?_ | omega))
    (refine retQ.mk [0, 1] ?_ ?_ <;> simp [kwr, tq58])
set_option maxRecDepth 100000 in
set_option maxHeartbeats 4000000 in
theorem fields0_ac (x : StD) (h : shF x.kind = 0) : AC Tryz.prog gl 58 [.ref 0 0] [stO x] .snil [stO x] := by
  rcases shF_cases x.kind with ⟨_, h2⟩ | ⟨_, h2⟩ | ⟨_, h2⟩ | ⟨a1, a2, a3, a4, a5, a6, a7, a8, a9, a10, a11, _⟩ <;> try (rw [h] at h2; cases h2)
  refine bodyO (fun _ => 1) 2 Tryz.func58 rfl Tryz.ntmps58 (by rw [Tryz.results58]) (by simp) (by simp) ?_
  (repeat' (first | simp -implicitDefEqProofs +contextual (maxSteps := 9000000) only [kx, ↓ky, tq58, simprocAttr, a1, a2, a3, a4, a5, a6, a7, a8, a9, a10, a11] | (with_reducible first | refine SB.c (fun _ => ?_) (fun _ => ?_) | refine REG.i ?_ | exact REG.j) | with_reducible refine AndI ?_ | omega))
  (refine retQ.mk [0] ?_ ?_ <;> simp [kwr, tq58])
end Go.Proofs.YtfinhhblcdkpgaaGreatDoor
