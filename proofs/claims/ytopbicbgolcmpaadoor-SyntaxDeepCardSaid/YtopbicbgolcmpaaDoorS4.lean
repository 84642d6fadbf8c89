/- A part of the walk (Tryd_S4): its theorems have no condition beyond what they state. -/
import Derived.Test.YtopbicbgolcmpaaDoorS3
import Derived.Test.YtopbicbgolcmpaaDoorS2
import Derived.Test.YtopbicbgolcmpaaDoorLib3
set_option linter.unusedSimpArgs false
set_option linter.unusedVariables false
set_option linter.defProp false
namespace Go.Proofs.YtopbicbgolcmpaaDoor
open Go Go.Abs Go.RowKit
set_option maxRecDepth 100000 in
set_option maxHeartbeats 8000000 in
theorem deep0_law (n m : Nat) (hn : n < 256) (hm : m < 256) (hmod : m % 3 = 0) : AC Tryd.prog gl 4 [.pv (.int .u8 n), .pv (.int .u8 m)] [] (.pv (.bool true)) [] := by
  have cA := awake_ac
  have hwn : IntKind.i64.wrap (n : Int) = n := wrap64 _ (by omega) (by omega)
  have hmn : (n : Int).tmod 40 = ((n % 40 : Nat) : Int) := by rw [Int.tmod_eq_emod_of_nonneg (by omega)]; omega
  have hmm : (m : Int).tmod 3 = 0 := by rw [Int.tmod_eq_emod_of_nonneg (by omega)]; omega
  have hk : n % 40 < 40 := by omega
  generalize n % 40 = k at *
  have hc := chkD_ok (d := 0) (by decide) hk
  have cP := Parse_ac (deepT 0 k)
  have hsz := parF_sz (deepT 0 k)
  have cD := depth_ac _ hsz
  have lo : ∀ j, (opT 0 j).length ≤ 2 * j := fun j => by simp [opT] <;> (try omega)
  have lc : ∀ j, (clT 0 j).length ≤ j := fun j => by simp [clT]
  have so : ∀ j, opT 0 j ++ [40] = opT 0 (j + 1) := fun j => by simp [opT, List.replicate_succ']
  have sc : ∀ j, 41 :: clT 0 j = clT 0 (j + 1) := fun j => by simp [clT, List.replicate_succ]
  have o0 : opT 0 0 = [] := by simp [opT]
  have c0 : clT 0 0 = [] := by simp [clT]
  unfold chkD deepT at hc
  unfold deepT at cP cD
  unfold rP at cP
  have lok := lo k
  have lck := lc k
  generalize parF ([111, 110, 32, 105, 110, 112, 117, 116, 32, 123, 32, 120, 32, 61, 32] ++ opT 0 k ++ [49] ++ clT 0 k ++ [59, 32, 125]) = r at *
  unfold pgA at cP cD
  refine body0 (fun _ => 0) 1 Tryd.func4 rfl Tryd.ntmps4 (by rw [Tryd.results4]) (by simp) ?_
  (repeat' (first | simp -implicitDefEqProofs +contextual (maxSteps := 9000000) only [kx, ↓ky, tq4, simprocAttr, hwn, hmn] | (with_reducible first | refine SB.c (fun _ => ?_) (fun _ => ?_) | refine REG.i ?_ | exact REG.j) | refine CK.d0 enters7 cA ?_ | with_reducible refine AndI ?_ | omega))
  refine loopV (ι := {j : Nat // j ≤ k}) (fun i => ⟨(.junk :: .pv (.int .u8 m) :: .junk :: .junk :: .junk :: .pv (.int .i64 k) :: .pv (.str (opT 0 i.1)) :: .pv (.str (clT 0 i.1)) :: .pv (.int .i64 2) :: .pv (.int .i64 i.1) :: .junk :: .junk :: .junk :: .junk :: .junk :: .junk :: .junk :: .junk :: .junk :: .junk :: .junk :: .junk :: .junk :: .junk :: .junk :: .junk :: .junk :: .junk :: .junk :: .junk :: .junk :: .junk :: .junk :: .junk :: .junk :: .junk :: .junk :: .junk :: .junk :: .junk :: .junk :: .junk :: .junk :: .junk :: .junk :: .junk :: .junk :: .junk :: .junk :: .junk :: .junk :: .junk :: .junk :: .junk :: .junk :: .junk :: .junk :: .junk :: .junk :: .junk :: .junk :: .junk :: .junk :: .junk :: .junk :: .junk :: .junk :: .junk :: .junk :: .junk :: .junk :: .junk :: .junk :: .junk :: .junk :: .junk :: []), [none]⟩) (fun i => k - i.1) ⟨0, by omega⟩ (WFe (by simp [kwf, o0, c0]) (by simp [kwf, o0, c0])) ?_
  rintro ⟨j, hj⟩
  by_cases hlt : j < k
  · have hlt' : (j : Int) < k := by omega
    have hw := wrapS j (by omega)
    have lj := lo j
    have lcj := lc j
    have soj := so j
    have scj := sc j
    skip
    clear so lo lc
    (repeat' (first | simp -implicitDefEqProofs +contextual (maxSteps := 9000000) only [kx, ↓ky, tq4, simprocAttr, hlt', hmm, hw, soj, scj] | (with_reducible first | refine SB.c (fun _ => ?_) (fun _ => ?_) | refine REG.i ?_ | exact REG.j) | with_reducible refine AndI ?_ | omega))
    exact ⟨⟨j + 1, by omega⟩, WFn, by show k - (j + 1) < k - j; omega⟩
  · have hlt' : ¬ (j : Int) < k := by omega
    have hjk : j = k := by omega
    subst hjk
    clear so lo lc
    by_cases hd : dpT 0 j > 16
    · simp only [hd, if_true, Bool.and_eq_true, beq_iff_eq] at hc
      obtain ⟨⟨f1, f2⟩, f3⟩ := hc
      have hd' : (2 : Int) > 16 := by unfold dpT at hd; simp at hd <;> omega
      rw [f1, f2] at cP
      have f4 : ((r.1.input.length : Nat) : Int) = 0 := by omega
      (repeat' (first | simp -implicitDefEqProofs +contextual (maxSteps := 9000000) only [kx, ↓ky, tq4, simprocAttr, hlt', hd', f4, List.length_append] | (with_reducible first | refine SB.c (fun _ => ?_) (fun _ => ?_) | refine REG.i ?_ | exact REG.j) | refine CK.d0 enters8 cP ?_ | with_reducible refine AndI ?_ | omega))
    · simp only [hd, if_false, Bool.and_eq_true, beq_iff_eq] at hc
      obtain ⟨f1, f2⟩ := hc
      have hd' : ¬ (2 : Int) > 16 := by unfold dpT at hd; simp at hd; omega
      have f3 : dpT 0 j = 2 := by unfold dpT; simp
      rw [f1] at cP
      rw [f2, f3] at cD
      (repeat' (first | simp -implicitDefEqProofs +contextual (maxSteps := 9000000) only [kx, ↓ky, tq4, simprocAttr, hlt', hd', List.length_append] | (with_reducible first | refine SB.c (fun _ => ?_) (fun _ => ?_) | refine REG.i ?_ | exact REG.j) | refine CK.d0 enters8 cP ?_ | refine CK.d0 enters10 cD ?_ | with_reducible refine AndI ?_ | omega))
set_option maxRecDepth 100000 in
set_option maxHeartbeats 8000000 in
theorem deep1_law (n m : Nat) (hn : n < 256) (hm : m < 256) (hmod : m % 3 = 1) : AC Tryd.prog gl 4 [.pv (.int .u8 n), .pv (.int .u8 m)] [] (.pv (.bool true)) [] := by
  have cA := awake_ac
  have hwn : IntKind.i64.wrap (n : Int) = n := wrap64 _ (by omega) (by omega)
  have hmn : (n : Int).tmod 40 = ((n % 40 : Nat) : Int) := by rw [Int.tmod_eq_emod_of_nonneg (by omega)]; omega
  have hmm : (m : Int).tmod 3 = 1 := by rw [Int.tmod_eq_emod_of_nonneg (by omega)]; omega
  have hk : n % 40 < 40 := by omega
  generalize n % 40 = k at *
  have hc := chkD_ok (d := 1) (by decide) hk
  have cP := Parse_ac (deepT 1 k)
  have hsz := parF_sz (deepT 1 k)
  have cD := depth_ac _ hsz
  have lo : ∀ j, (opT 1 j).length ≤ 2 * j := fun j => by simp [opT] <;> (try omega)
  have lc : ∀ j, (clT 1 j).length ≤ j := fun j => by simp [clT]
  have so : ∀ j, opT 1 j ++ [45] = opT 1 (j + 1) := fun j => by simp [opT, List.replicate_succ']
  skip
  have o0 : opT 1 0 = [] := by simp [opT]
  have c0 : clT 1 0 = [] := by simp [clT]
  unfold chkD deepT at hc
  unfold deepT at cP cD
  unfold rP at cP
  have lok := lo k
  have lck := lc k
  generalize parF ([111, 110, 32, 105, 110, 112, 117, 116, 32, 123, 32, 120, 32, 61, 32] ++ opT 1 k ++ [49] ++ clT 1 k ++ [59, 32, 125]) = r at *
  unfold pgA at cP cD
  refine body0 (fun _ => 0) 1 Tryd.func4 rfl Tryd.ntmps4 (by rw [Tryd.results4]) (by simp) ?_
  (repeat' (first | simp -implicitDefEqProofs +contextual (maxSteps := 9000000) only [kx, ↓ky, tq4, simprocAttr, hwn, hmn] | (with_reducible first | refine SB.c (fun _ => ?_) (fun _ => ?_) | refine REG.i ?_ | exact REG.j) | refine CK.d0 enters7 cA ?_ | with_reducible refine AndI ?_ | omega))
  refine loopV (ι := {j : Nat // j ≤ k}) (fun i => ⟨(.junk :: .pv (.int .u8 m) :: .junk :: .junk :: .junk :: .pv (.int .i64 k) :: .pv (.str (opT 1 i.1)) :: .pv (.str (clT 1 i.1)) :: .pv (.int .i64 ((2 + i.1 : Nat) : Int)) :: .pv (.int .i64 i.1) :: .junk :: .junk :: .junk :: .junk :: .junk :: .junk :: .junk :: .junk :: .junk :: .junk :: .junk :: .junk :: .junk :: .junk :: .junk :: .junk :: .junk :: .junk :: .junk :: .junk :: .junk :: .junk :: .junk :: .junk :: .junk :: .junk :: .junk :: .junk :: .junk :: .junk :: .junk :: .junk :: .junk :: .junk :: .junk :: .junk :: .junk :: .junk :: .junk :: .junk :: .junk :: .junk :: .junk :: .junk :: .junk :: .junk :: .junk :: .junk :: .junk :: .junk :: .junk :: .junk :: .junk :: .junk :: .junk :: .junk :: .junk :: .junk :: .junk :: .junk :: .junk :: .junk :: .junk :: .junk :: .junk :: .junk :: []), [none]⟩) (fun i => k - i.1) ⟨0, by omega⟩ (WFe (by simp [kwf, o0, c0]) (by simp [kwf, o0, c0])) ?_
  rintro ⟨j, hj⟩
  by_cases hlt : j < k
  · have hlt' : (j : Int) < k := by omega
    have hw := wrapS j (by omega)
    have lj := lo j
    have lcj := lc j
    have soj := so j
    skip
    have hw2 : IntKind.i64.wrap (((2 + j : Nat) : Int) + 1) = ((2 + (j + 1) : Nat) : Int) := by rw [wrap64 _ (by omega) (by omega)]; omega
    clear so lo lc
    (repeat' (first | simp -implicitDefEqProofs +contextual (maxSteps := 9000000) only [kx, ↓ky, tq4, simprocAttr, hlt', hmm, hw, soj, hw2] | (with_reducible first | refine SB.c (fun _ => ?_) (fun _ => ?_) | refine REG.i ?_ | exact REG.j) | with_reducible refine AndI ?_ | omega))
    exact ⟨⟨j + 1, by omega⟩, (WFe (by simp [kwf, show clT 1 j = clT 1 (j + 1) from rfl]) (by simp [kwf, show clT 1 j = clT 1 (j + 1) from rfl])), by show k - (j + 1) < k - j; omega⟩
  · have hlt' : ¬ (j : Int) < k := by omega
    have hjk : j = k := by omega
    subst hjk
    clear so lo lc
    by_cases hd : dpT 1 j > 16
    · simp only [hd, if_true, Bool.and_eq_true, beq_iff_eq] at hc
      obtain ⟨⟨f1, f2⟩, f3⟩ := hc
      have hd' : ((2 + j : Nat) : Int) > 16 := by unfold dpT at hd; simp at hd <;> omega
      rw [f1, f2] at cP
      have f4 : ((r.1.input.length : Nat) : Int) = 0 := by omega
      (repeat' (first | simp -implicitDefEqProofs +contextual (maxSteps := 9000000) only [kx, ↓ky, tq4, simprocAttr, hlt', hd', f4, List.length_append] | (with_reducible first | refine SB.c (fun _ => ?_) (fun _ => ?_) | refine REG.i ?_ | exact REG.j) | refine CK.d0 enters8 cP ?_ | with_reducible refine AndI ?_ | omega))
    · simp only [hd, if_false, Bool.and_eq_true, beq_iff_eq] at hc
      obtain ⟨f1, f2⟩ := hc
      have hd' : ¬ ((2 + j : Nat) : Int) > 16 := by unfold dpT at hd; simp at hd; omega
      have f3 : dpT 1 j = ((2 + j : Nat) : Int) := by unfold dpT; simp
      rw [f1] at cP
      rw [f2, f3] at cD
      (repeat' (first | simp -implicitDefEqProofs +contextual (maxSteps := 9000000) only [kx, ↓ky, tq4, simprocAttr, hlt', hd', List.length_append] | (with_reducible first | refine SB.c (fun _ => ?_) (fun _ => ?_) | refine REG.i ?_ | exact REG.j) | refine CK.d0 enters8 cP ?_ | refine CK.d0 enters10 cD ?_ | with_reducible refine AndI ?_ | omega))
set_option maxRecDepth 100000 in
set_option maxHeartbeats 8000000 in
theorem deep2_law (n m : Nat) (hn : n < 256) (hm : m < 256) (hmod : m % 3 = 2) : AC Tryd.prog gl 4 [.pv (.int .u8 n), .pv (.int .u8 m)] [] (.pv (.bool true)) [] := by
  have cA := awake_ac
  have hwn : IntKind.i64.wrap (n : Int) = n := wrap64 _ (by omega) (by omega)
  have hmn : (n : Int).tmod 40 = ((n % 40 : Nat) : Int) := by rw [Int.tmod_eq_emod_of_nonneg (by omega)]; omega
  have hmm : (m : Int).tmod 3 = 2 := by rw [Int.tmod_eq_emod_of_nonneg (by omega)]; omega
  have hk : n % 40 < 40 := by omega
  generalize n % 40 = k at *
  have hc := chkD_ok (d := 2) (by decide) hk
  have cP := Parse_ac (deepT 2 k)
  have hsz := parF_sz (deepT 2 k)
  have cD := depth_ac _ hsz
  have lo : ∀ j, (opT 2 j).length ≤ 2 * j := fun j => by simp [opT] <;> (try omega)
  have lc : ∀ j, (clT 2 j).length ≤ j := fun j => by simp [clT]
  have so : ∀ j, opT 2 j ++ [97, 91] = opT 2 (j + 1) := fun j => by simp [opT, List.replicate_succ']
  have sc : ∀ j, 93 :: clT 2 j = clT 2 (j + 1) := fun j => by simp [clT, List.replicate_succ]
  have o0 : opT 2 0 = [] := by simp [opT]
  have c0 : clT 2 0 = [] := by simp [clT]
  unfold chkD deepT at hc
  unfold deepT at cP cD
  unfold rP at cP
  have lok := lo k
  have lck := lc k
  generalize parF ([111, 110, 32, 105, 110, 112, 117, 116, 32, 123, 32, 120, 32, 61, 32] ++ opT 2 k ++ [49] ++ clT 2 k ++ [59, 32, 125]) = r at *
  unfold pgA at cP cD
  refine body0 (fun _ => 0) 1 Tryd.func4 rfl Tryd.ntmps4 (by rw [Tryd.results4]) (by simp) ?_
  (repeat' (first | simp -implicitDefEqProofs +contextual (maxSteps := 9000000) only [kx, ↓ky, tq4, simprocAttr, hwn, hmn] | (with_reducible first | refine SB.c (fun _ => ?_) (fun _ => ?_) | refine REG.i ?_ | exact REG.j) | refine CK.d0 enters7 cA ?_ | with_reducible refine AndI ?_ | omega))
  refine loopV (ι := {j : Nat // j ≤ k}) (fun i => ⟨(.junk :: .pv (.int .u8 m) :: .junk :: .junk :: .junk :: .pv (.int .i64 k) :: .pv (.str (opT 2 i.1)) :: .pv (.str (clT 2 i.1)) :: .pv (.int .i64 ((2 + i.1 : Nat) : Int)) :: .pv (.int .i64 i.1) :: .junk :: .junk :: .junk :: .junk :: .junk :: .junk :: .junk :: .junk :: .junk :: .junk :: .junk :: .junk :: .junk :: .junk :: .junk :: .junk :: .junk :: .junk :: .junk :: .junk :: .junk :: .junk :: .junk :: .junk :: .junk :: .junk :: .junk :: .junk :: .junk :: .junk :: .junk :: .junk :: .junk :: .junk :: .junk :: .junk :: .junk :: .junk :: .junk :: .junk :: .junk :: .junk :: .junk :: .junk :: .junk :: .junk :: .junk :: .junk :: .junk :: .junk :: .junk :: .junk :: .junk :: .junk :: .junk :: .junk :: .junk :: .junk :: .junk :: .junk :: .junk :: .junk :: .junk :: .junk :: .junk :: .junk :: []), [none]⟩) (fun i => k - i.1) ⟨0, by omega⟩ (WFe (by simp [kwf, o0, c0]) (by simp [kwf, o0, c0])) ?_
  rintro ⟨j, hj⟩
  by_cases hlt : j < k
  · have hlt' : (j : Int) < k := by omega
    have hw := wrapS j (by omega)
    have lj := lo j
    have lcj := lc j
    have soj := so j
    have scj := sc j
    have hw2 : IntKind.i64.wrap (((2 + j : Nat) : Int) + 1) = ((2 + (j + 1) : Nat) : Int) := by rw [wrap64 _ (by omega) (by omega)]; omega
    clear so lo lc
    (repeat' (first | simp -implicitDefEqProofs +contextual (maxSteps := 9000000) only [kx, ↓ky, tq4, simprocAttr, hlt', hmm, hw, soj, scj, hw2] | (with_reducible first | refine SB.c (fun _ => ?_) (fun _ => ?_) | refine REG.i ?_ | exact REG.j) | with_reducible refine AndI ?_ | omega))
    exact ⟨⟨j + 1, by omega⟩, WFn, by show k - (j + 1) < k - j; omega⟩
  · have hlt' : ¬ (j : Int) < k := by omega
    have hjk : j = k := by omega
    subst hjk
    clear so lo lc
    by_cases hd : dpT 2 j > 16
    · simp only [hd, if_true, Bool.and_eq_true, beq_iff_eq] at hc
      obtain ⟨⟨f1, f2⟩, f3⟩ := hc
      have hd' : ((2 + j : Nat) : Int) > 16 := by unfold dpT at hd; simp at hd <;> omega
      rw [f1, f2] at cP
      have f4 : ((r.1.input.length : Nat) : Int) = 0 := by omega
      (repeat' (first | simp -implicitDefEqProofs +contextual (maxSteps := 9000000) only [kx, ↓ky, tq4, simprocAttr, hlt', hd', f4, List.length_append] | (with_reducible first | refine SB.c (fun _ => ?_) (fun _ => ?_) | refine REG.i ?_ | exact REG.j) | refine CK.d0 enters8 cP ?_ | with_reducible refine AndI ?_ | omega))
    · simp only [hd, if_false, Bool.and_eq_true, beq_iff_eq] at hc
      obtain ⟨f1, f2⟩ := hc
      have hd' : ¬ ((2 + j : Nat) : Int) > 16 := by unfold dpT at hd; simp at hd; omega
      have f3 : dpT 2 j = ((2 + j : Nat) : Int) := by unfold dpT; simp
      rw [f1] at cP
      rw [f2, f3] at cD
      (repeat' (first | simp -implicitDefEqProofs +contextual (maxSteps := 9000000) only [kx, ↓ky, tq4, simprocAttr, hlt', hd', List.length_append] | (with_reducible first | refine SB.c (fun _ => ?_) (fun _ => ?_) | refine REG.i ?_ | exact REG.j) | refine CK.d0 enters8 cP ?_ | refine CK.d0 enters10 cD ?_ | with_reducible refine AndI ?_ | omega))
theorem deep_law (n m : Nat) (hn : n < 256) (hm : m < 256) : AC Tryd.prog gl 4 [.pv (.int .u8 n), .pv (.int .u8 m)] [] (.pv (.bool true)) [] := by
  have : m % 3 = 0 ∨ m % 3 = 1 ∨ m % 3 = 2 := by omega
  rcases this with h | h | h
  · exact deep0_law n m hn hm h
  · exact deep1_law n m hn hm h
  · exact deep2_law n m hn hm h
end Go.Proofs.YtopbicbgolcmpaaDoor
