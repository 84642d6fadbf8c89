/- The line of a step. No condition. -/
import Derived.Test.YtfinhhblcdkpgaaGreatDoorK8
import Derived.Test.YtfinhhblcdkpgaaGreatDoorLib4
set_option linter.unusedSimpArgs false
set_option linter.unusedVariables false
set_option linter.defProp false
namespace Go.Proofs.YtfinhhblcdkpgaaGreatDoor
open Go Go.Abs
structure KdI (a : List UInt8) where
  k : Nat
  h1 : 1 ≤ k
  h2 : k ≤ 15
  no : ∀ j : Nat, 1 ≤ j → j < k → wdF j ≠ a
set_option maxRecDepth 100000 in
set_option maxHeartbeats 16000000 in
theorem sstep_ac (line : List UInt8) (hl : line.length ≤ 100000) : AC Tryz.prog gl 63 [.pv (.str line)] [] (.tup [stA (lineS line).1, .pv (.bool (lineS line).2)]) [] := by
  have cP := split_ac line 32 (by omega)
  have hpc := split_le 32 line
  have hnum := split_num 32 line
  obtain ⟨a, l, hs⟩ : ∃ a l, splitF 32 line = a :: l := by
    match h : splitF 32 line, splitF_ne 32 line with
    | a :: l, _ => exact ⟨a, l, rfl⟩
  have hnl : ∀ w ∈ l, w.length ≤ 100000 := fun w hw => by
    have := hpc w (by rw [hs]; simp [hw])
    omega
  rw [hs, List.length_cons] at hnum
  clear hpc
  rw [hs] at cP
  have w0 : IntKind.i64.wrap 0 = 0 := by decide
  have w1 : IntKind.i64.wrap 1 = 1 := by decide
  have w2 : IntKind.i64.wrap 2 = 2 := by decide
  generalize hG : lineS line = G
  refine body0 (fun d => if d = 2 then 0 else 1) 3 Tryz.func63 rfl Tryz.ntmps63 (by rw [Tryz.results63]) (by simp) ?_
  (repeat' (first | simp -implicitDefEqProofs +contextual (maxSteps := 9000000) only [kx, ↓ky, tq63, simprocAttr] | (with_reducible first | refine SB.c (fun _ => ?_) (fun _ => ?_) | refine REG.i ?_ | exact REG.j) | refine CK.d0 enters40 cP ?_ | with_reducible refine AndI ?_ | omega))
  refine loopV (ι := KdI a) (fun i => ⟨(.junk :: .junk :: .ref 0 0 :: .pv (.bool false) :: .pv (.slice ([.str a] :: l.map fun x => [.str x])) :: .pv (.int .i64 i.k) :: .junk :: .junk :: .junk :: .junk :: .junk :: .junk :: .junk :: .junk :: .junk :: .junk :: .junk :: .junk :: .junk :: .junk :: .junk :: .junk :: .junk :: .junk :: .junk :: .junk :: .junk :: .junk :: .junk :: .junk :: .junk :: .junk :: .junk :: .junk :: .junk :: .junk :: .junk :: .junk :: .junk :: .junk :: .junk :: .junk :: .junk :: .junk :: .junk :: .junk :: .junk :: .junk :: .junk :: .junk :: .junk :: .junk :: .junk :: .junk :: .junk :: .junk :: .junk :: .junk :: .junk :: .junk :: []), [some (.cells [.pv (.int .i64 0), .pv (.int .i64 0), .pv (.int .i64 0), .pv (.int .i64 0)]), none, none]⟩) (fun i => 15 - i.k) ⟨1, by omega, by omega, fun j h1 h2 => by omega⟩ WFn ?_
  rintro ⟨k, h1, h2, hno⟩
  by_cases hlt : k < 15
  · have hlt' : (k : Int) ≤ 14 := by omega
    have hk1 : 1 ≤ (k : Int) := by omega
    have hcell := wd_cell k hlt
    simp only [wdsT, List.map_cons, List.map_nil] at hcell
    have hw := wrapS k (by omega)
    by_cases he : wdF k = a
    · subst he
      have hne : (wdF (k : Int) == wdF (k : Int)) = true := by simp
      rcases shF_cases k with ⟨_, hsh⟩ | ⟨_, hsh⟩ | ⟨_, hsh⟩ | ⟨_, _, _, _, _, _, _, _, _, _, _, hsh⟩
      · have cF := fields1_ac ⟨k, 0, 0, 0⟩ hsh
        have hnf : nfF k = 1 := by simp [nfF, hsh]
        match l, hs, hnl, hnum with
        | [], hs, _, _ =>
          have := lineS_len hs hk1 hlt' (by rw [hnf]; simp)
          rw [hG] at this
          subst this
          (repeat' (first | simp -implicitDefEqProofs +contextual (maxSteps := 9000000) only [kx, ↓ky, tq63, simprocAttr, hlt, hlt', hcell, hne, Nat.mul_one, w0, w1, w2, stA, st0, kz] | (with_reducible first | refine SB.c (fun _ => ?_) (fun _ => ?_) | refine REG.i ?_ | exact REG.j) | refine CK.dx [1] [2] enters58 cF ?_ | with_reducible refine AndI ?_ | omega))
        | [b], hs, hnl, _ =>
          have := lineS_1 hs hk1 hlt' hsh
          rw [hG] at this
          have cN := snum_ac b (hnl b (by simp))
          cases hb : (numR b).2
          · rw [hb, if_neg (by simp)] at this
            subst this
            rw [numG_f hb] at cN
            (repeat' (first | simp -implicitDefEqProofs +contextual (maxSteps := 9000000) only [kx, ↓ky, tq63, simprocAttr, hlt, hlt', hcell, hne, Nat.mul_one, w0, w1, w2, stA, st0, kz] | (with_reducible first | refine SB.c (fun _ => ?_) (fun _ => ?_) | refine REG.i ?_ | exact REG.j) | refine CK.dx [1] [2] enters58 cF ?_ | with_reducible refine AndI ?_ | omega))
            refine LW.rounds (envOK _ _) mixed 2 ?_
            (repeat' (first | simp -implicitDefEqProofs +contextual (maxSteps := 9000000) only [kx, ↓ky, tq63, simprocAttr, RN_succ, w1, w2, stA, st0] | (with_reducible first | refine SB.c (fun _ => ?_) (fun _ => ?_) | refine REG.i ?_ | exact REG.j) | refine CK.d0 enters88 cN ?_ | with_reducible refine AndI ?_ | omega))
          · rw [hb, if_pos rfl] at this
            subst this
            rw [numG_t hb] at cN
            (repeat' (first | simp -implicitDefEqProofs +contextual (maxSteps := 9000000) only [kx, ↓ky, tq63, simprocAttr, hlt, hlt', hcell, hne, Nat.mul_one, w0, w1, w2, stA, kz] | (with_reducible first | refine SB.c (fun _ => ?_) (fun _ => ?_) | refine REG.i ?_ | exact REG.j) | refine CK.dx [1] [2] enters58 cF ?_ | with_reducible refine AndI ?_ | omega))
            refine LW.rounds (envOK _ _) mixed 2 ?_
            (repeat' (first | simp -implicitDefEqProofs +contextual (maxSteps := 9000000) only [kx, ↓ky, tq63, simprocAttr, RN_succ, w1, w2, stA] | (with_reducible first | refine SB.c (fun _ => ?_) (fun _ => ?_) | refine REG.i ?_ | exact REG.j) | refine CK.d0 enters88 cN ?_ | with_reducible refine AndI ?_ | omega))
        | b :: c :: r, hs, _, hnum =>
          simp only [List.length_cons] at hnum
          have hwl : IntKind.i64.wrap (((r.length + 1 + 1 + 1 : Nat) : Int) - 1) = (r.length : Int) + 2 := by rw [wrap64 _ (by omega) (by omega)]; omega
          have hwn : ((1 : Int) != (r.length : Int) + 2) = true := by simp; omega
          have := lineS_len hs hk1 hlt' (by rw [hnf]; simp)
          rw [hG] at this
          subst this
          (repeat' (first | simp -implicitDefEqProofs +contextual (maxSteps := 9000000) only [kx, ↓ky, tq63, simprocAttr, hlt, hlt', hcell, hne, Nat.mul_one, hwl, hwn, stA, st0, kz] | (with_reducible first | refine SB.c (fun _ => ?_) (fun _ => ?_) | refine REG.i ?_ | exact REG.j) | refine CK.dx [1] [2] enters58 cF ?_ | with_reducible refine AndI ?_ | omega))
      · have cF := fields2_ac ⟨k, 0, 0, 0⟩ hsh
        have hnf : nfF k = 2 := by simp [nfF, hsh]
        match l, hs, hnl, hnum with
        | [], hs, _, _ =>
          have := lineS_len hs hk1 hlt' (by rw [hnf]; simp)
          rw [hG] at this
          subst this
          (repeat' (first | simp -implicitDefEqProofs +contextual (maxSteps := 9000000) only [kx, ↓ky, tq63, simprocAttr, hlt, hlt', hcell, hne, Nat.mul_one, w0, w1, w2, stA, st0, kz] | (with_reducible first | refine SB.c (fun _ => ?_) (fun _ => ?_) | refine REG.i ?_ | exact REG.j) | refine CK.dx [1] [2] enters58 cF ?_ | with_reducible refine AndI ?_ | omega))
        | [b], hs, _, _ =>
          have := lineS_len hs hk1 hlt' (by rw [hnf]; simp)
          rw [hG] at this
          subst this
          (repeat' (first | simp -implicitDefEqProofs +contextual (maxSteps := 9000000) only [kx, ↓ky, tq63, simprocAttr, hlt, hlt', hcell, hne, Nat.mul_one, w0, w1, w2, stA, st0, kz] | (with_reducible first | refine SB.c (fun _ => ?_) (fun _ => ?_) | refine REG.i ?_ | exact REG.j) | refine CK.dx [1] [2] enters58 cF ?_ | with_reducible refine AndI ?_ | omega))
        | [b, c], hs, hnl, _ =>
          have := lineS_2 hs hk1 hlt' hsh
          rw [hG] at this
          have cN := snum_ac b (hnl b (by simp))
          have cM := snum_ac c (hnl c (by simp))
          cases hb : (numR b).2
          · rw [hb, if_neg (by simp)] at this
            subst this
            rw [numG_f hb] at cN
            (repeat' (first | simp -implicitDefEqProofs +contextual (maxSteps := 9000000) only [kx, ↓ky, tq63, simprocAttr, hlt, hlt', hcell, hne, Nat.mul_one, w0, w1, w2, stA, st0, kz] | (with_reducible first | refine SB.c (fun _ => ?_) (fun _ => ?_) | refine REG.i ?_ | exact REG.j) | refine CK.dx [1] [2] enters58 cF ?_ | with_reducible refine AndI ?_ | omega))
            refine LW.rounds (envOK _ _) mixed 3 ?_
            (repeat' (first | simp -implicitDefEqProofs +contextual (maxSteps := 9000000) only [kx, ↓ky, tq63, simprocAttr, RN_succ, w1, w2, stA, st0] | (with_reducible first | refine SB.c (fun _ => ?_) (fun _ => ?_) | refine REG.i ?_ | exact REG.j) | refine CK.d0 enters88 cN ?_ | with_reducible refine AndI ?_ | omega))
          · rw [hb, if_pos rfl] at this
            rw [numG_t hb] at cN
            cases hc : (numR c).2
            · rw [hc, if_neg (by simp)] at this
              subst this
              rw [numG_f hc] at cM
              (repeat' (first | simp -implicitDefEqProofs +contextual (maxSteps := 9000000) only [kx, ↓ky, tq63, simprocAttr, hlt, hlt', hcell, hne, Nat.mul_one, w0, w1, w2, stA, st0, kz] | (with_reducible first | refine SB.c (fun _ => ?_) (fun _ => ?_) | refine REG.i ?_ | exact REG.j) | refine CK.dx [1] [2] enters58 cF ?_ | with_reducible refine AndI ?_ | omega))
              refine LW.rounds (envOK _ _) mixed 3 ?_
              (repeat' (first | simp -implicitDefEqProofs +contextual (maxSteps := 9000000) only [kx, ↓ky, tq63, simprocAttr, RN_succ, w1, w2, stA, st0] | (with_reducible first | refine SB.c (fun _ => ?_) (fun _ => ?_) | refine REG.i ?_ | exact REG.j) | refine CK.d0 enters88 cN ?_ | refine CK.d0 enters88 cM ?_ | with_reducible refine AndI ?_ | omega))
            · rw [hc, if_pos rfl] at this
              subst this
              rw [numG_t hc] at cM
              (repeat' (first | simp -implicitDefEqProofs +contextual (maxSteps := 9000000) only [kx, ↓ky, tq63, simprocAttr, hlt, hlt', hcell, hne, Nat.mul_one, w0, w1, w2, stA, kz] | (with_reducible first | refine SB.c (fun _ => ?_) (fun _ => ?_) | refine REG.i ?_ | exact REG.j) | refine CK.dx [1] [2] enters58 cF ?_ | with_reducible refine AndI ?_ | omega))
              refine LW.rounds (envOK _ _) mixed 3 ?_
              (repeat' (first | simp -implicitDefEqProofs +contextual (maxSteps := 9000000) only [kx, ↓ky, tq63, simprocAttr, RN_succ, w1, w2, stA] | (with_reducible first | refine SB.c (fun _ => ?_) (fun _ => ?_) | refine REG.i ?_ | exact REG.j) | refine CK.d0 enters88 cN ?_ | refine CK.d0 enters88 cM ?_ | with_reducible refine AndI ?_ | omega))
        | b :: c :: d :: r, hs, _, hnum =>
          simp only [List.length_cons] at hnum
          have hwl : IntKind.i64.wrap (((r.length + 1 + 1 + 1 + 1 : Nat) : Int) - 1) = (r.length : Int) + 3 := by rw [wrap64 _ (by omega) (by omega)]; omega
          have hwn : ((2 : Int) != (r.length : Int) + 3) = true := by simp; omega
          have := lineS_len hs hk1 hlt' (by rw [hnf]; simp)
          rw [hG] at this
          subst this
          (repeat' (first | simp -implicitDefEqProofs +contextual (maxSteps := 9000000) only [kx, ↓ky, tq63, simprocAttr, hlt, hlt', hcell, hne, Nat.mul_one, hwl, hwn, stA, st0, kz] | (with_reducible first | refine SB.c (fun _ => ?_) (fun _ => ?_) | refine REG.i ?_ | exact REG.j) | refine CK.dx [1] [2] enters58 cF ?_ | with_reducible refine AndI ?_ | omega))
      · have cF := fields3_ac ⟨k, 0, 0, 0⟩ hsh
        have hnf : nfF k = 1 := by simp [nfF, hsh]
        match l, hs, hnl, hnum with
        | [], hs, _, _ =>
          have := lineS_len hs hk1 hlt' (by rw [hnf]; simp)
          rw [hG] at this
          subst this
          (repeat' (first | simp -implicitDefEqProofs +contextual (maxSteps := 9000000) only [kx, ↓ky, tq63, simprocAttr, hlt, hlt', hcell, hne, Nat.mul_one, w0, w1, w2, stA, st0, kz] | (with_reducible first | refine SB.c (fun _ => ?_) (fun _ => ?_) | refine REG.i ?_ | exact REG.j) | refine CK.dx [1] [2] enters58 cF ?_ | with_reducible refine AndI ?_ | omega))
        | [b], hs, hnl, _ =>
          have := lineS_3 hs hk1 hlt' hsh
          rw [hG] at this
          have cN := snum_ac b (hnl b (by simp))
          cases hb : (numR b).2
          · rw [hb, if_neg (by simp)] at this
            subst this
            rw [numG_f hb] at cN
            (repeat' (first | simp -implicitDefEqProofs +contextual (maxSteps := 9000000) only [kx, ↓ky, tq63, simprocAttr, hlt, hlt', hcell, hne, Nat.mul_one, w0, w1, w2, stA, st0, kz] | (with_reducible first | refine SB.c (fun _ => ?_) (fun _ => ?_) | refine REG.i ?_ | exact REG.j) | refine CK.dx [1] [2] enters58 cF ?_ | with_reducible refine AndI ?_ | omega))
            refine LW.rounds (envOK _ _) mixed 2 ?_
            (repeat' (first | simp -implicitDefEqProofs +contextual (maxSteps := 9000000) only [kx, ↓ky, tq63, simprocAttr, RN_succ, w1, w2, stA, st0] | (with_reducible first | refine SB.c (fun _ => ?_) (fun _ => ?_) | refine REG.i ?_ | exact REG.j) | refine CK.d0 enters88 cN ?_ | with_reducible refine AndI ?_ | omega))
          · rw [hb, if_pos rfl] at this
            subst this
            rw [numG_t hb] at cN
            (repeat' (first | simp -implicitDefEqProofs +contextual (maxSteps := 9000000) only [kx, ↓ky, tq63, simprocAttr, hlt, hlt', hcell, hne, Nat.mul_one, w0, w1, w2, stA, kz] | (with_reducible first | refine SB.c (fun _ => ?_) (fun _ => ?_) | refine REG.i ?_ | exact REG.j) | refine CK.dx [1] [2] enters58 cF ?_ | with_reducible refine AndI ?_ | omega))
            refine LW.rounds (envOK _ _) mixed 2 ?_
            (repeat' (first | simp -implicitDefEqProofs +contextual (maxSteps := 9000000) only [kx, ↓ky, tq63, simprocAttr, RN_succ, w1, w2, stA] | (with_reducible first | refine SB.c (fun _ => ?_) (fun _ => ?_) | refine REG.i ?_ | exact REG.j) | refine CK.d0 enters88 cN ?_ | with_reducible refine AndI ?_ | omega))
        | b :: c :: r, hs, _, hnum =>
          simp only [List.length_cons] at hnum
          have hwl : IntKind.i64.wrap (((r.length + 1 + 1 + 1 : Nat) : Int) - 1) = (r.length : Int) + 2 := by rw [wrap64 _ (by omega) (by omega)]; omega
          have hwn : ((1 : Int) != (r.length : Int) + 2) = true := by simp; omega
          have := lineS_len hs hk1 hlt' (by rw [hnf]; simp)
          rw [hG] at this
          subst this
          (repeat' (first | simp -implicitDefEqProofs +contextual (maxSteps := 9000000) only [kx, ↓ky, tq63, simprocAttr, hlt, hlt', hcell, hne, Nat.mul_one, hwl, hwn, stA, st0, kz] | (with_reducible first | refine SB.c (fun _ => ?_) (fun _ => ?_) | refine REG.i ?_ | exact REG.j) | refine CK.dx [1] [2] enters58 cF ?_ | with_reducible refine AndI ?_ | omega))
      · have cF := fields0_ac ⟨k, 0, 0, 0⟩ hsh
        have hnf : nfF k = 0 := by simp [nfF, hsh]
        match l, hs, hnl, hnum with
        | [], hs, _, _ =>
          have := lineS_0 hs hk1 hlt' hsh
          rw [hG] at this
          subst this
          (repeat' (first | simp -implicitDefEqProofs +contextual (maxSteps := 9000000) only [kx, ↓ky, tq63, simprocAttr, hlt, hlt', hcell, hne, Nat.mul_one, w0, w1, w2, stA, kz] | (with_reducible first | refine SB.c (fun _ => ?_) (fun _ => ?_) | refine REG.i ?_ | exact REG.j) | refine CK.dx [1] [] enters58 cF ?_ | with_reducible refine AndI ?_ | omega))
          refine LW.rounds (envOK _ _) mixed 1 ?_
          (repeat' (first | simp -implicitDefEqProofs +contextual (maxSteps := 9000000) only [kx, ↓ky, tq63, simprocAttr, RN_succ, stA] | (with_reducible first | refine SB.c (fun _ => ?_) (fun _ => ?_) | refine REG.i ?_ | exact REG.j) | with_reducible refine AndI ?_ | omega))
        | b :: r, hs, _, hnum =>
          simp only [List.length_cons] at hnum
          have hwl : IntKind.i64.wrap (((r.length + 1 + 1 : Nat) : Int) - 1) = (r.length : Int) + 1 := by rw [wrap64 _ (by omega) (by omega)]; omega
          have hwn : ((0 : Int) != (r.length : Int) + 1) = true := by simp; omega
          have := lineS_len hs hk1 hlt' (by rw [hnf]; simp)
          rw [hG] at this
          subst this
          (repeat' (first | simp -implicitDefEqProofs +contextual (maxSteps := 9000000) only [kx, ↓ky, tq63, simprocAttr, hlt, hlt', hcell, hne, Nat.mul_one, hwl, hwn, stA, st0, kz] | (with_reducible first | refine SB.c (fun _ => ?_) (fun _ => ?_) | refine REG.i ?_ | exact REG.j) | refine CK.dx [1] [] enters58 cF ?_ | with_reducible refine AndI ?_ | omega))
    · have hne : (wdF (k : Int) == a) = false := by simpa using he
      (repeat' (first | simp -implicitDefEqProofs +contextual (maxSteps := 9000000) only [kx, ↓ky, tq63, simprocAttr, hlt, hlt', hcell, hne, Nat.mul_one, hw] | (with_reducible first | refine SB.c (fun _ => ?_) (fun _ => ?_) | refine REG.i ?_ | exact REG.j) | with_reducible refine AndI ?_ | omega))
      exact ⟨⟨k + 1, by omega, by omega, fun j h3 h4 => by
        by_cases hj : j = k
        · subst hj; exact he
        · exact hno j h3 (by omega)⟩, WFn, by show 15 - (k + 1) < 15 - k; omega⟩
  · have hlt' : ¬ (k : Int) ≤ 14 := by omega
    have hk15 : k = 15 := by omega
    subst hk15
    have := lineS_none hs (fun j h3 h4 => hno j h3 h4)
    rw [hG] at this
    subst this
    (repeat' (first | simp -implicitDefEqProofs +contextual (maxSteps := 9000000) only [kx, ↓ky, tq63, simprocAttr, hlt', stA, st0] | (with_reducible first | refine SB.c (fun _ => ?_) (fun _ => ?_) | refine REG.i ?_ | exact REG.j) | with_reducible refine AndI ?_ | omega))
end Go.Proofs.YtfinhhblcdkpgaaGreatDoor
