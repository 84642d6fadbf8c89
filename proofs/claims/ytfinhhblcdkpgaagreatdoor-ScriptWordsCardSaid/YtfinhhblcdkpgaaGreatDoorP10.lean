/- A part of the walk (Tryz_P10): its theorems have no condition beyond what they state. -/
import Derived.Test.YtfinhhblcdkpgaaGreatDoorP9
import Derived.Test.YtfinhhblcdkpgaaGreatDoorLib4
set_option linter.unusedSimpArgs false
set_option linter.unusedVariables false
set_option linter.defProp false
namespace Go.Proofs.YtfinhhblcdkpgaaGreatDoor
open Go Go.Abs Go.RowKit
def vsA (b : List VarD) : AVal := .pv (.slice (b.map encVar))
structure DL (l : List TkD) (R : PR (List VarD)) where
  j : Nat
  acc : List VarD
  k : Nat
  hk : k ≤ l.length
  ha : acc.length ≤ k
  h : pdcF l j acc k = R
theorem nameLe {l : List TkD} {k k' : Nat} {nm : List UInt8} (hk : k ≤ l.length) (h : pnmF l k = .ok nm k') : k < k' ∧ k' ≤ l.length := by
  have := pnmF_past hk
  rw [h] at this
  exact this
theorem numLe {l : List TkD} {z v : Int} {k k' : Nat} (hk : k ≤ l.length) (h : nmF l z k = .ok v k') : k < k' ∧ k' ≤ l.length := by
  have := nmF_past (z := z) hk
  rw [h] at this
  exact this
theorem expLt {l : List TkD} {s : List UInt8} {k k' : Nat} {u : Unit} (hk : k ≤ l.length) (hs : s ≠ []) (h : expF l s k = .ok u k') : k < k' ∧ k' ≤ l.length := by
  have := expF_past hk hs
  rw [h] at this
  exact this
theorem num_no {l : List TkD} {z : Int} {k : Nat} : nmF l z k ≠ .out := fun h => by
  have := nmF_out (l := l) (z := z) (k := k)
  rw [h] at this
  cases this
theorem name_no {l : List TkD} {k : Nat} : pnmF l k ≠ .out := fun h => by
  have := pnmF_out (l := l) (k := k)
  rw [h] at this
  cases this
theorem num_val {l : List TkD} {z v : Int} {k k' : Nat} (hv : ∀ k, (l.getD k tk0).value ≤ 9223372036854775807) (h : nmF l z k = .ok v k') : z ≤ v ∧ v ≤ 9223372036854775807 := by
  unfold nmF at h
  split at h
  · rename_i hc
    cases h
    exact ⟨hc.2.2, hv k⟩
  · cases h
set_option maxRecDepth 100000 in
set_option maxHeartbeats 16000000 in
theorem decls_run (l : List TkD) (n m k0 : Nat) (hl : l.length ≤ 100000) (hk : k0 ≤ l.length) (hv : ∀ k, (l.getD k tk0).value ≤ 9223372036854775807) (ho : (pdcF l m [] k0).isOut = false) : RunG vsA 162 [] l n k0 (pdcF l m [] k0) := by
  generalize hR : pdcF l m [] k0 = R at *
  refine bodyG vsA (fun d => if d = 4 then 2 else if d = 5 then 3 else 4) 5 Tryz.func162 rfl Tryz.ntmps162 (by rw [Tryz.results162]) (by simp) (by simp) (by assumption) ?_
  (repeat' (first | simp -implicitDefEqProofs +contextual (maxSteps := 9000000) only [kx, ↓ky, tq162, simprocAttr] | (with_reducible first | refine SB.c (fun _ => ?_) (fun _ => ?_) | refine REG.i ?_ | refine PREG.i ?_ | exact REG.j | refine fun (_ : List AVal) => ?_) | with_reducible refine AndI ?_ | omega))
  (refine LW.weak (Weak.nilRow 3 1 3 rfl rfl (by decide)) ?_; simp only [List.set_cons_zero, List.set_cons_succ])
  refine loopV (ι := {i : DL l R // i.j ≤ m}) (fun i => ⟨(.ref 0 0 :: .junk :: .snil :: .row 1 i.1.acc.length :: .junk :: .junk :: .junk :: .junk :: .junk :: .junk :: .junk :: .junk :: .junk :: .junk :: .junk :: .junk :: .junk :: .junk :: .junk :: .junk :: .junk :: .junk :: .junk :: .junk :: .junk :: .junk :: .junk :: .junk :: .junk :: .junk :: .junk :: .junk :: .junk :: .junk :: .junk :: .junk :: .junk :: .junk :: .junk :: .junk :: .junk :: .junk :: .junk :: .junk :: .junk :: .junk :: .junk :: []), [some (psC l n i.1.k), some (.row 3 (i.1.acc.map encVar)), none, none, none]⟩) (fun i => i.1.j) ⟨⟨m, [], k0, hk, by simp, hR⟩, Nat.le_refl _⟩ WFn ?_
  rintro ⟨⟨j, acc, k, hk, ha, hi⟩, hj⟩
  replace hj : j ≤ m := hj
  cases j with
  | zero =>
    exfalso
    rw [← hi] at ho
    cases ho
  | succ j =>
    rw [pdcF_eq] at hi
    have hrm := roomL (acc.length + 1) 32 (by omega)
    by_cases e0 : isT l k [118, 97, 114] = true
    · have t0 := accept_t l n k _ e0 (by omega)
      have hlt := isT_lt e0 (by simp)
      rw [if_pos e0] at hi
      cases r1 : pnmF l (k + 1) with
      | out => exact absurd r1 name_no
      | bad k' =>
        rw [r1] at hi
        replace hi : PR.bad k' = R := hi
        subst hi
        have q1 := name_bad l n _ _ r1 (by omega)
        (repeat' (first | simp -implicitDefEqProofs +contextual (maxSteps := 9000000) only [kx, ↓ky, tq162, simprocAttr, hrm, kz] | (with_reducible first | refine SB.c (fun _ => ?_) (fun _ => ?_) | refine REG.i ?_ | refine PREG.i ?_ | exact REG.j | refine fun (_ : List AVal) => ?_) | refine CK.dx [0] [] enters182 t0 ?_ | refine CK.dp [0] [] enters183 q1 ?_ | with_reducible refine AndI ?_ | omega))
        (refine panQ.mk [0] ?_ <;> simp [kwt])
      | ok nm k1 =>
        rw [r1] at hi
        simp only [PR.bind] at hi
        have le1 := nameLe (by omega) r1
        have c1 := name_ok l n _ _ _ r1 (by omega)
        unfold initF at hi
        by_cases e1 : isT l k1 [61] = true
        · have t1 := accept_t l n k1 _ e1 (by omega)
          have hlt1 := isT_lt e1 (by simp)
          rw [if_pos e1] at hi
          by_cases e2 : isT l (k1 + 1) [45] = true
          · have t2 := accept_t l n (k1 + 1) _ e2 (by omega)
            have hlt2 := isT_lt e2 (by simp)
            rw [if_pos e2] at hi
            cases r4 : nmF l 0 (k1 + 2) with
            | out => exact absurd r4 num_no
            | bad k' =>
              rw [r4] at hi
              replace hi : PR.bad k' = R := hi
              subst hi
              have q1 := number_bad l n _ _ _ r4 (by omega)
              (repeat' (first | simp -implicitDefEqProofs +contextual (maxSteps := 9000000) only [kx, ↓ky, tq162, simprocAttr, hrm, kz] | (with_reducible first | refine SB.c (fun _ => ?_) (fun _ => ?_) | refine REG.i ?_ | refine PREG.i ?_ | exact REG.j | refine fun (_ : List AVal) => ?_) | refine CK.dx [0] [] enters182 t0 ?_ | refine CK.dx [0] [] enters183 c1 ?_ | refine CK.dx [0] [] enters182 t1 ?_ | refine CK.dx [0] [] enters182 t2 ?_ | refine CK.dp [0] [] enters184 q1 ?_ | with_reducible refine AndI ?_ | omega))
              (refine panQ.mk [0] ?_ <;> simp [kwt])
            | ok v k2 =>
              rw [r4] at hi
              simp only [PR.bind] at hi
              have le4 := numLe (by omega) r4
              have c4 := number_ok l n _ _ _ _ r4 (by omega)
              have vv := num_val hv r4
              have gneg : IntKind.i64.wrap (0 - v) = -v := by rw [wrap64 _ (by omega) (by omega)]; omega
              cases r5 : expF l [59] (k2) with
              | out => exact absurd r5 exp_no
              | bad k' =>
                rw [r5] at hi
                replace hi : PR.bad k' = R := hi
                subst hi
                have q1 := expect_bad l n _ _ _ r5
                (repeat' (first | simp -implicitDefEqProofs +contextual (maxSteps := 9000000) only [kx, ↓ky, tq162, simprocAttr, hrm, gneg, kz] | (with_reducible first | refine SB.c (fun _ => ?_) (fun _ => ?_) | refine REG.i ?_ | refine PREG.i ?_ | exact REG.j | refine fun (_ : List AVal) => ?_) | refine CK.dx [0] [] enters182 t0 ?_ | refine CK.dx [0] [] enters183 c1 ?_ | refine CK.dx [0] [] enters182 t1 ?_ | refine CK.dx [0] [] enters182 t2 ?_ | refine CK.dx [0] [] enters184 c4 ?_ | refine CK.dp [0] [] enters185 q1 ?_ | with_reducible refine AndI ?_ | omega))
                (refine panQ.mk [0] ?_ <;> simp [kwt])
              | ok u k3 =>
                rw [r5] at hi
                simp only [PR.bind] at hi
                have le5 := expLt (by omega) (by simp) r5
                have c5 := expect_ok l n _ _ _ r5 (by omega)
                replace hi : pdcF l j (acc ++ [⟨nm, 0, -v⟩]) k3 = R := hi
                (repeat' (first | simp -implicitDefEqProofs +contextual (maxSteps := 9000000) only [kx, ↓ky, tq162, simprocAttr, hrm, gneg, kz] | (with_reducible first | refine SB.c (fun _ => ?_) (fun _ => ?_) | refine REG.i ?_ | refine PREG.i ?_ | exact REG.j | refine fun (_ : List AVal) => ?_) | refine CK.dx [0] [] enters182 t0 ?_ | refine CK.dx [0] [] enters183 c1 ?_ | refine CK.dx [0] [] enters182 t1 ?_ | refine CK.dx [0] [] enters182 t2 ?_ | refine CK.dx [0] [] enters184 c4 ?_ | refine CK.dx [0] [] enters185 c5 ?_ | with_reducible refine AndI ?_ | omega))
                exact ⟨⟨⟨j, acc ++ [⟨nm, 0, -v⟩], k3, by omega, by simp; omega, hi⟩, by show j ≤ m; omega⟩, (WTe [0, 4, 1, 2, 3] (by simp [kwt, encVar]) (by simp [kwt, encVar])), by show j < j + 1; omega⟩
          · have t2 := accept_f l n (k1 + 1) _ (by simpa using e2)
            rw [if_neg e2] at hi
            cases r4 : nmF l 0 (k1 + 1) with
            | out => exact absurd r4 num_no
            | bad k' =>
              rw [r4] at hi
              replace hi : PR.bad k' = R := hi
              subst hi
              have q1 := number_bad l n _ _ _ r4 (by omega)
              (repeat' (first | simp -implicitDefEqProofs +contextual (maxSteps := 9000000) only [kx, ↓ky, tq162, simprocAttr, hrm, kz] | (with_reducible first | refine SB.c (fun _ => ?_) (fun _ => ?_) | refine REG.i ?_ | refine PREG.i ?_ | exact REG.j | refine fun (_ : List AVal) => ?_) | refine CK.dx [0] [] enters182 t0 ?_ | refine CK.dx [0] [] enters183 c1 ?_ | refine CK.dx [0] [] enters182 t1 ?_ | refine CK.dx [0] [] enters182 t2 ?_ | refine CK.dp [0] [] enters184 q1 ?_ | with_reducible refine AndI ?_ | omega))
              (refine panQ.mk [0] ?_ <;> simp [kwt])
            | ok v k2 =>
              rw [r4] at hi
              simp only [PR.bind] at hi
              have le4 := numLe (by omega) r4
              have c4 := number_ok l n _ _ _ _ r4 (by omega)
              have vv := num_val hv r4
              have gneg : IntKind.i64.wrap (0 - v) = -v := by rw [wrap64 _ (by omega) (by omega)]; omega
              cases r5 : expF l [59] (k2) with
              | out => exact absurd r5 exp_no
              | bad k' =>
                rw [r5] at hi
                replace hi : PR.bad k' = R := hi
                subst hi
                have q1 := expect_bad l n _ _ _ r5
                (repeat' (first | simp -implicitDefEqProofs +contextual (maxSteps := 9000000) only [kx, ↓ky, tq162, simprocAttr, hrm, gneg, kz] | (with_reducible first | refine SB.c (fun _ => ?_) (fun _ => ?_) | refine REG.i ?_ | refine PREG.i ?_ | exact REG.j | refine fun (_ : List AVal) => ?_) | refine CK.dx [0] [] enters182 t0 ?_ | refine CK.dx [0] [] enters183 c1 ?_ | refine CK.dx [0] [] enters182 t1 ?_ | refine CK.dx [0] [] enters182 t2 ?_ | refine CK.dx [0] [] enters184 c4 ?_ | refine CK.dp [0] [] enters185 q1 ?_ | with_reducible refine AndI ?_ | omega))
                (refine panQ.mk [0] ?_ <;> simp [kwt])
              | ok u k3 =>
                rw [r5] at hi
                simp only [PR.bind] at hi
                have le5 := expLt (by omega) (by simp) r5
                have c5 := expect_ok l n _ _ _ r5 (by omega)
                replace hi : pdcF l j (acc ++ [⟨nm, 0, v⟩]) k3 = R := hi
                (repeat' (first | simp -implicitDefEqProofs +contextual (maxSteps := 9000000) only [kx, ↓ky, tq162, simprocAttr, hrm, gneg, kz] | (with_reducible first | refine SB.c (fun _ => ?_) (fun _ => ?_) | refine REG.i ?_ | refine PREG.i ?_ | exact REG.j | refine fun (_ : List AVal) => ?_) | refine CK.dx [0] [] enters182 t0 ?_ | refine CK.dx [0] [] enters183 c1 ?_ | refine CK.dx [0] [] enters182 t1 ?_ | refine CK.dx [0] [] enters182 t2 ?_ | refine CK.dx [0] [] enters184 c4 ?_ | refine CK.dx [0] [] enters185 c5 ?_ | with_reducible refine AndI ?_ | omega))
                exact ⟨⟨⟨j, acc ++ [⟨nm, 0, v⟩], k3, by omega, by simp; omega, hi⟩, by show j ≤ m; omega⟩, (WTe [0, 4, 1, 2, 3] (by simp [kwt, encVar]) (by simp [kwt, encVar])), by show j < j + 1; omega⟩
        · have t1 := accept_f l n k1 _ (by simpa using e1)
          rw [if_neg e1] at hi
          simp only [] at hi
          cases r3 : expF l [59] (k1) with
          | out => exact absurd r3 exp_no
          | bad k' =>
            rw [r3] at hi
            replace hi : PR.bad k' = R := hi
            subst hi
            have q1 := expect_bad l n _ _ _ r3
            (repeat' (first | simp -implicitDefEqProofs +contextual (maxSteps := 9000000) only [kx, ↓ky, tq162, simprocAttr, hrm, kz] | (with_reducible first | refine SB.c (fun _ => ?_) (fun _ => ?_) | refine REG.i ?_ | refine PREG.i ?_ | exact REG.j | refine fun (_ : List AVal) => ?_) | refine CK.dx [0] [] enters182 t0 ?_ | refine CK.dx [0] [] enters183 c1 ?_ | refine CK.dx [0] [] enters182 t1 ?_ | refine CK.dp [0] [] enters185 q1 ?_ | with_reducible refine AndI ?_ | omega))
            (refine panQ.mk [0] ?_ <;> simp [kwt])
          | ok u k3 =>
            rw [r3] at hi
            simp only [PR.bind] at hi
            have le3 := expLt (by omega) (by simp) r3
            have c3 := expect_ok l n _ _ _ r3 (by omega)
            replace hi : pdcF l j (acc ++ [⟨nm, 0, 0⟩]) k3 = R := hi
            (repeat' (first | simp -implicitDefEqProofs +contextual (maxSteps := 9000000) only [kx, ↓ky, tq162, simprocAttr, hrm, kz] | (with_reducible first | refine SB.c (fun _ => ?_) (fun _ => ?_) | refine REG.i ?_ | refine PREG.i ?_ | exact REG.j | refine fun (_ : List AVal) => ?_) | refine CK.dx [0] [] enters182 t0 ?_ | refine CK.dx [0] [] enters183 c1 ?_ | refine CK.dx [0] [] enters182 t1 ?_ | refine CK.dx [0] [] enters185 c3 ?_ | with_reducible refine AndI ?_ | omega))
            exact ⟨⟨⟨j, acc ++ [⟨nm, 0, 0⟩], k3, by omega, by simp; omega, hi⟩, by show j ≤ m; omega⟩, (WTe [0, 4, 1, 2, 3] (by simp [kwt, encVar]) (by simp [kwt, encVar])), by show j < j + 1; omega⟩
    · have t0 := accept_f l n k _ (by simpa using e0)
      rw [if_neg e0] at hi
      by_cases e1 : isT l k [97, 114, 114, 97, 121] = true
      · have t1 := accept_t l n k _ e1 (by omega)
        have hlt := isT_lt e1 (by simp)
        rw [if_pos e1] at hi
        cases r2 : pnmF l (k + 1) with
        | out => exact absurd r2 name_no
        | bad k' =>
          rw [r2] at hi
          replace hi : PR.bad k' = R := hi
          subst hi
          have q1 := name_bad l n _ _ r2 (by omega)
          (repeat' (first | simp -implicitDefEqProofs +contextual (maxSteps := 9000000) only [kx, ↓ky, tq162, simprocAttr, hrm, kz] | (with_reducible first | refine SB.c (fun _ => ?_) (fun _ => ?_) | refine REG.i ?_ | refine PREG.i ?_ | exact REG.j | refine fun (_ : List AVal) => ?_) | refine CK.dx [0] [] enters182 t0 ?_ | refine CK.dx [0] [] enters182 t1 ?_ | refine CK.dp [0] [] enters183 q1 ?_ | with_reducible refine AndI ?_ | omega))
          (refine panQ.mk [0] ?_ <;> simp [kwt])
        | ok nm k1 =>
          rw [r2] at hi
          simp only [PR.bind] at hi
          have le2 := nameLe (by omega) r2
          have c2 := name_ok l n _ _ _ r2 (by omega)
          cases r3 : expF l [91] (k1) with
          | out => exact absurd r3 exp_no
          | bad k' =>
            rw [r3] at hi
            replace hi : PR.bad k' = R := hi
            subst hi
            have q1 := expect_bad l n _ _ _ r3
            (repeat' (first | simp -implicitDefEqProofs +contextual (maxSteps := 9000000) only [kx, ↓ky, tq162, simprocAttr, hrm, kz] | (with_reducible first | refine SB.c (fun _ => ?_) (fun _ => ?_) | refine REG.i ?_ | refine PREG.i ?_ | exact REG.j | refine fun (_ : List AVal) => ?_) | refine CK.dx [0] [] enters182 t0 ?_ | refine CK.dx [0] [] enters182 t1 ?_ | refine CK.dx [0] [] enters183 c2 ?_ | refine CK.dp [0] [] enters185 q1 ?_ | with_reducible refine AndI ?_ | omega))
            (refine panQ.mk [0] ?_ <;> simp [kwt])
          | ok u k2 =>
            rw [r3] at hi
            simp only [PR.bind] at hi
            have le3 := expLt (by omega) (by simp) r3
            have c3 := expect_ok l n _ _ _ r3 (by omega)
            cases r4 : nmF l 1 (k2) with
            | out => exact absurd r4 num_no
            | bad k' =>
              rw [r4] at hi
              replace hi : PR.bad k' = R := hi
              subst hi
              have q1 := number_bad l n _ _ _ r4 (by omega)
              (repeat' (first | simp -implicitDefEqProofs +contextual (maxSteps := 9000000) only [kx, ↓ky, tq162, simprocAttr, hrm, kz] | (with_reducible first | refine SB.c (fun _ => ?_) (fun _ => ?_) | refine REG.i ?_ | refine PREG.i ?_ | exact REG.j | refine fun (_ : List AVal) => ?_) | refine CK.dx [0] [] enters182 t0 ?_ | refine CK.dx [0] [] enters182 t1 ?_ | refine CK.dx [0] [] enters183 c2 ?_ | refine CK.dx [0] [] enters185 c3 ?_ | refine CK.dp [0] [] enters184 q1 ?_ | with_reducible refine AndI ?_ | omega))
              (refine panQ.mk [0] ?_ <;> simp [kwt])
            | ok v k3 =>
              rw [r4] at hi
              simp only [PR.bind] at hi
              have le4 := numLe (by omega) r4
              have c4 := number_ok l n _ _ _ _ r4 (by omega)
              have vv := num_val hv r4
              have gneg : IntKind.i64.wrap (0 - v) = -v := by rw [wrap64 _ (by omega) (by omega)]; omega
              cases r5 : expF l [93] (k3) with
              | out => exact absurd r5 exp_no
              | bad k' =>
                rw [r5] at hi
                replace hi : PR.bad k' = R := hi
                subst hi
                have q1 := expect_bad l n _ _ _ r5
                (repeat' (first | simp -implicitDefEqProofs +contextual (maxSteps := 9000000) only [kx, ↓ky, tq162, simprocAttr, hrm, gneg, kz] | (with_reducible first | refine SB.c (fun _ => ?_) (fun _ => ?_) | refine REG.i ?_ | refine PREG.i ?_ | exact REG.j | refine fun (_ : List AVal) => ?_) | refine CK.dx [0] [] enters182 t0 ?_ | refine CK.dx [0] [] enters182 t1 ?_ | refine CK.dx [0] [] enters183 c2 ?_ | refine CK.dx [0] [] enters185 c3 ?_ | refine CK.dx [0] [] enters184 c4 ?_ | refine CK.dp [0] [] enters185 q1 ?_ | with_reducible refine AndI ?_ | omega))
                (refine panQ.mk [0] ?_ <;> simp [kwt])
              | ok u2 k4 =>
                rw [r5] at hi
                simp only [PR.bind] at hi
                have le5 := expLt (by omega) (by simp) r5
                have c5 := expect_ok l n _ _ _ r5 (by omega)
                cases r6 : expF l [59] (k4) with
                | out => exact absurd r6 exp_no
                | bad k' =>
                  rw [r6] at hi
                  replace hi : PR.bad k' = R := hi
                  subst hi
                  have q1 := expect_bad l n _ _ _ r6
                  (repeat' (first | simp -implicitDefEqProofs +contextual (maxSteps := 9000000) only [kx, ↓ky, tq162, simprocAttr, hrm, gneg, kz] | (with_reducible first | refine SB.c (fun _ => ?_) (fun _ => ?_) | refine REG.i ?_ | refine PREG.i ?_ | exact REG.j | refine fun (_ : List AVal) => ?_) | refine CK.dx [0] [] enters182 t0 ?_ | refine CK.dx [0] [] enters182 t1 ?_ | refine CK.dx [0] [] enters183 c2 ?_ | refine CK.dx [0] [] enters185 c3 ?_ | refine CK.dx [0] [] enters184 c4 ?_ | refine CK.dx [0] [] enters185 c5 ?_ | refine CK.dp [0] [] enters185 q1 ?_ | with_reducible refine AndI ?_ | omega))
                  (refine panQ.mk [0] ?_ <;> simp [kwt])
                | ok u3 k5 =>
                  rw [r6] at hi
                  simp only [PR.bind] at hi
                  have le6 := expLt (by omega) (by simp) r6
                  have c6 := expect_ok l n _ _ _ r6 (by omega)
                  replace hi : pdcF l j (acc ++ [⟨nm, v, 0⟩]) k5 = R := hi
                  (repeat' (first | simp -implicitDefEqProofs +contextual (maxSteps := 9000000) only [kx, ↓ky, tq162, simprocAttr, hrm, gneg, kz] | (with_reducible first | refine SB.c (fun _ => ?_) (fun _ => ?_) | refine REG.i ?_ | refine PREG.i ?_ | exact REG.j | refine fun (_ : List AVal) => ?_) | refine CK.dx [0] [] enters182 t0 ?_ | refine CK.dx [0] [] enters182 t1 ?_ | refine CK.dx [0] [] enters183 c2 ?_ | refine CK.dx [0] [] enters185 c3 ?_ | refine CK.dx [0] [] enters184 c4 ?_ | refine CK.dx [0] [] enters185 c5 ?_ | refine CK.dx [0] [] enters185 c6 ?_ | with_reducible refine AndI ?_ | omega))
                  exact ⟨⟨⟨j, acc ++ [⟨nm, v, 0⟩], k5, by omega, by simp; omega, hi⟩, by show j ≤ m; omega⟩, (WTe [0, 4, 1, 2, 3] (by simp [kwt, encVar]) (by simp [kwt, encVar])), by show j < j + 1; omega⟩
      · have t1 := accept_f l n k _ (by simpa using e1)
        rw [if_neg e1] at hi
        subst hi
        (repeat' (first | simp -implicitDefEqProofs +contextual (maxSteps := 9000000) only [kx, ↓ky, tq162, simprocAttr, kz] | (with_reducible first | refine SB.c (fun _ => ?_) (fun _ => ?_) | refine REG.i ?_ | refine PREG.i ?_ | exact REG.j | refine fun (_ : List AVal) => ?_) | refine CK.dx [0] [] enters182 t0 ?_ | refine CK.dx [0] [] enters182 t1 ?_ | with_reducible refine AndI ?_ | omega))
        refine ⟨_, Weak.freeze 1 rfl, ?_⟩
        simp only [St.frz, frzL, frz, frzO, List.map_cons, List.map_nil, List.set_cons_zero, List.set_cons_succ, List.length_map, if_true, if_false, ↓reduceIte, Nat.reduceEqDiff, eq_self, reduceCtorEq, Nat.succ_ne_self]
        (refine retQ.mk [0] ?_ ?_ <;> simp [kwr, tq162, vsA])
end Go.Proofs.YtfinhhblcdkpgaaGreatDoor
