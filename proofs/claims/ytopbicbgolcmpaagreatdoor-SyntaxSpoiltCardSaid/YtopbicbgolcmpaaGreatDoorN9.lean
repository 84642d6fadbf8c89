/- A part of the walk (Tryz_N9): its theorems have no condition beyond what they state. -/
import Derived.Test.YtopbicbgolcmpaaGreatDoorN7
import Derived.Test.YtopbicbgolcmpaaGreatDoorN9a
set_option linter.unusedSimpArgs false
set_option linter.unusedVariables false
set_option linter.defProp false
namespace Go.Proofs.YtopbicbgolcmpaaGreatDoor
open Go Go.Abs Go.RowKit
set_option maxHeartbeats 2000000 in
set_option maxRecDepth 10000 in
theorem reserved_ac (s : List UInt8) : AC Tryz.prog gl 89 [.pv (.str s)] [] (.pv (.bool (resF s))) [] := by
  refine body0 (fun _ => 0) 0 Tryz.func89 rfl Tryz.ntmps89 (by rw [Tryz.results89]) (by simp) ?_
  (repeat' (first | simp -implicitDefEqProofs +contextual (maxSteps := 9000000) only [kx, ↓ky, tq89, simprocAttr] | (with_reducible first | refine SB.c (fun _ => ?_) (fun _ => ?_) | refine REG.i ?_ | exact REG.j) | with_reducible refine AndI ?_ | omega))
  all_goals grind [resF]
set_option maxRecDepth 10000 in
set_option maxHeartbeats 1000000 in
theorem valid_ac (s : List UInt8) : AC Tryz.prog gl 61 [.pv (.str s)] [] (.pv (.bool (validF s))) [] := by
  refine body0 (fun _ => 0) 0 Tryz.func61 rfl Tryz.ntmps61 (by rw [Tryz.results61]) (by simp) ?_
  by_cases h0 : s = []
  · subst h0
    (repeat' (first | simp -implicitDefEqProofs +contextual (maxSteps := 9000000) only [kx, ↓ky, tq61, simprocAttr] | (with_reducible first | refine SB.c (fun _ => ?_) (fun _ => ?_) | refine REG.i ?_ | exact REG.j) | with_reducible refine AndI ?_ | omega))
    simp [validF]
  have h0' : (s == []) = false := by simpa using h0
  have hlen : 0 < s.length := List.length_pos_iff.2 h0
  by_cases h16 : (s.length : Int) > 16
  · rw [validF_long s (by omega)]
    (repeat' (first | simp -implicitDefEqProofs +contextual (maxSteps := 9000000) only [kx, ↓ky, tq61, simprocAttr, h0', h16] | (with_reducible first | refine SB.c (fun _ => ?_) (fun _ => ?_) | refine REG.i ?_ | exact REG.j) | with_reducible refine AndI ?_ | omega))
  · have cW := word_ac s 0 (by omega) (by omega)
    have cR := reserved_ac s
    have hlen' : (0 : Int) < s.length := by omega
    have hv : validF s = (letterF (s.getD 0 0).toNat && ((((runF isW s 0 : Nat) : Int) == (s.length : Int)) && !resF s)) := by
      unfold validF
      rw [h0', decide_eq_false h16]
      simp [wordF_run]
    rw [hv]
    (repeat' (first | simp -implicitDefEqProofs +contextual (maxSteps := 9000000) only [kx, ↓ky, tq61, simprocAttr, h0', h16, hlen, hlen'] | (with_reducible first | refine SB.c (fun _ => ?_) (fun _ => ?_) | refine REG.i ?_ | exact REG.j) | refine CK.d0 enters69 (letter_ac _) ?_ | refine CK.d0 enters70 cW ?_ | refine CK.d0 enters89 cR ?_ | with_reducible refine AndI ?_ | omega))
    all_goals grind
set_option maxRecDepth 10000 in
set_option maxHeartbeats 4000000 in
theorem valid1_ac (s : List UInt8) : AC Tryz.prog gl 37 [.pv (.str s)] [] (.pv (.bool (validF s))) [] := by
  have hall := wordF_all s
  refine body0 (fun _ => 0) 0 Tryz.func37 rfl Tryz.ntmps37 (by rw [Tryz.results37]) (by simp) ?_
  by_cases h0 : s = []
  · subst h0
    (repeat' (first | simp -implicitDefEqProofs +contextual (maxSteps := 9000000) only [kx, ↓ky, tq37, simprocAttr] | (with_reducible first | refine SB.c (fun _ => ?_) (fun _ => ?_) | refine REG.i ?_ | exact REG.j) | with_reducible refine AndI ?_ | omega))
    rfl
  have hl0 : 0 < s.length := List.length_pos_iff.2 h0
  have h0' : ((s.length : Int) == 0) = false := beqF (by omega)
  by_cases h1 : (s.length : Int) > 16
  · rw [validF_long s (by omega)]
    (repeat' (first | simp -implicitDefEqProofs +contextual (maxSteps := 9000000) only [kx, ↓ky, tq37, simprocAttr, h0', h1] | (with_reducible first | refine SB.c (fun _ => ?_) (fun _ => ?_) | refine REG.i ?_ | exact REG.j) | with_reducible refine AndI ?_ | omega))
  have hs0 : (s == []) = false := by simpa using h0
  have hv : validF s = (letterF (s.getD 0 0).toNat && (s.all isW && !resF s)) := by simp [validF, hs0, h1, hall]
  cases h2 : letterF (s.getD 0 0).toNat
  · rw [hv, h2, Bool.false_and]
    (repeat' (first | simp -implicitDefEqProofs +contextual (maxSteps := 9000000) only [kx, ↓ky, tq37, simprocAttr, h0', h1, hl0, h2] | (with_reducible first | refine SB.c (fun _ => ?_) (fun _ => ?_) | refine REG.i ?_ | exact REG.j) | refine CK.d0 enters53 (rletter_ac _) ?_ | with_reducible refine AndI ?_ | omega))
  rw [hv, h2, Bool.true_and]
  cases h3 : (!(s.contains 32) && resF s)
  rotate_left
  · have h4 : resF s = true := by simp at h3; exact h3.2
    rw [h4, Bool.not_true, Bool.and_false]
    (repeat' (first | simp -implicitDefEqProofs +contextual (maxSteps := 9000000) only [kx, ↓ky, tq37, simprocAttr, h0', h1, hl0, h2, h3] | (with_reducible first | refine SB.c (fun _ => ?_) (fun _ => ?_) | refine REG.i ?_ | exact REG.j) | refine CK.d0 enters53 (rletter_ac _) ?_ | refine CK.d0 enters63 (reserved1_ac s (by omega)) ?_ | with_reducible refine AndI ?_ | omega))
  have hfin : (s.all isW && !resF s) = s.all isW := by
    cases h5 : s.all isW with
    | false => rfl
    | true =>
      have h6 : s.contains 32 = false := by
        cases h7 : s.contains 32 with
        | false => rfl
        | true =>
          have := List.all_eq_true.1 h5 32 (by simpa using h7)
          exact absurd this (by decide)
      rw [h6] at h3
      simpa using h3
  rw [hfin]
  (repeat' (first | simp -implicitDefEqProofs +contextual (maxSteps := 9000000) only [kx, ↓ky, tq37, simprocAttr, h0', h1, hl0, h2, h3] | (with_reducible first | refine SB.c (fun _ => ?_) (fun _ => ?_) | refine REG.i ?_ | exact REG.j) | refine CK.d0 enters53 (rletter_ac _) ?_ | refine CK.d0 enters63 (reserved1_ac s (by omega)) ?_ | with_reducible refine AndI ?_ | omega))
  refine loopV (ι := {k : Nat // k ≤ s.length ∧ s.all isW = (s.drop k).all isW}) (fun i => ⟨(.pv (.str s) :: .junk :: .pv (.bool false) :: .pv (.int .i64 i.1) :: .junk :: .junk :: .junk :: .junk :: .junk :: .junk :: .junk :: .junk :: .junk :: .junk :: .junk :: .junk :: .junk :: .junk :: .junk :: .junk :: .junk :: .junk :: .junk :: .junk :: .junk :: .junk :: .junk :: .junk :: .junk :: .junk :: .junk :: .junk :: .junk :: .junk :: .junk :: .junk :: .junk :: .junk :: .junk :: .junk :: []), []⟩) (fun i => s.length - i.1) ⟨0, by omega, by simp⟩ WFn ?_
  rintro ⟨k, hk, hka⟩
  by_cases hlt : k < s.length
  · have hlt' : (k : Int) < s.length := by omega
    have hge : s.getD k 0 = s[k] := by simp [List.getD, hlt]
    have hw : IntKind.i64.wrap ((k : Int) + 1) = ((k + 1 : Nat) : Int) := by rw [wrap64 _ (by omega) (by omega)]; rfl
    rw [List.drop_eq_getElem_cons hlt, List.all_cons] at hka
    have hisW : isW s[k] = (letterF s[k].toNat || digitF s[k].toNat) := rfl
    rw [hisW] at hka
    generalize s[k] = c at *
    cases h5 : letterF c.toNat <;> cases h6 : digitF c.toNat
    all_goals (repeat' (first | simp -implicitDefEqProofs +contextual (maxSteps := 9000000) only [kx, ↓ky, tq37, simprocAttr, hlt', hlt, hge, h5, h6, hw] | (with_reducible first | refine SB.c (fun _ => ?_) (fun _ => ?_) | refine REG.i ?_ | exact REG.j) | refine CK.d0 enters53 (rletter_ac _) ?_ | refine CK.d0 enters54 (rdigit_ac _) ?_ | with_reducible refine AndI ?_ | omega))
    · rw [h5, h6, Bool.or_self, Bool.false_and] at hka
      rw [hka]
    all_goals exact ⟨⟨k + 1, by omega, by rw [hka, h5, h6]; simp⟩, WFn, by simp; omega⟩
  · have hlt' : ¬ (k : Int) < s.length := by omega
    rw [List.drop_eq_nil_of_le (by omega), List.all_nil] at hka
    (repeat' (first | simp -implicitDefEqProofs +contextual (maxSteps := 9000000) only [kx, ↓ky, tq37, simprocAttr, hlt', hka] | (with_reducible first | refine SB.c (fun _ => ?_) (fun _ => ?_) | refine REG.i ?_ | exact REG.j) | with_reducible refine AndI ?_ | omega))
end Go.Proofs.YtopbicbgolcmpaaGreatDoor
