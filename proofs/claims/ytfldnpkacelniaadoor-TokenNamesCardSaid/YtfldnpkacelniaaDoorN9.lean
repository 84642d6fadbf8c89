/- A part of the walk (Tryd_N9): its theorems have no condition beyond what they state. -/
import Derived.Test.YtfldnpkacelniaaDoorN8
import Derived.Test.YtfldnpkacelniaaDoorN9a
set_option linter.unusedSimpArgs false
set_option linter.unusedVariables false
set_option linter.defProp false
namespace Go.Proofs.YtfldnpkacelniaaDoor
open Go Go.Abs Go.RowKit
set_option maxHeartbeats 2000000 in
set_option maxRecDepth 10000 in
theorem reserved_ac (s : List UInt8) : AC Tryd.prog gl 18 [.pv (.str s)] [] (.pv (.bool (resF s))) [] := by
  refine body0 (fun _ => 0) 0 Tryd.func18 rfl Tryd.ntmps18 (by rw [Tryd.results18]) (by simp) ?_
  (repeat' (first | simp -implicitDefEqProofs +contextual (maxSteps := 9000000) only [kx, ↓ky, tyS, tyX9, Nat.reduceAdd, Nat.reduceMul, Nat.reduceSub, Nat.reduceLT, Nat.reduceLeDiff, Nat.reduceEqDiff, Nat.reduceBEq, Int.reduceAdd, Int.reduceSub, Int.reduceMul, Int.reduceLT, Int.reduceLE, Int.reduceToNat, Int.reduceBEq, Int.reduceBNe, Int.reduceNeg, Int.reduceGT, Nat.reduceGT, Int.reduceEq, reduceCtorEq, ↓reduceIte] | (with_reducible first | refine SB.d (fun _ => ?_) (fun _ => ?_) | refine SB.e (fun _ => ?_) (fun _ => ?_) | refine SB.n (fun _ => ?_) (fun _ => ?_) | refine SB.b (fun _ => ?_) (fun _ => ?_) | refine And.intro (REG.ok (by kernel_rfl)) ?_ | exact REG.ok (by kernel_rfl)) | (with_reducible refine And.intro ?_ ?_); (focus (intros; (try simp only [decide_eq_true_eq, decide_eq_false_iff_not, beq_iff_eq, bne_iff_ne, Bool.and_eq_true, Bool.or_eq_true] at *); omega)) | omega))
  all_goals grind [resF]
set_option maxRecDepth 10000 in
set_option maxHeartbeats 1000000 in
theorem valid_ac (s : List UInt8) : AC Tryd.prog gl 16 [.pv (.str s)] [] (.pv (.bool (validF s))) [] := by
  refine body0 (fun _ => 0) 0 Tryd.func16 rfl Tryd.ntmps16 (by rw [Tryd.results16]) (by simp) ?_
  by_cases h0 : s = []
  · subst h0
    (repeat' (first | simp -implicitDefEqProofs +contextual (maxSteps := 9000000) only [kx, ↓ky, tyS, tyX3, tyX4, tyX5, tyX9, Nat.reduceAdd, Nat.reduceMul, Nat.reduceSub, Nat.reduceLT, Nat.reduceLeDiff, Nat.reduceEqDiff, Nat.reduceBEq, Int.reduceAdd, Int.reduceSub, Int.reduceMul, Int.reduceLT, Int.reduceLE, Int.reduceToNat, Int.reduceBEq, Int.reduceBNe, Int.reduceNeg, Int.reduceGT, Nat.reduceGT, Int.reduceEq, reduceCtorEq, ↓reduceIte] | (with_reducible first | refine SB.d (fun _ => ?_) (fun _ => ?_) | refine SB.e (fun _ => ?_) (fun _ => ?_) | refine SB.n (fun _ => ?_) (fun _ => ?_) | refine SB.b (fun _ => ?_) (fun _ => ?_) | refine And.intro (REG.ok (by kernel_rfl)) ?_ | exact REG.ok (by kernel_rfl)) | (with_reducible refine And.intro ?_ ?_); (focus (intros; (try simp only [decide_eq_true_eq, decide_eq_false_iff_not, beq_iff_eq, bne_iff_ne, Bool.and_eq_true, Bool.or_eq_true] at *); omega)) | omega))
    simp [validF]
  have h0' : (s == []) = false := by simpa using h0
  have hlen : 0 < s.length := List.length_pos_iff.2 h0
  by_cases h16 : (s.length : Int) > 16
  · rw [validF_long s (by omega)]
    (repeat' (first | simp -implicitDefEqProofs +contextual (maxSteps := 9000000) only [kx, ↓ky, tyS, tyX3, tyX4, tyX5, tyX9, Nat.reduceAdd, Nat.reduceMul, Nat.reduceSub, Nat.reduceLT, Nat.reduceLeDiff, Nat.reduceEqDiff, Nat.reduceBEq, Int.reduceAdd, Int.reduceSub, Int.reduceMul, Int.reduceLT, Int.reduceLE, Int.reduceToNat, Int.reduceBEq, Int.reduceBNe, Int.reduceNeg, Int.reduceGT, Nat.reduceGT, Int.reduceEq, reduceCtorEq, ↓reduceIte, h0', h16] | (with_reducible first | refine SB.d (fun _ => ?_) (fun _ => ?_) | refine SB.e (fun _ => ?_) (fun _ => ?_) | refine SB.n (fun _ => ?_) (fun _ => ?_) | refine SB.b (fun _ => ?_) (fun _ => ?_) | refine And.intro (REG.ok (by kernel_rfl)) ?_ | exact REG.ok (by kernel_rfl)) | (with_reducible refine And.intro ?_ ?_); (focus (intros; (try simp only [decide_eq_true_eq, decide_eq_false_iff_not, beq_iff_eq, bne_iff_ne, Bool.and_eq_true, Bool.or_eq_true] at *); omega)) | omega))
  · have cW := word_ac s 0 (by omega) (by omega)
    have cR := reserved_ac s
    have hlen' : (0 : Int) < s.length := by omega
    have hv : validF s = (letterF (s.getD 0 0).toNat && ((((runF isW s 0 : Nat) : Int) == (s.length : Int)) && !resF s)) := by
      unfold validF
      rw [h0', decide_eq_false h16]
      simp [wordF_run]
    rw [hv]
    (repeat' (first | simp -implicitDefEqProofs +contextual (maxSteps := 9000000) only [kx, ↓ky, tyS, tyX3, tyX4, tyX5, tyX9, Nat.reduceAdd, Nat.reduceMul, Nat.reduceSub, Nat.reduceLT, Nat.reduceLeDiff, Nat.reduceEqDiff, Nat.reduceBEq, Int.reduceAdd, Int.reduceSub, Int.reduceMul, Int.reduceLT, Int.reduceLE, Int.reduceToNat, Int.reduceBEq, Int.reduceBNe, Int.reduceNeg, Int.reduceGT, Nat.reduceGT, Int.reduceEq, reduceCtorEq, ↓reduceIte, h0', h16, hlen, hlen'] | (with_reducible first | refine SB.d (fun _ => ?_) (fun _ => ?_) | refine SB.e (fun _ => ?_) (fun _ => ?_) | refine SB.n (fun _ => ?_) (fun _ => ?_) | refine SB.b (fun _ => ?_) (fun _ => ?_) | refine And.intro (REG.ok (by kernel_rfl)) ?_ | exact REG.ok (by kernel_rfl)) | refine CK.c0 enters30 (letter_ac _) rfl rfl ?_ | refine CK.cp enters30 (fun _ => letter_ac _) rfl rfl ?_ | refine CK.c0 enters31 (cW) rfl rfl ?_ | refine CK.cp enters31 (fun _ => cW) rfl rfl ?_ | refine CK.c0 enters18 (cR) rfl rfl ?_ | refine CK.cp enters18 (fun _ => cR) rfl rfl ?_ | (with_reducible refine And.intro ?_ ?_); (focus (intros; (try simp only [decide_eq_true_eq, decide_eq_false_iff_not, beq_iff_eq, bne_iff_ne, Bool.and_eq_true, Bool.or_eq_true] at *); omega)) | omega))
    all_goals grind
set_option maxRecDepth 10000 in
set_option maxHeartbeats 4000000 in
theorem valid1_ac (s : List UInt8) : AC Tryd.prog gl 17 [.pv (.str s)] [] (.pv (.bool (validF s))) [] := by
  have hall := wordF_all s
  refine body0 (fun _ => 0) 0 Tryd.func17 rfl Tryd.ntmps17 (by rw [Tryd.results17]) (by simp) ?_
  by_cases h0 : s = []
  · subst h0
    (repeat' (first | simp -implicitDefEqProofs +contextual (maxSteps := 9000000) only [kx, ↓ky, tyS, tyX3, tyX4, tyX5, tyX9, Nat.reduceAdd, Nat.reduceMul, Nat.reduceSub, Nat.reduceLT, Nat.reduceLeDiff, Nat.reduceEqDiff, Nat.reduceBEq, Int.reduceAdd, Int.reduceSub, Int.reduceMul, Int.reduceLT, Int.reduceLE, Int.reduceToNat, Int.reduceBEq, Int.reduceBNe, Int.reduceNeg, Int.reduceGT, Nat.reduceGT, Int.reduceEq, reduceCtorEq, ↓reduceIte] | (with_reducible first | refine SB.d (fun _ => ?_) (fun _ => ?_) | refine SB.e (fun _ => ?_) (fun _ => ?_) | refine SB.n (fun _ => ?_) (fun _ => ?_) | refine SB.b (fun _ => ?_) (fun _ => ?_) | refine And.intro (REG.ok (by kernel_rfl)) ?_ | exact REG.ok (by kernel_rfl)) | (with_reducible refine And.intro ?_ ?_); (focus (intros; (try simp only [decide_eq_true_eq, decide_eq_false_iff_not, beq_iff_eq, bne_iff_ne, Bool.and_eq_true, Bool.or_eq_true] at *); omega)) | omega))
    rfl
  have hl0 : 0 < s.length := List.length_pos_iff.2 h0
  have h0' : ((s.length : Int) == 0) = false := beqF (by omega)
  by_cases h1 : (s.length : Int) > 16
  · rw [validF_long s (by omega)]
    (repeat' (first | simp -implicitDefEqProofs +contextual (maxSteps := 9000000) only [kx, ↓ky, tyS, tyX3, tyX4, tyX5, tyX9, Nat.reduceAdd, Nat.reduceMul, Nat.reduceSub, Nat.reduceLT, Nat.reduceLeDiff, Nat.reduceEqDiff, Nat.reduceBEq, Int.reduceAdd, Int.reduceSub, Int.reduceMul, Int.reduceLT, Int.reduceLE, Int.reduceToNat, Int.reduceBEq, Int.reduceBNe, Int.reduceNeg, Int.reduceGT, Nat.reduceGT, Int.reduceEq, reduceCtorEq, ↓reduceIte, h0', h1] | (with_reducible first | refine SB.d (fun _ => ?_) (fun _ => ?_) | refine SB.e (fun _ => ?_) (fun _ => ?_) | refine SB.n (fun _ => ?_) (fun _ => ?_) | refine SB.b (fun _ => ?_) (fun _ => ?_) | refine And.intro (REG.ok (by kernel_rfl)) ?_ | exact REG.ok (by kernel_rfl)) | (with_reducible refine And.intro ?_ ?_); (focus (intros; (try simp only [decide_eq_true_eq, decide_eq_false_iff_not, beq_iff_eq, bne_iff_ne, Bool.and_eq_true, Bool.or_eq_true] at *); omega)) | omega))
  have hs0 : (s == []) = false := by simpa using h0
  have hv : validF s = (letterF (s.getD 0 0).toNat && (s.all isW && !resF s)) := by simp [validF, hs0, h1, hall]
  cases h2 : letterF (s.getD 0 0).toNat
  · rw [hv, h2, Bool.false_and]
    (repeat' (first | simp -implicitDefEqProofs +contextual (maxSteps := 9000000) only [kx, ↓ky, tyS, tyX3, tyX4, tyX5, tyX9, Nat.reduceAdd, Nat.reduceMul, Nat.reduceSub, Nat.reduceLT, Nat.reduceLeDiff, Nat.reduceEqDiff, Nat.reduceBEq, Int.reduceAdd, Int.reduceSub, Int.reduceMul, Int.reduceLT, Int.reduceLE, Int.reduceToNat, Int.reduceBEq, Int.reduceBNe, Int.reduceNeg, Int.reduceGT, Nat.reduceGT, Int.reduceEq, reduceCtorEq, ↓reduceIte, h0', h1, hl0, h2] | (with_reducible first | refine SB.d (fun _ => ?_) (fun _ => ?_) | refine SB.e (fun _ => ?_) (fun _ => ?_) | refine SB.n (fun _ => ?_) (fun _ => ?_) | refine SB.b (fun _ => ?_) (fun _ => ?_) | refine And.intro (REG.ok (by kernel_rfl)) ?_ | exact REG.ok (by kernel_rfl)) | refine CK.c0 enters32 (rletter_ac _) rfl rfl ?_ | refine CK.cp enters32 (fun _ => rletter_ac _) rfl rfl ?_ | (with_reducible refine And.intro ?_ ?_); (focus (intros; (try simp only [decide_eq_true_eq, decide_eq_false_iff_not, beq_iff_eq, bne_iff_ne, Bool.and_eq_true, Bool.or_eq_true] at *); omega)) | omega))
  rw [hv, h2, Bool.true_and]
  cases h3 : (!(s.contains 32) && resF s)
  rotate_left
  · have h4 : resF s = true := by simp at h3; exact h3.2
    rw [h4, Bool.not_true, Bool.and_false]
    (repeat' (first | simp -implicitDefEqProofs +contextual (maxSteps := 9000000) only [kx, ↓ky, tyS, tyX3, tyX4, tyX5, tyX9, Nat.reduceAdd, Nat.reduceMul, Nat.reduceSub, Nat.reduceLT, Nat.reduceLeDiff, Nat.reduceEqDiff, Nat.reduceBEq, Int.reduceAdd, Int.reduceSub, Int.reduceMul, Int.reduceLT, Int.reduceLE, Int.reduceToNat, Int.reduceBEq, Int.reduceBNe, Int.reduceNeg, Int.reduceGT, Nat.reduceGT, Int.reduceEq, reduceCtorEq, ↓reduceIte, h0', h1, hl0, h2, h3] | (with_reducible first | refine SB.d (fun _ => ?_) (fun _ => ?_) | refine SB.e (fun _ => ?_) (fun _ => ?_) | refine SB.n (fun _ => ?_) (fun _ => ?_) | refine SB.b (fun _ => ?_) (fun _ => ?_) | refine And.intro (REG.ok (by kernel_rfl)) ?_ | exact REG.ok (by kernel_rfl)) | refine CK.c0 enters32 (rletter_ac _) rfl rfl ?_ | refine CK.cp enters32 (fun _ => rletter_ac _) rfl rfl ?_ | refine CK.c0 enters19 (reserved1_ac s (by omega)) rfl rfl ?_ | refine CK.cp enters19 (fun _ => reserved1_ac s (by omega)) rfl rfl ?_ | (with_reducible refine And.intro ?_ ?_); (focus (intros; (try simp only [decide_eq_true_eq, decide_eq_false_iff_not, beq_iff_eq, bne_iff_ne, Bool.and_eq_true, Bool.or_eq_true] at *); omega)) | omega))
  have hfin : (s.all isW && !resF s) = s.all isW := by
    cases h5 : s.all isW with
    | false => rfl
    | true =>
      have h6 : s.contains 32 = false := by
        cases h7 : s.contains 32 with
        | false => rfl
        | true =>
          have := List.all_eq_true.1 h5 32 (by simpa using h7)
          exact absurd this (by decide)
      rw [h6] at h3
      simpa using h3
  rw [hfin]
  (repeat' (first | simp -implicitDefEqProofs +contextual (maxSteps := 9000000) only [kx, ↓ky, tyS, tyX3, tyX4, tyX5, tyX9, Nat.reduceAdd, Nat.reduceMul, Nat.reduceSub, Nat.reduceLT, Nat.reduceLeDiff, Nat.reduceEqDiff, Nat.reduceBEq, Int.reduceAdd, Int.reduceSub, Int.reduceMul, Int.reduceLT, Int.reduceLE, Int.reduceToNat, Int.reduceBEq, Int.reduceBNe, Int.reduceNeg, Int.reduceGT, Nat.reduceGT, Int.reduceEq, reduceCtorEq, ↓reduceIte, h0', h1, hl0, h2, h3] | (with_reducible first | refine SB.d (fun _ => ?_) (fun _ => ?_) | refine SB.e (fun _ => ?_) (fun _ => ?_) | refine SB.n (fun _ => ?_) (fun _ => ?_) | refine SB.b (fun _ => ?_) (fun _ => ?_) | refine And.intro (REG.ok (by kernel_rfl)) ?_ | exact REG.ok (by kernel_rfl)) | refine CK.c0 enters32 (rletter_ac _) rfl rfl ?_ | refine CK.cp enters32 (fun _ => rletter_ac _) rfl rfl ?_ | refine CK.c0 enters19 (reserved1_ac s (by omega)) rfl rfl ?_ | refine CK.cp enters19 (fun _ => reserved1_ac s (by omega)) rfl rfl ?_ | (with_reducible refine And.intro ?_ ?_); (focus (intros; (try simp only [decide_eq_true_eq, decide_eq_false_iff_not, beq_iff_eq, bne_iff_ne, Bool.and_eq_true, Bool.or_eq_true] at *); omega)) | omega))
  refine loopV (ι := {k : Nat // k ≤ s.length ∧ s.all isW = (s.drop k).all isW}) (fun i => ⟨(.pv (.str s) :: .junk :: .pv (.bool false) :: .pv (.int .i64 i.1) :: .junk :: .junk :: .junk :: .junk :: .junk :: .junk :: .junk :: .junk :: .junk :: .junk :: .junk :: .junk :: .junk :: .junk :: .junk :: .junk :: .junk :: .junk :: .junk :: .junk :: .junk :: .junk :: .junk :: .junk :: .junk :: .junk :: .junk :: .junk :: .junk :: .junk :: .junk :: .junk :: .junk :: .junk :: .junk :: .junk :: []), []⟩) (fun i => s.length - i.1) ⟨0, by omega, by simp⟩ (Weak.forget rfl (pinsF (by simp) (by simp)) (by simp [wkSlots, wkObjs, ren, renL, renO, inScope, inScopeL, inScopeO, hasObj, St.obj, List.getD]) (by simp [wkSlots, wkObjs, ren, renL, renO, inScope, inScopeL, inScopeO, hasObj, St.obj, List.getD])) ?_
  rintro ⟨k, hk, hka⟩
  by_cases hlt : k < s.length
  · have hlt' : (k : Int) < s.length := by omega
    have hge : s.getD k 0 = s[k] := by simp [List.getD, hlt]
    have hw : IntKind.i64.wrap ((k : Int) + 1) = ((k + 1 : Nat) : Int) := by rw [wrap64 _ (by omega) (by omega)]; rfl
    rw [List.drop_eq_getElem_cons hlt, List.all_cons] at hka
    have hisW : isW s[k] = (letterF s[k].toNat || digitF s[k].toNat) := rfl
    rw [hisW] at hka
    generalize s[k] = c at *
    cases h5 : letterF c.toNat <;> cases h6 : digitF c.toNat
    all_goals (repeat' (first | simp -implicitDefEqProofs +contextual (maxSteps := 9000000) only [kx, ↓ky, tyS, tyX3, tyX4, tyX5, tyX9, Nat.reduceAdd, Nat.reduceMul, Nat.reduceSub, Nat.reduceLT, Nat.reduceLeDiff, Nat.reduceEqDiff, Nat.reduceBEq, Int.reduceAdd, Int.reduceSub, Int.reduceMul, Int.reduceLT, Int.reduceLE, Int.reduceToNat, Int.reduceBEq, Int.reduceBNe, Int.reduceNeg, Int.reduceGT, Nat.reduceGT, Int.reduceEq, reduceCtorEq, ↓reduceIte, hlt', hlt, hge, h5, h6, hw] | (with_reducible first | refine SB.d (fun _ => ?_) (fun _ => ?_) | refine SB.e (fun _ => ?_) (fun _ => ?_) | refine SB.n (fun _ => ?_) (fun _ => ?_) | refine SB.b (fun _ => ?_) (fun _ => ?_) | refine And.intro (REG.ok (by kernel_rfl)) ?_ | exact REG.ok (by kernel_rfl)) | refine CK.c0 enters32 (rletter_ac _) rfl rfl ?_ | refine CK.cp enters32 (fun _ => rletter_ac _) rfl rfl ?_ | refine CK.c0 enters33 (rdigit_ac _) rfl rfl ?_ | refine CK.cp enters33 (fun _ => rdigit_ac _) rfl rfl ?_ | (with_reducible refine And.intro ?_ ?_); (focus (intros; (try simp only [decide_eq_true_eq, decide_eq_false_iff_not, beq_iff_eq, bne_iff_ne, Bool.and_eq_true, Bool.or_eq_true] at *); omega)) | omega))
    · rw [h5, h6, Bool.or_self, Bool.false_and] at hka
      rw [hka]
    all_goals exact ⟨⟨k + 1, by omega, by rw [hka, h5, h6]; simp⟩, (Weak.forget rfl (pinsF (by simp) (by simp)) (by simp [wkSlots, wkObjs, ren, renL, renO, inScope, inScopeL, inScopeO, hasObj, St.obj, List.getD]) (by simp [wkSlots, wkObjs, ren, renL, renO, inScope, inScopeL, inScopeO, hasObj, St.obj, List.getD])), by simp; omega⟩
  · have hlt' : ¬ (k : Int) < s.length := by omega
    rw [List.drop_eq_nil_of_le (by omega), List.all_nil] at hka
    (repeat' (first | simp -implicitDefEqProofs +contextual (maxSteps := 9000000) only [kx, ↓ky, tyS, tyX3, tyX4, tyX5, tyX9, Nat.reduceAdd, Nat.reduceMul, Nat.reduceSub, Nat.reduceLT, Nat.reduceLeDiff, Nat.reduceEqDiff, Nat.reduceBEq, Int.reduceAdd, Int.reduceSub, Int.reduceMul, Int.reduceLT, Int.reduceLE, Int.reduceToNat, Int.reduceBEq, Int.reduceBNe, Int.reduceNeg, Int.reduceGT, Nat.reduceGT, Int.reduceEq, reduceCtorEq, ↓reduceIte, hlt', hka] | (with_reducible first | refine SB.d (fun _ => ?_) (fun _ => ?_) | refine SB.e (fun _ => ?_) (fun _ => ?_) | refine SB.n (fun _ => ?_) (fun _ => ?_) | refine SB.b (fun _ => ?_) (fun _ => ?_) | refine And.intro (REG.ok (by kernel_rfl)) ?_ | exact REG.ok (by kernel_rfl)) | (with_reducible refine And.intro ?_ ?_); (focus (intros; (try simp only [decide_eq_true_eq, decide_eq_false_iff_not, beq_iff_eq, bne_iff_ne, Bool.and_eq_true, Bool.or_eq_true] at *); omega)) | omega))
theorem res_noblank (s : List UInt8) : (!(s.contains 32) && resF s) = resF s := by
  by_cases h : resF s = true
  · rw [h]
    simp only [resF, Bool.or_eq_true, beq_iff_eq] at h
    rcases h with ((((((((((((((h | h) | h) | h) | h) | h) | h) | h) | h) | h) | h) | h) | h) | h) | h) | h <;> subst h <;> rfl
  · rw [(Bool.not_eq_true _).mp h]; simp
set_option maxRecDepth 10000 in
theorem names_law (s : List UInt8) (hs : s.length ≤ 281474976710656) : AC Tryd.prog gl 5 [.pv (.str s)] [] (.pv (.bool true)) [] := by
  have cA := awake_ac
  have c1 := valid_ac s
  have c2 := valid1_ac s
  have c3 := reserved_ac s
  have c4 := reserved1_ac s hs
  rw [res_noblank] at c4
  refine body0 (fun _ => 0) 0 Tryd.func5 rfl Tryd.ntmps5 (by rw [Tryd.results5]) (by simp) ?_
  (repeat' (first | simp -implicitDefEqProofs +contextual (maxSteps := 9000000) only [kx, ↓ky, tyS, tyX4, tyX9, Nat.reduceAdd, Nat.reduceMul, Nat.reduceSub, Nat.reduceLT, Nat.reduceLeDiff, Nat.reduceEqDiff, Nat.reduceBEq, Int.reduceAdd, Int.reduceSub, Int.reduceMul, Int.reduceLT, Int.reduceLE, Int.reduceToNat, Int.reduceBEq, Int.reduceBNe, Int.reduceNeg, Int.reduceGT, Nat.reduceGT, Int.reduceEq, reduceCtorEq, ↓reduceIte] | (with_reducible first | refine SB.d (fun _ => ?_) (fun _ => ?_) | refine SB.e (fun _ => ?_) (fun _ => ?_) | refine SB.n (fun _ => ?_) (fun _ => ?_) | refine SB.b (fun _ => ?_) (fun _ => ?_) | refine And.intro (REG.ok (by kernel_rfl)) ?_ | exact REG.ok (by kernel_rfl)) | refine CK.c0 enters11 (cA) rfl rfl ?_ | refine CK.cp enters11 (fun _ => cA) rfl rfl ?_ | refine CK.c0 enters16 (c1) rfl rfl ?_ | refine CK.cp enters16 (fun _ => c1) rfl rfl ?_ | refine CK.c0 enters17 (c2) rfl rfl ?_ | refine CK.cp enters17 (fun _ => c2) rfl rfl ?_ | refine CK.c0 enters18 (c3) rfl rfl ?_ | refine CK.cp enters18 (fun _ => c3) rfl rfl ?_ | refine CK.c0 enters19 (c4) rfl rfl ?_ | refine CK.cp enters19 (fun _ => c4) rfl rfl ?_ | (with_reducible refine And.intro ?_ ?_); (focus (intros; (try simp only [decide_eq_true_eq, decide_eq_false_iff_not, beq_iff_eq, bne_iff_ne, Bool.and_eq_true, Bool.or_eq_true] at *); omega)) | omega))
end Go.Proofs.YtfldnpkacelniaaDoor
