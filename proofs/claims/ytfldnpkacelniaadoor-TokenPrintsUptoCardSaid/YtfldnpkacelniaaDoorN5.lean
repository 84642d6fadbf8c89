/- A part of the walk (Tryd_N5): its theorems have no condition beyond what they state. -/
import Derived.Test.YtfldnpkacelniaaDoorN4
set_option linter.unusedSimpArgs false
set_option linter.unusedVariables false
set_option linter.defProp false
namespace Go.Proofs.YtfldnpkacelniaaDoor
open Go Go.Abs Go.RowKit
set_option maxRecDepth 10000 in
theorem rletter_ac (n : Int) : AC Tryd.prog gl 32 [.pv (.int .u8 n)] [] (.pv (.bool (letterF n))) [] := by
  refine body0 (fun _ => 0) 0 Tryd.func32 rfl Tryd.ntmps32 (by rw [Tryd.results32]) (by simp) ?_
  simp -implicitDefEqProofs +contextual (maxSteps := 9000000) only [kx, ↓ky, tyS, tyX5, Nat.reduceAdd, Nat.reduceMul, Nat.reduceSub, Nat.reduceLT, Nat.reduceLeDiff, Nat.reduceEqDiff, Nat.reduceBEq, Int.reduceAdd, Int.reduceSub, Int.reduceMul, Int.reduceLT, Int.reduceLE, Int.reduceToNat, Int.reduceBEq, Int.reduceBNe, Int.reduceNeg, Int.reduceGT, Nat.reduceGT, Int.reduceEq, reduceCtorEq, ↓reduceIte]
  grind [letterF]
set_option maxRecDepth 10000 in
theorem rdigit_ac (n : Int) : AC Tryd.prog gl 33 [.pv (.int .u8 n)] [] (.pv (.bool (digitF n))) [] := by
  refine body0 (fun _ => 0) 0 Tryd.func33 rfl Tryd.ntmps33 (by rw [Tryd.results33]) (by simp) ?_
  simp -implicitDefEqProofs +contextual (maxSteps := 9000000) only [kx, ↓ky, tyS, tyX5, Nat.reduceAdd, Nat.reduceMul, Nat.reduceSub, Nat.reduceLT, Nat.reduceLeDiff, Nat.reduceEqDiff, Nat.reduceBEq, Int.reduceAdd, Int.reduceSub, Int.reduceMul, Int.reduceLT, Int.reduceLE, Int.reduceToNat, Int.reduceBEq, Int.reduceBNe, Int.reduceNeg, Int.reduceGT, Nat.reduceGT, Int.reduceEq, reduceCtorEq, ↓reduceIte]
  grind [digitF]
set_option maxRecDepth 10000 in
theorem rblank_ac (c : UInt8) : AC Tryd.prog gl 28 [.pv (.int .u8 c.toNat)] [] (.pv (.bool (isB c))) [] := by
  have h1 : ((c.toNat : Int) == 9) = (c == 9) := u8b c 9
  have h2 : ((c.toNat : Int) == 10) = (c == 10) := u8b c 10
  have h3 : ((c.toNat : Int) == 13) = (c == 13) := u8b c 13
  have h4 : ((c.toNat : Int) == 32) = (c == 32) := u8b c 32
  refine body0 (fun _ => 0) 0 Tryd.func28 rfl Tryd.ntmps28 (by rw [Tryd.results28]) (by simp) ?_
  simp -implicitDefEqProofs +contextual (maxSteps := 9000000) only [kx, ↓ky, tyS, tyX5, Nat.reduceAdd, Nat.reduceMul, Nat.reduceSub, Nat.reduceLT, Nat.reduceLeDiff, Nat.reduceEqDiff, Nat.reduceBEq, Int.reduceAdd, Int.reduceSub, Int.reduceMul, Int.reduceLT, Int.reduceLE, Int.reduceToNat, Int.reduceBEq, Int.reduceBNe, Int.reduceNeg, Int.reduceGT, Nat.reduceGT, Int.reduceEq, reduceCtorEq, ↓reduceIte, h1, h2, h3, h4]
  grind [isB]
set_option maxRecDepth 10000 in
theorem rdouble_ac (a b : Int) : AC Tryd.prog gl 42 [.pv (.int .u8 a), .pv (.int .u8 b)] [] (.pv (.bool (dblF a b))) [] := by
  refine body0 (fun _ => 0) 0 Tryd.func42 rfl Tryd.ntmps42 (by rw [Tryd.results42]) (by simp) ?_
  simp -implicitDefEqProofs +contextual (maxSteps := 9000000) only [kx, ↓ky, tyS, tyX5, Nat.reduceAdd, Nat.reduceMul, Nat.reduceSub, Nat.reduceLT, Nat.reduceLeDiff, Nat.reduceEqDiff, Nat.reduceBEq, Int.reduceAdd, Int.reduceSub, Int.reduceMul, Int.reduceLT, Int.reduceLE, Int.reduceToNat, Int.reduceBEq, Int.reduceBNe, Int.reduceNeg, Int.reduceGT, Nat.reduceGT, Int.reduceEq, reduceCtorEq, ↓reduceIte]
  grind [dblF]
set_option maxRecDepth 10000 in
theorem rsingle_ac (c : UInt8) : AC Tryd.prog gl 43 [.pv (.int .u8 c.toNat)] [] (.pv (.bool (sngL.contains c))) [] := by
  refine body0 (fun _ => 0) 0 Tryd.func43 rfl Tryd.ntmps43 (by rw [Tryd.results43]) (by simp) ?_
  simp -implicitDefEqProofs +contextual (maxSteps := 9000000) only [kx, ↓ky, tyS, tyX3, tyX5, tyX9, Nat.reduceAdd, Nat.reduceMul, Nat.reduceSub, Nat.reduceLT, Nat.reduceLeDiff, Nat.reduceEqDiff, Nat.reduceBEq, Int.reduceAdd, Int.reduceSub, Int.reduceMul, Int.reduceLT, Int.reduceLE, Int.reduceToNat, Int.reduceBEq, Int.reduceBNe, Int.reduceNeg, Int.reduceGT, Nat.reduceGT, Int.reduceEq, reduceCtorEq, ↓reduceIte]
  refine loopV (ι := {k : Nat // k ≤ 17 ∧ (sngL.drop k).contains c = sngL.contains c}) (fun i => ⟨[.pv (.int .u8 c.toNat), .junk, .junk, .pv (.int .i64 i.1), .junk, .junk, .junk, .junk, .junk, .junk, .junk, .junk], []⟩) (fun i => 17 - i.1) ⟨0, by omega, rfl⟩ (Weak.forget rfl (pinsF (by simp) (by simp)) (by simp [wkSlots, wkObjs, ren, renL, renO, inScope, inScopeL, inScopeO, hasObj, St.obj, List.getD]) (by simp [wkSlots, wkObjs, ren, renL, renO, inScope, inScopeL, inScopeO, hasObj, St.obj, List.getD])) ?_
  rintro ⟨k, hk, heq⟩
  have hlen : sngL.length = 17 := rfl
  have hdef : ([40, 41, 123, 125, 91, 93, 44, 59, 61, 60, 62, 43, 45, 42, 47, 37, 33] : List UInt8) = sngL := rfl
  by_cases hlt : k < 17
  · have hlt' : (k : Int) < 17 := by omega
    have hltl : k < sngL.length := by omega
    have hw := wrapS k (by omega)
    have hd : (sngL.drop k).contains c = (c == sngL.getD k 0 || (sngL.drop (k + 1)).contains c) := by
      rw [List.drop_eq_getElem_cons hltl, List.contains_cons]; simp [List.getD, hltl]
    rw [hd] at heq
    have hcc : ((((sngL.getD k 0).toNat : Nat) : Int) == ((c.toNat : Nat) : Int)) = (c == sngL.getD k 0) := by
      rw [Bool.eq_iff_iff]; simp only [beq_iff_eq]
      constructor
      · intro h; exact UInt8.toNat.inj (by omega)
      · intro h; rw [h]
    (repeat' (first | simp -implicitDefEqProofs +contextual (maxSteps := 9000000) only [kx, ↓ky, tyS, tyX3, tyX5, tyX9, Nat.reduceAdd, Nat.reduceMul, Nat.reduceSub, Nat.reduceLT, Nat.reduceLeDiff, Nat.reduceEqDiff, Nat.reduceBEq, Int.reduceAdd, Int.reduceSub, Int.reduceMul, Int.reduceLT, Int.reduceLE, Int.reduceToNat, Int.reduceBEq, Int.reduceBNe, Int.reduceNeg, Int.reduceGT, Nat.reduceGT, Int.reduceEq, reduceCtorEq, ↓reduceIte, hlt', hdef, hltl, hlen, hw, hcc] | (with_reducible first | refine SB.d (fun _ => ?_) (fun _ => ?_) | refine SB.e (fun _ => ?_) (fun _ => ?_) | refine SB.n (fun _ => ?_) (fun _ => ?_) | refine SB.b (fun _ => ?_) (fun _ => ?_) | refine And.intro (REG.ok (by kernel_rfl)) ?_ | exact REG.ok (by kernel_rfl)) | (with_reducible refine And.intro ?_ ?_); (focus (intros; (try simp only [decide_eq_true_eq, decide_eq_false_iff_not, beq_iff_eq, bne_iff_ne, Bool.and_eq_true, Bool.or_eq_true] at *); omega)) | omega))
    · grind
    · exact ⟨⟨k + 1, by omega, by grind⟩, (Weak.forget rfl (pinsF (by simp) (by simp)) (by simp [wkSlots, wkObjs, ren, renL, renO, inScope, inScopeL, inScopeO, hasObj, St.obj, List.getD]) (by simp [wkSlots, wkObjs, ren, renL, renO, inScope, inScopeL, inScopeO, hasObj, St.obj, List.getD])), by simp; omega⟩
  · have hlt' : ¬ (k : Int) < 17 := by omega
    (repeat' (first | simp -implicitDefEqProofs +contextual (maxSteps := 9000000) only [kx, ↓ky, tyS, tyX3, tyX5, tyX9, Nat.reduceAdd, Nat.reduceMul, Nat.reduceSub, Nat.reduceLT, Nat.reduceLeDiff, Nat.reduceEqDiff, Nat.reduceBEq, Int.reduceAdd, Int.reduceSub, Int.reduceMul, Int.reduceLT, Int.reduceLE, Int.reduceToNat, Int.reduceBEq, Int.reduceBNe, Int.reduceNeg, Int.reduceGT, Nat.reduceGT, Int.reduceEq, reduceCtorEq, ↓reduceIte, hlt', hdef, hlen] | (with_reducible first | refine SB.d (fun _ => ?_) (fun _ => ?_) | refine SB.e (fun _ => ?_) (fun _ => ?_) | refine SB.n (fun _ => ?_) (fun _ => ?_) | refine SB.b (fun _ => ?_) (fun _ => ?_) | refine And.intro (REG.ok (by kernel_rfl)) ?_ | exact REG.ok (by kernel_rfl)) | (with_reducible refine And.intro ?_ ?_); (focus (intros; (try simp only [decide_eq_true_eq, decide_eq_false_iff_not, beq_iff_eq, bne_iff_ne, Bool.and_eq_true, Bool.or_eq_true] at *); omega)) | omega))
    rw [← heq, List.drop_eq_nil_of_le (by omega)]
    rfl
set_option maxRecDepth 10000 in
set_option maxHeartbeats 1000000 in
theorem rnumber_ac (l : List UInt8) (hd : ∀ c ∈ l, isD c = true) (hl : l.length ≤ 4096) : AC Tryd.prog gl 41 [.pv (.str l)] [] (.tup [.pv (.int .i64 (if valF l < 9223372036854775808 then (valF l : Int) else 0)), .pv (.bool (decide (valF l < 9223372036854775808)))]) [] := by
  refine body0 (fun _ => 0) 0 Tryd.func41 rfl Tryd.ntmps41 (by rw [Tryd.results41]) (by simp) ?_
  simp -implicitDefEqProofs +contextual (maxSteps := 9000000) only [kx, ↓ky, tyS, tyX3, tyX5, tyX9, Nat.reduceAdd, Nat.reduceMul, Nat.reduceSub, Nat.reduceLT, Nat.reduceLeDiff, Nat.reduceEqDiff, Nat.reduceBEq, Int.reduceAdd, Int.reduceSub, Int.reduceMul, Int.reduceLT, Int.reduceLE, Int.reduceToNat, Int.reduceBEq, Int.reduceBNe, Int.reduceNeg, Int.reduceGT, Nat.reduceGT, Int.reduceEq, reduceCtorEq, ↓reduceIte]
  refine loopV (ι := {q : Nat × Nat // q.1 ≤ l.length ∧ q.2 < 9223372036854775808 ∧ valA (l.drop q.1) q.2 = valF l}) (fun i => ⟨[.pv (.str l), .junk, .junk, .junk, .pv (.int .i64 i.1.2), .pv (.int .i64 i.1.1), .junk, .junk, .junk, .junk, .junk, .junk, .junk, .junk, .junk, .junk, .junk, .junk, .junk, .junk, .junk, .junk, .junk, .junk, .junk, .junk, .junk, .junk], []⟩) (fun i => l.length - i.1.1) ⟨(0, 0), by omega, by omega, rfl⟩ (Weak.forget rfl (pinsF (by simp) (by simp)) (by simp [wkSlots, wkObjs, ren, renL, renO, inScope, inScopeL, inScopeO, hasObj, St.obj, List.getD]) (by simp [wkSlots, wkObjs, ren, renL, renO, inScope, inScopeL, inScopeO, hasObj, St.obj, List.getD])) ?_
  rintro ⟨⟨k, n⟩, hk, hn, heq⟩
  simp only at hk hn heq
  by_cases hlt : k < l.length
  · have hlt' : (k : Int) < l.length := by omega
    have hw := wrapS k (by omega)
    have hdk := digit_le (hd l[k] (List.getElem_mem hlt))
    rw [List.drop_eq_getElem_cons hlt, valA_cons] at heq
    have hg : l.getD k 0 = l[k] := by simp [List.getD, hlt]
    generalize l[k] = c at *
    have hge := valA_ge (l.drop (k + 1)) (n * 10 + (c.toNat - 48))
    obtain ⟨m, hm⟩ : ∃ m : Nat, c.toNat = m + 48 := ⟨c.toNat - 48, by omega⟩
    have hm9 : m ≤ 9 := by omega
    rw [hm] at heq hge
    simp only [Nat.add_sub_cancel] at heq hge
    have w1 : IntKind.u8.wrap (((c.toNat : Nat) : Int) - 48) = m := by rw [IntWalk.u8_in _ ⟨by omega, by omega⟩]; omega
    have w2 : IntKind.i64.wrap (m : Int) = m := wrap64 _ (by omega) (by omega)
    have w3 : IntKind.i64.wrap (9223372036854775807 - (m : Int)) = 9223372036854775807 - m := wrap64 _ (by omega) (by omega)
    have hdv : (9223372036854775807 - (m : Int)).tdiv 10 = (9223372036854775807 - (m : Int)) / 10 := Int.tdiv_eq_ediv_of_nonneg (by omega)
    have w4 : IntKind.i64.wrap ((9223372036854775807 - (m : Int)).tdiv 10) = (9223372036854775807 - (m : Int)) / 10 := by rw [hdv]; exact wrap64 _ (by omega) (by omega)
    by_cases hov : (n : Int) > (9223372036854775807 - (m : Int)) / 10
    · have hbig : ¬ valF l < 9223372036854775808 := by omega
      rw [if_neg hbig, decide_eq_false hbig]
      (repeat' (first | simp -implicitDefEqProofs +contextual (maxSteps := 9000000) only [kx, ↓ky, tyS, tyX3, tyX5, tyX9, Nat.reduceAdd, Nat.reduceMul, Nat.reduceSub, Nat.reduceLT, Nat.reduceLeDiff, Nat.reduceEqDiff, Nat.reduceBEq, Int.reduceAdd, Int.reduceSub, Int.reduceMul, Int.reduceLT, Int.reduceLE, Int.reduceToNat, Int.reduceBEq, Int.reduceBNe, Int.reduceNeg, Int.reduceGT, Nat.reduceGT, Int.reduceEq, reduceCtorEq, ↓reduceIte, hlt', hlt, hg, hw, w1, w2, w3, w4, hov] | (with_reducible first | refine SB.d (fun _ => ?_) (fun _ => ?_) | refine SB.e (fun _ => ?_) (fun _ => ?_) | refine SB.n (fun _ => ?_) (fun _ => ?_) | refine SB.b (fun _ => ?_) (fun _ => ?_) | refine And.intro (REG.ok (by kernel_rfl)) ?_ | exact REG.ok (by kernel_rfl)) | (with_reducible refine And.intro ?_ ?_); (focus (intros; (try simp only [decide_eq_true_eq, decide_eq_false_iff_not, beq_iff_eq, bne_iff_ne, Bool.and_eq_true, Bool.or_eq_true] at *); omega)) | omega))
    · have w5 : IntKind.i64.wrap (10 * (n : Int)) = 10 * n := wrap64 _ (by omega) (by omega)
      have w6 : IntKind.i64.wrap (10 * (n : Int) + m) = ((n * 10 + m : Nat) : Int) := by rw [wrap64 _ (by omega) (by omega)]; omega
      (repeat' (first | simp -implicitDefEqProofs +contextual (maxSteps := 9000000) only [kx, ↓ky, tyS, tyX3, tyX5, tyX9, Nat.reduceAdd, Nat.reduceMul, Nat.reduceSub, Nat.reduceLT, Nat.reduceLeDiff, Nat.reduceEqDiff, Nat.reduceBEq, Int.reduceAdd, Int.reduceSub, Int.reduceMul, Int.reduceLT, Int.reduceLE, Int.reduceToNat, Int.reduceBEq, Int.reduceBNe, Int.reduceNeg, Int.reduceGT, Nat.reduceGT, Int.reduceEq, reduceCtorEq, ↓reduceIte, hlt', hlt, hg, hw, w1, w2, w3, w4, hov, w5, w6] | (with_reducible first | refine SB.d (fun _ => ?_) (fun _ => ?_) | refine SB.e (fun _ => ?_) (fun _ => ?_) | refine SB.n (fun _ => ?_) (fun _ => ?_) | refine SB.b (fun _ => ?_) (fun _ => ?_) | refine And.intro (REG.ok (by kernel_rfl)) ?_ | exact REG.ok (by kernel_rfl)) | (with_reducible refine And.intro ?_ ?_); (focus (intros; (try simp only [decide_eq_true_eq, decide_eq_false_iff_not, beq_iff_eq, bne_iff_ne, Bool.and_eq_true, Bool.or_eq_true] at *); omega)) | omega))
      exact ⟨⟨(k + 1, n * 10 + m), by simp only; omega, by simp only; omega, heq⟩, (Weak.forget rfl (pinsF (by simp) (by simp)) (by simp [wkSlots, wkObjs, ren, renL, renO, inScope, inScopeL, inScopeO, hasObj, St.obj, List.getD]) (by simp [wkSlots, wkObjs, ren, renL, renO, inScope, inScopeL, inScopeO, hasObj, St.obj, List.getD])), by simp; omega⟩
  · have hlt' : ¬ (k : Int) < l.length := by omega
    rw [List.drop_eq_nil_of_le (by omega), valA] at heq
    have hv : valF l < 9223372036854775808 := by omega
    rw [if_pos hv, decide_eq_true hv]
    (repeat' (first | simp -implicitDefEqProofs +contextual (maxSteps := 9000000) only [kx, ↓ky, tyS, tyX3, tyX5, tyX9, Nat.reduceAdd, Nat.reduceMul, Nat.reduceSub, Nat.reduceLT, Nat.reduceLeDiff, Nat.reduceEqDiff, Nat.reduceBEq, Int.reduceAdd, Int.reduceSub, Int.reduceMul, Int.reduceLT, Int.reduceLE, Int.reduceToNat, Int.reduceBEq, Int.reduceBNe, Int.reduceNeg, Int.reduceGT, Nat.reduceGT, Int.reduceEq, reduceCtorEq, ↓reduceIte, hlt'] | (with_reducible first | refine SB.d (fun _ => ?_) (fun _ => ?_) | refine SB.e (fun _ => ?_) (fun _ => ?_) | refine SB.n (fun _ => ?_) (fun _ => ?_) | refine SB.b (fun _ => ?_) (fun _ => ?_) | refine And.intro (REG.ok (by kernel_rfl)) ?_ | exact REG.ok (by kernel_rfl)) | (with_reducible refine And.intro ?_ ?_); (focus (intros; (try simp only [decide_eq_true_eq, decide_eq_false_iff_not, beq_iff_eq, bne_iff_ne, Bool.and_eq_true, Bool.or_eq_true] at *); omega)) | omega))
end Go.Proofs.YtfldnpkacelniaaDoor
