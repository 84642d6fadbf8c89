/- A part of the walk (Tryd_G1): its theorems have no condition beyond what they state. -/
import Derived.Test.YtlgilgaiibdgoaaDoorB4
import Derived.Test.YtlgilgaiibdgoaaDoorB5
import Derived.Test.YtlgilgaiibdgoaaDoorLib3
set_option linter.unusedSimpArgs false
set_option linter.unusedVariables false
set_option linter.defProp false
namespace Go.Proofs.YtlgilgaiibdgoaaDoor
open Go Go.Abs

set_option maxRecDepth 10000 in
theorem inside_ac (c : Int) (n : Nat) : ∀ e : Ex, szE e ≤ n → n ≤ 1000000000 → AC Tryd.prog gl 28 [exA e, .pv (.int .i64 c)] [] (.pv (.bool (insE c e))) [] := by
  induction n with
  | zero => intro e he; have := szE_pos e; omega
  | succ n ih =>
    intro e he hn
    have hsz := szE_eq e
    have hle := szEs_len e.args
    rw [insE_eq]
    unfold exA
    generalize hO : outC (e.op == 2) (e.op == 3) e.slot e.size c = o
    unfold outC at hO
    refine body0 (fun _ => 0) 1 Tryd.func28 rfl Tryd.ntmps28 (by rw [Tryd.results28]) (by simp) ?_
    (repeat' (first | simp -implicitDefEqProofs +contextual only [kx, ↓ky, tyS, tyX3, tyX4, tyX54, tyX56, Nat.reduceAdd, Nat.reduceMul, Nat.reduceSub, Nat.reduceLT, Nat.reduceLeDiff, Nat.reduceEqDiff, Nat.reduceBEq, Int.reduceAdd, Int.reduceSub, Int.reduceMul, Int.reduceLT, Int.reduceLE, Int.reduceToNat, Int.reduceBEq, Int.reduceBNe, Int.reduceNeg, Int.reduceGT, Nat.reduceGT, Int.reduceEq, reduceCtorEq, ↓reduceIte, hO] | (with_reducible first | refine SB.d (fun _ => ?_) (fun _ => ?_) | refine SB.e (fun _ => ?_) (fun _ => ?_) | refine SB.n (fun _ => ?_) (fun _ => ?_) | refine SB.b (fun _ => ?_) (fun _ => ?_) | refine And.intro (REG.ok (by kernel_rfl)) ?_ | exact REG.ok (by kernel_rfl)) | (with_reducible refine And.intro ?_ ?_); (focus (intros; (try simp only [decide_eq_true_eq, decide_eq_false_iff_not, beq_iff_eq, bne_iff_ne, Bool.and_eq_true, Bool.or_eq_true] at *); omega))))
    · grind
    refine loopV (ι := {k : Nat // k ≤ e.args.length ∧ insEs c (e.args.drop k) = insEs c e.args}) (fun i => ⟨[.junk, .pv (.int .i64 c), .ref 0 0, .junk, .junk, .junk, .junk, .junk, .junk, .junk, .junk, .junk, .junk, .junk, .junk, .junk, .junk, .junk, .junk, .junk, .junk, .junk, .junk, .junk, .junk, .junk, .junk, .junk, .junk, .junk, .junk, .pv (.int .i64 e.args.length), .pv (.int .i64 i.1), .junk, .junk, .junk, .junk, .junk, .junk, .junk, .junk, .junk, .junk, .junk], [some (.cells [.pv (.int .i64 e.op), .pv (.int .i64 e.value), .pv (.str e.name), .pv (.int .i64 e.slot), .pv (.int .i64 e.size), .pv (.slice (e.args.map encEx))])]⟩) (fun i => e.args.length - i.1) ⟨0, by simp⟩ (Weak.forget rfl (pinsF (by simp) (by simp)) (by simp [wkSlots, wkObjs, ren, renL, renO, inScope, inScopeL, inScopeO, hasObj, St.obj, List.getD]) (by simp [wkSlots, wkObjs, ren, renL, renO, inScope, inScopeL, inScopeO, hasObj, St.obj, List.getD])) ?_
    rintro ⟨k, hk, heq⟩
    by_cases hlt : k < e.args.length
    · have hlt' : (k : Int) < e.args.length := by omega
      have hget := getD_map encEx e.args k hlt
      have hmem := szEs_mem e.args e.args[k] (List.getElem_mem hlt)
      rw [insEs_drop c _ k hlt] at heq
      generalize e.args[k] = x at *
      have hc := ih x (by omega) (by omega)
      unfold exA at hc
      rw [encEx_eq] at hget
      have hw : IntKind.i64.wrap ((k : Int) + 1) = ((k + 1 : Nat) : Int) := by rw [wrap64 _ (by omega) (by omega)]; rfl
      (repeat' (first | simp -implicitDefEqProofs +contextual only [kx, ↓ky, tyS, tyX3, tyX4, tyX54, tyX56, Nat.reduceAdd, Nat.reduceMul, Nat.reduceSub, Nat.reduceLT, Nat.reduceLeDiff, Nat.reduceEqDiff, Nat.reduceBEq, Int.reduceAdd, Int.reduceSub, Int.reduceMul, Int.reduceLT, Int.reduceLE, Int.reduceToNat, Int.reduceBEq, Int.reduceBNe, Int.reduceNeg, Int.reduceGT, Nat.reduceGT, Int.reduceEq, reduceCtorEq, ↓reduceIte, hlt', hlt, hget, hw] | (with_reducible first | refine SB.d (fun _ => ?_) (fun _ => ?_) | refine SB.e (fun _ => ?_) (fun _ => ?_) | refine SB.n (fun _ => ?_) (fun _ => ?_) | refine SB.b (fun _ => ?_) (fun _ => ?_) | refine And.intro (REG.ok (by kernel_rfl)) ?_ | exact REG.ok (by kernel_rfl)) | refine CK.c0 enters28 (hc) rfl rfl ?_ | refine CK.cp enters28 (fun _ => hc) rfl rfl ?_ | (with_reducible refine And.intro ?_ ?_); (focus (intros; (try simp only [decide_eq_true_eq, decide_eq_false_iff_not, beq_iff_eq, bne_iff_ne, Bool.and_eq_true, Bool.or_eq_true] at *); omega))))
      · grind
      · exact ⟨⟨k + 1, by omega, by grind⟩, (Weak.forget rfl (pinsF (by simp) (by simp)) (by simp [wkSlots, wkObjs, ren, renL, renO, inScope, inScopeL, inScopeO, hasObj, St.obj, List.getD]) (by simp [wkSlots, wkObjs, ren, renL, renO, inScope, inScopeL, inScopeO, hasObj, St.obj, List.getD])), by simp; omega⟩
    · have hlt' : ¬ (k : Int) < e.args.length := by omega
      (repeat' (first | simp -implicitDefEqProofs +contextual only [kx, ↓ky, tyS, tyX3, tyX4, tyX54, tyX56, Nat.reduceAdd, Nat.reduceMul, Nat.reduceSub, Nat.reduceLT, Nat.reduceLeDiff, Nat.reduceEqDiff, Nat.reduceBEq, Int.reduceAdd, Int.reduceSub, Int.reduceMul, Int.reduceLT, Int.reduceLE, Int.reduceToNat, Int.reduceBEq, Int.reduceBNe, Int.reduceNeg, Int.reduceGT, Nat.reduceGT, Int.reduceEq, reduceCtorEq, ↓reduceIte, hlt'] | (with_reducible first | refine SB.d (fun _ => ?_) (fun _ => ?_) | refine SB.e (fun _ => ?_) (fun _ => ?_) | refine SB.n (fun _ => ?_) (fun _ => ?_) | refine SB.b (fun _ => ?_) (fun _ => ?_) | refine And.intro (REG.ok (by kernel_rfl)) ?_ | exact REG.ok (by kernel_rfl)) | (with_reducible refine And.intro ?_ ?_); (focus (intros; (try simp only [decide_eq_true_eq, decide_eq_false_iff_not, beq_iff_eq, bne_iff_ne, Bool.and_eq_true, Bool.or_eq_true] at *); omega))))
      have : e.args.drop k = [] := List.drop_eq_nil_of_le (by omega)
      rw [this] at heq
      grind [insEs]
set_option maxRecDepth 10000 in
theorem within_ac (c : Int) (n : Nat) : ∀ l : List Sm, szSs l ≤ n → n ≤ 1000000000 → AC Tryd.prog gl 14 [.pv (.slice (l.map encSm)), .pv (.int .i64 c)] [] (.pv (.bool (witSs c l))) [] := by
  induction n with
  | zero =>
    intro l hl hn
    have := szSs_len l
    obtain rfl : l = [] := by cases l <;> simp at *; omega
    refine body0 (fun _ => 0) 1 Tryd.func14 rfl Tryd.ntmps14 (by rw [Tryd.results14]) (by simp) ?_
    (repeat' (first | simp -implicitDefEqProofs +contextual only [kx, ↓ky, tyS, tyX3, tyX4, tyX27, tyX56, tyX59, Nat.reduceAdd, Nat.reduceMul, Nat.reduceSub, Nat.reduceLT, Nat.reduceLeDiff, Nat.reduceEqDiff, Nat.reduceBEq, Int.reduceAdd, Int.reduceSub, Int.reduceMul, Int.reduceLT, Int.reduceLE, Int.reduceToNat, Int.reduceBEq, Int.reduceBNe, Int.reduceNeg, Int.reduceGT, Nat.reduceGT, Int.reduceEq, reduceCtorEq, ↓reduceIte] | (with_reducible first | refine SB.d (fun _ => ?_) (fun _ => ?_) | refine SB.e (fun _ => ?_) (fun _ => ?_) | refine SB.n (fun _ => ?_) (fun _ => ?_) | refine SB.b (fun _ => ?_) (fun _ => ?_) | refine And.intro (REG.ok (by kernel_rfl)) ?_ | exact REG.ok (by kernel_rfl)) | (with_reducible refine And.intro ?_ ?_); (focus (intros; (try simp only [decide_eq_true_eq, decide_eq_false_iff_not, beq_iff_eq, bne_iff_ne, Bool.and_eq_true, Bool.or_eq_true] at *); omega))))
    refine loopV (ι := Unit) (fun _ => ⟨(.pv (.slice []) :: .pv (.int .i64 c) :: .junk :: .junk :: .junk :: .junk :: .junk :: .junk :: .pv (.int .i64 0) :: .pv (.int .i64 0) :: .junk :: .junk :: .junk :: .junk :: .junk :: .junk :: .junk :: .junk :: .junk :: .junk :: .junk :: .junk :: .junk :: .junk :: .junk :: .junk :: .junk :: .junk :: .junk :: .junk :: .junk :: .junk :: .junk :: .junk :: .junk :: .junk :: .junk :: .junk :: .junk :: .junk :: .junk :: .junk :: .junk :: .junk :: .junk :: .junk :: .junk :: .junk :: .junk :: .junk :: .junk :: .junk :: .junk :: .junk :: .junk :: .junk :: .junk :: .junk :: .junk :: .junk :: .junk :: .junk :: .junk :: .junk :: .junk :: .junk :: []), [none]⟩) (fun _ => 0) () (Weak.forget rfl (pinsF (by simp) (by simp)) (by simp [wkSlots, wkObjs, ren, renL, renO, inScope, inScopeL, inScopeO, hasObj, St.obj, List.getD]) (by simp [wkSlots, wkObjs, ren, renL, renO, inScope, inScopeL, inScopeO, hasObj, St.obj, List.getD])) ?_
    intro _
    (repeat' (first | simp -implicitDefEqProofs +contextual only [kx, ↓ky, tyS, tyX3, tyX4, tyX27, tyX56, tyX59, Nat.reduceAdd, Nat.reduceMul, Nat.reduceSub, Nat.reduceLT, Nat.reduceLeDiff, Nat.reduceEqDiff, Nat.reduceBEq, Int.reduceAdd, Int.reduceSub, Int.reduceMul, Int.reduceLT, Int.reduceLE, Int.reduceToNat, Int.reduceBEq, Int.reduceBNe, Int.reduceNeg, Int.reduceGT, Nat.reduceGT, Int.reduceEq, reduceCtorEq, ↓reduceIte] | (with_reducible first | refine SB.d (fun _ => ?_) (fun _ => ?_) | refine SB.e (fun _ => ?_) (fun _ => ?_) | refine SB.n (fun _ => ?_) (fun _ => ?_) | refine SB.b (fun _ => ?_) (fun _ => ?_) | refine And.intro (REG.ok (by kernel_rfl)) ?_ | exact REG.ok (by kernel_rfl)) | (with_reducible refine And.intro ?_ ?_); (focus (intros; (try simp only [decide_eq_true_eq, decide_eq_false_iff_not, beq_iff_eq, bne_iff_ne, Bool.and_eq_true, Bool.or_eq_true] at *); omega))))
    simp [witSs]
  | succ n ih =>
    intro l hl hn
    have hle := szSs_len l
    refine body0 (fun _ => 0) 1 Tryd.func14 rfl Tryd.ntmps14 (by rw [Tryd.results14]) (by simp) ?_
    (repeat' (first | simp -implicitDefEqProofs +contextual only [kx, ↓ky, tyS, tyX3, tyX4, tyX27, tyX56, tyX59, Nat.reduceAdd, Nat.reduceMul, Nat.reduceSub, Nat.reduceLT, Nat.reduceLeDiff, Nat.reduceEqDiff, Nat.reduceBEq, Int.reduceAdd, Int.reduceSub, Int.reduceMul, Int.reduceLT, Int.reduceLE, Int.reduceToNat, Int.reduceBEq, Int.reduceBNe, Int.reduceNeg, Int.reduceGT, Nat.reduceGT, Int.reduceEq, reduceCtorEq, ↓reduceIte] | (with_reducible first | refine SB.d (fun _ => ?_) (fun _ => ?_) | refine SB.e (fun _ => ?_) (fun _ => ?_) | refine SB.n (fun _ => ?_) (fun _ => ?_) | refine SB.b (fun _ => ?_) (fun _ => ?_) | refine And.intro (REG.ok (by kernel_rfl)) ?_ | exact REG.ok (by kernel_rfl)) | (with_reducible refine And.intro ?_ ?_); (focus (intros; (try simp only [decide_eq_true_eq, decide_eq_false_iff_not, beq_iff_eq, bne_iff_ne, Bool.and_eq_true, Bool.or_eq_true] at *); omega))))
    refine loopV (ι := {k : Nat // k ≤ l.length ∧ witSs c (l.drop k) = witSs c l}) (fun i => ⟨(.pv (.slice (l.map encSm)) :: .pv (.int .i64 c) :: .junk :: .junk :: .junk :: .junk :: .junk :: .junk :: .pv (.int .i64 l.length) :: .pv (.int .i64 i.1) :: .junk :: .junk :: .junk :: .junk :: .junk :: .junk :: .junk :: .junk :: .junk :: .junk :: .junk :: .junk :: .junk :: .junk :: .junk :: .junk :: .junk :: .junk :: .junk :: .junk :: .junk :: .junk :: .junk :: .junk :: .junk :: .junk :: .junk :: .junk :: .junk :: .junk :: .junk :: .junk :: .junk :: .junk :: .junk :: .junk :: .junk :: .junk :: .junk :: .junk :: .junk :: .junk :: .junk :: .junk :: .junk :: .junk :: .junk :: .junk :: .junk :: .junk :: .junk :: .junk :: .junk :: .junk :: .junk :: .junk :: []), [none]⟩) (fun i => l.length - i.1) ⟨0, by simp⟩ (Weak.forget rfl (pinsF (by simp) (by simp)) (by simp [wkSlots, wkObjs, ren, renL, renO, inScope, inScopeL, inScopeO, hasObj, St.obj, List.getD]) (by simp [wkSlots, wkObjs, ren, renL, renO, inScope, inScopeL, inScopeO, hasObj, St.obj, List.getD])) ?_
    rintro ⟨k, hk, heq⟩
    by_cases hlt : k < l.length
    · have hlt' : (k : Int) < l.length := by omega
      have hget := getD_map encSm l k hlt
      have hmem := szSs_mem l l[k] (List.getElem_mem hlt)
      rw [witSs_drop c _ k hlt] at heq
      generalize l[k] = x at *
      have hsz := szS_eq x
      have h1 := szE_pos x.place
      have h2 := szE_pos x.value
      have cP := inside_ac c n x.place (by omega) (by omega)
      have cV := inside_ac c n x.value (by omega) (by omega)
      have cB := ih x.body (by omega) (by omega)
      have cE := ih x.els (by omega) (by omega)
      unfold exA at cP cV
      rw [encSm_eq] at hget
      rw [witS_eq] at heq
      generalize hO : outC (x.kind == 1) (x.kind == 2) x.slot x.size c = o at *
      unfold outC at hO
      have hw : IntKind.i64.wrap ((k : Int) + 1) = ((k + 1 : Nat) : Int) := by rw [wrap64 _ (by omega) (by omega)]; rfl
      (repeat' (first | simp -implicitDefEqProofs +contextual only [kx, ↓ky, tyS, tyX3, tyX4, tyX27, tyX56, tyX59, Nat.reduceAdd, Nat.reduceMul, Nat.reduceSub, Nat.reduceLT, Nat.reduceLeDiff, Nat.reduceEqDiff, Nat.reduceBEq, Int.reduceAdd, Int.reduceSub, Int.reduceMul, Int.reduceLT, Int.reduceLE, Int.reduceToNat, Int.reduceBEq, Int.reduceBNe, Int.reduceNeg, Int.reduceGT, Nat.reduceGT, Int.reduceEq, reduceCtorEq, ↓reduceIte, hlt', hlt, hget, hw, hO] | (with_reducible first | refine SB.d (fun _ => ?_) (fun _ => ?_) | refine SB.e (fun _ => ?_) (fun _ => ?_) | refine SB.n (fun _ => ?_) (fun _ => ?_) | refine SB.b (fun _ => ?_) (fun _ => ?_) | refine And.intro (REG.ok (by kernel_rfl)) ?_ | exact REG.ok (by kernel_rfl)) | refine CK.c0 enters28 (cP) rfl rfl ?_ | refine CK.cp enters28 (fun _ => cP) rfl rfl ?_ | refine CK.c0 enters28 (cV) rfl rfl ?_ | refine CK.cp enters28 (fun _ => cV) rfl rfl ?_ | refine CK.c0 enters14 (cB) rfl rfl ?_ | refine CK.cp enters14 (fun _ => cB) rfl rfl ?_ | refine CK.c0 enters14 (cE) rfl rfl ?_ | refine CK.cp enters14 (fun _ => cE) rfl rfl ?_ | (with_reducible refine And.intro ?_ ?_); (focus (intros; (try simp only [decide_eq_true_eq, decide_eq_false_iff_not, beq_iff_eq, bne_iff_ne, Bool.and_eq_true, Bool.or_eq_true] at *); omega))))
      · grind
      · grind
      · exact ⟨⟨k + 1, by omega, by grind⟩, (Weak.forget rfl (pinsF (by simp) (by simp)) (by simp [wkSlots, wkObjs, ren, renL, renO, inScope, inScopeL, inScopeO, hasObj, St.obj, List.getD]) (by simp [wkSlots, wkObjs, ren, renL, renO, inScope, inScopeL, inScopeO, hasObj, St.obj, List.getD])), by simp; omega⟩
    · have hlt' : ¬ (k : Int) < l.length := by omega
      (repeat' (first | simp -implicitDefEqProofs +contextual only [kx, ↓ky, tyS, tyX3, tyX4, tyX27, tyX56, tyX59, Nat.reduceAdd, Nat.reduceMul, Nat.reduceSub, Nat.reduceLT, Nat.reduceLeDiff, Nat.reduceEqDiff, Nat.reduceBEq, Int.reduceAdd, Int.reduceSub, Int.reduceMul, Int.reduceLT, Int.reduceLE, Int.reduceToNat, Int.reduceBEq, Int.reduceBNe, Int.reduceNeg, Int.reduceGT, Nat.reduceGT, Int.reduceEq, reduceCtorEq, ↓reduceIte, hlt'] | (with_reducible first | refine SB.d (fun _ => ?_) (fun _ => ?_) | refine SB.e (fun _ => ?_) (fun _ => ?_) | refine SB.n (fun _ => ?_) (fun _ => ?_) | refine SB.b (fun _ => ?_) (fun _ => ?_) | refine And.intro (REG.ok (by kernel_rfl)) ?_ | exact REG.ok (by kernel_rfl)) | (with_reducible refine And.intro ?_ ?_); (focus (intros; (try simp only [decide_eq_true_eq, decide_eq_false_iff_not, beq_iff_eq, bne_iff_ne, Bool.and_eq_true, Bool.or_eq_true] at *); omega))))
      have : l.drop k = [] := List.drop_eq_nil_of_le (by omega)
      rw [this] at heq
      grind [witSs]
end Go.Proofs.YtlgilgaiibdgoaaDoor
