/- A part of the walk (Tryd_G2): its theorems have no condition beyond what they state. -/
import Derived.Test.YtlgilgaiibdgoaaDoorB5
import Derived.Test.YtlgilgaiibdgoaaDoorLib3
set_option linter.unusedSimpArgs false
set_option linter.unusedVariables false
set_option linter.defProp false
namespace Go.Proofs.YtlgilgaiibdgoaaDoor
open Go Go.Abs

set_option maxRecDepth 10000 in
theorem other_ac (n : Nat) : ∀ e : Ex, szE e ≤ n → n ≤ 1000000000 → nmE e → AC Tryd.prog gl 29 [exA e] [] (exA (othE e)) [] := by
  induction n with
  | zero => intro e he; have := szE_pos e; omega
  | succ n ih =>
    intro e he hn hnm
    rw [nmE_eq] at hnm
    have hsz := szE_eq e
    have hle := szEs_len e.args
    rw [othE_eq]
    unfold exA
    simp only [Ex.op_mk, Ex.value_mk, Ex.name_mk, Ex.slot_mk, Ex.size_mk, Ex.args_mk]
    have hm1 := @nn_cons e.name
    refine body0 (fun d => if d = 1 then 0 else if d = 2 then 1 else 3) 4 Tryd.func29 rfl Tryd.ntmps29 (by rw [Tryd.results29]) (by simp) ?_
    by_cases h0 : e.name = []
    · have hm : nn e.name = [] := by rw [h0, nn_nil]
      (repeat' (first | simp -implicitDefEqProofs +contextual only [kx, ↓ky, tyS, tyX3, tyX9, tyX54, tyX56, Nat.reduceAdd, Nat.reduceMul, Nat.reduceSub, Nat.reduceLT, Nat.reduceLeDiff, Nat.reduceEqDiff, Nat.reduceBEq, Int.reduceAdd, Int.reduceSub, Int.reduceMul, Int.reduceLT, Int.reduceLE, Int.reduceToNat, Int.reduceBEq, Int.reduceBNe, Int.reduceNeg, Int.reduceGT, Nat.reduceGT, Int.reduceEq, reduceCtorEq, ↓reduceIte, h0] | (with_reducible first | refine SB.d (fun _ => ?_) (fun _ => ?_) | refine SB.e (fun _ => ?_) (fun _ => ?_) | refine SB.n (fun _ => ?_) (fun _ => ?_) | refine SB.b (fun _ => ?_) (fun _ => ?_) | refine And.intro (REG.ok (by kernel_rfl)) ?_ | exact REG.ok (by kernel_rfl)) | (with_reducible refine And.intro ?_ ?_); (focus (intros; (try simp only [decide_eq_true_eq, decide_eq_false_iff_not, beq_iff_eq, bne_iff_ne, Bool.and_eq_true, Bool.or_eq_true] at *); omega))))
      (refine LW.weak (Weak.nilRow 3 2 6 rfl rfl (by decide)) ?_; simp only [List.set_cons_zero, List.set_cons_succ])
      refine loopV (ι := {k : Nat // k ≤ e.args.length}) (fun i => ⟨[.junk, .ref 0 0, .ref 1 0, .row 2 i.1, .junk, .junk, .junk, .junk, .junk, .junk, .junk, .junk, .junk, .junk, .pv (.int .i64 e.args.length), .pv (.int .i64 i.1), .junk, .junk, .junk, .junk, .junk, .junk, .junk, .junk, .junk, .junk, .junk, .junk, .junk, .junk, .junk], [some (.cells [.pv (.int .i64 e.op), .pv (.int .i64 e.value), .pv (.str (nn e.name)), .pv (.int .i64 e.slot), .pv (.int .i64 e.size), .pv (.slice (e.args.map encEx))]), some (.cells [.pv (.int .i64 0), .pv (.int .i64 0), .pv (.str []), .pv (.int .i64 0), .pv (.int .i64 0), .snil]), some (.row 6 (((e.args.take i.1).map othE).map encEx)), none]⟩) (fun i => e.args.length - i.1) ⟨0, by simp⟩ (Weak.forget rfl (pinsF (by simp) (by simp)) (by simp [wkSlots, wkObjs, ren, renL, renO, inScope, inScopeL, inScopeO, hasObj, St.obj, List.getD, hm]) (by simp [wkSlots, wkObjs, ren, renL, renO, inScope, inScopeL, inScopeO, hasObj, St.obj, List.getD, hm])) ?_
      rintro ⟨k, hk⟩
      clear hm hm1
      by_cases hlt : k < e.args.length
      · have hlt' : (k : Int) < e.args.length := by omega
        have hget := getD_map encEx e.args k hlt
        have hmem := szEs_mem e.args e.args[k] (List.getElem_mem hlt)
        have hsn := mapTake othE e.args k hlt
        have hc := ih e.args[k] (by omega) (by omega) (nmEs_mem _ _ hnm.2 (List.getElem_mem hlt))
        have hrl := mapTakeLen othE e.args k hk
        generalize (e.args.take k).map othE = r at *
        generalize e.args[k] = x at *
        have hye := encEx_eq (othE x)
        unfold exA at hc
        rw [encEx_eq] at hget
        have hw : IntKind.i64.wrap ((k : Int) + 1) = ((k + 1 : Nat) : Int) := by rw [wrap64 _ (by omega) (by omega)]; rfl
        have hrm := roomL (k + 1) 72 (by omega)
        (repeat' (first | simp -implicitDefEqProofs +contextual only [kx, ↓ky, tyS, tyX3, tyX9, tyX54, tyX56, Nat.reduceAdd, Nat.reduceMul, Nat.reduceSub, Nat.reduceLT, Nat.reduceLeDiff, Nat.reduceEqDiff, Nat.reduceBEq, Int.reduceAdd, Int.reduceSub, Int.reduceMul, Int.reduceLT, Int.reduceLE, Int.reduceToNat, Int.reduceBEq, Int.reduceBNe, Int.reduceNeg, Int.reduceGT, Nat.reduceGT, Int.reduceEq, reduceCtorEq, ↓reduceIte, hlt', hlt, hget, hw, hrl, hrm] | (with_reducible first | refine SB.d (fun _ => ?_) (fun _ => ?_) | refine SB.e (fun _ => ?_) (fun _ => ?_) | refine SB.n (fun _ => ?_) (fun _ => ?_) | refine SB.b (fun _ => ?_) (fun _ => ?_) | refine And.intro (REG.ok (by kernel_rfl)) ?_ | exact REG.ok (by kernel_rfl)) | refine CK.c0 enters29 (hc) rfl rfl ?_ | refine CK.cp enters29 (fun _ => hc) rfl rfl ?_ | (with_reducible refine And.intro ?_ ?_); (focus (intros; (try simp only [decide_eq_true_eq, decide_eq_false_iff_not, beq_iff_eq, bne_iff_ne, Bool.and_eq_true, Bool.or_eq_true] at *); omega))))
        exact ⟨⟨k + 1, by omega⟩, (Weak.wk [0, 1, 3, 2] rfl rfl (by decide) (pinsT (by first | decide | (simp only [List.length_cons, List.length_nil]; decide)) (by simp) (by simp)) (by simp [wkSlots, wkObjs, ren, renL, renO, inScope, inScopeL, inScopeO, hasObj, St.obj, List.getD, tau, hsn, hye]) (by simp [wkSlots, wkObjs, ren, renL, renO, inScope, inScopeL, inScopeO, hasObj, St.obj, List.getD, tau, hsn, hye])), by simp; omega⟩
      · have hlt' : ¬ (k : Int) < e.args.length := by omega
        have hke : k = e.args.length := by omega
        subst hke
        (repeat' (first | simp -implicitDefEqProofs +contextual only [kx, ↓ky, tyS, tyX3, tyX9, tyX54, tyX56, Nat.reduceAdd, Nat.reduceMul, Nat.reduceSub, Nat.reduceLT, Nat.reduceLeDiff, Nat.reduceEqDiff, Nat.reduceBEq, Int.reduceAdd, Int.reduceSub, Int.reduceMul, Int.reduceLT, Int.reduceLE, Int.reduceToNat, Int.reduceBEq, Int.reduceBNe, Int.reduceNeg, Int.reduceGT, Nat.reduceGT, Int.reduceEq, reduceCtorEq, ↓reduceIte, hlt'] | (with_reducible first | refine SB.d (fun _ => ?_) (fun _ => ?_) | refine SB.e (fun _ => ?_) (fun _ => ?_) | refine SB.n (fun _ => ?_) (fun _ => ?_) | refine SB.b (fun _ => ?_) (fun _ => ?_) | refine And.intro (REG.ok (by kernel_rfl)) ?_ | exact REG.ok (by kernel_rfl)) | (with_reducible refine And.intro ?_ ?_); (focus (intros; (try simp only [decide_eq_true_eq, decide_eq_false_iff_not, beq_iff_eq, bne_iff_ne, Bool.and_eq_true, Bool.or_eq_true] at *); omega))))
        simp
    · have hm := hm1 h0
      have h0' : (e.name == []) = false := by simpa using h0
      (repeat' (first | simp -implicitDefEqProofs +contextual only [kx, ↓ky, tyS, tyX3, tyX9, tyX54, tyX56, Nat.reduceAdd, Nat.reduceMul, Nat.reduceSub, Nat.reduceLT, Nat.reduceLeDiff, Nat.reduceEqDiff, Nat.reduceBEq, Int.reduceAdd, Int.reduceSub, Int.reduceMul, Int.reduceLT, Int.reduceLE, Int.reduceToNat, Int.reduceBEq, Int.reduceBNe, Int.reduceNeg, Int.reduceGT, Nat.reduceGT, Int.reduceEq, reduceCtorEq, ↓reduceIte, h0'] | (with_reducible first | refine SB.d (fun _ => ?_) (fun _ => ?_) | refine SB.e (fun _ => ?_) (fun _ => ?_) | refine SB.n (fun _ => ?_) (fun _ => ?_) | refine SB.b (fun _ => ?_) (fun _ => ?_) | refine And.intro (REG.ok (by kernel_rfl)) ?_ | exact REG.ok (by kernel_rfl)) | (with_reducible refine And.intro ?_ ?_); (focus (intros; (try simp only [decide_eq_true_eq, decide_eq_false_iff_not, beq_iff_eq, bne_iff_ne, Bool.and_eq_true, Bool.or_eq_true] at *); omega))))
      (refine LW.weak (Weak.nilRow 3 2 6 rfl rfl (by decide)) ?_; simp only [List.set_cons_zero, List.set_cons_succ])
      refine loopV (ι := {k : Nat // k ≤ e.args.length}) (fun i => ⟨[.junk, .ref 0 0, .ref 1 0, .row 2 i.1, .junk, .junk, .junk, .junk, .junk, .junk, .junk, .junk, .junk, .junk, .pv (.int .i64 e.args.length), .pv (.int .i64 i.1), .junk, .junk, .junk, .junk, .junk, .junk, .junk, .junk, .junk, .junk, .junk, .junk, .junk, .junk, .junk], [some (.cells [.pv (.int .i64 e.op), .pv (.int .i64 e.value), .pv (.str (nn e.name)), .pv (.int .i64 e.slot), .pv (.int .i64 e.size), .pv (.slice (e.args.map encEx))]), some (.cells [.pv (.int .i64 0), .pv (.int .i64 0), .pv (.str []), .pv (.int .i64 0), .pv (.int .i64 0), .snil]), some (.row 6 (((e.args.take i.1).map othE).map encEx)), none]⟩) (fun i => e.args.length - i.1) ⟨0, by simp⟩ (Weak.forget rfl (pinsF (by simp) (by simp)) (by simp [wkSlots, wkObjs, ren, renL, renO, inScope, inScopeL, inScopeO, hasObj, St.obj, List.getD, hm]) (by simp [wkSlots, wkObjs, ren, renL, renO, inScope, inScopeL, inScopeO, hasObj, St.obj, List.getD, hm])) ?_
      rintro ⟨k, hk⟩
      clear hm hm1
      by_cases hlt : k < e.args.length
      · have hlt' : (k : Int) < e.args.length := by omega
        have hget := getD_map encEx e.args k hlt
        have hmem := szEs_mem e.args e.args[k] (List.getElem_mem hlt)
        have hsn := mapTake othE e.args k hlt
        have hc := ih e.args[k] (by omega) (by omega) (nmEs_mem _ _ hnm.2 (List.getElem_mem hlt))
        have hrl := mapTakeLen othE e.args k hk
        generalize (e.args.take k).map othE = r at *
        generalize e.args[k] = x at *
        have hye := encEx_eq (othE x)
        unfold exA at hc
        rw [encEx_eq] at hget
        have hw : IntKind.i64.wrap ((k : Int) + 1) = ((k + 1 : Nat) : Int) := by rw [wrap64 _ (by omega) (by omega)]; rfl
        have hrm := roomL (k + 1) 72 (by omega)
        (repeat' (first | simp -implicitDefEqProofs +contextual only [kx, ↓ky, tyS, tyX3, tyX9, tyX54, tyX56, Nat.reduceAdd, Nat.reduceMul, Nat.reduceSub, Nat.reduceLT, Nat.reduceLeDiff, Nat.reduceEqDiff, Nat.reduceBEq, Int.reduceAdd, Int.reduceSub, Int.reduceMul, Int.reduceLT, Int.reduceLE, Int.reduceToNat, Int.reduceBEq, Int.reduceBNe, Int.reduceNeg, Int.reduceGT, Nat.reduceGT, Int.reduceEq, reduceCtorEq, ↓reduceIte, hlt', hlt, hget, hw, hrl, hrm] | (with_reducible first | refine SB.d (fun _ => ?_) (fun _ => ?_) | refine SB.e (fun _ => ?_) (fun _ => ?_) | refine SB.n (fun _ => ?_) (fun _ => ?_) | refine SB.b (fun _ => ?_) (fun _ => ?_) | refine And.intro (REG.ok (by kernel_rfl)) ?_ | exact REG.ok (by kernel_rfl)) | refine CK.c0 enters29 (hc) rfl rfl ?_ | refine CK.cp enters29 (fun _ => hc) rfl rfl ?_ | (with_reducible refine And.intro ?_ ?_); (focus (intros; (try simp only [decide_eq_true_eq, decide_eq_false_iff_not, beq_iff_eq, bne_iff_ne, Bool.and_eq_true, Bool.or_eq_true] at *); omega))))
        exact ⟨⟨k + 1, by omega⟩, (Weak.wk [0, 1, 3, 2] rfl rfl (by decide) (pinsT (by first | decide | (simp only [List.length_cons, List.length_nil]; decide)) (by simp) (by simp)) (by simp [wkSlots, wkObjs, ren, renL, renO, inScope, inScopeL, inScopeO, hasObj, St.obj, List.getD, tau, hsn, hye]) (by simp [wkSlots, wkObjs, ren, renL, renO, inScope, inScopeL, inScopeO, hasObj, St.obj, List.getD, tau, hsn, hye])), by simp; omega⟩
      · have hlt' : ¬ (k : Int) < e.args.length := by omega
        have hke : k = e.args.length := by omega
        subst hke
        (repeat' (first | simp -implicitDefEqProofs +contextual only [kx, ↓ky, tyS, tyX3, tyX9, tyX54, tyX56, Nat.reduceAdd, Nat.reduceMul, Nat.reduceSub, Nat.reduceLT, Nat.reduceLeDiff, Nat.reduceEqDiff, Nat.reduceBEq, Int.reduceAdd, Int.reduceSub, Int.reduceMul, Int.reduceLT, Int.reduceLE, Int.reduceToNat, Int.reduceBEq, Int.reduceBNe, Int.reduceNeg, Int.reduceGT, Nat.reduceGT, Int.reduceEq, reduceCtorEq, ↓reduceIte, hlt'] | (with_reducible first | refine SB.d (fun _ => ?_) (fun _ => ?_) | refine SB.e (fun _ => ?_) (fun _ => ?_) | refine SB.n (fun _ => ?_) (fun _ => ?_) | refine SB.b (fun _ => ?_) (fun _ => ?_) | refine And.intro (REG.ok (by kernel_rfl)) ?_ | exact REG.ok (by kernel_rfl)) | (with_reducible refine And.intro ?_ ?_); (focus (intros; (try simp only [decide_eq_true_eq, decide_eq_false_iff_not, beq_iff_eq, bne_iff_ne, Bool.and_eq_true, Bool.or_eq_true] at *); omega))))
        simp
set_option maxRecDepth 10000 in
theorem rename_ac (n : Nat) : ∀ l : List Sm, szSs l ≤ n → n ≤ 1000000000 → nmSs l → AC Tryd.prog gl 15 [.pv (.slice (l.map encSm))] [] (.pv (.slice ((rnSs l).map encSm))) [] := by
  induction n with
  | zero =>
    intro l hl hn hnm
    have := szSs_len l
    obtain rfl : l = [] := by cases l <;> simp at *; omega
    refine body0 (fun d => if d = 5 then 0 else 2) 3 Tryd.func15 rfl Tryd.ntmps15 (by rw [Tryd.results15]) (by simp) ?_
    (repeat' (first | simp -implicitDefEqProofs +contextual only [kx, ↓ky, tyS, tyX3, tyX9, tyX27, tyX56, tyX59, Nat.reduceAdd, Nat.reduceMul, Nat.reduceSub, Nat.reduceLT, Nat.reduceLeDiff, Nat.reduceEqDiff, Nat.reduceBEq, Int.reduceAdd, Int.reduceSub, Int.reduceMul, Int.reduceLT, Int.reduceLE, Int.reduceToNat, Int.reduceBEq, Int.reduceBNe, Int.reduceNeg, Int.reduceGT, Nat.reduceGT, Int.reduceEq, reduceCtorEq, ↓reduceIte] | (with_reducible first | refine SB.d (fun _ => ?_) (fun _ => ?_) | refine SB.e (fun _ => ?_) (fun _ => ?_) | refine SB.n (fun _ => ?_) (fun _ => ?_) | refine SB.b (fun _ => ?_) (fun _ => ?_) | refine And.intro (REG.ok (by kernel_rfl)) ?_ | exact REG.ok (by kernel_rfl)) | (with_reducible refine And.intro ?_ ?_); (focus (intros; (try simp only [decide_eq_true_eq, decide_eq_false_iff_not, beq_iff_eq, bne_iff_ne, Bool.and_eq_true, Bool.or_eq_true] at *); omega))))
    refine loopV (ι := Unit) (fun _ => ⟨[.pv (.slice []), .junk, .junk, .snil, .junk, .junk, .junk, .pv (.int .i64 0), .pv (.int .i64 0), .junk, .junk, .junk, .junk, .junk, .junk, .junk, .junk, .junk, .junk, .junk, .junk, .junk, .junk, .junk, .junk, .junk, .junk, .junk, .junk, .junk, .junk, .junk, .junk, .junk, .junk, .junk, .junk, .junk, .junk, .junk, .junk, .junk, .junk, .junk], [none, none, none]⟩) (fun _ => 0) () (Weak.forget rfl (pinsF (by simp) (by simp)) (by simp [wkSlots, wkObjs, ren, renL, renO, inScope, inScopeL, inScopeO, hasObj, St.obj, List.getD]) (by simp [wkSlots, wkObjs, ren, renL, renO, inScope, inScopeL, inScopeO, hasObj, St.obj, List.getD])) ?_
    intro _
    (repeat' (first | simp -implicitDefEqProofs +contextual only [kx, ↓ky, tyS, tyX3, tyX9, tyX27, tyX56, tyX59, Nat.reduceAdd, Nat.reduceMul, Nat.reduceSub, Nat.reduceLT, Nat.reduceLeDiff, Nat.reduceEqDiff, Nat.reduceBEq, Int.reduceAdd, Int.reduceSub, Int.reduceMul, Int.reduceLT, Int.reduceLE, Int.reduceToNat, Int.reduceBEq, Int.reduceBNe, Int.reduceNeg, Int.reduceGT, Nat.reduceGT, Int.reduceEq, reduceCtorEq, ↓reduceIte] | (with_reducible first | refine SB.d (fun _ => ?_) (fun _ => ?_) | refine SB.e (fun _ => ?_) (fun _ => ?_) | refine SB.n (fun _ => ?_) (fun _ => ?_) | refine SB.b (fun _ => ?_) (fun _ => ?_) | refine And.intro (REG.ok (by kernel_rfl)) ?_ | exact REG.ok (by kernel_rfl)) | (with_reducible refine And.intro ?_ ?_); (focus (intros; (try simp only [decide_eq_true_eq, decide_eq_false_iff_not, beq_iff_eq, bne_iff_ne, Bool.and_eq_true, Bool.or_eq_true] at *); omega))))
    simp [rnSs]
  | succ n ih =>
    intro l hl hn hnm
    have hle := szSs_len l
    rw [rnSs_map]
    refine body0 (fun d => if d = 5 then 0 else 2) 3 Tryd.func15 rfl Tryd.ntmps15 (by rw [Tryd.results15]) (by simp) ?_
    (repeat' (first | simp -implicitDefEqProofs +contextual only [kx, ↓ky, tyS, tyX3, tyX9, tyX27, tyX56, tyX59, Nat.reduceAdd, Nat.reduceMul, Nat.reduceSub, Nat.reduceLT, Nat.reduceLeDiff, Nat.reduceEqDiff, Nat.reduceBEq, Int.reduceAdd, Int.reduceSub, Int.reduceMul, Int.reduceLT, Int.reduceLE, Int.reduceToNat, Int.reduceBEq, Int.reduceBNe, Int.reduceNeg, Int.reduceGT, Nat.reduceGT, Int.reduceEq, reduceCtorEq, ↓reduceIte] | (with_reducible first | refine SB.d (fun _ => ?_) (fun _ => ?_) | refine SB.e (fun _ => ?_) (fun _ => ?_) | refine SB.n (fun _ => ?_) (fun _ => ?_) | refine SB.b (fun _ => ?_) (fun _ => ?_) | refine And.intro (REG.ok (by kernel_rfl)) ?_ | exact REG.ok (by kernel_rfl)) | (with_reducible refine And.intro ?_ ?_); (focus (intros; (try simp only [decide_eq_true_eq, decide_eq_false_iff_not, beq_iff_eq, bne_iff_ne, Bool.and_eq_true, Bool.or_eq_true] at *); omega))))
    (refine LW.weak (Weak.nilRow 3 1 18 rfl rfl (by decide)) ?_; simp only [List.set_cons_zero, List.set_cons_succ])
    refine loopV (ι := {k : Nat // k ≤ l.length}) (fun i => ⟨[.pv (.slice (l.map encSm)), .junk, .junk, .row 1 i.1, .junk, .junk, .junk, .pv (.int .i64 l.length), .pv (.int .i64 i.1), .junk, .junk, .junk, .junk, .junk, .junk, .junk, .junk, .junk, .junk, .junk, .junk, .junk, .junk, .junk, .junk, .junk, .junk, .junk, .junk, .junk, .junk, .junk, .junk, .junk, .junk, .junk, .junk, .junk, .junk, .junk, .junk, .junk, .junk, .junk], [none, some (.row 18 (((l.take i.1).map rnS).map encSm)), none]⟩) (fun i => l.length - i.1) ⟨0, by simp⟩ (Weak.forget rfl (pinsF (by simp) (by simp)) (by simp [wkSlots, wkObjs, ren, renL, renO, inScope, inScopeL, inScopeO, hasObj, St.obj, List.getD]) (by simp [wkSlots, wkObjs, ren, renL, renO, inScope, inScopeL, inScopeO, hasObj, St.obj, List.getD])) ?_
    rintro ⟨k, hk⟩
    by_cases hlt : k < l.length
    · have hlt' : (k : Int) < l.length := by omega
      have hget := getD_map encSm l k hlt
      have hmem := szSs_mem l l[k] (List.getElem_mem hlt)
      have hnx := nmSs_mem _ _ hnm (List.getElem_mem hlt)
      have hsn := mapTake rnS l k hlt
      have hrl := mapTakeLen rnS l k hk
      generalize (l.take k).map rnS = r at *
      generalize l[k] = x at *
      have hsz := szS_eq x
      have h1 := szE_pos x.place
      have h2 := szE_pos x.value
      rw [nmS_eq] at hnx
      have cP := other_ac n x.place (by omega) (by omega) hnx.2.1
      have cV := other_ac n x.value (by omega) (by omega) hnx.2.2.1
      have cB := ih x.body (by omega) (by omega) hnx.2.2.2.1
      have cE := ih x.els (by omega) (by omega) hnx.2.2.2.2
      have hye := encSm_eq (rnS x)
      conv at hye => rhs; rw [rnS_eq]
      simp only [Sm.kind_mk, Sm.name_mk, Sm.slot_mk, Sm.size_mk, Sm.place_mk, Sm.value_mk, Sm.body_mk, Sm.els_mk, ← rnSs_map] at hye
      unfold exA at cP cV
      rw [encSm_eq] at hget
      have hw := wrapS k (by omega)
      have hrm := roomL (k + 1) 232 (by omega)
      by_cases h0 : x.name = []
      · rw [h0, nn_nil] at hye
        rw [h0] at hget
        (repeat' (first | simp -implicitDefEqProofs +contextual only [kx, ↓ky, tyS, tyX3, tyX9, tyX27, tyX56, tyX59, Nat.reduceAdd, Nat.reduceMul, Nat.reduceSub, Nat.reduceLT, Nat.reduceLeDiff, Nat.reduceEqDiff, Nat.reduceBEq, Int.reduceAdd, Int.reduceSub, Int.reduceMul, Int.reduceLT, Int.reduceLE, Int.reduceToNat, Int.reduceBEq, Int.reduceBNe, Int.reduceNeg, Int.reduceGT, Nat.reduceGT, Int.reduceEq, reduceCtorEq, ↓reduceIte, hlt', hlt, hget, hw, hrl, hrm] | (with_reducible first | refine SB.d (fun _ => ?_) (fun _ => ?_) | refine SB.e (fun _ => ?_) (fun _ => ?_) | refine SB.n (fun _ => ?_) (fun _ => ?_) | refine SB.b (fun _ => ?_) (fun _ => ?_) | refine And.intro (REG.ok (by kernel_rfl)) ?_ | exact REG.ok (by kernel_rfl)) | refine CK.c0 enters29 (cP) rfl rfl ?_ | refine CK.cp enters29 (fun _ => cP) rfl rfl ?_ | refine CK.c0 enters29 (cV) rfl rfl ?_ | refine CK.cp enters29 (fun _ => cV) rfl rfl ?_ | refine CK.c0 enters15 (cB) rfl rfl ?_ | refine CK.cp enters15 (fun _ => cB) rfl rfl ?_ | refine CK.c0 enters15 (cE) rfl rfl ?_ | refine CK.cp enters15 (fun _ => cE) rfl rfl ?_ | (with_reducible refine And.intro ?_ ?_); (focus (intros; (try simp only [decide_eq_true_eq, decide_eq_false_iff_not, beq_iff_eq, bne_iff_ne, Bool.and_eq_true, Bool.or_eq_true] at *); omega))))
        exact ⟨⟨k + 1, by omega⟩, (Weak.wk [0, 2, 1] rfl rfl (by decide) (pinsT (by first | decide | (simp only [List.length_cons, List.length_nil]; decide)) (by simp) (by simp)) (by simp [wkSlots, wkObjs, ren, renL, renO, inScope, inScopeL, inScopeO, hasObj, St.obj, List.getD, tau, hsn, hye]) (by simp [wkSlots, wkObjs, ren, renL, renO, inScope, inScopeL, inScopeO, hasObj, St.obj, List.getD, tau, hsn, hye])), by simp; omega⟩
      · have h0' : (x.name == []) = false := by simpa using h0
        rw [nn_cons h0] at hye
        (repeat' (first | simp -implicitDefEqProofs +contextual only [kx, ↓ky, tyS, tyX3, tyX9, tyX27, tyX56, tyX59, Nat.reduceAdd, Nat.reduceMul, Nat.reduceSub, Nat.reduceLT, Nat.reduceLeDiff, Nat.reduceEqDiff, Nat.reduceBEq, Int.reduceAdd, Int.reduceSub, Int.reduceMul, Int.reduceLT, Int.reduceLE, Int.reduceToNat, Int.reduceBEq, Int.reduceBNe, Int.reduceNeg, Int.reduceGT, Nat.reduceGT, Int.reduceEq, reduceCtorEq, ↓reduceIte, hlt', hlt, hget, hw, hrl, hrm, h0'] | (with_reducible first | refine SB.d (fun _ => ?_) (fun _ => ?_) | refine SB.e (fun _ => ?_) (fun _ => ?_) | refine SB.n (fun _ => ?_) (fun _ => ?_) | refine SB.b (fun _ => ?_) (fun _ => ?_) | refine And.intro (REG.ok (by kernel_rfl)) ?_ | exact REG.ok (by kernel_rfl)) | refine CK.c0 enters29 (cP) rfl rfl ?_ | refine CK.cp enters29 (fun _ => cP) rfl rfl ?_ | refine CK.c0 enters29 (cV) rfl rfl ?_ | refine CK.cp enters29 (fun _ => cV) rfl rfl ?_ | refine CK.c0 enters15 (cB) rfl rfl ?_ | refine CK.cp enters15 (fun _ => cB) rfl rfl ?_ | refine CK.c0 enters15 (cE) rfl rfl ?_ | refine CK.cp enters15 (fun _ => cE) rfl rfl ?_ | (with_reducible refine And.intro ?_ ?_); (focus (intros; (try simp only [decide_eq_true_eq, decide_eq_false_iff_not, beq_iff_eq, bne_iff_ne, Bool.and_eq_true, Bool.or_eq_true] at *); omega))))
        exact ⟨⟨k + 1, by omega⟩, (Weak.wk [0, 2, 1] rfl rfl (by decide) (pinsT (by first | decide | (simp only [List.length_cons, List.length_nil]; decide)) (by simp) (by simp)) (by simp [wkSlots, wkObjs, ren, renL, renO, inScope, inScopeL, inScopeO, hasObj, St.obj, List.getD, tau, hsn, hye]) (by simp [wkSlots, wkObjs, ren, renL, renO, inScope, inScopeL, inScopeO, hasObj, St.obj, List.getD, tau, hsn, hye])), by simp; omega⟩
    · have hlt' : ¬ (k : Int) < l.length := by omega
      have hke : k = l.length := by omega
      subst hke
      (repeat' (first | simp -implicitDefEqProofs +contextual only [kx, ↓ky, tyS, tyX3, tyX9, tyX27, tyX56, tyX59, Nat.reduceAdd, Nat.reduceMul, Nat.reduceSub, Nat.reduceLT, Nat.reduceLeDiff, Nat.reduceEqDiff, Nat.reduceBEq, Int.reduceAdd, Int.reduceSub, Int.reduceMul, Int.reduceLT, Int.reduceLE, Int.reduceToNat, Int.reduceBEq, Int.reduceBNe, Int.reduceNeg, Int.reduceGT, Nat.reduceGT, Int.reduceEq, reduceCtorEq, ↓reduceIte, hlt'] | (with_reducible first | refine SB.d (fun _ => ?_) (fun _ => ?_) | refine SB.e (fun _ => ?_) (fun _ => ?_) | refine SB.n (fun _ => ?_) (fun _ => ?_) | refine SB.b (fun _ => ?_) (fun _ => ?_) | refine And.intro (REG.ok (by kernel_rfl)) ?_ | exact REG.ok (by kernel_rfl)) | (with_reducible refine And.intro ?_ ?_); (focus (intros; (try simp only [decide_eq_true_eq, decide_eq_false_iff_not, beq_iff_eq, bne_iff_ne, Bool.and_eq_true, Bool.or_eq_true] at *); omega))))
      simp
end Go.Proofs.YtlgilgaiibdgoaaDoor
