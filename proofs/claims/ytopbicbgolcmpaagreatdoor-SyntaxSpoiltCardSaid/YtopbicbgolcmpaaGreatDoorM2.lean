/- A part of the walk (Tryz_M2): its theorems have no condition beyond what they state. -/
import Derived.Test.YtopbicbgolcmpaaGreatDoorM1
import Derived.Test.YtopbicbgolcmpaaGreatDoorLib3
set_option linter.unusedSimpArgs false
set_option linter.unusedVariables false
set_option linter.defProp false
namespace Go.Proofs.YtopbicbgolcmpaaGreatDoor
open Go Go.Abs
structure StI (xs : List UInt8) (rec : Int → Nat → List Sm × Nat) (small : Bool) (R : List Sm × Nat) where
  n : Nat
  L : List Sm
  a : Nat
  ha : a ≤ xs.length
  hn : L.length + n ≤ 1000
  eq : (L ++ (stmtsLoop xs rec small n a).1, (stmtsLoop xs rec small n a).2) = R
set_option maxRecDepth 100000 in
set_option maxHeartbeats 16000000 in
theorem stmts_small (xs : List UInt8) (hxs : xs.length ≤ 1000) (d : Nat) (hd : d ≤ 1000) (hs : d ≤ 1) (rec : Int → Nat → List Sm × Nat) (hr : ∀ m a, a ≤ xs.length → (rec m a).2 ≤ xs.length)
    (hrec : 1 < d → ∀ (m : Int) (a : Nat), 0 ≤ m → m ≤ 10 → a ≤ xs.length → AC Tryz.prog gl 28 [.ref 0 0, .pv (.int .i64 m), .pv (.int .i64 ((d : Int) - 1))] (cdO xs a) (.pv (.slice ((rec m a).1.map encSm))) (cdO xs (rec m a).2))
    (most : Int) (hm0 : 0 ≤ most) (hm1 : most ≤ 10) (a0 : Nat) (ha0 : a0 ≤ xs.length) :
    AC Tryz.prog gl 28 [.ref 0 0, .pv (.int .i64 most), .pv (.int .i64 d)] (cdO xs a0) (.pv (.slice ((stmtsTop xs rec true most a0).1.map encSm))) (cdO xs (stmtsTop xs rec true most a0).2) := by
  have hs' : (d : Int) ≤ 1 := by omega
  have hwd : IntKind.i64.wrap ((d : Int) - 1) = (d : Int) - 1 := wrap64 _ (by omega) (by omega)
  have hwm : IntKind.i64.wrap (most + 1) = most + 1 := wrap64 _ (by omega) (by omega)
  have cN := cnx_ac xs a0 (most + 1) (by omega) (by omega) (by omega)
  have hN := nxt_lt xs a0 (most + 1) (by omega)
  have hNl := nxt_le xs a0 (most + 1) ha0
  unfold stmtsTop
  generalize nxt xs a0 (most + 1) = N at *
  obtain ⟨N1, hN1⟩ := Int.eq_ofNat_of_zero_le hN.1
  rw [hN1, Int.toNat_natCast]
  rw [hN1] at cN
  obtain ⟨R, hR⟩ : ∃ R, R = stmtsLoop xs rec true N1 N.2 := ⟨_, rfl⟩
  rw [← hR]
  have w0 : IntKind.i64.wrap 0 = 0 := by decide
  have w1 : IntKind.i64.wrap 1 = 1 := by decide
  have w2 : IntKind.i64.wrap 2 = 2 := by decide
  refine bodyW (fun _ => 2) 3 Tryz.func28 rfl Tryz.ntmps28 (by rw [Tryz.results28]) (by simp) (by simp) ?_
  (repeat' (first | simp -implicitDefEqProofs +contextual (maxSteps := 9000000) only [kx, ↓ky, tq28, simprocAttr, hwm, kz] | (with_reducible first | refine SB.c (fun _ => ?_) (fun _ => ?_) | refine REG.i ?_ | exact REG.j) | refine CK.dx [0] [] enters27 cN ?_ | with_reducible refine AndI ?_ | omega))
  (refine LW.weak (Weak.nilRow 7 1 18 rfl rfl (by decide)) ?_; simp only [List.set_cons_zero, List.set_cons_succ])
  refine loopV (ι := StI xs rec true R) (fun i => ⟨(.ref 0 0 :: .junk :: .pv (.int .i64 d) :: .junk :: .junk :: .junk :: .junk :: .row 1 i.L.length :: .pv (.int .i64 i.n) :: .junk :: .junk :: .junk :: .junk :: .junk :: .junk :: .junk :: .junk :: .junk :: .junk :: .junk :: .junk :: .junk :: .junk :: .junk :: .junk :: .junk :: .junk :: .junk :: .junk :: .junk :: .junk :: .junk :: .junk :: .junk :: .junk :: .junk :: .junk :: .junk :: .junk :: .junk :: .junk :: .junk :: .junk :: .junk :: .junk :: .junk :: .junk :: .junk :: .junk :: .junk :: .junk :: .junk :: .junk :: .junk :: .junk :: .junk :: .junk :: .junk :: .junk :: .junk :: .junk :: .junk :: .junk :: .junk :: .junk :: .junk :: .junk :: .junk :: .junk :: .junk :: .junk :: .junk :: .junk :: .junk :: .junk :: .junk :: .junk :: .junk :: .junk :: .junk :: .junk :: .junk :: .junk :: .junk :: .junk :: .junk :: .junk :: .junk :: .junk :: .junk :: .junk :: .junk :: .junk :: .junk :: .junk :: .junk :: .junk :: .junk :: .junk :: .junk :: .junk :: .junk :: .junk :: .junk :: []), [some (.cells [.pv (.slice (xs.map encB)), .pv (.int .i64 i.a)]), some (.row 18 (i.L.map encSm)), none]⟩) (fun i => i.n) ⟨N1, [], N.2, hNl, by simp; omega, by rw [hR]; simp⟩ WFn ?_
  rintro ⟨n, L, a, ha, hn, heq⟩
  cases n with
  | zero =>
    simp only [stmtsLoop, List.append_nil] at heq
    subst heq
    (repeat' (first | simp -implicitDefEqProofs +contextual (maxSteps := 9000000) only [kx, ↓ky, tq28, simprocAttr] | (with_reducible first | refine SB.c (fun _ => ?_) (fun _ => ?_) | refine REG.i ?_ | exact REG.j) | with_reducible refine AndI ?_ | omega))
    refine ⟨_, Weak.freeze 1 rfl, ?_⟩
    simp only [St.frz, frzL, frz, frzO, List.map_cons, List.map_nil, List.set_cons_zero, List.set_cons_succ, List.length_map, if_true, if_false, ↓reduceIte, Nat.reduceEqDiff, eq_self, reduceCtorEq, Nat.succ_ne_self]
    (refine retQ.mk [0] ?_ ?_ <;> simp [kwr, tq28])
  | succ n =>
    have hpos : ((n + 1 : Nat) : Int) > 0 := by omega
    have hwn : IntKind.i64.wrap (((n + 1 : Nat) : Int) - 1) = (n : Int) := by rw [wrap64 _ (by omega) (by omega)]; omega
    have h12 := nxt_lt xs a 10 (by omega)
    have hl1 := nxt_le xs a 10 ha
    have c12 := cnx_ac xs a 10 (by omega) (by omega) (by omega)
    have hSa := stmtStep_le xs rec true a ha hr
    rw [stmtsLoop] at heq
    obtain ⟨S, hst⟩ : ∃ S, S = stmtStep xs rec true a := ⟨_, rfl⟩
    rw [← hst] at heq hSa
    unfold stmtStep kF at hst
    dsimp only at hst
    have hrm := roomL (L.length + 1) 232 (by omega)
    skip
    generalize nxt xs a 10 = q at *
    have hcase : (q.1 = 0 ∨ q.1 = 1 ∨ q.1 = 2 ∨ q.1 = 7 ∨ q.1 = 8 ∨ q.1 = 9) ∨ (q.1 = 3) ∨ (q.1 = 4 ∨ q.1 = 5) ∨ (q.1 = 6) := by omega
    rcases hcase with hq | hq | hq | hq
    · rcases hq with hq | hq | hq | hq | hq | hq
      all_goals (
        rw [hq] at c12
        simp only [hq, decide_true, decide_false, Bool.true_and, Bool.false_and, Bool.false_eq_true, if_false, if_true, ge_iff_le, Int.reduceLE, Int.reduceLT, Int.reduceSub, Int.reduceEq, or_true, or_false, true_or, false_or, decide_eq_true_eq, not_true_eq_false, not_false_eq_true, ↓reduceIte, reduceCtorEq] at hst
        have hS1 : S.1 = _ := congrArg Prod.fst hst
        have hS2 : S.2 = _ := congrArg Prod.snd hst
        simp only at hS1 hS2
        have c := cnx_ac xs q.2 3 (by omega) (by omega) (by omega)
        have hm := nxt_lt xs q.2 3 (by omega)
        have ce := expr_ac xs hxs 3 (by omega) (nxt xs q.2 3).2 (nxt_le _ _ _ hl1)
        simp only [Int.cast_ofNat_Int] at ce
        generalize nxt xs q.2 3 = m at *
        generalize exprF xs 3 m.2 = e at *
        rcases (show m.1 = 0 ∨ m.1 = 1 ∨ m.1 = 2 by omega) with hi | hi | hi
        all_goals (
          (repeat' (first | simp -implicitDefEqProofs +contextual (maxSteps := 9000000) only [kx, ↓ky, tq28, simprocAttr, kA, exA, hs', hpos, hwn, hrm, hwd, Bool.and_false, w0, w1, w2, hi, kz] | (with_reducible first | refine SB.c (fun _ => ?_) (fun _ => ?_) | refine REG.i ?_ | exact REG.j) | refine CK.dx [0] [] enters27 c12 ?_ | refine CK.dx [0] [] enters27 c ?_ | refine CK.dx [0] [] enters32 ce ?_ | with_reducible refine AndI ?_ | omega))
          exact ⟨⟨n, L ++ [S.1], S.2, hSa, by simp; omega, by rw [← heq]; simp⟩, (WTe [0, 2, 1] (by simp [kwt, hS1, hS2, List.map_append, List.map_cons, List.map_nil, encSm_eq, smL, ex0, Sm.kind, Sm.name, Sm.slot, Sm.size, Sm.place, Sm.value, Sm.body, Sm.els, Ex.op_mk, Ex.value_mk, Ex.name_mk, Ex.slot_mk, Ex.size_mk, Ex.args_mk, scal, hi]) (by simp [kwt, hS1, hS2, List.map_append, List.map_cons, List.map_nil, encSm_eq, smL, ex0, Sm.kind, Sm.name, Sm.slot, Sm.size, Sm.place, Sm.value, Sm.body, Sm.els, Ex.op_mk, Ex.value_mk, Ex.name_mk, Ex.slot_mk, Ex.size_mk, Ex.args_mk, scal, hi])), by show n < n + 1; omega⟩))
    · rcases hq with hq
      all_goals (
        rw [hq] at c12
        simp only [hq, decide_true, decide_false, Bool.true_and, Bool.false_and, Bool.false_eq_true, if_false, if_true, ge_iff_le, Int.reduceLE, Int.reduceLT, Int.reduceSub, Int.reduceEq, or_true, or_false, true_or, false_or, decide_eq_true_eq, not_true_eq_false, not_false_eq_true, ↓reduceIte, reduceCtorEq] at hst
        have hS1 : S.1 = _ := congrArg Prod.fst hst
        have hS2 : S.2 = _ := congrArg Prod.snd hst
        simp only at hS1 hS2
        have c := cnx_ac xs q.2 2 (by omega) (by omega) (by omega)
        have hm := nxt_lt xs q.2 2 (by omega)
        have ce := expr_ac xs hxs 2 (by omega) (nxt xs q.2 2).2 (nxt_le _ _ _ hl1)
        have ce2 := expr_ac xs hxs 2 (by omega) (exprF xs 2 (nxt xs q.2 2).2).2 (exprF_le _ _ _ (nxt_le _ _ _ hl1))
        simp only [Int.cast_ofNat_Int] at ce ce2
        generalize nxt xs q.2 2 = m at *
        generalize exprF xs 2 m.2 = e at *
        generalize exprF xs 2 e.2 = e2 at *
        rcases (show m.1 = 0 ∨ m.1 = 1 by omega) with hi | hi
        all_goals (
          (repeat' (first | simp -implicitDefEqProofs +contextual (maxSteps := 9000000) only [kx, ↓ky, tq28, simprocAttr, kA, exA, hs', hpos, hwn, hrm, hwd, Bool.and_false, w0, w1, w2, hi, kz] | (with_reducible first | refine SB.c (fun _ => ?_) (fun _ => ?_) | refine REG.i ?_ | exact REG.j) | refine CK.dx [0] [] enters27 c12 ?_ | refine CK.dx [0] [] enters27 c ?_ | refine CK.dx [0] [] enters32 ce ?_ | refine CK.dx [0] [] enters32 ce2 ?_ | with_reducible refine AndI ?_ | omega))
          exact ⟨⟨n, L ++ [S.1], S.2, hSa, by simp; omega, by rw [← heq]; simp⟩, (WTe [0, 2, 1] (by simp [kwt, hS1, hS2, List.map_append, List.map_cons, List.map_nil, encSm_eq, smL, ex0, Sm.kind, Sm.name, Sm.slot, Sm.size, Sm.place, Sm.value, Sm.body, Sm.els, Ex.op_mk, Ex.value_mk, Ex.name_mk, Ex.slot_mk, Ex.size_mk, Ex.args_mk, arrN, hi]) (by simp [kwt, hS1, hS2, List.map_append, List.map_cons, List.map_nil, encSm_eq, smL, ex0, Sm.kind, Sm.name, Sm.slot, Sm.size, Sm.place, Sm.value, Sm.body, Sm.els, Ex.op_mk, Ex.value_mk, Ex.name_mk, Ex.slot_mk, Ex.size_mk, Ex.args_mk, arrN, hi])), by show n < n + 1; omega⟩))
    · rcases hq with hq | hq
      all_goals (
        rw [hq] at c12
        simp only [hq, decide_true, decide_false, Bool.true_and, Bool.false_and, Bool.false_eq_true, if_false, if_true, ge_iff_le, Int.reduceLE, Int.reduceLT, Int.reduceSub, Int.reduceEq, or_true, or_false, true_or, false_or, decide_eq_true_eq, not_true_eq_false, not_false_eq_true, ↓reduceIte, reduceCtorEq] at hst
        have hS1 : S.1 = _ := congrArg Prod.fst hst
        have hS2 : S.2 = _ := congrArg Prod.snd hst
        simp only at hS1 hS2
        have ce := expr_ac xs hxs 2 (by omega) q.2 hl1
        have ce2 := expr_ac xs hxs 2 (by omega) (exprF xs 2 q.2).2 (exprF_le _ _ _ hl1)
        simp only [Int.cast_ofNat_Int] at ce ce2
        generalize exprF xs 2 q.2 = e at *
        generalize exprF xs 2 e.2 = e2 at *
        (repeat' (first | simp -implicitDefEqProofs +contextual (maxSteps := 9000000) only [kx, ↓ky, tq28, simprocAttr, kA, exA, hs', hpos, hwn, hrm, hwd, Bool.and_false, w0, w1, w2, kz] | (with_reducible first | refine SB.c (fun _ => ?_) (fun _ => ?_) | refine REG.i ?_ | exact REG.j) | refine CK.dx [0] [] enters27 c12 ?_ | refine CK.dx [0] [] enters32 ce ?_ | refine CK.dx [0] [] enters32 ce2 ?_ | with_reducible refine AndI ?_ | omega))
        exact ⟨⟨n, L ++ [S.1], S.2, hSa, by simp; omega, by rw [← heq]; simp⟩, (WTe [0, 2, 1] (by simp [kwt, hS1, hS2, List.map_append, List.map_cons, List.map_nil, encSm_eq, smL, ex0, Sm.kind, Sm.name, Sm.slot, Sm.size, Sm.place, Sm.value, Sm.body, Sm.els, Ex.op_mk, Ex.value_mk, Ex.name_mk, Ex.slot_mk, Ex.size_mk, Ex.args_mk]) (by simp [kwt, hS1, hS2, List.map_append, List.map_cons, List.map_nil, encSm_eq, smL, ex0, Sm.kind, Sm.name, Sm.slot, Sm.size, Sm.place, Sm.value, Sm.body, Sm.els, Ex.op_mk, Ex.value_mk, Ex.name_mk, Ex.slot_mk, Ex.size_mk, Ex.args_mk])), by show n < n + 1; omega⟩)
    · rcases hq with hq
      all_goals (
        rw [hq] at c12
        simp only [hq, decide_true, decide_false, Bool.true_and, Bool.false_and, Bool.false_eq_true, if_false, if_true, ge_iff_le, Int.reduceLE, Int.reduceLT, Int.reduceSub, Int.reduceEq, or_true, or_false, true_or, false_or, decide_eq_true_eq, not_true_eq_false, not_false_eq_true, ↓reduceIte, reduceCtorEq] at hst
        have hS1 : S.1 = _ := congrArg Prod.fst hst
        have hS2 : S.2 = _ := congrArg Prod.snd hst
        simp only at hS1 hS2
        have ce := expr_ac xs hxs 2 (by omega) q.2 hl1
        simp only [Int.cast_ofNat_Int] at ce
        generalize exprF xs 2 q.2 = e at *
        (repeat' (first | simp -implicitDefEqProofs +contextual (maxSteps := 9000000) only [kx, ↓ky, tq28, simprocAttr, kA, exA, hs', hpos, hwn, hrm, hwd, Bool.and_false, w0, w1, w2, kz] | (with_reducible first | refine SB.c (fun _ => ?_) (fun _ => ?_) | refine REG.i ?_ | exact REG.j) | refine CK.dx [0] [] enters27 c12 ?_ | refine CK.dx [0] [] enters32 ce ?_ | with_reducible refine AndI ?_ | omega))
        exact ⟨⟨n, L ++ [S.1], S.2, hSa, by simp; omega, by rw [← heq]; simp⟩, (WTe [0, 2, 1] (by simp [kwt, hS1, hS2, List.map_append, List.map_cons, List.map_nil, encSm_eq, smL, ex0, Sm.kind, Sm.name, Sm.slot, Sm.size, Sm.place, Sm.value, Sm.body, Sm.els, Ex.op_mk, Ex.value_mk, Ex.name_mk, Ex.slot_mk, Ex.size_mk, Ex.args_mk]) (by simp [kwt, hS1, hS2, List.map_append, List.map_cons, List.map_nil, encSm_eq, smL, ex0, Sm.kind, Sm.name, Sm.slot, Sm.size, Sm.place, Sm.value, Sm.body, Sm.els, Ex.op_mk, Ex.value_mk, Ex.name_mk, Ex.slot_mk, Ex.size_mk, Ex.args_mk])), by show n < n + 1; omega⟩)
set_option maxRecDepth 100000 in
set_option maxHeartbeats 16000000 in
theorem stmts_big (xs : List UInt8) (hxs : xs.length ≤ 1000) (d : Nat) (hd : d ≤ 1000) (hs : ¬ d ≤ 1) (rec : Int → Nat → List Sm × Nat) (hr : ∀ m a, a ≤ xs.length → (rec m a).2 ≤ xs.length)
    (hrec : 1 < d → ∀ (m : Int) (a : Nat), 0 ≤ m → m ≤ 10 → a ≤ xs.length → AC Tryz.prog gl 28 [.ref 0 0, .pv (.int .i64 m), .pv (.int .i64 ((d : Int) - 1))] (cdO xs a) (.pv (.slice ((rec m a).1.map encSm))) (cdO xs (rec m a).2))
    (most : Int) (hm0 : 0 ≤ most) (hm1 : most ≤ 10) (a0 : Nat) (ha0 : a0 ≤ xs.length) :
    AC Tryz.prog gl 28 [.ref 0 0, .pv (.int .i64 most), .pv (.int .i64 d)] (cdO xs a0) (.pv (.slice ((stmtsTop xs rec false most a0).1.map encSm))) (cdO xs (stmtsTop xs rec false most a0).2) := by
  have hs' : ¬ (d : Int) ≤ 1 := by omega
  have hwd : IntKind.i64.wrap ((d : Int) - 1) = (d : Int) - 1 := wrap64 _ (by omega) (by omega)
  have hwm : IntKind.i64.wrap (most + 1) = most + 1 := wrap64 _ (by omega) (by omega)
  have cN := cnx_ac xs a0 (most + 1) (by omega) (by omega) (by omega)
  have hN := nxt_lt xs a0 (most + 1) (by omega)
  have hNl := nxt_le xs a0 (most + 1) ha0
  unfold stmtsTop
  generalize nxt xs a0 (most + 1) = N at *
  obtain ⟨N1, hN1⟩ := Int.eq_ofNat_of_zero_le hN.1
  rw [hN1, Int.toNat_natCast]
  rw [hN1] at cN
  obtain ⟨R, hR⟩ : ∃ R, R = stmtsLoop xs rec false N1 N.2 := ⟨_, rfl⟩
  rw [← hR]
  have w0 : IntKind.i64.wrap 0 = 0 := by decide
  have w1 : IntKind.i64.wrap 1 = 1 := by decide
  have w2 : IntKind.i64.wrap 2 = 2 := by decide
  refine bodyW (fun _ => 2) 3 Tryz.func28 rfl Tryz.ntmps28 (by rw [Tryz.results28]) (by simp) (by simp) ?_
  (repeat' (first | simp -implicitDefEqProofs +contextual (maxSteps := 9000000) only [kx, ↓ky, tq28, simprocAttr, hwm, kz] | (with_reducible first | refine SB.c (fun _ => ?_) (fun _ => ?_) | refine REG.i ?_ | exact REG.j) | refine CK.dx [0] [] enters27 cN ?_ | with_reducible refine AndI ?_ | omega))
  (refine LW.weak (Weak.nilRow 7 1 18 rfl rfl (by decide)) ?_; simp only [List.set_cons_zero, List.set_cons_succ])
  refine loopV (ι := StI xs rec false R) (fun i => ⟨(.ref 0 0 :: .junk :: .pv (.int .i64 d) :: .junk :: .junk :: .junk :: .junk :: .row 1 i.L.length :: .pv (.int .i64 i.n) :: .junk :: .junk :: .junk :: .junk :: .junk :: .junk :: .junk :: .junk :: .junk :: .junk :: .junk :: .junk :: .junk :: .junk :: .junk :: .junk :: .junk :: .junk :: .junk :: .junk :: .junk :: .junk :: .junk :: .junk :: .junk :: .junk :: .junk :: .junk :: .junk :: .junk :: .junk :: .junk :: .junk :: .junk :: .junk :: .junk :: .junk :: .junk :: .junk :: .junk :: .junk :: .junk :: .junk :: .junk :: .junk :: .junk :: .junk :: .junk :: .junk :: .junk :: .junk :: .junk :: .junk :: .junk :: .junk :: .junk :: .junk :: .junk :: .junk :: .junk :: .junk :: .junk :: .junk :: .junk :: .junk :: .junk :: .junk :: .junk :: .junk :: .junk :: .junk :: .junk :: .junk :: .junk :: .junk :: .junk :: .junk :: .junk :: .junk :: .junk :: .junk :: .junk :: .junk :: .junk :: .junk :: .junk :: .junk :: .junk :: .junk :: .junk :: .junk :: .junk :: .junk :: .junk :: .junk :: []), [some (.cells [.pv (.slice (xs.map encB)), .pv (.int .i64 i.a)]), some (.row 18 (i.L.map encSm)), none]⟩) (fun i => i.n) ⟨N1, [], N.2, hNl, by simp; omega, by rw [hR]; simp⟩ WFn ?_
  rintro ⟨n, L, a, ha, hn, heq⟩
  cases n with
  | zero =>
    simp only [stmtsLoop, List.append_nil] at heq
    subst heq
    (repeat' (first | simp -implicitDefEqProofs +contextual (maxSteps := 9000000) only [kx, ↓ky, tq28, simprocAttr] | (with_reducible first | refine SB.c (fun _ => ?_) (fun _ => ?_) | refine REG.i ?_ | exact REG.j) | with_reducible refine AndI ?_ | omega))
    refine ⟨_, Weak.freeze 1 rfl, ?_⟩
    simp only [St.frz, frzL, frz, frzO, List.map_cons, List.map_nil, List.set_cons_zero, List.set_cons_succ, List.length_map, if_true, if_false, ↓reduceIte, Nat.reduceEqDiff, eq_self, reduceCtorEq, Nat.succ_ne_self]
    (refine retQ.mk [0] ?_ ?_ <;> simp [kwr, tq28])
  | succ n =>
    have hpos : ((n + 1 : Nat) : Int) > 0 := by omega
    have hwn : IntKind.i64.wrap (((n + 1 : Nat) : Int) - 1) = (n : Int) := by rw [wrap64 _ (by omega) (by omega)]; omega
    have h12 := nxt_lt xs a 10 (by omega)
    have hl1 := nxt_le xs a 10 ha
    have c12 := cnx_ac xs a 10 (by omega) (by omega) (by omega)
    have hSa := stmtStep_le xs rec false a ha hr
    rw [stmtsLoop] at heq
    obtain ⟨S, hst⟩ : ∃ S, S = stmtStep xs rec false a := ⟨_, rfl⟩
    rw [← hst] at heq hSa
    unfold stmtStep kF at hst
    dsimp only at hst
    have hrm := roomL (L.length + 1) 232 (by omega)
    have hd1 : 1 < d := by omega
    generalize nxt xs a 10 = q at *
    have hcase : (q.1 = 0 ∨ q.1 = 1 ∨ q.1 = 2) ∨ (q.1 = 3) ∨ (q.1 = 4 ∨ q.1 = 5) ∨ (q.1 = 6) ∨ (q.1 = 7 ∨ q.1 = 8) ∨ (q.1 = 9) := by omega
    rcases hcase with hq | hq | hq | hq | hq | hq
    · rcases hq with hq | hq | hq
      all_goals (
        rw [hq] at c12
        simp only [hq, decide_true, decide_false, Bool.true_and, Bool.false_and, Bool.false_eq_true, if_false, if_true, ge_iff_le, Int.reduceLE, Int.reduceLT, Int.reduceSub, Int.reduceEq, or_true, or_false, true_or, false_or, decide_eq_true_eq, not_true_eq_false, not_false_eq_true, ↓reduceIte, reduceCtorEq] at hst
        have hS1 : S.1 = _ := congrArg Prod.fst hst
        have hS2 : S.2 = _ := congrArg Prod.snd hst
        simp only at hS1 hS2
        have c := cnx_ac xs q.2 3 (by omega) (by omega) (by omega)
        have hm := nxt_lt xs q.2 3 (by omega)
        have ce := expr_ac xs hxs 3 (by omega) (nxt xs q.2 3).2 (nxt_le _ _ _ hl1)
        simp only [Int.cast_ofNat_Int] at ce
        generalize nxt xs q.2 3 = m at *
        generalize exprF xs 3 m.2 = e at *
        rcases (show m.1 = 0 ∨ m.1 = 1 ∨ m.1 = 2 by omega) with hi | hi | hi
        all_goals (
          (repeat' (first | simp -implicitDefEqProofs +contextual (maxSteps := 9000000) only [kx, ↓ky, tq28, simprocAttr, kA, exA, hs', hpos, hwn, hrm, hwd, Bool.and_false, w0, w1, w2, hi, kz] | (with_reducible first | refine SB.c (fun _ => ?_) (fun _ => ?_) | refine REG.i ?_ | exact REG.j) | refine CK.dx [0] [] enters27 c12 ?_ | refine CK.dx [0] [] enters27 c ?_ | refine CK.dx [0] [] enters32 ce ?_ | with_reducible refine AndI ?_ | omega))
          exact ⟨⟨n, L ++ [S.1], S.2, hSa, by simp; omega, by rw [← heq]; simp⟩, (WTe [0, 2, 1] (by simp [kwt, hS1, hS2, List.map_append, List.map_cons, List.map_nil, encSm_eq, smL, ex0, Sm.kind, Sm.name, Sm.slot, Sm.size, Sm.place, Sm.value, Sm.body, Sm.els, Ex.op_mk, Ex.value_mk, Ex.name_mk, Ex.slot_mk, Ex.size_mk, Ex.args_mk, scal, hi]) (by simp [kwt, hS1, hS2, List.map_append, List.map_cons, List.map_nil, encSm_eq, smL, ex0, Sm.kind, Sm.name, Sm.slot, Sm.size, Sm.place, Sm.value, Sm.body, Sm.els, Ex.op_mk, Ex.value_mk, Ex.name_mk, Ex.slot_mk, Ex.size_mk, Ex.args_mk, scal, hi])), by show n < n + 1; omega⟩))
    · rcases hq with hq
      all_goals (
        rw [hq] at c12
        simp only [hq, decide_true, decide_false, Bool.true_and, Bool.false_and, Bool.false_eq_true, if_false, if_true, ge_iff_le, Int.reduceLE, Int.reduceLT, Int.reduceSub, Int.reduceEq, or_true, or_false, true_or, false_or, decide_eq_true_eq, not_true_eq_false, not_false_eq_true, ↓reduceIte, reduceCtorEq] at hst
        have hS1 : S.1 = _ := congrArg Prod.fst hst
        have hS2 : S.2 = _ := congrArg Prod.snd hst
        simp only at hS1 hS2
        have c := cnx_ac xs q.2 2 (by omega) (by omega) (by omega)
        have hm := nxt_lt xs q.2 2 (by omega)
        have ce := expr_ac xs hxs 2 (by omega) (nxt xs q.2 2).2 (nxt_le _ _ _ hl1)
        have ce2 := expr_ac xs hxs 2 (by omega) (exprF xs 2 (nxt xs q.2 2).2).2 (exprF_le _ _ _ (nxt_le _ _ _ hl1))
        simp only [Int.cast_ofNat_Int] at ce ce2
        generalize nxt xs q.2 2 = m at *
        generalize exprF xs 2 m.2 = e at *
        generalize exprF xs 2 e.2 = e2 at *
        rcases (show m.1 = 0 ∨ m.1 = 1 by omega) with hi | hi
        all_goals (
          (repeat' (first | simp -implicitDefEqProofs +contextual (maxSteps := 9000000) only [kx, ↓ky, tq28, simprocAttr, kA, exA, hs', hpos, hwn, hrm, hwd, Bool.and_false, w0, w1, w2, hi, kz] | (with_reducible first | refine SB.c (fun _ => ?_) (fun _ => ?_) | refine REG.i ?_ | exact REG.j) | refine CK.dx [0] [] enters27 c12 ?_ | refine CK.dx [0] [] enters27 c ?_ | refine CK.dx [0] [] enters32 ce ?_ | refine CK.dx [0] [] enters32 ce2 ?_ | with_reducible refine AndI ?_ | omega))
          exact ⟨⟨n, L ++ [S.1], S.2, hSa, by simp; omega, by rw [← heq]; simp⟩, (WTe [0, 2, 1] (by simp [kwt, hS1, hS2, List.map_append, List.map_cons, List.map_nil, encSm_eq, smL, ex0, Sm.kind, Sm.name, Sm.slot, Sm.size, Sm.place, Sm.value, Sm.body, Sm.els, Ex.op_mk, Ex.value_mk, Ex.name_mk, Ex.slot_mk, Ex.size_mk, Ex.args_mk, arrN, hi]) (by simp [kwt, hS1, hS2, List.map_append, List.map_cons, List.map_nil, encSm_eq, smL, ex0, Sm.kind, Sm.name, Sm.slot, Sm.size, Sm.place, Sm.value, Sm.body, Sm.els, Ex.op_mk, Ex.value_mk, Ex.name_mk, Ex.slot_mk, Ex.size_mk, Ex.args_mk, arrN, hi])), by show n < n + 1; omega⟩))
    · rcases hq with hq | hq
      all_goals (
        rw [hq] at c12
        simp only [hq, decide_true, decide_false, Bool.true_and, Bool.false_and, Bool.false_eq_true, if_false, if_true, ge_iff_le, Int.reduceLE, Int.reduceLT, Int.reduceSub, Int.reduceEq, or_true, or_false, true_or, false_or, decide_eq_true_eq, not_true_eq_false, not_false_eq_true, ↓reduceIte, reduceCtorEq] at hst
        have hS1 : S.1 = _ := congrArg Prod.fst hst
        have hS2 : S.2 = _ := congrArg Prod.snd hst
        simp only at hS1 hS2
        have ce := expr_ac xs hxs 2 (by omega) q.2 hl1
        have ce2 := expr_ac xs hxs 2 (by omega) (exprF xs 2 q.2).2 (exprF_le _ _ _ hl1)
        simp only [Int.cast_ofNat_Int] at ce ce2
        generalize exprF xs 2 q.2 = e at *
        generalize exprF xs 2 e.2 = e2 at *
        (repeat' (first | simp -implicitDefEqProofs +contextual (maxSteps := 9000000) only [kx, ↓ky, tq28, simprocAttr, kA, exA, hs', hpos, hwn, hrm, hwd, Bool.and_false, w0, w1, w2, kz] | (with_reducible first | refine SB.c (fun _ => ?_) (fun _ => ?_) | refine REG.i ?_ | exact REG.j) | refine CK.dx [0] [] enters27 c12 ?_ | refine CK.dx [0] [] enters32 ce ?_ | refine CK.dx [0] [] enters32 ce2 ?_ | with_reducible refine AndI ?_ | omega))
        exact ⟨⟨n, L ++ [S.1], S.2, hSa, by simp; omega, by rw [← heq]; simp⟩, (WTe [0, 2, 1] (by simp [kwt, hS1, hS2, List.map_append, List.map_cons, List.map_nil, encSm_eq, smL, ex0, Sm.kind, Sm.name, Sm.slot, Sm.size, Sm.place, Sm.value, Sm.body, Sm.els, Ex.op_mk, Ex.value_mk, Ex.name_mk, Ex.slot_mk, Ex.size_mk, Ex.args_mk]) (by simp [kwt, hS1, hS2, List.map_append, List.map_cons, List.map_nil, encSm_eq, smL, ex0, Sm.kind, Sm.name, Sm.slot, Sm.size, Sm.place, Sm.value, Sm.body, Sm.els, Ex.op_mk, Ex.value_mk, Ex.name_mk, Ex.slot_mk, Ex.size_mk, Ex.args_mk])), by show n < n + 1; omega⟩)
    · rcases hq with hq
      all_goals (
        rw [hq] at c12
        simp only [hq, decide_true, decide_false, Bool.true_and, Bool.false_and, Bool.false_eq_true, if_false, if_true, ge_iff_le, Int.reduceLE, Int.reduceLT, Int.reduceSub, Int.reduceEq, or_true, or_false, true_or, false_or, decide_eq_true_eq, not_true_eq_false, not_false_eq_true, ↓reduceIte, reduceCtorEq] at hst
        have hS1 : S.1 = _ := congrArg Prod.fst hst
        have hS2 : S.2 = _ := congrArg Prod.snd hst
        simp only at hS1 hS2
        have ce := expr_ac xs hxs 2 (by omega) q.2 hl1
        simp only [Int.cast_ofNat_Int] at ce
        generalize exprF xs 2 q.2 = e at *
        (repeat' (first | simp -implicitDefEqProofs +contextual (maxSteps := 9000000) only [kx, ↓ky, tq28, simprocAttr, kA, exA, hs', hpos, hwn, hrm, hwd, Bool.and_false, w0, w1, w2, kz] | (with_reducible first | refine SB.c (fun _ => ?_) (fun _ => ?_) | refine REG.i ?_ | exact REG.j) | refine CK.dx [0] [] enters27 c12 ?_ | refine CK.dx [0] [] enters32 ce ?_ | with_reducible refine AndI ?_ | omega))
        exact ⟨⟨n, L ++ [S.1], S.2, hSa, by simp; omega, by rw [← heq]; simp⟩, (WTe [0, 2, 1] (by simp [kwt, hS1, hS2, List.map_append, List.map_cons, List.map_nil, encSm_eq, smL, ex0, Sm.kind, Sm.name, Sm.slot, Sm.size, Sm.place, Sm.value, Sm.body, Sm.els, Ex.op_mk, Ex.value_mk, Ex.name_mk, Ex.slot_mk, Ex.size_mk, Ex.args_mk]) (by simp [kwt, hS1, hS2, List.map_append, List.map_cons, List.map_nil, encSm_eq, smL, ex0, Sm.kind, Sm.name, Sm.slot, Sm.size, Sm.place, Sm.value, Sm.body, Sm.els, Ex.op_mk, Ex.value_mk, Ex.name_mk, Ex.slot_mk, Ex.size_mk, Ex.args_mk])), by show n < n + 1; omega⟩)
    · rcases hq with hq | hq
      all_goals (
        rw [hq] at c12
        simp only [hq, decide_true, decide_false, Bool.true_and, Bool.false_and, Bool.false_eq_true, if_false, if_true, ge_iff_le, Int.reduceLE, Int.reduceLT, Int.reduceSub, Int.reduceEq, or_true, or_false, true_or, false_or, decide_eq_true_eq, not_true_eq_false, not_false_eq_true, ↓reduceIte, reduceCtorEq] at hst
        have hS1 : S.1 = _ := congrArg Prod.fst hst
        have hS2 : S.2 = _ := congrArg Prod.snd hst
        simp only at hS1 hS2
        have ce := expr_ac xs hxs 2 (by omega) q.2 hl1
        have c2 := hrec hd1 2 (exprF xs 2 q.2).2 (by omega) (by omega) (exprF_le _ _ _ hl1)
        have c3 := hrec hd1 1 (rec 2 (exprF xs 2 q.2).2).2 (by omega) (by omega) (hr _ _ (exprF_le _ _ _ hl1))
        simp only [Int.cast_ofNat_Int] at ce
        generalize exprF xs 2 q.2 = e at *
        generalize rec 2 e.2 = b at *
        generalize rec 1 b.2 = l at *
        (repeat' (first | simp -implicitDefEqProofs +contextual (maxSteps := 9000000) only [kx, ↓ky, tq28, simprocAttr, kA, exA, hs', hpos, hwn, hrm, hwd, Bool.and_false, w0, w1, w2, kz] | (with_reducible first | refine SB.c (fun _ => ?_) (fun _ => ?_) | refine REG.i ?_ | exact REG.j) | refine CK.dx [0] [] enters27 c12 ?_ | refine CK.dx [0] [] enters32 ce ?_ | refine CK.dx [0] [] enters28 c2 ?_ | refine CK.dx [0] [] enters28 c3 ?_ | with_reducible refine AndI ?_ | omega))
        exact ⟨⟨n, L ++ [S.1], S.2, hSa, by simp; omega, by rw [← heq]; simp⟩, (WTe [0, 2, 1] (by simp [kwt, hS1, hS2, List.map_append, List.map_cons, List.map_nil, encSm_eq, smL, ex0, Sm.kind, Sm.name, Sm.slot, Sm.size, Sm.place, Sm.value, Sm.body, Sm.els, Ex.op_mk, Ex.value_mk, Ex.name_mk, Ex.slot_mk, Ex.size_mk, Ex.args_mk]) (by simp [kwt, hS1, hS2, List.map_append, List.map_cons, List.map_nil, encSm_eq, smL, ex0, Sm.kind, Sm.name, Sm.slot, Sm.size, Sm.place, Sm.value, Sm.body, Sm.els, Ex.op_mk, Ex.value_mk, Ex.name_mk, Ex.slot_mk, Ex.size_mk, Ex.args_mk])), by show n < n + 1; omega⟩)
    · rcases hq with hq
      all_goals (
        rw [hq] at c12
        simp only [hq, decide_true, decide_false, Bool.true_and, Bool.false_and, Bool.false_eq_true, if_false, if_true, ge_iff_le, Int.reduceLE, Int.reduceLT, Int.reduceSub, Int.reduceEq, or_true, or_false, true_or, false_or, decide_eq_true_eq, not_true_eq_false, not_false_eq_true, ↓reduceIte, reduceCtorEq] at hst
        have hS1 : S.1 = _ := congrArg Prod.fst hst
        have hS2 : S.2 = _ := congrArg Prod.snd hst
        simp only at hS1 hS2
        have ce := expr_ac xs hxs 2 (by omega) q.2 hl1
        have c2 := hrec hd1 2 (exprF xs 2 q.2).2 (by omega) (by omega) (exprF_le _ _ _ hl1)
        simp only [Int.cast_ofNat_Int] at ce
        generalize exprF xs 2 q.2 = e at *
        generalize rec 2 e.2 = b at *
        (repeat' (first | simp -implicitDefEqProofs +contextual (maxSteps := 9000000) only [kx, ↓ky, tq28, simprocAttr, kA, exA, hs', hpos, hwn, hrm, hwd, Bool.and_false, w0, w1, w2, kz] | (with_reducible first | refine SB.c (fun _ => ?_) (fun _ => ?_) | refine REG.i ?_ | exact REG.j) | refine CK.dx [0] [] enters27 c12 ?_ | refine CK.dx [0] [] enters32 ce ?_ | refine CK.dx [0] [] enters28 c2 ?_ | with_reducible refine AndI ?_ | omega))
        exact ⟨⟨n, L ++ [S.1], S.2, hSa, by simp; omega, by rw [← heq]; simp⟩, (WTe [0, 2, 1] (by simp [kwt, hS1, hS2, List.map_append, List.map_cons, List.map_nil, encSm_eq, smL, ex0, Sm.kind, Sm.name, Sm.slot, Sm.size, Sm.place, Sm.value, Sm.body, Sm.els, Ex.op_mk, Ex.value_mk, Ex.name_mk, Ex.slot_mk, Ex.size_mk, Ex.args_mk]) (by simp [kwt, hS1, hS2, List.map_append, List.map_cons, List.map_nil, encSm_eq, smL, ex0, Sm.kind, Sm.name, Sm.slot, Sm.size, Sm.place, Sm.value, Sm.body, Sm.els, Ex.op_mk, Ex.value_mk, Ex.name_mk, Ex.slot_mk, Ex.size_mk, Ex.args_mk])), by show n < n + 1; omega⟩)
theorem stmts_of (xs : List UInt8) (hxs : xs.length ≤ 1000) (d : Nat) (hd : d ≤ 1000) (rec : Int → Nat → List Sm × Nat) (hr : ∀ m a, a ≤ xs.length → (rec m a).2 ≤ xs.length)
    (hrec : 1 < d → ∀ (m : Int) (a : Nat), 0 ≤ m → m ≤ 10 → a ≤ xs.length → AC Tryz.prog gl 28 [.ref 0 0, .pv (.int .i64 m), .pv (.int .i64 ((d : Int) - 1))] (cdO xs a) (.pv (.slice ((rec m a).1.map encSm))) (cdO xs (rec m a).2))
    (most : Int) (hm0 : 0 ≤ most) (hm1 : most ≤ 10) (a0 : Nat) (ha0 : a0 ≤ xs.length) :
    AC Tryz.prog gl 28 [.ref 0 0, .pv (.int .i64 most), .pv (.int .i64 d)] (cdO xs a0) (.pv (.slice ((stmtsTop xs rec (decide (d ≤ 1)) most a0).1.map encSm))) (cdO xs (stmtsTop xs rec (decide (d ≤ 1)) most a0).2) := by
  by_cases hs : d ≤ 1
  · rw [decide_eq_true hs]; exact stmts_small xs hxs d hd hs rec hr hrec most hm0 hm1 a0 ha0
  · rw [decide_eq_false hs]; exact stmts_big xs hxs d hd hs rec hr hrec most hm0 hm1 a0 ha0
theorem stmts_ac (xs : List UInt8) (hxs : xs.length ≤ 1000) : ∀ (d : Nat), d ≤ 1000 → ∀ (m : Int) (a : Nat), 0 ≤ m → m ≤ 10 → a ≤ xs.length → AC Tryz.prog gl 28 [.ref 0 0, .pv (.int .i64 m), .pv (.int .i64 d)] (cdO xs a) (.pv (.slice ((stmtsF xs d m a).1.map encSm))) (cdO xs (stmtsF xs d m a).2)
  | 0, hd, m, a, h0, h1, ha => stmts_of xs hxs 0 hd _ (fun _ _ h => h) (fun h => by omega) m h0 h1 a ha
  | d + 1, hd, m, a, h0, h1, ha => stmts_of xs hxs (d + 1) hd (stmtsF xs d) (fun m a h => stmtsF_le xs d m a h) (fun _ m a h0 h1 h => by
      have := stmts_ac xs hxs d (by omega) m a h0 h1 h
      rw [show (((d + 1 : Nat) : Int) - 1) = (d : Int) by omega]; exact this) m h0 h1 a ha
set_option maxRecDepth 100000 in
set_option maxHeartbeats 16000000 in
theorem program_ac (xs : List UInt8) (hxs : xs.length ≤ 1000) (a : Nat) (ha : a ≤ xs.length) : AC Tryz.prog gl 12 [.ref 0 0] (cdO xs a) (pgA (programF xs a).1) (cdO xs (programF xs a).2) := by
  have c1 := cnx_ac xs a 7 (by omega) (by omega) (by omega)
  have l1 := nxt_le xs a 7 ha
  have b1 := nxt_lt xs a 7 (by omega)
  have c2 := cnx_ac xs (nxt xs a 7).2 5 (by omega) (by omega) (by omega)
  have l2 := nxt_le xs (nxt xs a 7).2 5 l1
  have b2 := nxt_lt xs (nxt xs a 7).2 5 (by omega)
  have c3 := cnx_ac xs (nxt xs (nxt xs a 7).2 5).2 3 (by omega) (by omega) (by omega)
  have l3 := nxt_le xs (nxt xs (nxt xs a 7).2 5).2 3 l2
  unfold programF
  dsimp only
  generalize nxt xs a 7 = m1 at *
  generalize nxt xs m1.2 5 = m2 at *
  generalize nxt xs m2.2 3 = m3 at *
  have d1 := stmts_ac xs hxs 2 (by omega) 3 m3.2 (by omega) (by omega) l3
  have k1 := stmtsF_le xs 2 3 m3.2 l3
  generalize stmtsF xs 2 3 m3.2 = s1 at *
  have d2 := stmts_ac xs hxs 3 (by omega) 4 s1.2 (by omega) (by omega) k1
  have k2 := stmtsF_le xs 3 4 s1.2 k1
  generalize stmtsF xs 3 4 s1.2 = s2 at *
  have d3 := stmts_ac xs hxs 2 (by omega) 3 s2.2 (by omega) (by omega) k2
  have k3 := stmtsF_le xs 2 3 s2.2 k2
  generalize stmtsF xs 2 3 s2.2 = s3 at *
  have d4 := stmts_ac xs hxs 2 (by omega) 2 s3.2 (by omega) (by omega) k3
  generalize stmtsF xs 2 2 s3.2 = s4 at *
  simp only [Int.cast_ofNat_Int] at d1 d2 d3 d4
  have hw1 : IntKind.i64.wrap (m1.1 - 2) = m1.1 - 2 := wrap64 _ (by omega) (by omega)
  have hw2 : IntKind.i64.wrap (1 + m2.1) = 1 + m2.1 := wrap64 _ (by omega) (by omega)
  unfold pgA
  refine bodyO (fun d => if d = 2 then 1 else 2) 3 Tryz.func12 rfl Tryz.ntmps12 (by rw [Tryz.results12]) (by simp) (by simp) ?_
  (repeat' (first | simp -implicitDefEqProofs +contextual (maxSteps := 9000000) only [kx, ↓ky, tq12, simprocAttr, hw1, hw2, kz] | (with_reducible first | refine SB.c (fun _ => ?_) (fun _ => ?_) | refine REG.i ?_ | exact REG.j) | refine CK.dx [0] [] enters27 c1 ?_ | refine CK.dx [0] [] enters27 c2 ?_ | refine CK.dx [0] [] enters27 c3 ?_ | refine CK.dx [0] [] enters28 d1 ?_ | refine CK.dx [0] [] enters28 d2 ?_ | refine CK.dx [0] [] enters28 d3 ?_ | refine CK.dx [0] [] enters28 d4 ?_ | with_reducible refine AndI ?_ | omega))
  (refine retQ.mk [0] ?_ ?_ <;> simp [kwr, tq12, varsF, encVar])
end Go.Proofs.YtopbicbgolcmpaaGreatDoor
