/- A part of the walk (Tryd_N15): its theorems have no condition beyond what they state. -/
import Derived.Test.YtfldnpkacelniaaDoorN14
import Derived.Test.YtfldnpkacelniaaDoorLib3
set_option linter.unusedSimpArgs false
set_option linter.unusedVariables false
set_option linter.defProp false
namespace Go.Proofs.YtfldnpkacelniaaDoor
open Go Go.Abs Go.RowKit
set_option maxRecDepth 100000 in
set_option maxHeartbeats 1000000 in
theorem mod_ac (x n : Int) (h0 : 0 < n) (h1 : n ≤ 9223372036854775807) : AC Tryd.prog gl 25 [.pv (.int .i64 x), .pv (.int .i64 n)] [] (.pv (.int .i64 (rmodF x n))) [] := by
  have hm := rmodF_lt x n h0
  have h2 := Int.tmod_lt_of_pos x h0
  have h3 : -n < x.tmod n := Int.lt_tmod_of_pos x h0
  have e1 : IntKind.i64.wrap (x.tmod n) = x.tmod n := wrap64 _ (by omega) (by omega)
  have e2 : ¬ n = 0 := by omega
  have e3 : x.tmod n < 0 → IntKind.i64.wrap (x.tmod n + n) = x.tmod n + n := fun h => wrap64 _ (by omega) (by omega)
  have hd : rmodF x n = if x.tmod n < 0 then x.tmod n + n else x.tmod n := rfl
  refine body0 (fun _ => 0) 0 Tryd.func25 rfl Tryd.ntmps25 (by rw [Tryd.results25]) (by simp) ?_
  by_cases h : x.tmod n < 0
  · rw [hd, if_pos h]
    have e4 := e3 h
    (repeat' (first | simp -implicitDefEqProofs +contextual (maxSteps := 9000000) only [kx, ↓ky, tyS, tyX3, Nat.reduceAdd, Nat.reduceMul, Nat.reduceSub, Nat.reduceLT, Nat.reduceLeDiff, Nat.reduceEqDiff, Nat.reduceBEq, Int.reduceAdd, Int.reduceSub, Int.reduceMul, Int.reduceLT, Int.reduceLE, Int.reduceToNat, Int.reduceBEq, Int.reduceBNe, Int.reduceNeg, Int.reduceGT, Nat.reduceGT, Int.reduceEq, reduceCtorEq, ↓reduceIte, e1, e2, e4, h] | (with_reducible first | refine SB.d (fun _ => ?_) (fun _ => ?_) | refine SB.e (fun _ => ?_) (fun _ => ?_) | refine SB.n (fun _ => ?_) (fun _ => ?_) | refine SB.b (fun _ => ?_) (fun _ => ?_) | refine And.intro (REG.ok (by kernel_rfl)) ?_ | exact REG.ok (by kernel_rfl)) | (with_reducible refine And.intro ?_ ?_); (focus (intros; (try simp only [decide_eq_true_eq, decide_eq_false_iff_not, beq_iff_eq, bne_iff_ne, Bool.and_eq_true, Bool.or_eq_true] at *); omega)) | omega))
  · rw [hd, if_neg h]
    (repeat' (first | simp -implicitDefEqProofs +contextual (maxSteps := 9000000) only [kx, ↓ky, tyS, tyX3, Nat.reduceAdd, Nat.reduceMul, Nat.reduceSub, Nat.reduceLT, Nat.reduceLeDiff, Nat.reduceEqDiff, Nat.reduceBEq, Int.reduceAdd, Int.reduceSub, Int.reduceMul, Int.reduceLT, Int.reduceLE, Int.reduceToNat, Int.reduceBEq, Int.reduceBNe, Int.reduceNeg, Int.reduceGT, Nat.reduceGT, Int.reduceEq, reduceCtorEq, ↓reduceIte, e1, e2, h] | (with_reducible first | refine SB.d (fun _ => ?_) (fun _ => ?_) | refine SB.e (fun _ => ?_) (fun _ => ?_) | refine SB.n (fun _ => ?_) (fun _ => ?_) | refine SB.b (fun _ => ?_) (fun _ => ?_) | refine And.intro (REG.ok (by kernel_rfl)) ?_ | exact REG.ok (by kernel_rfl)) | (with_reducible refine And.intro ?_ ?_); (focus (intros; (try simp only [decide_eq_true_eq, decide_eq_false_iff_not, beq_iff_eq, bne_iff_ne, Bool.and_eq_true, Bool.or_eq_true] at *); omega)) | omega))
set_option maxRecDepth 100000 in
set_option maxHeartbeats 4000000 in
theorem cuts_law (s : List UInt8) (n : Int) : AC Tryd.prog gl 10 [.pv (.str s), .pv (.int .i64 n)] [] (.pv (.bool true)) [] := by
  have cA := awake_ac
  have cS := scan_ac s
  refine body0 (fun _ => 0) 0 Tryd.func10 rfl Tryd.ntmps10 (by rw [Tryd.results10]) (by simp) ?_
  by_cases he : (scan s).2.2 = 0
  rotate_left
  · have he' : ((scan s).2.2 != 0) = true := by simpa using he
    (repeat' (first | simp -implicitDefEqProofs +contextual (maxSteps := 9000000) only [kx, ↓ky, tyS, tyX3, tyX4, tyX9, tyX23, tyX24, tyX31, Nat.reduceAdd, Nat.reduceMul, Nat.reduceSub, Nat.reduceLT, Nat.reduceLeDiff, Nat.reduceEqDiff, Nat.reduceBEq, Int.reduceAdd, Int.reduceSub, Int.reduceMul, Int.reduceLT, Int.reduceLE, Int.reduceToNat, Int.reduceBEq, Int.reduceBNe, Int.reduceNeg, Int.reduceGT, Nat.reduceGT, Int.reduceEq, reduceCtorEq, ↓reduceIte, he'] | (with_reducible first | refine SB.d (fun _ => ?_) (fun _ => ?_) | refine SB.e (fun _ => ?_) (fun _ => ?_) | refine SB.n (fun _ => ?_) (fun _ => ?_) | refine SB.b (fun _ => ?_) (fun _ => ?_) | refine And.intro (REG.ok (by kernel_rfl)) ?_ | exact REG.ok (by kernel_rfl)) | refine CK.c0 enters11 (cA) rfl rfl ?_ | refine CK.cp enters11 (fun _ => cA) rfl rfl ?_ | refine CK.c0 enters12 (cS) rfl rfl ?_ | refine CK.cp enters12 (fun _ => cS) rfl rfl ?_ | (with_reducible refine And.intro ?_ ?_); (focus (intros; (try simp only [decide_eq_true_eq, decide_eq_false_iff_not, beq_iff_eq, bne_iff_ne, Bool.and_eq_true, Bool.or_eq_true] at *); omega)) | omega))
  · obtain ⟨hl, l, hsc, hse⟩ := scan_sc s he
    rw [hse] at cS
    have hln := hsc.len
    by_cases h0 : l = []
    · subst h0
      (repeat' (first | simp -implicitDefEqProofs +contextual (maxSteps := 9000000) only [kx, ↓ky, tyS, tyX3, tyX4, tyX9, tyX23, tyX24, tyX31, Nat.reduceAdd, Nat.reduceMul, Nat.reduceSub, Nat.reduceLT, Nat.reduceLeDiff, Nat.reduceEqDiff, Nat.reduceBEq, Int.reduceAdd, Int.reduceSub, Int.reduceMul, Int.reduceLT, Int.reduceLE, Int.reduceToNat, Int.reduceBEq, Int.reduceBNe, Int.reduceNeg, Int.reduceGT, Nat.reduceGT, Int.reduceEq, reduceCtorEq, ↓reduceIte] | (with_reducible first | refine SB.d (fun _ => ?_) (fun _ => ?_) | refine SB.e (fun _ => ?_) (fun _ => ?_) | refine SB.n (fun _ => ?_) (fun _ => ?_) | refine SB.b (fun _ => ?_) (fun _ => ?_) | refine And.intro (REG.ok (by kernel_rfl)) ?_ | exact REG.ok (by kernel_rfl)) | refine CK.c0 enters11 (cA) rfl rfl ?_ | refine CK.cp enters11 (fun _ => cA) rfl rfl ?_ | refine CK.c0 enters12 (cS) rfl rfl ?_ | refine CK.cp enters12 (fun _ => cS) rfl rfl ?_ | (with_reducible refine And.intro ?_ ?_); (focus (intros; (try simp only [decide_eq_true_eq, decide_eq_false_iff_not, beq_iff_eq, bne_iff_ne, Bool.and_eq_true, Bool.or_eq_true] at *); omega)) | omega))
    have hpos : 0 < l.length := List.length_pos_iff.2 h0
    have hp' : ((l.length : Int) == 0) = false := beqF (by omega)
    have cM := mod_ac n l.length (by omega) (by omega)
    have hm := rmodF_lt n l.length (by omega)
    obtain ⟨k, hk⟩ := Int.eq_ofNat_of_zero_le hm.1
    rw [hk] at cM hm
    replace hk : rmodF n l.length = (k : Int) := hk
    have hlt : k < l.length := by omega
    have hlt' : (k : Int) < l.length := by omega
    obtain ⟨a, h1, h2, h3, h4⟩ := cuts_at hsc k hlt
    have hv := hsc.vals l[k] (List.getElem_mem hlt)
    have hget := getD_map encTk l k hlt
    have hc1 := cut1 l k hlt
    have hgd : l.getD k tk0 = l[k] := by simp [List.getD, hlt]
    rw [hgd] at hc1
    generalize l[k] = x at *
    have cP := print1_ac x hv.1 (by have := hv.2.2.1; omega)
    have c1 := scan_ac (s.take a)
    have c2 := scan_ac (s.take (a + (wordT x).length))
    rw [h3.scan (by simp; omega)] at c1
    rw [h4.scan (by simp; omega)] at c2
    have d1 := equal_ac (l.take k) (by simp; omega)
    have d2 := equal_ac (l.take (k + 1)) (by simp; omega)
    have t1 : (l.map encTk).take k = (l.take k).map encTk := by rw [List.map_take]
    have t2 : (l.map encTk).take (k + 1) = (l.take (k + 1)).map encTk := by rw [List.map_take]
    replace hget : (l.map encTk).getD k [] = [.int .i64 x.kind, .str x.text, .int .i64 x.value, .int .i64 a] := by rw [← h1]; exact hget
    have hw := wrapS k (by omega)
    have g1 : ¬ (a : Int) < 0 := by omega
    have g2 : ¬ (a : Int) > s.length := by omega
    have g2' : (a : Int) ≤ s.length := by omega
    have g3 : IntKind.i64.wrap ((a : Int) + (wordT x).length) = ((a + (wordT x).length : Nat) : Int) := by rw [wrap64 _ (by omega) (by omega)]; omega
    have g4 : imin ((a + (wordT x).length : Nat) : Int) s.length = ((a + (wordT x).length : Nat) : Int) := by unfold imin; split <;> omega
    have g5 : ((a + (wordT x).length : Nat) : Int) ≤ s.length := by omega
    have q1 : (k : Int) ≤ ((k + 1 : Nat) : Int) := by omega
    have q2 : ((k + 1 : Nat) : Int) ≤ l.length := by omega
    have q2' : (k : Int) ≤ l.length := by omega
    have q3 := len0 l hpos
    (repeat' (first | simp -implicitDefEqProofs +contextual (maxSteps := 9000000) only [kx, ↓ky, tyS, tyX3, tyX4, tyX9, tyX23, tyX24, tyX31, Nat.reduceAdd, Nat.reduceMul, Nat.reduceSub, Nat.reduceLT, Nat.reduceLeDiff, Nat.reduceEqDiff, Nat.reduceBEq, Int.reduceAdd, Int.reduceSub, Int.reduceMul, Int.reduceLT, Int.reduceLE, Int.reduceToNat, Int.reduceBEq, Int.reduceBNe, Int.reduceNeg, Int.reduceGT, Nat.reduceGT, Int.reduceEq, reduceCtorEq, ↓reduceIte, hp', hlt, hlt', hget, g1, g2, g2'] | (with_reducible first | refine SB.d (fun _ => ?_) (fun _ => ?_) | refine SB.e (fun _ => ?_) (fun _ => ?_) | refine SB.n (fun _ => ?_) (fun _ => ?_) | refine SB.b (fun _ => ?_) (fun _ => ?_) | refine And.intro (REG.ok (by kernel_rfl)) ?_ | exact REG.ok (by kernel_rfl)) | refine CK.c0 enters11 (cA) rfl rfl ?_ | refine CK.cp enters11 (fun _ => cA) rfl rfl ?_ | refine CK.c0 enters12 (cS) rfl rfl ?_ | refine CK.cp enters12 (fun _ => cS) rfl rfl ?_ | refine CK.c0 enters25 (cM) rfl rfl ?_ | refine CK.cp enters25 (fun _ => cM) rfl rfl ?_ | (with_reducible refine And.intro ?_ ?_); (focus (intros; (try simp only [decide_eq_true_eq, decide_eq_false_iff_not, beq_iff_eq, bne_iff_ne, Bool.and_eq_true, Bool.or_eq_true] at *); omega)) | omega))
    (repeat' (first | simp -implicitDefEqProofs +contextual (maxSteps := 9000000) only [kx, ↓ky, tyS, tyX3, tyX4, tyX9, tyX23, tyX24, tyX31, Nat.reduceAdd, Nat.reduceMul, Nat.reduceSub, Nat.reduceLT, Nat.reduceLeDiff, Nat.reduceEqDiff, Nat.reduceBEq, Int.reduceAdd, Int.reduceSub, Int.reduceMul, Int.reduceLT, Int.reduceLE, Int.reduceToNat, Int.reduceBEq, Int.reduceBNe, Int.reduceNeg, Int.reduceGT, Nat.reduceGT, Int.reduceEq, reduceCtorEq, ↓reduceIte, hp', hlt, hlt', hget, g1, g2, g2', hw, hc1, g3, g4, g5, q1, q2, q3] | (with_reducible first | refine SB.d (fun _ => ?_) (fun _ => ?_) | refine SB.e (fun _ => ?_) (fun _ => ?_) | refine SB.n (fun _ => ?_) (fun _ => ?_) | refine SB.b (fun _ => ?_) (fun _ => ?_) | refine And.intro (REG.ok (by kernel_rfl)) ?_ | exact REG.ok (by kernel_rfl)) | refine CK.c0 enters12 (c1) rfl rfl ?_ | refine CK.cp enters12 (fun _ => c1) rfl rfl ?_ | refine CK.c0 enters20 (cP) rfl rfl ?_ | refine CK.cp enters20 (fun _ => cP) rfl rfl ?_ | (with_reducible refine And.intro ?_ ?_); (focus (intros; (try simp only [decide_eq_true_eq, decide_eq_false_iff_not, beq_iff_eq, bne_iff_ne, Bool.and_eq_true, Bool.or_eq_true] at *); omega)) | omega))
    (repeat' (first | simp -implicitDefEqProofs +contextual (maxSteps := 9000000) only [kx, ↓ky, tyS, tyX3, tyX4, tyX9, tyX23, tyX24, tyX31, Nat.reduceAdd, Nat.reduceMul, Nat.reduceSub, Nat.reduceLT, Nat.reduceLeDiff, Nat.reduceEqDiff, Nat.reduceBEq, Int.reduceAdd, Int.reduceSub, Int.reduceMul, Int.reduceLT, Int.reduceLE, Int.reduceToNat, Int.reduceBEq, Int.reduceBNe, Int.reduceNeg, Int.reduceGT, Nat.reduceGT, Int.reduceEq, reduceCtorEq, ↓reduceIte, hp', hlt, hlt', hget, g1, g2, g2', hw, hc1, g3, g4, g5, q1, q2, q2', q3, t1, t2] | (with_reducible first | refine SB.d (fun _ => ?_) (fun _ => ?_) | refine SB.e (fun _ => ?_) (fun _ => ?_) | refine SB.n (fun _ => ?_) (fun _ => ?_) | refine SB.b (fun _ => ?_) (fun _ => ?_) | refine And.intro (REG.ok (by kernel_rfl)) ?_ | exact REG.ok (by kernel_rfl)) | refine CK.c0 enters12 (c2) rfl rfl ?_ | refine CK.cp enters12 (fun _ => c2) rfl rfl ?_ | refine CK.c0 enters14 (d1) rfl rfl ?_ | refine CK.cp enters14 (fun _ => d1) rfl rfl ?_ | (with_reducible refine And.intro ?_ ?_); (focus (intros; (try simp only [decide_eq_true_eq, decide_eq_false_iff_not, beq_iff_eq, bne_iff_ne, Bool.and_eq_true, Bool.or_eq_true] at *); omega)) | omega))
    (repeat' (first | simp -implicitDefEqProofs +contextual (maxSteps := 9000000) only [kx, ↓ky, tyS, tyX3, tyX4, tyX9, tyX23, tyX24, tyX31, Nat.reduceAdd, Nat.reduceMul, Nat.reduceSub, Nat.reduceLT, Nat.reduceLeDiff, Nat.reduceEqDiff, Nat.reduceBEq, Int.reduceAdd, Int.reduceSub, Int.reduceMul, Int.reduceLT, Int.reduceLE, Int.reduceToNat, Int.reduceBEq, Int.reduceBNe, Int.reduceNeg, Int.reduceGT, Nat.reduceGT, Int.reduceEq, reduceCtorEq, ↓reduceIte] | (with_reducible first | refine SB.d (fun _ => ?_) (fun _ => ?_) | refine SB.e (fun _ => ?_) (fun _ => ?_) | refine SB.n (fun _ => ?_) (fun _ => ?_) | refine SB.b (fun _ => ?_) (fun _ => ?_) | refine And.intro (REG.ok (by kernel_rfl)) ?_ | exact REG.ok (by kernel_rfl)) | refine CK.c0 enters14 (d2) rfl rfl ?_ | refine CK.cp enters14 (fun _ => d2) rfl rfl ?_ | (with_reducible refine And.intro ?_ ?_); (focus (intros; (try simp only [decide_eq_true_eq, decide_eq_false_iff_not, beq_iff_eq, bne_iff_ne, Bool.and_eq_true, Bool.or_eq_true] at *); omega)) | omega))
end Go.Proofs.YtfldnpkacelniaaDoor
