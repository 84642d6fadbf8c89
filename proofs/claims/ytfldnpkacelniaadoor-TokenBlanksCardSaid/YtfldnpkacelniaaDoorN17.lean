/- A part of the walk (Tryd_N17): its theorems have no condition beyond what they state. -/
import Derived.Test.YtfldnpkacelniaaDoorN16
import Derived.Test.YtfldnpkacelniaaDoorLib3
set_option linter.unusedSimpArgs false
set_option linter.unusedVariables false
set_option linter.defProp false
namespace Go.Proofs.YtfldnpkacelniaaDoor
open Go Go.Abs Go.RowKit
def blkR : List (List PVal) := [[.str [32]], [.str [10]], [.str [9, 32]], [.str [32, 35, 32, 110, 111, 116, 101, 59, 32, 53, 32, 64, 10]], [.str [13, 10]], [.str [35, 10]], [.str [32, 32]]]
theorem blkR_len : blkR.length = 7 := rfl
theorem blkR_get (r : Nat) (h : r < 7) : blkR.getD r [] = [.str (blk.getD r [])] := by
  match r, h with
  | 0, _ => rfl
  | 1, _ => rfl
  | 2, _ => rfl
  | 3, _ => rfl
  | 4, _ => rfl
  | 5, _ => rfl
  | 6, _ => rfl
theorem next7 (cs : List UInt8) (k : Nat) (hc : cs.length ≤ 200) (hk : k ≤ cs.length) : ∃ r k' : Nat, r < 7 ∧ k ≤ k' ∧ k' ≤ cs.length ∧ (blk.getD r []).length ≤ 1 + 12 * (k' - k) ∧
    AC Tryd.prog gl 24 [.ref 0 0, .pv (.int .i64 7)] (cdO cs k) (.pv (.int .i64 r)) (cdO cs k') := by
  by_cases h : k < cs.length
  · have hr : (cs.getD k 0).toNat % 7 < 7 := Nat.mod_lt _ (by omega)
    refine ⟨(cs.getD k 0).toNat % 7, k + 1, hr, by omega, by omega, ?_, next_in cs k 7 h (by omega) (by omega) (by omega)⟩
    have := (blk_at _ hr).le
    omega
  · exact ⟨0, k, by omega, by omega, hk, by rw [blk0]; simp, next_out cs k 7 h⟩
set_option maxRecDepth 100000 in
set_option maxHeartbeats 4000000 in
theorem blanks_law (s : List UInt8) (codes : List UInt8) : AC Tryd.prog gl 8 [.pv (.str s), .pv (.slice (codes.map encB))] [] (.pv (.bool true)) [] := by
  have cA := awake_ac
  have cS := scan_ac s
  refine body0 (fun _ => 0) 1 Tryd.func8 rfl Tryd.ntmps8 (by rw [Tryd.results8]) (by simp) ?_
  by_cases he : (scan s).2.2 = 0
  rotate_left
  · have he' : ((scan s).2.2 != 0) = true := by simpa using he
    (repeat' (first | simp -implicitDefEqProofs +contextual (maxSteps := 9000000) only [kx, ↓ky, tyS, tyX3, tyX4, tyX9, tyX23, tyX24, tyX32, tyX36, tyX37, Nat.reduceAdd, Nat.reduceMul, Nat.reduceSub, Nat.reduceLT, Nat.reduceLeDiff, Nat.reduceEqDiff, Nat.reduceBEq, Int.reduceAdd, Int.reduceSub, Int.reduceMul, Int.reduceLT, Int.reduceLE, Int.reduceToNat, Int.reduceBEq, Int.reduceBNe, Int.reduceNeg, Int.reduceGT, Nat.reduceGT, Int.reduceEq, reduceCtorEq, ↓reduceIte, he'] | (with_reducible first | refine SB.d (fun _ => ?_) (fun _ => ?_) | refine SB.e (fun _ => ?_) (fun _ => ?_) | refine SB.n (fun _ => ?_) (fun _ => ?_) | refine SB.b (fun _ => ?_) (fun _ => ?_) | refine And.intro (REG.ok (by kernel_rfl)) ?_ | exact REG.ok (by kernel_rfl)) | refine CK.c0 enters11 (cA) rfl rfl ?_ | refine CK.cp enters11 (fun _ => cA) rfl rfl ?_ | refine CK.c0 enters12 (cS) rfl rfl ?_ | refine CK.cp enters12 (fun _ => cS) rfl rfl ?_ | (with_reducible refine And.intro ?_ ?_); (focus (intros; (try simp only [decide_eq_true_eq, decide_eq_false_iff_not, beq_iff_eq, bne_iff_ne, Bool.and_eq_true, Bool.or_eq_true] at *); omega)) | omega))
  · obtain ⟨hl, l, hsc, hse⟩ := scan_sc s he
    rw [hse] at cS
    have hln := hsc.len
    by_cases h4 : s.length > 400
    · have h4' : (s.length : Int) > 400 := by omega
      (repeat' (first | simp -implicitDefEqProofs +contextual (maxSteps := 9000000) only [kx, ↓ky, tyS, tyX3, tyX4, tyX9, tyX23, tyX24, tyX32, tyX36, tyX37, Nat.reduceAdd, Nat.reduceMul, Nat.reduceSub, Nat.reduceLT, Nat.reduceLeDiff, Nat.reduceEqDiff, Nat.reduceBEq, Int.reduceAdd, Int.reduceSub, Int.reduceMul, Int.reduceLT, Int.reduceLE, Int.reduceToNat, Int.reduceBEq, Int.reduceBNe, Int.reduceNeg, Int.reduceGT, Nat.reduceGT, Int.reduceEq, reduceCtorEq, ↓reduceIte, h4'] | (with_reducible first | refine SB.d (fun _ => ?_) (fun _ => ?_) | refine SB.e (fun _ => ?_) (fun _ => ?_) | refine SB.n (fun _ => ?_) (fun _ => ?_) | refine SB.b (fun _ => ?_) (fun _ => ?_) | refine And.intro (REG.ok (by kernel_rfl)) ?_ | exact REG.ok (by kernel_rfl)) | refine CK.c0 enters11 (cA) rfl rfl ?_ | refine CK.cp enters11 (fun _ => cA) rfl rfl ?_ | refine CK.c0 enters12 (cS) rfl rfl ?_ | refine CK.cp enters12 (fun _ => cS) rfl rfl ?_ | (with_reducible refine And.intro ?_ ?_); (focus (intros; (try simp only [decide_eq_true_eq, decide_eq_false_iff_not, beq_iff_eq, bne_iff_ne, Bool.and_eq_true, Bool.or_eq_true] at *); omega)) | omega))
    have h4' : ¬ (s.length : Int) > 400 := by omega
    have cN := new_ac codes 200 (by omega)
    have hcl : (codes.take 200).length ≤ 200 := by simp; omega
    generalize codes.take 200 = cs at *
    obtain ⟨r0, j0, a1, a2, a3, a4, cX⟩ := next7 cs 0 hcl (by omega)
    have hb0 := blkR_get r0 a1
    have hdef : ([[.str [32]], [.str [10]], [.str [9, 32]], [.str [32, 35, 32, 110, 111, 116, 101, 59, 32, 53, 32, 64, 10]], [.str [13, 10]], [.str [35, 10]], [.str [32, 32]]] : List (List PVal)) = blkR := rfl
    have a1' : (r0 : Int) < 7 := by omega
    have hbl := blkR_len
    (repeat' (first | simp -implicitDefEqProofs +contextual (maxSteps := 9000000) only [kx, ↓ky, tyS, tyX3, tyX4, tyX9, tyX23, tyX24, tyX32, tyX36, tyX37, Nat.reduceAdd, Nat.reduceMul, Nat.reduceSub, Nat.reduceLT, Nat.reduceLeDiff, Nat.reduceEqDiff, Nat.reduceBEq, Int.reduceAdd, Int.reduceSub, Int.reduceMul, Int.reduceLT, Int.reduceLE, Int.reduceToNat, Int.reduceBEq, Int.reduceBNe, Int.reduceNeg, Int.reduceGT, Nat.reduceGT, Int.reduceEq, reduceCtorEq, ↓reduceIte, h4', hdef, hbl, hb0, a1, kz] | (with_reducible first | refine SB.d (fun _ => ?_) (fun _ => ?_) | refine SB.e (fun _ => ?_) (fun _ => ?_) | refine SB.n (fun _ => ?_) (fun _ => ?_) | refine SB.b (fun _ => ?_) (fun _ => ?_) | refine And.intro (REG.ok (by kernel_rfl)) ?_ | exact REG.ok (by kernel_rfl)) | refine CK.c0 enters11 (cA) rfl rfl ?_ | refine CK.cp enters11 (fun _ => cA) rfl rfl ?_ | refine CK.c0 enters12 (cS) rfl rfl ?_ | refine CK.cp enters12 (fun _ => cS) rfl rfl ?_ | refine CK.co [] [0] enters23 (cN) rfl rfl rfl rfl rfl (by decide) rfl (by simp) ?_ | refine CK.co [0] [] enters24 (cX) rfl rfl rfl rfl rfl (by decide) rfl (by simp) ?_ | (with_reducible refine And.intro ?_ ?_); (focus (intros; (try simp only [decide_eq_true_eq, decide_eq_false_iff_not, beq_iff_eq, bne_iff_ne, Bool.and_eq_true, Bool.or_eq_true] at *); omega)) | omega))
    refine loopV (ι := BI s l cs.length) (fun i => ⟨(.junk :: .junk :: .junk :: .junk :: .junk :: .pv (.slice (l.map encTk)) :: .junk :: .junk :: .ref 0 0 :: .pv (.slice blkR) :: .pv (.str i.t) :: .junk :: .junk :: .junk :: .junk :: .junk :: .junk :: .junk :: .junk :: .junk :: .junk :: .junk :: .junk :: .junk :: .junk :: .junk :: .junk :: .junk :: .junk :: .junk :: .junk :: .junk :: .junk :: .junk :: .junk :: .junk :: .junk :: .junk :: .junk :: .pv (.int .i64 l.length) :: .pv (.int .i64 i.k) :: .junk :: .junk :: .junk :: .junk :: .junk :: .junk :: .junk :: .junk :: .junk :: .junk :: .junk :: .junk :: .junk :: .junk :: .junk :: .junk :: .junk :: .junk :: .junk :: .junk :: .junk :: .junk :: .junk :: .junk :: .junk :: .junk :: .junk :: .junk :: .junk :: .junk :: []), cdO cs i.j⟩) (fun i => l.length - i.k) (BI.start s l cs.length hsc (blk.getD r0 []) (blk_at r0 a1) j0 a3 (by omega)) (Weak.forget rfl (pinsF (by simp) (by simp)) (by simp [wkSlots, wkObjs, ren, renL, renO, inScope, inScopeL, inScopeO, hasObj, St.obj, List.getD, BI.start]) (by simp [wkSlots, wkObjs, ren, renL, renO, inScope, inScopeL, inScopeO, hasObj, St.obj, List.getD, BI.start])) ?_
    intro i
    have hik := i.hk
    have hij := i.hj
    have hlen := i.len
    have hifr := i.hfr
    by_cases hlt : i.k < l.length
    · have hlt' : (i.k : Int) < l.length := by omega
      have hw := wrapS i.k (by omega)
      have hc1 := cut1 l i.k hlt
      have hv := hsc.vals l[i.k] (List.getElem_mem hlt)
      have hgd : l.getD i.k tk0 = l[i.k] := by simp [List.getD, hlt]
      rw [hgd] at hc1
      have cP := print1_ac l[i.k] hv.1 (by have := hv.2.2.1; omega)
      have q1 : (i.k : Int) ≤ ((i.k + 1 : Nat) : Int) := by omega
      have q2 : ((i.k + 1 : Nat) : Int) ≤ l.length := by omega
      have q3 := len0 l (by omega)
      obtain ⟨r, j', b1, b2, b3, b4, cX⟩ := next7 cs i.j hcl hij
      have hb := blkR_get r b1
      have b1' : (r : Int) < 7 := by omega
      have g := blk_at r b1
      have g1 := g.le
      have u1 : (wordT l[i.k]).length + (blk.getD r []).length ≤ 4611686018427387904 := by have := hv.2.2.1; omega
      have u2 : i.t.length + (wordT l[i.k] ++ blk.getD r []).length ≤ 4611686018427387904 := by have := hv.2.2.1; simp only [List.length_append]; omega
      (repeat' (first | simp -implicitDefEqProofs +contextual (maxSteps := 9000000) only [kx, ↓ky, tyS, tyX3, tyX4, tyX9, tyX23, tyX24, tyX32, tyX36, tyX37, Nat.reduceAdd, Nat.reduceMul, Nat.reduceSub, Nat.reduceLT, Nat.reduceLeDiff, Nat.reduceEqDiff, Nat.reduceBEq, Int.reduceAdd, Int.reduceSub, Int.reduceMul, Int.reduceLT, Int.reduceLE, Int.reduceToNat, Int.reduceBEq, Int.reduceBNe, Int.reduceNeg, Int.reduceGT, Nat.reduceGT, Int.reduceEq, reduceCtorEq, ↓reduceIte, hlt, hlt', hw, hc1, q1, q2, q3, hb, b1, hbl, u1, u2, kz] | (with_reducible first | refine SB.d (fun _ => ?_) (fun _ => ?_) | refine SB.e (fun _ => ?_) (fun _ => ?_) | refine SB.n (fun _ => ?_) (fun _ => ?_) | refine SB.b (fun _ => ?_) (fun _ => ?_) | refine And.intro (REG.ok (by kernel_rfl)) ?_ | exact REG.ok (by kernel_rfl)) | refine CK.c0 enters20 (cP) rfl rfl ?_ | refine CK.cp enters20 (fun _ => cP) rfl rfl ?_ | refine CK.co [0] [] enters24 (cX) rfl rfl rfl rfl rfl (by decide) rfl (by simp) ?_ | (with_reducible refine And.intro ?_ ?_); (focus (intros; (try simp only [decide_eq_true_eq, decide_eq_false_iff_not, beq_iff_eq, bne_iff_ne, Bool.and_eq_true, Bool.or_eq_true] at *); omega)) | omega))
      exact ⟨i.next (fun t ht => (hsc.vals t ht).2.2.2) hlt (blk.getD r []) g j' b3 b2 (by omega), (Weak.forget rfl (pinsF (by simp) (by simp)) (by simp [wkSlots, wkObjs, ren, renL, renO, inScope, inScopeL, inScopeO, hasObj, St.obj, List.getD, BI.next_t, BI.next_k, BI.next_j]) (by simp [wkSlots, wkObjs, ren, renL, renO, inScope, inScopeL, inScopeO, hasObj, St.obj, List.getD, BI.next_t, BI.next_k, BI.next_j])), by simp only [BI.next_k]; omega⟩
    · have hke : i.k = l.length := by omega
      have hsu := i.fin hke
      have hlt' : ¬ (i.k : Int) < l.length := by omega
      obtain ⟨l', h1, h2⟩ := hsu.sc
      have hll : l'.length = l.length := (strip_get h2).1
      have c2 := scan_ac i.t
      rw [h1.scan (by omega)] at c2
      have d1 := same2_ac l l' (by omega) h2
      (repeat' (first | simp -implicitDefEqProofs +contextual (maxSteps := 9000000) only [kx, ↓ky, tyS, tyX3, tyX4, tyX9, tyX23, tyX24, tyX32, tyX36, tyX37, Nat.reduceAdd, Nat.reduceMul, Nat.reduceSub, Nat.reduceLT, Nat.reduceLeDiff, Nat.reduceEqDiff, Nat.reduceBEq, Int.reduceAdd, Int.reduceSub, Int.reduceMul, Int.reduceLT, Int.reduceLE, Int.reduceToNat, Int.reduceBEq, Int.reduceBNe, Int.reduceNeg, Int.reduceGT, Nat.reduceGT, Int.reduceEq, reduceCtorEq, ↓reduceIte, hlt'] | (with_reducible first | refine SB.d (fun _ => ?_) (fun _ => ?_) | refine SB.e (fun _ => ?_) (fun _ => ?_) | refine SB.n (fun _ => ?_) (fun _ => ?_) | refine SB.b (fun _ => ?_) (fun _ => ?_) | refine And.intro (REG.ok (by kernel_rfl)) ?_ | exact REG.ok (by kernel_rfl)) | refine CK.c0 enters12 (c2) rfl rfl ?_ | refine CK.cp enters12 (fun _ => c2) rfl rfl ?_ | (with_reducible refine And.intro ?_ ?_); (focus (intros; (try simp only [decide_eq_true_eq, decide_eq_false_iff_not, beq_iff_eq, bne_iff_ne, Bool.and_eq_true, Bool.or_eq_true] at *); omega)) | omega))
      (repeat' (first | simp -implicitDefEqProofs +contextual (maxSteps := 9000000) only [kx, ↓ky, tyS, tyX3, tyX4, tyX9, tyX23, tyX24, tyX32, tyX36, tyX37, Nat.reduceAdd, Nat.reduceMul, Nat.reduceSub, Nat.reduceLT, Nat.reduceLeDiff, Nat.reduceEqDiff, Nat.reduceBEq, Int.reduceAdd, Int.reduceSub, Int.reduceMul, Int.reduceLT, Int.reduceLE, Int.reduceToNat, Int.reduceBEq, Int.reduceBNe, Int.reduceNeg, Int.reduceGT, Nat.reduceGT, Int.reduceEq, reduceCtorEq, ↓reduceIte] | (with_reducible first | refine SB.d (fun _ => ?_) (fun _ => ?_) | refine SB.e (fun _ => ?_) (fun _ => ?_) | refine SB.n (fun _ => ?_) (fun _ => ?_) | refine SB.b (fun _ => ?_) (fun _ => ?_) | refine And.intro (REG.ok (by kernel_rfl)) ?_ | exact REG.ok (by kernel_rfl)) | refine CK.c0 enters22 (d1) rfl rfl ?_ | refine CK.cp enters22 (fun _ => d1) rfl rfl ?_ | (with_reducible refine And.intro ?_ ?_); (focus (intros; (try simp only [decide_eq_true_eq, decide_eq_false_iff_not, beq_iff_eq, bne_iff_ne, Bool.and_eq_true, Bool.or_eq_true] at *); omega)) | omega))
end Go.Proofs.YtfldnpkacelniaaDoor
