/- A part of the walk (Tryd_N14): its theorems have no condition beyond what they state. -/
import Derived.Test.YtfldnpkacelniaaDoorN13
import Derived.Test.YtfldnpkacelniaaDoorLib3
set_option linter.unusedSimpArgs false
set_option linter.unusedVariables false
set_option linter.defProp false
namespace Go.Proofs.YtfldnpkacelniaaDoor
open Go Go.Abs Go.RowKit
theorem print1_ac (t : TkD) (hv : t.value ≤ 9223372036854775807) (hl : (wordT t).length ≤ 4096) : AC Tryd.prog gl 20 [.pv (.slice [encTk t])] [] (.pv (.str (wordT t))) [] := by
  have := print_ac [t] (by simp) (by simpa using hv) (by rw [print_one]; omega)
  rw [print_one] at this
  exact this
theorem cut1 (l : List TkD) (k : Nat) (h : k < l.length) : ((l.map encTk).take (k + 1)).drop k = [encTk (l.getD k tk0)] := by
  have e : l.getD k tk0 = l[k] := by simp [List.getD, h]
  rw [e, List.drop_take, show k + 1 - k = 1 by omega, ← List.map_drop, List.drop_eq_getElem_cons h]
  rfl
theorem len0 (l : List TkD) (h : 0 < l.length) : ((l.map encTk).getD 0 []).length = 4 := by
  cases l with
  | nil => simp at h
  | cons t r => rfl
set_option maxRecDepth 100000 in
set_option maxHeartbeats 4000000 in
theorem offsets_law (s : List UInt8) (hs : s.length ≤ 281474976710656) : AC Tryd.prog gl 9 [.pv (.str s)] [] (.pv (.bool true)) [] := by
  have cA := awake_ac
  have cS := scan_ac s
  refine body0 (fun _ => 0) 0 Tryd.func9 rfl Tryd.ntmps9 (by rw [Tryd.results9]) (by simp) ?_
  by_cases he : (scan s).2.2 = 0
  rotate_left
  · obtain ⟨h1, h2, h3⟩ := scan_err s he
    simp only [rS, h1, List.map_nil] at cS
    have he' : ((scan s).2.2 != 0) = true := by simpa using he
    have h2' : (scan s).2.1 ≥ 0 := h2
    (repeat' (first | simp -implicitDefEqProofs +contextual (maxSteps := 9000000) only [kx, ↓ky, tyS, tyX3, tyX4, tyX9, tyX23, tyX24, tyX31, Nat.reduceAdd, Nat.reduceMul, Nat.reduceSub, Nat.reduceLT, Nat.reduceLeDiff, Nat.reduceEqDiff, Nat.reduceBEq, Int.reduceAdd, Int.reduceSub, Int.reduceMul, Int.reduceLT, Int.reduceLE, Int.reduceToNat, Int.reduceBEq, Int.reduceBNe, Int.reduceNeg, Int.reduceGT, Nat.reduceGT, Int.reduceEq, reduceCtorEq, ↓reduceIte, he', h2', h3] | (with_reducible first | refine SB.d (fun _ => ?_) (fun _ => ?_) | refine SB.e (fun _ => ?_) (fun _ => ?_) | refine SB.n (fun _ => ?_) (fun _ => ?_) | refine SB.b (fun _ => ?_) (fun _ => ?_) | refine And.intro (REG.ok (by kernel_rfl)) ?_ | exact REG.ok (by kernel_rfl)) | refine CK.c0 enters11 (cA) rfl rfl ?_ | refine CK.cp enters11 (fun _ => cA) rfl rfl ?_ | refine CK.c0 enters12 (cS) rfl rfl ?_ | refine CK.cp enters12 (fun _ => cS) rfl rfl ?_ | (with_reducible refine And.intro ?_ ?_); (focus (intros; (try simp only [decide_eq_true_eq, decide_eq_false_iff_not, beq_iff_eq, bne_iff_ne, Bool.and_eq_true, Bool.or_eq_true] at *); omega)) | omega))
  · obtain ⟨hl, l, hsc, hse⟩ := scan_sc s he
    rw [hse] at cS
    have hln := hsc.len
    (repeat' (first | simp -implicitDefEqProofs +contextual (maxSteps := 9000000) only [kx, ↓ky, tyS, tyX3, tyX4, tyX9, tyX23, tyX24, tyX31, Nat.reduceAdd, Nat.reduceMul, Nat.reduceSub, Nat.reduceLT, Nat.reduceLeDiff, Nat.reduceEqDiff, Nat.reduceBEq, Int.reduceAdd, Int.reduceSub, Int.reduceMul, Int.reduceLT, Int.reduceLE, Int.reduceToNat, Int.reduceBEq, Int.reduceBNe, Int.reduceNeg, Int.reduceGT, Nat.reduceGT, Int.reduceEq, reduceCtorEq, ↓reduceIte] | (with_reducible first | refine SB.d (fun _ => ?_) (fun _ => ?_) | refine SB.e (fun _ => ?_) (fun _ => ?_) | refine SB.n (fun _ => ?_) (fun _ => ?_) | refine SB.b (fun _ => ?_) (fun _ => ?_) | refine And.intro (REG.ok (by kernel_rfl)) ?_ | exact REG.ok (by kernel_rfl)) | refine CK.c0 enters11 (cA) rfl rfl ?_ | refine CK.cp enters11 (fun _ => cA) rfl rfl ?_ | refine CK.c0 enters12 (cS) rfl rfl ?_ | refine CK.cp enters12 (fun _ => cS) rfl rfl ?_ | (with_reducible refine And.intro ?_ ?_); (focus (intros; (try simp only [decide_eq_true_eq, decide_eq_false_iff_not, beq_iff_eq, bne_iff_ne, Bool.and_eq_true, Bool.or_eq_true] at *); omega)) | omega))
    refine loopV (ι := {p : Nat × Nat // p.1 ≤ l.length ∧ Off s p.2 (l.drop p.1)}) (fun i => ⟨(.pv (.str s) :: .junk :: .pv (.bool false) :: .pv (.slice (l.map encTk)) :: .junk :: .junk :: .pv (.int .i64 i.1.2) :: .junk :: .junk :: .junk :: .junk :: .junk :: .junk :: .junk :: .junk :: .junk :: .junk :: .junk :: .junk :: .junk :: .junk :: .junk :: .junk :: .junk :: .junk :: .junk :: .junk :: .junk :: .junk :: .junk :: .junk :: .junk :: .junk :: .pv (.int .i64 l.length) :: .pv (.int .i64 i.1.1) :: .junk :: .junk :: .junk :: .junk :: .junk :: .junk :: .junk :: .junk :: .junk :: .junk :: .junk :: .junk :: .junk :: .junk :: .junk :: .junk :: .junk :: .junk :: .junk :: .junk :: .junk :: .junk :: .junk :: .junk :: .junk :: .junk :: .junk :: .junk :: .junk :: .junk :: .junk :: .junk :: .junk :: .junk :: .junk :: .junk :: .junk :: .junk :: .junk :: .junk :: .junk :: .junk :: .junk :: .junk :: .junk :: .junk :: .junk :: .junk :: .junk :: .junk :: .junk :: .junk :: .junk :: .junk :: .junk :: .junk :: .junk :: .junk :: .junk :: .junk :: .junk :: []), []⟩) (fun i => l.length - i.1.1) ⟨(0, 0), by omega, by simpa using hsc.off⟩ (Weak.forget rfl (pinsF (by simp) (by simp)) (by simp [wkSlots, wkObjs, ren, renL, renO, inScope, inScopeL, inScopeO, hasObj, St.obj, List.getD]) (by simp [wkSlots, wkObjs, ren, renL, renO, inScope, inScopeL, inScopeO, hasObj, St.obj, List.getD])) ?_
    rintro ⟨⟨k, fr⟩, hk, hof⟩
    replace hk : k ≤ l.length := hk
    replace hof : Off s fr (l.drop k) := hof
    by_cases hlt : k < l.length
    · have hlt' : (k : Int) < l.length := by omega
      have hw := wrapS k (by omega)
      have hget := getD_map encTk l k hlt
      have hc1 := cut1 l k hlt
      have hv := hsc.vals l[k] (List.getElem_mem hlt)
      rw [List.drop_eq_getElem_cons hlt] at hof
      have hgd : l.getD k tk0 = l[k] := by simp [List.getD, hlt]
      rw [hgd] at hc1
      generalize l[k] = x at *
      obtain ⟨hv1, hv2, hv3, hv4⟩ := hv
      have cP := print1_ac x hv1 (by omega)
      obtain ⟨a, h1, h2, h3, h4, h5, h6⟩ := hof
      replace hget : (l.map encTk).getD k [] = [.int .i64 x.kind, .str x.text, .int .i64 x.value, .int .i64 a] := by rw [← h1]; exact hget
      have g1 : ¬ (a : Int) < fr := by omega
      have g2 : IntKind.i64.wrap ((a : Int) + (wordT x).length) = ((a + (wordT x).length : Nat) : Int) := by rw [wrap64 _ (by omega) (by omega)]; omega
      have g3 : ¬ ((a + (wordT x).length : Nat) : Int) > s.length := by omega
      have g4 : (((wordT x).length : Int) == 0) = false := by simp; intro h; rw [h] at h3; simp at h3
      have g5 : (s.take (a + (wordT x).length)).drop a = wordT x := h5
      have g6 : (a : Int) ≤ ((a + (wordT x).length : Nat) : Int) := by omega
      have g7 : ((a + (wordT x).length : Nat) : Int) ≤ s.length := by omega
      have q1 : (k : Int) ≤ ((k + 1 : Nat) : Int) := by omega
      have q2 : ((k + 1 : Nat) : Int) ≤ l.length := by omega
      have q3 := len0 l (by omega)
      (repeat' (first | simp -implicitDefEqProofs +contextual (maxSteps := 9000000) only [kx, ↓ky, tyS, tyX3, tyX4, tyX9, tyX23, tyX24, tyX31, Nat.reduceAdd, Nat.reduceMul, Nat.reduceSub, Nat.reduceLT, Nat.reduceLeDiff, Nat.reduceEqDiff, Nat.reduceBEq, Int.reduceAdd, Int.reduceSub, Int.reduceMul, Int.reduceLT, Int.reduceLE, Int.reduceToNat, Int.reduceBEq, Int.reduceBNe, Int.reduceNeg, Int.reduceGT, Nat.reduceGT, Int.reduceEq, reduceCtorEq, ↓reduceIte, hlt, hlt', hget, hw, hc1, q1, q2, q3, g1, g2, g3, g4, g5, g6, g7, bne_self_eq_false] | (with_reducible first | refine SB.d (fun _ => ?_) (fun _ => ?_) | refine SB.e (fun _ => ?_) (fun _ => ?_) | refine SB.n (fun _ => ?_) (fun _ => ?_) | refine SB.b (fun _ => ?_) (fun _ => ?_) | refine And.intro (REG.ok (by kernel_rfl)) ?_ | exact REG.ok (by kernel_rfl)) | refine CK.c0 enters20 (cP) rfl rfl ?_ | refine CK.cp enters20 (fun _ => cP) rfl rfl ?_ | (with_reducible refine And.intro ?_ ?_); (focus (intros; (try simp only [decide_eq_true_eq, decide_eq_false_iff_not, beq_iff_eq, bne_iff_ne, Bool.and_eq_true, Bool.or_eq_true] at *); omega)) | omega))
      exact ⟨⟨(k + 1, a + (wordT x).length), by show k + 1 ≤ l.length; omega, h6⟩, (Weak.forget rfl (pinsF (by simp) (by simp)) (by simp [wkSlots, wkObjs, ren, renL, renO, inScope, inScopeL, inScopeO, hasObj, St.obj, List.getD]) (by simp [wkSlots, wkObjs, ren, renL, renO, inScope, inScopeL, inScopeO, hasObj, St.obj, List.getD])), by simp; omega⟩
    · have hlt' : ¬ (k : Int) < l.length := by omega
      (repeat' (first | simp -implicitDefEqProofs +contextual (maxSteps := 9000000) only [kx, ↓ky, tyS, tyX3, tyX4, tyX9, tyX23, tyX24, tyX31, Nat.reduceAdd, Nat.reduceMul, Nat.reduceSub, Nat.reduceLT, Nat.reduceLeDiff, Nat.reduceEqDiff, Nat.reduceBEq, Int.reduceAdd, Int.reduceSub, Int.reduceMul, Int.reduceLT, Int.reduceLE, Int.reduceToNat, Int.reduceBEq, Int.reduceBNe, Int.reduceNeg, Int.reduceGT, Nat.reduceGT, Int.reduceEq, reduceCtorEq, ↓reduceIte, hlt'] | (with_reducible first | refine SB.d (fun _ => ?_) (fun _ => ?_) | refine SB.e (fun _ => ?_) (fun _ => ?_) | refine SB.n (fun _ => ?_) (fun _ => ?_) | refine SB.b (fun _ => ?_) (fun _ => ?_) | refine And.intro (REG.ok (by kernel_rfl)) ?_ | exact REG.ok (by kernel_rfl)) | (with_reducible refine And.intro ?_ ?_); (focus (intros; (try simp only [decide_eq_true_eq, decide_eq_false_iff_not, beq_iff_eq, bne_iff_ne, Bool.and_eq_true, Bool.or_eq_true] at *); omega)) | omega))
set_option maxRecDepth 100000 in
set_option maxHeartbeats 2000000 in
theorem same2_ac (l m : List TkD) (hl : l.length ≤ 1000000) (h : m.map strip = l.map strip) : AC Tryd.prog gl 22 [.pv (.slice (l.map encTk)), .pv (.slice (m.map encTk))] [] (.pv (.bool true)) [] := by
  obtain ⟨hml, hg⟩ := strip_get h
  refine body0 (fun _ => 0) 0 Tryd.func22 rfl Tryd.ntmps22 (by rw [Tryd.results22]) (by simp) ?_
  (repeat' (first | simp -implicitDefEqProofs +contextual (maxSteps := 9000000) only [kx, ↓ky, tyS, tyX3, tyX9, tyX23, tyX31, Nat.reduceAdd, Nat.reduceMul, Nat.reduceSub, Nat.reduceLT, Nat.reduceLeDiff, Nat.reduceEqDiff, Nat.reduceBEq, Int.reduceAdd, Int.reduceSub, Int.reduceMul, Int.reduceLT, Int.reduceLE, Int.reduceToNat, Int.reduceBEq, Int.reduceBNe, Int.reduceNeg, Int.reduceGT, Nat.reduceGT, Int.reduceEq, reduceCtorEq, ↓reduceIte, hml, bne_self_eq_false] | (with_reducible first | refine SB.d (fun _ => ?_) (fun _ => ?_) | refine SB.e (fun _ => ?_) (fun _ => ?_) | refine SB.n (fun _ => ?_) (fun _ => ?_) | refine SB.b (fun _ => ?_) (fun _ => ?_) | refine And.intro (REG.ok (by kernel_rfl)) ?_ | exact REG.ok (by kernel_rfl)) | (with_reducible refine And.intro ?_ ?_); (focus (intros; (try simp only [decide_eq_true_eq, decide_eq_false_iff_not, beq_iff_eq, bne_iff_ne, Bool.and_eq_true, Bool.or_eq_true] at *); omega)) | omega))
  refine loopV (ι := {k : Nat // k ≤ l.length}) (fun i => ⟨(.pv (.slice (l.map encTk)) :: .pv (.slice (m.map encTk)) :: .junk :: .junk :: .junk :: .pv (.int .i64 i.1) :: .junk :: .junk :: .junk :: .junk :: .junk :: .junk :: .junk :: .junk :: .junk :: .junk :: .junk :: .junk :: .junk :: .junk :: .junk :: .junk :: .junk :: .junk :: .junk :: .junk :: .junk :: .junk :: .junk :: .junk :: .junk :: .junk :: .junk :: .junk :: .junk :: .junk :: .junk :: .junk :: .junk :: .junk :: .junk :: .junk :: .junk :: .junk :: .junk :: .junk :: .junk :: .junk :: .junk :: .junk :: .junk :: .junk :: .junk :: .junk :: []), []⟩) (fun i => l.length - i.1) ⟨0, by omega⟩ (Weak.forget rfl (pinsF (by simp) (by simp)) (by simp [wkSlots, wkObjs, ren, renL, renO, inScope, inScopeL, inScopeO, hasObj, St.obj, List.getD]) (by simp [wkSlots, wkObjs, ren, renL, renO, inScope, inScopeL, inScopeO, hasObj, St.obj, List.getD])) ?_
  rintro ⟨k, hk⟩
  by_cases hlt : k < l.length
  · have hlt' : (k : Int) < l.length := by omega
    have hltm : k < m.length := by omega
    have hw := wrapS k (by omega)
    obtain ⟨e1, e2, e3⟩ := hg k hlt
    have hget : (l.map encTk).getD k [] = encTk (l.getD k tk0) := by simp [List.getD, hlt]
    have hgem : (m.map encTk).getD k [] = encTk (m.getD k tk0) := by simp [List.getD, hltm]
    unfold encTk at hget hgem
    rw [e1, e2, e3] at hgem
    replace hget : (l.map encTk).getD k [] = _ := hget
    replace hgem : (m.map encTk).getD k [] = _ := hgem
    generalize l.getD k tk0 = x at *
    generalize (m.getD k tk0).pos = y at *
    (repeat' (first | simp -implicitDefEqProofs +contextual (maxSteps := 9000000) only [kx, ↓ky, tyS, tyX3, tyX9, tyX23, tyX31, Nat.reduceAdd, Nat.reduceMul, Nat.reduceSub, Nat.reduceLT, Nat.reduceLeDiff, Nat.reduceEqDiff, Nat.reduceBEq, Int.reduceAdd, Int.reduceSub, Int.reduceMul, Int.reduceLT, Int.reduceLE, Int.reduceToNat, Int.reduceBEq, Int.reduceBNe, Int.reduceNeg, Int.reduceGT, Nat.reduceGT, Int.reduceEq, reduceCtorEq, ↓reduceIte, hlt', hlt, hltm, hml, hget, hgem, hw, bne_self_eq_false] | (with_reducible first | refine SB.d (fun _ => ?_) (fun _ => ?_) | refine SB.e (fun _ => ?_) (fun _ => ?_) | refine SB.n (fun _ => ?_) (fun _ => ?_) | refine SB.b (fun _ => ?_) (fun _ => ?_) | refine And.intro (REG.ok (by kernel_rfl)) ?_ | exact REG.ok (by kernel_rfl)) | (with_reducible refine And.intro ?_ ?_); (focus (intros; (try simp only [decide_eq_true_eq, decide_eq_false_iff_not, beq_iff_eq, bne_iff_ne, Bool.and_eq_true, Bool.or_eq_true] at *); omega)) | omega))
    exact ⟨⟨k + 1, by omega⟩, (Weak.forget rfl (pinsF (by simp) (by simp)) (by simp [wkSlots, wkObjs, ren, renL, renO, inScope, inScopeL, inScopeO, hasObj, St.obj, List.getD]) (by simp [wkSlots, wkObjs, ren, renL, renO, inScope, inScopeL, inScopeO, hasObj, St.obj, List.getD])), by simp; omega⟩
  · have hlt' : ¬ (k : Int) < l.length := by omega
    (repeat' (first | simp -implicitDefEqProofs +contextual (maxSteps := 9000000) only [kx, ↓ky, tyS, tyX3, tyX9, tyX23, tyX31, Nat.reduceAdd, Nat.reduceMul, Nat.reduceSub, Nat.reduceLT, Nat.reduceLeDiff, Nat.reduceEqDiff, Nat.reduceBEq, Int.reduceAdd, Int.reduceSub, Int.reduceMul, Int.reduceLT, Int.reduceLE, Int.reduceToNat, Int.reduceBEq, Int.reduceBNe, Int.reduceNeg, Int.reduceGT, Nat.reduceGT, Int.reduceEq, reduceCtorEq, ↓reduceIte, hlt'] | (with_reducible first | refine SB.d (fun _ => ?_) (fun _ => ?_) | refine SB.e (fun _ => ?_) (fun _ => ?_) | refine SB.n (fun _ => ?_) (fun _ => ?_) | refine SB.b (fun _ => ?_) (fun _ => ?_) | refine And.intro (REG.ok (by kernel_rfl)) ?_ | exact REG.ok (by kernel_rfl)) | (with_reducible refine And.intro ?_ ?_); (focus (intros; (try simp only [decide_eq_true_eq, decide_eq_false_iff_not, beq_iff_eq, bne_iff_ne, Bool.and_eq_true, Bool.or_eq_true] at *); omega)) | omega))
set_option maxRecDepth 100000 in
set_option maxHeartbeats 4000000 in
theorem back_law (s : List UInt8) : AC Tryd.prog gl 7 [.pv (.str s)] [] (.pv (.bool true)) [] := by
  have cA := awake_ac
  have cS := scan_ac s
  refine body0 (fun _ => 0) 0 Tryd.func7 rfl Tryd.ntmps7 (by rw [Tryd.results7]) (by simp) ?_
  by_cases he : (scan s).2.2 = 0
  rotate_left
  · obtain ⟨h1, h2, h3⟩ := scan_err s he
    simp only [rS, h1, List.map_nil] at cS
    have he' : ((scan s).2.2 != 0) = true := by simpa using he
    (repeat' (first | simp -implicitDefEqProofs +contextual (maxSteps := 9000000) only [kx, ↓ky, tyS, tyX3, tyX4, tyX9, tyX23, tyX24, Nat.reduceAdd, Nat.reduceMul, Nat.reduceSub, Nat.reduceLT, Nat.reduceLeDiff, Nat.reduceEqDiff, Nat.reduceBEq, Int.reduceAdd, Int.reduceSub, Int.reduceMul, Int.reduceLT, Int.reduceLE, Int.reduceToNat, Int.reduceBEq, Int.reduceBNe, Int.reduceNeg, Int.reduceGT, Nat.reduceGT, Int.reduceEq, reduceCtorEq, ↓reduceIte, he'] | (with_reducible first | refine SB.d (fun _ => ?_) (fun _ => ?_) | refine SB.e (fun _ => ?_) (fun _ => ?_) | refine SB.n (fun _ => ?_) (fun _ => ?_) | refine SB.b (fun _ => ?_) (fun _ => ?_) | refine And.intro (REG.ok (by kernel_rfl)) ?_ | exact REG.ok (by kernel_rfl)) | refine CK.c0 enters11 (cA) rfl rfl ?_ | refine CK.cp enters11 (fun _ => cA) rfl rfl ?_ | refine CK.c0 enters12 (cS) rfl rfl ?_ | refine CK.cp enters12 (fun _ => cS) rfl rfl ?_ | (with_reducible refine And.intro ?_ ?_); (focus (intros; (try simp only [decide_eq_true_eq, decide_eq_false_iff_not, beq_iff_eq, bne_iff_ne, Bool.and_eq_true, Bool.or_eq_true] at *); omega)) | omega))
  · obtain ⟨hl, l, hsc, hse⟩ := scan_sc s he
    rw [hse] at cS
    have hln := hsc.len
    have hv := hsc.vals
    have cP := print_ac l (by omega) (fun t ht => (hv t ht).1) (hsc.print hl)
    by_cases hb : (printF l).length > 4096
    · have hb' : ((printF l).length : Int) > 4096 := by omega
      (repeat' (first | simp -implicitDefEqProofs +contextual (maxSteps := 9000000) only [kx, ↓ky, tyS, tyX3, tyX4, tyX9, tyX23, tyX24, Nat.reduceAdd, Nat.reduceMul, Nat.reduceSub, Nat.reduceLT, Nat.reduceLeDiff, Nat.reduceEqDiff, Nat.reduceBEq, Int.reduceAdd, Int.reduceSub, Int.reduceMul, Int.reduceLT, Int.reduceLE, Int.reduceToNat, Int.reduceBEq, Int.reduceBNe, Int.reduceNeg, Int.reduceGT, Nat.reduceGT, Int.reduceEq, reduceCtorEq, ↓reduceIte, hb'] | (with_reducible first | refine SB.d (fun _ => ?_) (fun _ => ?_) | refine SB.e (fun _ => ?_) (fun _ => ?_) | refine SB.n (fun _ => ?_) (fun _ => ?_) | refine SB.b (fun _ => ?_) (fun _ => ?_) | refine And.intro (REG.ok (by kernel_rfl)) ?_ | exact REG.ok (by kernel_rfl)) | refine CK.c0 enters11 (cA) rfl rfl ?_ | refine CK.cp enters11 (fun _ => cA) rfl rfl ?_ | refine CK.c0 enters12 (cS) rfl rfl ?_ | refine CK.cp enters12 (fun _ => cS) rfl rfl ?_ | refine CK.c0 enters20 (cP) rfl rfl ?_ | refine CK.cp enters20 (fun _ => cP) rfl rfl ?_ | (with_reducible refine And.intro ?_ ?_); (focus (intros; (try simp only [decide_eq_true_eq, decide_eq_false_iff_not, beq_iff_eq, bne_iff_ne, Bool.and_eq_true, Bool.or_eq_true] at *); omega)) | omega))
    · have hb' : ¬ ((printF l).length : Int) > 4096 := by omega
      obtain ⟨m, hm, hst⟩ := (Su.print l (fun t ht => (hv t ht).2.2.2)).sc
      have cS2 := scan_ac (printF l)
      rw [hm.scan (by omega)] at cS2
      have cE := same2_ac l m (by omega) hst
      (repeat' (first | simp -implicitDefEqProofs +contextual (maxSteps := 9000000) only [kx, ↓ky, tyS, tyX3, tyX4, tyX9, tyX23, tyX24, Nat.reduceAdd, Nat.reduceMul, Nat.reduceSub, Nat.reduceLT, Nat.reduceLeDiff, Nat.reduceEqDiff, Nat.reduceBEq, Int.reduceAdd, Int.reduceSub, Int.reduceMul, Int.reduceLT, Int.reduceLE, Int.reduceToNat, Int.reduceBEq, Int.reduceBNe, Int.reduceNeg, Int.reduceGT, Nat.reduceGT, Int.reduceEq, reduceCtorEq, ↓reduceIte, hb'] | (with_reducible first | refine SB.d (fun _ => ?_) (fun _ => ?_) | refine SB.e (fun _ => ?_) (fun _ => ?_) | refine SB.n (fun _ => ?_) (fun _ => ?_) | refine SB.b (fun _ => ?_) (fun _ => ?_) | refine And.intro (REG.ok (by kernel_rfl)) ?_ | exact REG.ok (by kernel_rfl)) | refine CK.c0 enters11 (cA) rfl rfl ?_ | refine CK.cp enters11 (fun _ => cA) rfl rfl ?_ | refine CK.c0 enters12 (cS) rfl rfl ?_ | refine CK.cp enters12 (fun _ => cS) rfl rfl ?_ | refine CK.c0 enters20 (cP) rfl rfl ?_ | refine CK.cp enters20 (fun _ => cP) rfl rfl ?_ | (with_reducible refine And.intro ?_ ?_); (focus (intros; (try simp only [decide_eq_true_eq, decide_eq_false_iff_not, beq_iff_eq, bne_iff_ne, Bool.and_eq_true, Bool.or_eq_true] at *); omega)) | omega))
      (repeat' (first | simp -implicitDefEqProofs +contextual (maxSteps := 9000000) only [kx, ↓ky, tyS, tyX3, tyX4, tyX9, tyX23, tyX24, Nat.reduceAdd, Nat.reduceMul, Nat.reduceSub, Nat.reduceLT, Nat.reduceLeDiff, Nat.reduceEqDiff, Nat.reduceBEq, Int.reduceAdd, Int.reduceSub, Int.reduceMul, Int.reduceLT, Int.reduceLE, Int.reduceToNat, Int.reduceBEq, Int.reduceBNe, Int.reduceNeg, Int.reduceGT, Nat.reduceGT, Int.reduceEq, reduceCtorEq, ↓reduceIte, hb'] | (with_reducible first | refine SB.d (fun _ => ?_) (fun _ => ?_) | refine SB.e (fun _ => ?_) (fun _ => ?_) | refine SB.n (fun _ => ?_) (fun _ => ?_) | refine SB.b (fun _ => ?_) (fun _ => ?_) | refine And.intro (REG.ok (by kernel_rfl)) ?_ | exact REG.ok (by kernel_rfl)) | refine CK.c0 enters12 (cS2) rfl rfl ?_ | refine CK.cp enters12 (fun _ => cS2) rfl rfl ?_ | refine CK.c0 enters22 (cE) rfl rfl ?_ | refine CK.cp enters22 (fun _ => cE) rfl rfl ?_ | (with_reducible refine And.intro ?_ ?_); (focus (intros; (try simp only [decide_eq_true_eq, decide_eq_false_iff_not, beq_iff_eq, bne_iff_ne, Bool.and_eq_true, Bool.or_eq_true] at *); omega)) | omega))
end Go.Proofs.YtfldnpkacelniaaDoor
