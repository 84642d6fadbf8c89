/- A part of the walk (Tryz_W6): its theorems have no condition beyond what they state. -/
import Derived.Test.YtopbicbgolcmpaaGreatDoorW5
import Derived.Test.YtopbicbgolcmpaaGreatDoorW3
set_option linter.unusedSimpArgs false
set_option linter.unusedVariables false
set_option linter.defProp false
namespace Go.Proofs.YtopbicbgolcmpaaGreatDoor
open Go Go.Abs Go.RowKit
set_option maxRecDepth 100000 in
theorem vsign_ac (n : Int) (h0 : 8 ≤ n) (h1 : n ≤ 22) : AC Tryz.prog gl 100 [.pv (.int .i64 n)] [] (.pv (.str (sgF n.toNat))) [] := by
  have : n = 8 ∨ n = 9 ∨ n = 10 ∨ n = 11 ∨ n = 12 ∨ n = 13 ∨ n = 14 ∨ n = 15 ∨ n = 16 ∨ n = 17 ∨ n = 18 ∨ n = 19 ∨ n = 20 ∨ n = 21 ∨ n = 22 := by omega
  rcases this with rfl | rfl | rfl | rfl | rfl | rfl | rfl | rfl | rfl | rfl | rfl | rfl | rfl | rfl | rfl
  all_goals
    refine body0 (fun _ => 0) 0 Tryz.func100 rfl Tryz.ntmps100 (by rw [Tryz.results100]) (by simp) ?_
    (repeat' (first | simp -implicitDefEqProofs +contextual (maxSteps := 9000000) only [kx, ↓ky, tq100, simprocAttr] | (with_reducible first | refine SB.c (fun _ => ?_) (fun _ => ?_) | refine REG.i ?_ | exact REG.j) | with_reducible refine AndI ?_ | omega))
    try rfl
set_option maxRecDepth 100000 in
set_option maxHeartbeats 4000000 in
theorem voperand_of (e : Ex) (hb : (fmE e).length ≤ 140000000000000) (hE : AC Tryz.prog gl 86 [exP e] [] (.pv (.str (fmE e))) []) :
    AC Tryz.prog gl 101 [exP e] [] (.pv (.str (opdT (decide (e.op ≥ 8), fmE e)))) [] := by
  unfold exP at hE ⊢
  by_cases h : e.op ≥ 8
  · rw [decide_eq_true h, show opdT (true, fmE e) = [40] ++ fmE e ++ [41] from rfl]
    refine body0 (fun _ => 0) 1 Tryz.func101 rfl Tryz.ntmps101 (by rw [Tryz.results101]) (by simp) ?_
    (repeat' (first | simp -implicitDefEqProofs +contextual (maxSteps := 9000000) only [kx, ↓ky, tq101, simprocAttr, h, List.length_append, List.length_cons, List.length_nil] | (with_reducible first | refine SB.c (fun _ => ?_) (fun _ => ?_) | refine REG.i ?_ | exact REG.j) | refine CK.d0 enters86 hE ?_ | with_reducible refine AndI ?_ | omega))
  · rw [decide_eq_false h, show opdT (false, fmE e) = fmE e from rfl]
    refine body0 (fun _ => 0) 1 Tryz.func101 rfl Tryz.ntmps101 (by rw [Tryz.results101]) (by simp) ?_
    (repeat' (first | simp -implicitDefEqProofs +contextual (maxSteps := 9000000) only [kx, ↓ky, tq101, simprocAttr, h] | (with_reducible first | refine SB.c (fun _ => ?_) (fun _ => ?_) | refine REG.i ?_ | exact REG.j) | refine CK.d0 enters86 hE ?_ | with_reducible refine AndI ?_ | omega))
set_option maxRecDepth 100000 in
set_option maxHeartbeats 8000000 in
theorem vexpr_ac (n : Nat) : ∀ e : Ex, szE e ≤ n → n ≤ 1000000 → goodEF e = true → rgE e = true → AC Tryz.prog gl 86 [exP e] [] (.pv (.str (fmE e))) [] := by
  induction n with
  | zero => intro e h; have := szE_pos e; omega
  | succ n ih =>
    intro e hn hm hg hr
    have hbl := fmE_len e hg
    have hsz := szE_eq e
    rw [rgE_eq, Bool.and_eq_true] at hr
    obtain ⟨hrv, hra⟩ := hr
    have hb : (fmE e).length ≤ 140000000000000 := by omega
    unfold exP at ih ⊢
    rw [fmE_eq] at hb ⊢
    rcases good_cases hg with ⟨h1, h2, h3⟩ | ⟨h1, h3⟩ | ⟨h1, a, h3, h4⟩ | ⟨h1, h3⟩ | ⟨h1, a, h3, h4⟩ | ⟨h1, a, b, h3, h4, h5⟩
    · rw [h1]
      have ev : fmN 1 e.value e.name (fmEs e.args) = decF e.value := rfl
      rw [ev]
      have hv := rg64_ok hrv
      have cI := decimal_ac e.value hv.2
      refine body0 (fun _ => 0) 1 Tryz.func86 rfl Tryz.ntmps86 (by rw [Tryz.results86]) (by simp) ?_
      (repeat' (first | simp -implicitDefEqProofs +contextual (maxSteps := 9000000) only [kx, ↓ky, tq86, simprocAttr] | (with_reducible first | refine SB.c (fun _ => ?_) (fun _ => ?_) | refine REG.i ?_ | exact REG.j) | refine CK.d0 enters25 cI ?_ | with_reducible refine AndI ?_ | omega))
    · rw [h1]
      have ev : fmN 2 e.value e.name (fmEs e.args) = e.name := rfl
      rw [ev]
      refine body0 (fun _ => 0) 1 Tryz.func86 rfl Tryz.ntmps86 (by rw [Tryz.results86]) (by simp) ?_
      (repeat' (first | simp -implicitDefEqProofs +contextual (maxSteps := 9000000) only [kx, ↓ky, tq86, simprocAttr] | (with_reducible first | refine SB.c (fun _ => ?_) (fun _ => ?_) | refine REG.i ?_ | exact REG.j) | with_reducible refine AndI ?_ | omega))
    · rw [h1, h3] at hb ⊢
      rw [h3] at hsz hra
      simp only [szEs] at hsz
      simp only [rgEs, Bool.and_true] at hra
      have ev : fmN 3 e.value e.name (fmEs [a]) = e.name ++ [91] ++ fmE a ++ [93] := by
        show e.name ++ 91 :: (fmE a ++ [93]) = _
        simp
      rw [ev] at hb ⊢
      simp only [List.length_append, List.length_cons, List.length_nil] at hb
      have c2 := ih a (by omega) (by omega) h4 hra
      have hl := encEx_eq a
      refine body0 (fun _ => 0) 1 Tryz.func86 rfl Tryz.ntmps86 (by rw [Tryz.results86]) (by simp) ?_
      (repeat' (first | simp -implicitDefEqProofs +contextual (maxSteps := 9000000) only [kx, ↓ky, tq86, simprocAttr, hl, List.length_append, List.length_cons, List.length_nil] | (with_reducible first | refine SB.c (fun _ => ?_) (fun _ => ?_) | refine REG.i ?_ | exact REG.j) | refine CK.d0 enters86 c2 ?_ | with_reducible refine AndI ?_ | omega))
    · rw [h3]
      rcases h1 with h1 | h1 | h1 | h1
      · rw [h1]
        have ev : fmN 4 e.value e.name (fmEs []) = [115, 101, 108, 102] := rfl
        rw [ev]
        refine body0 (fun _ => 0) 1 Tryz.func86 rfl Tryz.ntmps86 (by rw [Tryz.results86]) (by simp) ?_
        (repeat' (first | simp -implicitDefEqProofs +contextual (maxSteps := 9000000) only [kx, ↓ky, tq86, simprocAttr] | (with_reducible first | refine SB.c (fun _ => ?_) (fun _ => ?_) | refine REG.i ?_ | exact REG.j) | with_reducible refine AndI ?_ | omega))
      · rw [h1]
        have ev : fmN 5 e.value e.name (fmEs []) = [112, 114, 111, 99, 115] := rfl
        rw [ev]
        refine body0 (fun _ => 0) 1 Tryz.func86 rfl Tryz.ntmps86 (by rw [Tryz.results86]) (by simp) ?_
        (repeat' (first | simp -implicitDefEqProofs +contextual (maxSteps := 9000000) only [kx, ↓ky, tq86, simprocAttr] | (with_reducible first | refine SB.c (fun _ => ?_) (fun _ => ?_) | refine REG.i ?_ | exact REG.j) | with_reducible refine AndI ?_ | omega))
      · rw [h1]
        have ev : fmN 6 e.value e.name (fmEs []) = [102, 114, 111, 109] := rfl
        rw [ev]
        refine body0 (fun _ => 0) 1 Tryz.func86 rfl Tryz.ntmps86 (by rw [Tryz.results86]) (by simp) ?_
        (repeat' (first | simp -implicitDefEqProofs +contextual (maxSteps := 9000000) only [kx, ↓ky, tq86, simprocAttr] | (with_reducible first | refine SB.c (fun _ => ?_) (fun _ => ?_) | refine REG.i ?_ | exact REG.j) | with_reducible refine AndI ?_ | omega))
      · rw [h1]
        have ev : fmN 7 e.value e.name (fmEs []) = [118, 97, 108, 117, 101] := rfl
        rw [ev]
        refine body0 (fun _ => 0) 1 Tryz.func86 rfl Tryz.ntmps86 (by rw [Tryz.results86]) (by simp) ?_
        (repeat' (first | simp -implicitDefEqProofs +contextual (maxSteps := 9000000) only [kx, ↓ky, tq86, simprocAttr] | (with_reducible first | refine SB.c (fun _ => ?_) (fun _ => ?_) | refine REG.i ?_ | exact REG.j) | with_reducible refine AndI ?_ | omega))
    · rw [h3] at hb hsz hra ⊢
      simp only [szEs] at hsz
      simp only [rgEs, Bool.and_true] at hra
      have ev : fmN e.op e.value e.name (fmEs [a]) = sgF e.op.toNat ++ opdT (decide (a.op ≥ 8), fmE a) := by
        rcases h1 with h1 | h1 <;> rw [h1] <;> rfl
      rw [ev] at hb ⊢
      simp only [List.length_append] at hb
      have cS := vsign_ac e.op (by omega) (by omega)
      have hal := fmE_len a h4
      have c2 := voperand_of a (by omega) (ih a (by omega) (by omega) h4 hra)
      unfold exP at c2
      have hl := encEx_eq a
      generalize sgF e.op.toNat = sg at *
      generalize opdT (decide (a.op ≥ 8), fmE a) = oa at *
      rcases h1 with h1 | h1
      all_goals (
        rw [h1] at cS ⊢
        refine body0 (fun _ => 0) 1 Tryz.func86 rfl Tryz.ntmps86 (by rw [Tryz.results86]) (by simp) ?_
        (repeat' (first | simp -implicitDefEqProofs +contextual (maxSteps := 9000000) only [kx, ↓ky, tq86, simprocAttr, hl] | (with_reducible first | refine SB.c (fun _ => ?_) (fun _ => ?_) | refine REG.i ?_ | exact REG.j) | refine CK.d0 enters100 cS ?_ | refine CK.d0 enters101 c2 ?_ | with_reducible refine AndI ?_ | omega)))
    · rw [h3] at hb hsz hra ⊢
      simp only [szEs] at hsz
      simp only [rgEs, Bool.and_true, Bool.and_eq_true] at hra
      have ev : fmN e.op e.value e.name (fmEs [a, b]) = opdT (decide (a.op ≥ 8), fmE a) ++ [32] ++ sgF e.op.toNat ++ [32] ++ opdT (decide (b.op ≥ 8), fmE b) := by
        unfold fmN
        rw [if_neg (by omega), if_neg (by omega), if_neg (by omega), if_neg (by omega), if_neg (by omega), if_neg (by omega), if_neg (by omega), if_neg (by omega)]
        show opdT (decide (a.op ≥ 8), fmE a) ++ 32 :: (sgF e.op.toNat ++ 32 :: opdT (decide (b.op ≥ 8), fmE b)) = _
        simp
      rw [ev] at hb ⊢
      simp only [List.length_append, List.length_cons, List.length_nil] at hb
      have cS := vsign_ac e.op (by omega) (by omega)
      have hal := fmE_len a h4
      have hbl := fmE_len b h5
      have c1 := voperand_of a (by omega) (ih a (by omega) (by omega) h4 hra.1)
      have c3 := voperand_of b (by omega) (ih b (by omega) (by omega) h5 hra.2)
      unfold exP at c1 c3
      have hla := encEx_eq a
      have hlb := encEx_eq b
      generalize sgF e.op.toNat = sg at *
      generalize opdT (decide (a.op ≥ 8), fmE a) = oa at *
      generalize opdT (decide (b.op ≥ 8), fmE b) = ob at *
      have q1 : (e.op == 1) = false := beqF (by omega)
      have q2 : (e.op == 2) = false := beqF (by omega)
      have q3 : (e.op == 3) = false := beqF (by omega)
      have q4 : (e.op == 4) = false := beqF (by omega)
      have q5 : (e.op == 5) = false := beqF (by omega)
      have q6 : (e.op == 6) = false := beqF (by omega)
      have q7 : (e.op == 7) = false := beqF (by omega)
      have q8 : (e.op == 8) = false := beqF (by omega)
      have q9 : (e.op == 9) = false := beqF (by omega)
      refine body0 (fun _ => 0) 1 Tryz.func86 rfl Tryz.ntmps86 (by rw [Tryz.results86]) (by simp) ?_
      (repeat' (first | simp -implicitDefEqProofs +contextual (maxSteps := 9000000) only [kx, ↓ky, tq86, simprocAttr, hla, hlb, q1, q2, q3, q4, q5, q6, q7, q8, q9, List.length_append, List.length_cons, List.length_nil] | (with_reducible first | refine SB.c (fun _ => ?_) (fun _ => ?_) | refine REG.i ?_ | exact REG.j) | refine CK.d0 enters101 c1 ?_ | refine CK.d0 enters100 cS ?_ | refine CK.d0 enters101 c3 ?_ | with_reducible refine AndI ?_ | omega))
end Go.Proofs.YtopbicbgolcmpaaGreatDoor
