/- A part of the walk (Tryd_W2): its theorems have no condition beyond what they state. -/
import Derived.Test.YtopbicbgolcmpaaDoorW1
set_option linter.unusedSimpArgs false
set_option linter.unusedVariables false
set_option linter.defProp false
namespace Go.Proofs.YtopbicbgolcmpaaDoor
open Go Go.Abs Go.RowKit
set_option maxRecDepth 100000 in
set_option maxHeartbeats 8000000 in
theorem wexpr_ac (n : Nat) : ∀ e : Ex, szE e ≤ n → goodEF e = true → rgE e = true → ∀ t : List UInt8, t.length + (fmE e).length ≤ 140000000000000 → AC Tryd.prog gl 74 [.ref 0 0, .pv (.ptr (encEx e))] (wrO t) (.tup []) (wrQ (t ++ fmE e)) := by
  induction n with
  | zero => intro e h; have := szE_pos e; omega
  | succ n ih =>
    intro e hn hg hr t hb
    have hsz := szE_eq e
    rw [rgE_eq, Bool.and_eq_true] at hr
    obtain ⟨hrv, hra⟩ := hr
    have he := encEx_eq e
    rw [he]
    rw [fmE_eq] at hb ⊢
    rcases good_cases hg with ⟨h1, h2, h3⟩ | ⟨h1, h3⟩ | ⟨h1, a, h3, h4⟩ | ⟨h1, h3⟩ | ⟨h1, a, h3, h4⟩ | ⟨h1, a, b, h3, h4, h5⟩
    · rw [h1] at hb ⊢
      have ev : fmN 1 e.value e.name (fmEs e.args) = decF e.value := rfl
      rw [ev] at hb ⊢
      have hv := rg64_ok hrv
      have cI := itoa_ac e.value hv.1 hv.2
      rw [itoa_it _ hv.1 hv.2, show itT e.value = decF e.value by unfold itT; rw [if_neg (by omega)]] at cI
      have c1 := put1 (decF e.value) t (by simpa using hb)
      refine bodyO (fun _ => 2) 5 Tryd.func74 rfl Tryd.ntmps74 (by rw [Tryd.results74]) (by simp) (by simp) ?_
      (repeat' (first | simp -implicitDefEqProofs +contextual (maxSteps := 9000000) only [kx, ↓ky, tq74, simprocAttr, kz] | (with_reducible first | refine SB.c (fun _ => ?_) (fun _ => ?_) | refine REG.i ?_ | exact REG.j) | refine CK.d0 enters34 cI ?_ | refine CK.dx [0, 1] [2] enters33 c1 ?_ | with_reducible refine AndI ?_ | omega))
      (refine retQ.mk [0, 1, 2] ?_ ?_ <;> simp [kwr, tq74])
    · rw [h1] at hb ⊢
      have ev : fmN 2 e.value e.name (fmEs e.args) = e.name := rfl
      rw [ev] at hb ⊢
      have c1 := put1 e.name t (by simpa using hb)
      refine bodyO (fun _ => 2) 5 Tryd.func74 rfl Tryd.ntmps74 (by rw [Tryd.results74]) (by simp) (by simp) ?_
      (repeat' (first | simp -implicitDefEqProofs +contextual (maxSteps := 9000000) only [kx, ↓ky, tq74, simprocAttr, kz] | (with_reducible first | refine SB.c (fun _ => ?_) (fun _ => ?_) | refine REG.i ?_ | exact REG.j) | refine CK.dx [0, 1] [2] enters33 c1 ?_ | with_reducible refine AndI ?_ | omega))
      (refine retQ.mk [0, 1, 2] ?_ ?_ <;> simp [kwr, tq74])
    · rw [h1, h3] at hb ⊢
      rw [h3] at hsz hra
      simp only [szEs] at hsz
      simp only [rgEs, Bool.and_true] at hra
      have ev : fmN 3 e.value e.name (fmEs [a]) = e.name ++ 91 :: (fmE a ++ [93]) := rfl
      rw [ev] at hb ⊢
      simp only [List.length_append, List.length_cons, List.length_nil] at hb
      have c1 := put2 e.name [91] t (by simp; omega)
      have c2 := ih a (by omega) h4 hra (t ++ (e.name ++ [91])) (by simp; omega)
      have c3 := put1 [93] (t ++ (e.name ++ [91]) ++ fmE a) (by simp; omega)
      have e1 : t ++ (e.name ++ [91]) ++ fmE a ++ [93] = t ++ (e.name ++ 91 :: (fmE a ++ [93])) := by simp
      rw [e1] at c3
      have hl := encEx_length a
      refine bodyO (fun _ => 2) 5 Tryd.func74 rfl Tryd.ntmps74 (by rw [Tryd.results74]) (by simp) (by simp) ?_
      (repeat' (first | simp -implicitDefEqProofs +contextual (maxSteps := 9000000) only [kx, ↓ky, tq74, simprocAttr, hl, kz] | (with_reducible first | refine SB.c (fun _ => ?_) (fun _ => ?_) | refine REG.i ?_ | exact REG.j) | refine CK.dx [0, 1] [2] enters33 c1 ?_ | refine CK.dx [0, 2] [3] enters74 c2 ?_ | refine CK.dx [0, 3] [4] enters33 c3 ?_ | with_reducible refine AndI ?_ | omega))
      (refine retQ.mk [0, 1, 4] ?_ ?_ <;> simp [kwr, tq74])
    · rw [h3] at hb ⊢
      rcases h1 with h1 | h1 | h1 | h1
      · rw [h1] at hb ⊢
        have ev : fmN 4 e.value e.name (fmEs []) = [115, 101, 108, 102] := rfl
        rw [ev] at hb ⊢
        have c1 := put1 [115, 101, 108, 102] t (by simpa using hb)
        refine bodyO (fun _ => 2) 5 Tryd.func74 rfl Tryd.ntmps74 (by rw [Tryd.results74]) (by simp) (by simp) ?_
        (repeat' (first | simp -implicitDefEqProofs +contextual (maxSteps := 9000000) only [kx, ↓ky, tq74, simprocAttr, kz] | (with_reducible first | refine SB.c (fun _ => ?_) (fun _ => ?_) | refine REG.i ?_ | exact REG.j) | refine CK.dx [0, 1] [2] enters33 c1 ?_ | with_reducible refine AndI ?_ | omega))
        (refine retQ.mk [0, 1, 2] ?_ ?_ <;> simp [kwr, tq74])
      · rw [h1] at hb ⊢
        have ev : fmN 5 e.value e.name (fmEs []) = [112, 114, 111, 99, 115] := rfl
        rw [ev] at hb ⊢
        have c1 := put1 [112, 114, 111, 99, 115] t (by simpa using hb)
        refine bodyO (fun _ => 2) 5 Tryd.func74 rfl Tryd.ntmps74 (by rw [Tryd.results74]) (by simp) (by simp) ?_
        (repeat' (first | simp -implicitDefEqProofs +contextual (maxSteps := 9000000) only [kx, ↓ky, tq74, simprocAttr, kz] | (with_reducible first | refine SB.c (fun _ => ?_) (fun _ => ?_) | refine REG.i ?_ | exact REG.j) | refine CK.dx [0, 1] [2] enters33 c1 ?_ | with_reducible refine AndI ?_ | omega))
        (refine retQ.mk [0, 1, 2] ?_ ?_ <;> simp [kwr, tq74])
      · rw [h1] at hb ⊢
        have ev : fmN 6 e.value e.name (fmEs []) = [102, 114, 111, 109] := rfl
        rw [ev] at hb ⊢
        have c1 := put1 [102, 114, 111, 109] t (by simpa using hb)
        refine bodyO (fun _ => 2) 5 Tryd.func74 rfl Tryd.ntmps74 (by rw [Tryd.results74]) (by simp) (by simp) ?_
        (repeat' (first | simp -implicitDefEqProofs +contextual (maxSteps := 9000000) only [kx, ↓ky, tq74, simprocAttr, kz] | (with_reducible first | refine SB.c (fun _ => ?_) (fun _ => ?_) | refine REG.i ?_ | exact REG.j) | refine CK.dx [0, 1] [2] enters33 c1 ?_ | with_reducible refine AndI ?_ | omega))
        (refine retQ.mk [0, 1, 2] ?_ ?_ <;> simp [kwr, tq74])
      · rw [h1] at hb ⊢
        have ev : fmN 7 e.value e.name (fmEs []) = [118, 97, 108, 117, 101] := rfl
        rw [ev] at hb ⊢
        have c1 := put1 [118, 97, 108, 117, 101] t (by simpa using hb)
        refine bodyO (fun _ => 2) 5 Tryd.func74 rfl Tryd.ntmps74 (by rw [Tryd.results74]) (by simp) (by simp) ?_
        (repeat' (first | simp -implicitDefEqProofs +contextual (maxSteps := 9000000) only [kx, ↓ky, tq74, simprocAttr, kz] | (with_reducible first | refine SB.c (fun _ => ?_) (fun _ => ?_) | refine REG.i ?_ | exact REG.j) | refine CK.dx [0, 1] [2] enters33 c1 ?_ | with_reducible refine AndI ?_ | omega))
        (refine retQ.mk [0, 1, 2] ?_ ?_ <;> simp [kwr, tq74])
    · rw [h3] at hb hsz hra ⊢
      simp only [szEs] at hsz
      simp only [rgEs, Bool.and_true] at hra
      have ev : fmN e.op e.value e.name (fmEs [a]) = sgF e.op.toNat ++ opdT (decide (a.op ≥ 8), fmE a) := by
        rcases h1 with h1 | h1 <;> rw [h1] <;> rfl
      rw [ev] at hb ⊢
      simp only [List.length_append] at hb
      have cS := signOf_ac e.op.toNat (by omega) (by omega)
      have hop : ((e.op.toNat : Nat) : Int) = e.op := by omega
      rw [hop] at cS
      have c1 := put1 (sgF e.op.toNat) t (by simp; omega)
      have c2 := woperand_of a (t ++ sgF e.op.toNat) (by simp only [List.length_append]; omega) (fun t ht => ih a (by omega) h4 hra t ht)
      rw [List.append_assoc] at c2
      have hl := encEx_length a
      generalize sgF e.op.toNat = sg at *
      generalize opdT (decide (a.op ≥ 8), fmE a) = oa at *
      rcases h1 with h1 | h1
      all_goals (
        rw [h1] at cS ⊢
        refine bodyO (fun _ => 2) 5 Tryd.func74 rfl Tryd.ntmps74 (by rw [Tryd.results74]) (by simp) (by simp) ?_
        (repeat' (first | simp -implicitDefEqProofs +contextual (maxSteps := 9000000) only [kx, ↓ky, tq74, simprocAttr, hl, kz] | (with_reducible first | refine SB.c (fun _ => ?_) (fun _ => ?_) | refine REG.i ?_ | exact REG.j) | refine CK.d0 enters88 cS ?_ | refine CK.dx [0, 1] [2] enters33 c1 ?_ | refine CK.dx [0, 2] [3] enters89 c2 ?_ | with_reducible refine AndI ?_ | omega))
        (refine retQ.mk [0, 1, 3] ?_ ?_ <;> simp [kwr, tq74]))
    · rw [h3] at hb hsz hra ⊢
      simp only [szEs] at hsz
      simp only [rgEs, Bool.and_true, Bool.and_eq_true] at hra
      have ev : fmN e.op e.value e.name (fmEs [a, b]) = opdT (decide (a.op ≥ 8), fmE a) ++ 32 :: (sgF e.op.toNat ++ 32 :: opdT (decide (b.op ≥ 8), fmE b)) := by
        unfold fmN
        rw [if_neg (by omega), if_neg (by omega), if_neg (by omega), if_neg (by omega), if_neg (by omega), if_neg (by omega), if_neg (by omega), if_neg (by omega)]
        rfl
      rw [ev] at hb ⊢
      simp only [List.length_append, List.length_cons] at hb
      have cS := signOf_ac e.op.toNat (by omega) (by omega)
      have hop : ((e.op.toNat : Nat) : Int) = e.op := by omega
      rw [hop] at cS
      have c1 := woperand_of a t (by omega) (fun t ht => ih a (by omega) h4 hra.1 t ht)
      have c2 := put3 [32] (sgF e.op.toNat) [32] (t ++ opdT (decide (a.op ≥ 8), fmE a)) (by simp only [List.length_append, List.length_cons, List.length_nil]; omega)
      have c3 := woperand_of b (t ++ opdT (decide (a.op ≥ 8), fmE a) ++ ([32] ++ (sgF e.op.toNat ++ [32]))) (by simp only [List.length_append, List.length_cons, List.length_nil]; omega) (fun t ht => ih b (by omega) h5 hra.2 t ht)
      have hla := encEx_length a
      have hlb := encEx_length b
      generalize sgF e.op.toNat = sg at *
      generalize opdT (decide (a.op ≥ 8), fmE a) = oa at *
      generalize opdT (decide (b.op ≥ 8), fmE b) = ob at *
      have e3 : t ++ oa ++ ([32] ++ (sg ++ [32])) ++ ob = t ++ (oa ++ 32 :: (sg ++ 32 :: ob)) := by simp
      rw [e3] at c3
      have q1 : (e.op == 1) = false := beqF (by omega)
      have q2 : (e.op == 2) = false := beqF (by omega)
      have q3 : (e.op == 3) = false := beqF (by omega)
      have q4 : (e.op == 4) = false := beqF (by omega)
      have q5 : (e.op == 5) = false := beqF (by omega)
      have q6 : (e.op == 6) = false := beqF (by omega)
      have q7 : (e.op == 7) = false := beqF (by omega)
      have q8 : (e.op == 8) = false := beqF (by omega)
      have q9 : (e.op == 9) = false := beqF (by omega)
      refine bodyO (fun _ => 2) 5 Tryd.func74 rfl Tryd.ntmps74 (by rw [Tryd.results74]) (by simp) (by simp) ?_
      (repeat' (first | simp -implicitDefEqProofs +contextual (maxSteps := 9000000) only [kx, ↓ky, tq74, simprocAttr, hla, hlb, q1, q2, q3, q4, q5, q6, q7, q8, q9, kz] | (with_reducible first | refine SB.c (fun _ => ?_) (fun _ => ?_) | refine REG.i ?_ | exact REG.j) | refine CK.dx [0, 1] [2] enters89 c1 ?_ | refine CK.d0 enters88 cS ?_ | refine CK.dx [0, 2] [3] enters33 c2 ?_ | refine CK.dx [0, 3] [4] enters89 c3 ?_ | with_reducible refine AndI ?_ | omega))
      (refine retQ.mk [0, 1, 4] ?_ ?_ <;> simp [kwr, tq74])
end Go.Proofs.YtopbicbgolcmpaaDoor
