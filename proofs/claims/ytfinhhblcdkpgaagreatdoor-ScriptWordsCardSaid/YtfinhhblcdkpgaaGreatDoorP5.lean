/- A part of the walk (Tryz_P5): its theorems have no condition beyond what they state. -/
import Derived.Test.YtfinhhblcdkpgaaGreatDoorP4
set_option linter.unusedSimpArgs false
set_option linter.unusedVariables false
set_option linter.defProp false
namespace Go.Proofs.YtfinhhblcdkpgaaGreatDoor
open Go Go.Abs Go.RowKit
theorem isNum_t {l : List TkD} {k : Nat} (h : isNum l k = true) : k < l.length ∧ (l.getD k tk0).kind = 2 := by simpa [isNum] using h
theorem isNum_f {l : List TkD} {k : Nat} (h : isNum l k = false) (hk : k < l.length) : ((l.getD k tk0).kind == 2) = false := by
  unfold isNum at h
  rw [decide_eq_true hk, Bool.true_and] at h
  exact h
set_option maxRecDepth 100000 in
set_option maxHeartbeats 4000000 in
theorem prim_num (l : List TkD) (n k k' : Nat) (v : Int) (hl : l.length ≤ 100000) (h0 : isNum l k = true) (h : nmF l 0 k = .ok v k') : AC Tryz.prog gl 204 [.ref 0 0] (psO l n k) (exA (exC v)) (psO l n k') := by
  obtain ⟨h1, h2⟩ := isNum_t h0
  have hk' : (k : Int) < l.length := by omega
  have hg := getTk l k h1
  rw [h2] at hg
  have c := number_ok l n k k' 0 v h (by omega)
  refine bodyO (fun d => if d = 2 then 1 else if d = 3 then 2 else 3) 4 Tryz.func204 rfl Tryz.ntmps204 (by rw [Tryz.results204]) (by simp) (by simp) ?_
  (repeat' (first | simp -implicitDefEqProofs +contextual (maxSteps := 9000000) only [kx, ↓ky, tq204, simprocAttr, h1, hk', hg, kz] | (with_reducible first | refine SB.c (fun _ => ?_) (fun _ => ?_) | refine REG.i ?_ | exact REG.j) | refine CK.dx [0] [] enters184 c ?_ | with_reducible refine AndI ?_ | omega))
  (refine retQ.mk [0] ?_ ?_ <;> simp [kwr, tq204, exA_C])
set_option maxRecDepth 100000 in
set_option maxHeartbeats 4000000 in
theorem prim_numb (l : List TkD) (n k k' : Nat) (hl : l.length ≤ 100000) (h0 : isNum l k = true) (h : nmF l 0 k = .bad k') : AP Tryz.prog gl 204 [.ref 0 0] (psO l n k) (fv l n k') (psO l n k') := by
  obtain ⟨h1, h2⟩ := isNum_t h0
  have hk' : (k : Int) < l.length := by omega
  have hg := getTk l k h1
  rw [h2] at hg
  have c := number_bad l n k k' 0 h (by omega)
  refine bodyP (fun d => if d = 2 then 1 else if d = 3 then 2 else 3) 4 Tryz.func204 rfl Tryz.ntmps204 (by simp) (by simp) ?_
  (repeat' (first | simp -implicitDefEqProofs +contextual (maxSteps := 9000000) only [kx, ↓ky, tq204, simprocAttr, h1, hk', hg, kz] | (with_reducible first | refine SB.c (fun _ => ?_) (fun _ => ?_) | refine REG.i ?_ | refine PREG.i ?_ | exact REG.j | refine fun (_ : List AVal) => ?_) | refine CK.dp [0] [] enters184 c ?_ | with_reducible refine AndI ?_ | omega))
  (refine panQ.mk [0] ?_ <;> simp [kwt])
set_option maxRecDepth 100000 in
set_option maxHeartbeats 4000000 in
theorem prim_w0 (l : List TkD) (n k : Nat) (hl : l.length ≤ 100000) (h0 : isNum l k = false) (e0 : isT l k [115, 101, 108, 102] = true) : AC Tryz.prog gl 204 [.ref 0 0] (psO l n k) (exA (exK 4)) (psO l n (k + 1)) := by
  have h1 := isT_lt e0 (by simp)
  have hk' : (k : Int) < l.length := by omega
  have hn := isNum_f h0 h1
  have hg := getTk l k h1
  have t := accept_t l n k _ e0 (by omega)
  refine bodyO (fun d => if d = 2 then 1 else if d = 3 then 2 else 3) 4 Tryz.func204 rfl Tryz.ntmps204 (by rw [Tryz.results204]) (by simp) (by simp) ?_
  (repeat' (first | simp -implicitDefEqProofs +contextual (maxSteps := 9000000) only [kx, ↓ky, tq204, simprocAttr, h1, hk', hg, hn, kz] | (with_reducible first | refine SB.c (fun _ => ?_) (fun _ => ?_) | refine REG.i ?_ | exact REG.j) | refine CK.dx [0] [] enters182 t ?_ | with_reducible refine AndI ?_ | omega))
  (refine retQ.mk [0] ?_ ?_ <;> simp [kwr, tq204, exA_K])
set_option maxRecDepth 100000 in
set_option maxHeartbeats 4000000 in
theorem prim_w1 (l : List TkD) (n k : Nat) (hl : l.length ≤ 100000) (h0 : isNum l k = false) (e0 : isT l k [115, 101, 108, 102] = false) (e1 : isT l k [112, 114, 111, 99, 115] = true) : AC Tryz.prog gl 204 [.ref 0 0] (psO l n k) (exA (exK 5)) (psO l n (k + 1)) := by
  have h1 := isT_lt e1 (by simp)
  have hk' : (k : Int) < l.length := by omega
  have hn := isNum_f h0 h1
  have hg := getTk l k h1
  have f0 := accept_f l n k _ e0
  have t := accept_t l n k _ e1 (by omega)
  refine bodyO (fun d => if d = 2 then 1 else if d = 3 then 2 else 3) 4 Tryz.func204 rfl Tryz.ntmps204 (by rw [Tryz.results204]) (by simp) (by simp) ?_
  (repeat' (first | simp -implicitDefEqProofs +contextual (maxSteps := 9000000) only [kx, ↓ky, tq204, simprocAttr, h1, hk', hg, hn, kz] | (with_reducible first | refine SB.c (fun _ => ?_) (fun _ => ?_) | refine REG.i ?_ | exact REG.j) | refine CK.dx [0] [] enters182 f0 ?_ | refine CK.dx [0] [] enters182 t ?_ | with_reducible refine AndI ?_ | omega))
  (refine retQ.mk [0] ?_ ?_ <;> simp [kwr, tq204, exA_K])
set_option maxRecDepth 100000 in
set_option maxHeartbeats 4000000 in
theorem prim_w2 (l : List TkD) (n k : Nat) (hl : l.length ≤ 100000) (h0 : isNum l k = false) (e0 : isT l k [115, 101, 108, 102] = false) (e1 : isT l k [112, 114, 111, 99, 115] = false) (e2 : isT l k [102, 114, 111, 109] = true) : AC Tryz.prog gl 204 [.ref 0 0] (psO l n k) (exA (exK 6)) (psO l n (k + 1)) := by
  have h1 := isT_lt e2 (by simp)
  have hk' : (k : Int) < l.length := by omega
  have hn := isNum_f h0 h1
  have hg := getTk l k h1
  have f0 := accept_f l n k _ e0
  have f1 := accept_f l n k _ e1
  have t := accept_t l n k _ e2 (by omega)
  refine bodyO (fun d => if d = 2 then 1 else if d = 3 then 2 else 3) 4 Tryz.func204 rfl Tryz.ntmps204 (by rw [Tryz.results204]) (by simp) (by simp) ?_
  (repeat' (first | simp -implicitDefEqProofs +contextual (maxSteps := 9000000) only [kx, ↓ky, tq204, simprocAttr, h1, hk', hg, hn, kz] | (with_reducible first | refine SB.c (fun _ => ?_) (fun _ => ?_) | refine REG.i ?_ | exact REG.j) | refine CK.dx [0] [] enters182 f0 ?_ | refine CK.dx [0] [] enters182 f1 ?_ | refine CK.dx [0] [] enters182 t ?_ | with_reducible refine AndI ?_ | omega))
  (refine retQ.mk [0] ?_ ?_ <;> simp [kwr, tq204, exA_K])
set_option maxRecDepth 100000 in
set_option maxHeartbeats 4000000 in
theorem prim_w3 (l : List TkD) (n k : Nat) (hl : l.length ≤ 100000) (h0 : isNum l k = false) (e0 : isT l k [115, 101, 108, 102] = false) (e1 : isT l k [112, 114, 111, 99, 115] = false) (e2 : isT l k [102, 114, 111, 109] = false) (e3 : isT l k [118, 97, 108, 117, 101] = true) : AC Tryz.prog gl 204 [.ref 0 0] (psO l n k) (exA (exK 7)) (psO l n (k + 1)) := by
  have h1 := isT_lt e3 (by simp)
  have hk' : (k : Int) < l.length := by omega
  have hn := isNum_f h0 h1
  have hg := getTk l k h1
  have f0 := accept_f l n k _ e0
  have f1 := accept_f l n k _ e1
  have f2 := accept_f l n k _ e2
  have t := accept_t l n k _ e3 (by omega)
  refine bodyO (fun d => if d = 2 then 1 else if d = 3 then 2 else 3) 4 Tryz.func204 rfl Tryz.ntmps204 (by rw [Tryz.results204]) (by simp) (by simp) ?_
  (repeat' (first | simp -implicitDefEqProofs +contextual (maxSteps := 9000000) only [kx, ↓ky, tq204, simprocAttr, h1, hk', hg, hn, kz] | (with_reducible first | refine SB.c (fun _ => ?_) (fun _ => ?_) | refine REG.i ?_ | exact REG.j) | refine CK.dx [0] [] enters182 f0 ?_ | refine CK.dx [0] [] enters182 f1 ?_ | refine CK.dx [0] [] enters182 f2 ?_ | refine CK.dx [0] [] enters182 t ?_ | with_reducible refine AndI ?_ | omega))
  (refine retQ.mk [0] ?_ ?_ <;> simp [kwr, tq204, exA_K])
set_option maxRecDepth 100000 in
set_option maxHeartbeats 4000000 in
theorem prim_par (l : List TkD) (n k : Nat) (r : PR Ex) (hl : l.length ≤ 100000) (h0 : isNum l k = false) (e0 : isT l k [115, 101, 108, 102] = false) (e1 : isT l k [112, 114, 111, 99, 115] = false) (e2 : isT l k [102, 114, 111, 109] = false) (e3 : isT l k [118, 97, 108, 117, 101] = false) (e4 : isT l k [40] = true) (hr : RunE 199 [.pv (.int .i64 0)] l n (k + 1) r) (hp : r.past (k + 1) l.length) (ho : r.isOut = false) :
    RunE 204 [] l n k (r.bind fun e k' => (expF l [41] k').bind fun _ k2 => .ok e k2) := by
  have h1 := isT_lt e4 (by simp)
  have hk' : (k : Int) < l.length := by omega
  have hn := isNum_f h0 h1
  have hg := getTk l k h1
  have f0 := accept_f l n k _ e0
  have f1 := accept_f l n k _ e1
  have f2 := accept_f l n k _ e2
  have f3 := accept_f l n k _ e3
  have t := accept_t l n k _ e4 (by omega)
  cases r with
  | out => cases ho
  | bad k' =>
    have c : AP _ _ _ _ _ _ _ := hr
    show AP _ _ _ _ _ _ _
    refine bodyP (fun d => if d = 2 then 1 else if d = 3 then 2 else 3) 4 Tryz.func204 rfl Tryz.ntmps204 (by simp) (by simp) ?_
    (repeat' (first | simp -implicitDefEqProofs +contextual (maxSteps := 9000000) only [kx, ↓ky, tq204, simprocAttr, h1, hk', hg, hn, kz] | (with_reducible first | refine SB.c (fun _ => ?_) (fun _ => ?_) | refine REG.i ?_ | refine PREG.i ?_ | exact REG.j | refine fun (_ : List AVal) => ?_) | refine CK.dx [0] [] enters182 f0 ?_ | refine CK.dx [0] [] enters182 f1 ?_ | refine CK.dx [0] [] enters182 f2 ?_ | refine CK.dx [0] [] enters182 f3 ?_ | refine CK.dx [0] [] enters182 t ?_ | refine CK.dp [0] [] enters199 c ?_ | with_reducible refine AndI ?_ | omega))
    (refine panQ.mk [0] ?_ <;> simp [kwt])
  | ok e k' =>
    have c : AC _ _ _ _ _ _ _ := hr
    have hp' : k + 1 < k' ∧ k' ≤ l.length := hp
    simp only [PR.bind]
    cases hx : expF l [41] k' with
    | out => have := expF_out (l := l) (s := [41]) (k := k'); rw [hx] at this; cases this
    | bad k2 =>
      have c2 := expect_bad l n k' k2 _ hx
      show AP _ _ _ _ _ _ _
      refine bodyP (fun d => if d = 2 then 1 else if d = 3 then 2 else 3) 4 Tryz.func204 rfl Tryz.ntmps204 (by simp) (by simp) ?_
      (repeat' (first | simp -implicitDefEqProofs +contextual (maxSteps := 9000000) only [kx, ↓ky, tq204, simprocAttr, exA, kA, h1, hk', hg, hn, kz] | (with_reducible first | refine SB.c (fun _ => ?_) (fun _ => ?_) | refine REG.i ?_ | refine PREG.i ?_ | exact REG.j | refine fun (_ : List AVal) => ?_) | refine CK.dx [0] [] enters182 f0 ?_ | refine CK.dx [0] [] enters182 f1 ?_ | refine CK.dx [0] [] enters182 f2 ?_ | refine CK.dx [0] [] enters182 f3 ?_ | refine CK.dx [0] [] enters182 t ?_ | refine CK.dx [0] [] enters199 c ?_ | refine CK.dp [0] [] enters185 c2 ?_ | with_reducible refine AndI ?_ | omega))
      (refine panQ.mk [0] ?_ <;> simp [kwt])
    | ok u k2 =>
      have c2 := expect_ok l n k' k2 _ hx (by omega)
      show AC _ _ _ _ _ _ _
      refine bodyO (fun d => if d = 2 then 1 else if d = 3 then 2 else 3) 4 Tryz.func204 rfl Tryz.ntmps204 (by rw [Tryz.results204]) (by simp) (by simp) ?_
      (repeat' (first | simp -implicitDefEqProofs +contextual (maxSteps := 9000000) only [kx, ↓ky, tq204, simprocAttr, exA, kA, h1, hk', hg, hn, kz] | (with_reducible first | refine SB.c (fun _ => ?_) (fun _ => ?_) | refine REG.i ?_ | exact REG.j) | refine CK.dx [0] [] enters182 f0 ?_ | refine CK.dx [0] [] enters182 f1 ?_ | refine CK.dx [0] [] enters182 f2 ?_ | refine CK.dx [0] [] enters182 f3 ?_ | refine CK.dx [0] [] enters182 t ?_ | refine CK.dx [0] [] enters199 c ?_ | refine CK.dx [0] [] enters185 c2 ?_ | with_reducible refine AndI ?_ | omega))
      (refine retQ.mk [0] ?_ ?_ <;> simp [kwr, tq204, exA, sc_arg, ren_arg])
set_option maxRecDepth 100000 in
set_option maxHeartbeats 4000000 in
theorem prim_nobad (l : List TkD) (n k k' : Nat) (hl : l.length ≤ 100000) (hk : k ≤ l.length) (h0 : isNum l k = false) (e0 : isT l k [115, 101, 108, 102] = false) (e1 : isT l k [112, 114, 111, 99, 115] = false) (e2 : isT l k [102, 114, 111, 109] = false) (e3 : isT l k [118, 97, 108, 117, 101] = false) (e4 : isT l k [40] = false) (h : pnmF l k = .bad k') : AP Tryz.prog gl 204 [.ref 0 0] (psO l n k) (fv l n k') (psO l n k') := by
  have c := name_bad l n k k' h hk
  have f0 := accept_f l n k _ e0
  have f1 := accept_f l n k _ e1
  have f2 := accept_f l n k _ e2
  have f3 := accept_f l n k _ e3
  have f4 := accept_f l n k _ e4
  refine bodyP (fun d => if d = 2 then 1 else if d = 3 then 2 else 3) 4 Tryz.func204 rfl Tryz.ntmps204 (by simp) (by simp) ?_
  by_cases h1 : k < l.length
  · have hk' : (k : Int) < l.length := by omega
    have hn := isNum_f h0 h1
    have hg := getTk l k h1
    (repeat' (first | simp -implicitDefEqProofs +contextual (maxSteps := 9000000) only [kx, ↓ky, tq204, simprocAttr, h1, hk', hg, hn, kz] | (with_reducible first | refine SB.c (fun _ => ?_) (fun _ => ?_) | refine REG.i ?_ | refine PREG.i ?_ | exact REG.j | refine fun (_ : List AVal) => ?_) | refine CK.dx [0] [] enters182 f0 ?_ | refine CK.dx [0] [] enters182 f1 ?_ | refine CK.dx [0] [] enters182 f2 ?_ | refine CK.dx [0] [] enters182 f3 ?_ | refine CK.dx [0] [] enters182 f4 ?_ | refine CK.dp [0] [] enters183 c ?_ | with_reducible refine AndI ?_ | omega))
    (refine panQ.mk [0] ?_ <;> simp [kwt])
  · have hk' : ¬ (k : Int) < l.length := by omega
    (repeat' (first | simp -implicitDefEqProofs +contextual (maxSteps := 9000000) only [kx, ↓ky, tq204, simprocAttr, h1, hk', kz] | (with_reducible first | refine SB.c (fun _ => ?_) (fun _ => ?_) | refine REG.i ?_ | refine PREG.i ?_ | exact REG.j | refine fun (_ : List AVal) => ?_) | refine CK.dx [0] [] enters182 f0 ?_ | refine CK.dx [0] [] enters182 f1 ?_ | refine CK.dx [0] [] enters182 f2 ?_ | refine CK.dx [0] [] enters182 f3 ?_ | refine CK.dx [0] [] enters182 f4 ?_ | refine CK.dp [0] [] enters183 c ?_ | with_reducible refine AndI ?_ | omega))
    (refine panQ.mk [0] ?_ <;> simp [kwt])
set_option maxRecDepth 100000 in
set_option maxHeartbeats 4000000 in
theorem prim_name (l : List TkD) (n k k1 : Nat) (nm : List UInt8) (hl : l.length ≤ 100000) (h0 : isNum l k = false) (e0 : isT l k [115, 101, 108, 102] = false) (e1 : isT l k [112, 114, 111, 99, 115] = false) (e2 : isT l k [102, 114, 111, 109] = false) (e3 : isT l k [118, 97, 108, 117, 101] = false) (e4 : isT l k [40] = false) (h : pnmF l k = .ok nm k1) (h2 : isT l k1 [91] = false) : AC Tryz.prog gl 204 [.ref 0 0] (psO l n k) (exA (exN nm)) (psO l n k1) := by
  have h1 : k < l.length := by
    unfold pnmF at h
    split at h
    · rename_i hc; exact hc.1
    · cases h
  have hk' : (k : Int) < l.length := by omega
  have hn := isNum_f h0 h1
  have hg := getTk l k h1
  have c := name_ok l n k k1 nm h (by omega)
  have f0 := accept_f l n k _ e0
  have f1 := accept_f l n k _ e1
  have f2 := accept_f l n k _ e2
  have f3 := accept_f l n k _ e3
  have f4 := accept_f l n k _ e4
  have g := accept_f l n k1 _ h2
  refine bodyO (fun d => if d = 2 then 1 else if d = 3 then 2 else 3) 4 Tryz.func204 rfl Tryz.ntmps204 (by rw [Tryz.results204]) (by simp) (by simp) ?_
  (repeat' (first | simp -implicitDefEqProofs +contextual (maxSteps := 9000000) only [kx, ↓ky, tq204, simprocAttr, h1, hk', hg, hn, kz] | (with_reducible first | refine SB.c (fun _ => ?_) (fun _ => ?_) | refine REG.i ?_ | exact REG.j) | refine CK.dx [0] [] enters182 f0 ?_ | refine CK.dx [0] [] enters182 f1 ?_ | refine CK.dx [0] [] enters182 f2 ?_ | refine CK.dx [0] [] enters182 f3 ?_ | refine CK.dx [0] [] enters182 f4 ?_ | refine CK.dx [0] [] enters183 c ?_ | refine CK.dx [0] [] enters182 g ?_ | with_reducible refine AndI ?_ | omega))
  (refine retQ.mk [0] ?_ ?_ <;> simp [kwr, tq204, exA_N])
set_option maxRecDepth 100000 in
set_option maxHeartbeats 4000000 in
theorem prim_idx (l : List TkD) (n k k1 : Nat) (nm : List UInt8) (r : PR Ex) (hl : l.length ≤ 100000) (h0 : isNum l k = false) (e0 : isT l k [115, 101, 108, 102] = false) (e1 : isT l k [112, 114, 111, 99, 115] = false) (e2 : isT l k [102, 114, 111, 109] = false) (e3 : isT l k [118, 97, 108, 117, 101] = false) (e4 : isT l k [40] = false) (h : pnmF l k = .ok nm k1) (h2 : isT l k1 [91] = true)
    (hr : RunE 199 [.pv (.int .i64 0)] l n (k1 + 1) r) (hp : r.past (k1 + 1) l.length) (ho : r.isOut = false) :
    RunE 204 [] l n k (r.bind fun e k' => (expF l [93] k').bind fun _ k2 => .ok (exI nm e) k2) := by
  have h1 : k < l.length := by
    unfold pnmF at h
    split at h
    · rename_i hc; exact hc.1
    · cases h
  have hk' : (k : Int) < l.length := by omega
  have hn := isNum_f h0 h1
  have hg := getTk l k h1
  have c := name_ok l n k k1 nm h (by omega)
  have h3 := isT_lt h2 (by simp)
  have f0 := accept_f l n k _ e0
  have f1 := accept_f l n k _ e1
  have f2 := accept_f l n k _ e2
  have f3 := accept_f l n k _ e3
  have f4 := accept_f l n k _ e4
  have g := accept_t l n k1 _ h2 (by omega)
  cases r with
  | out => cases ho
  | bad k' =>
    have d : AP _ _ _ _ _ _ _ := hr
    show AP _ _ _ _ _ _ _
    refine bodyP (fun d => if d = 2 then 1 else if d = 3 then 2 else 3) 4 Tryz.func204 rfl Tryz.ntmps204 (by simp) (by simp) ?_
    (repeat' (first | simp -implicitDefEqProofs +contextual (maxSteps := 9000000) only [kx, ↓ky, tq204, simprocAttr, h1, hk', hg, hn, kz] | (with_reducible first | refine SB.c (fun _ => ?_) (fun _ => ?_) | refine REG.i ?_ | refine PREG.i ?_ | exact REG.j | refine fun (_ : List AVal) => ?_) | refine CK.dx [0] [] enters182 f0 ?_ | refine CK.dx [0] [] enters182 f1 ?_ | refine CK.dx [0] [] enters182 f2 ?_ | refine CK.dx [0] [] enters182 f3 ?_ | refine CK.dx [0] [] enters182 f4 ?_ | refine CK.dx [0] [] enters183 c ?_ | refine CK.dx [0] [] enters182 g ?_ | refine CK.dp [0] [] enters199 d ?_ | with_reducible refine AndI ?_ | omega))
    (refine panQ.mk [0] ?_ <;> simp [kwt])
  | ok e k' =>
    have d : AC _ _ _ _ _ _ _ := hr
    have hp' : k1 + 1 < k' ∧ k' ≤ l.length := hp
    simp only [PR.bind]
    cases hx : expF l [93] k' with
    | out => have := expF_out (l := l) (s := [93]) (k := k'); rw [hx] at this; cases this
    | bad k2 =>
      have c2 := expect_bad l n k' k2 _ hx
      show AP _ _ _ _ _ _ _
      refine bodyP (fun d => if d = 2 then 1 else if d = 3 then 2 else 3) 4 Tryz.func204 rfl Tryz.ntmps204 (by simp) (by simp) ?_
      (repeat' (first | simp -implicitDefEqProofs +contextual (maxSteps := 9000000) only [kx, ↓ky, tq204, simprocAttr, exA, kA, h1, hk', hg, hn, kz] | (with_reducible first | refine SB.c (fun _ => ?_) (fun _ => ?_) | refine REG.i ?_ | refine PREG.i ?_ | exact REG.j | refine fun (_ : List AVal) => ?_) | refine CK.dx [0] [] enters182 f0 ?_ | refine CK.dx [0] [] enters182 f1 ?_ | refine CK.dx [0] [] enters182 f2 ?_ | refine CK.dx [0] [] enters182 f3 ?_ | refine CK.dx [0] [] enters182 f4 ?_ | refine CK.dx [0] [] enters183 c ?_ | refine CK.dx [0] [] enters182 g ?_ | refine CK.dx [0] [] enters199 d ?_ | refine CK.dp [0] [] enters185 c2 ?_ | with_reducible refine AndI ?_ | omega))
      (refine panQ.mk [0] ?_ <;> simp [kwt])
    | ok u k2 =>
      have c2 := expect_ok l n k' k2 _ hx (by omega)
      show AC _ _ _ _ _ _ _
      refine bodyO (fun d => if d = 2 then 1 else if d = 3 then 2 else 3) 4 Tryz.func204 rfl Tryz.ntmps204 (by rw [Tryz.results204]) (by simp) (by simp) ?_
      (repeat' (first | simp -implicitDefEqProofs +contextual (maxSteps := 9000000) only [kx, ↓ky, tq204, simprocAttr, exA, kA, h1, hk', hg, hn, kz] | (with_reducible first | refine SB.c (fun _ => ?_) (fun _ => ?_) | refine REG.i ?_ | exact REG.j) | refine CK.dx [0] [] enters182 f0 ?_ | refine CK.dx [0] [] enters182 f1 ?_ | refine CK.dx [0] [] enters182 f2 ?_ | refine CK.dx [0] [] enters182 f3 ?_ | refine CK.dx [0] [] enters182 f4 ?_ | refine CK.dx [0] [] enters183 c ?_ | refine CK.dx [0] [] enters182 g ?_ | refine CK.dx [0] [] enters199 d ?_ | refine CK.dx [0] [] enters185 c2 ?_ | with_reducible refine AndI ?_ | omega))
      (refine retQ.mk [0] ?_ ?_ <;> simp [kwr, tq204, exI, exA, Ex.op, Ex.value, Ex.name, Ex.slot, Ex.size, Ex.args, arg_cons, encEx_eq])
end Go.Proofs.YtfinhhblcdkpgaaGreatDoor
