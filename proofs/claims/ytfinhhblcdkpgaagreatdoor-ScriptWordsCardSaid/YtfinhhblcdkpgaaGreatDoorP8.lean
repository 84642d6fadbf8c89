/- A part of the walk (Tryz_P8): its theorems have no condition beyond what they state. -/
import Derived.Test.YtfinhhblcdkpgaaGreatDoorP7
set_option linter.unusedSimpArgs false
set_option linter.unusedVariables false
set_option linter.defProp false
namespace Go.Proofs.YtfinhhblcdkpgaaGreatDoor
open Go Go.Abs Go.RowKit
def lsA (b : List Sm) : AVal := .pv (.slice (b.map encSm))
def smA (s : Sm) : AVal := .agg ((encSm s).map .pv)
def oneA : List Sm → AVal
  | [s] => smA s
  | _ => .junk
theorem nz_arg (a : List Ex) : nz (argA a) = .pv (.slice (a.map encEx)) := by cases a <;> rfl
theorem E_ok {l : List TkD} {n k k' : Nat} {e : Ex} (hl : l.length ≤ 100000) (hk : k ≤ l.length) (h : pexF l k = .ok e k') : AC Tryz.prog gl 199 [.ref 0 0, .pv (.int .i64 0)] (psO l n k) (exA e) (psO l n k') := by
  have := expr_run l n k hl hk
  rw [h] at this
  exact this
theorem E_bad {l : List TkD} {n k k' : Nat} (hl : l.length ≤ 100000) (hk : k ≤ l.length) (h : pexF l k = .bad k') : AP Tryz.prog gl 199 [.ref 0 0, .pv (.int .i64 0)] (psO l n k) (fv l n k') (psO l n k') := by
  have := expr_run l n k hl hk
  rw [h] at this
  exact this
theorem pex_no {l : List TkD} {k : Nat} (hk : k ≤ l.length) : pexF l k ≠ .out := fun h => by
  have := pexF_out hk
  rw [h] at this
  cases this
theorem exp_no {l : List TkD} {s : List UInt8} {k : Nat} : expF l s k ≠ .out := fun h => by
  have := expF_out (l := l) (s := s) (k := k)
  rw [h] at this
  cases this
theorem pexLe {l : List TkD} {k k' : Nat} {e : Ex} (hk : k ≤ l.length) (h : pexF l k = .ok e k') : k' ≤ l.length := by
  have := pexF_past hk
  rw [h] at this
  exact this.2
theorem expLe {l : List TkD} {s : List UInt8} {k k' : Nat} {u : Unit} (hk : k ≤ l.length) (hs : s ≠ []) (h : expF l s k = .ok u k') : k' ≤ l.length := by
  have := expF_past hk hs
  rw [h] at this
  exact this.2
theorem smLe {l : List TkD} {n : Nat} {nt : Ns} {k k' : Nat} {b : List Sm} (hk : k ≤ l.length) (h : smF l n nt k = .ok b k') : k' ≤ l.length := by
  have := smF_past (l := l) n nt k hk
  rw [h] at this
  exact this.2
set_option maxRecDepth 100000 in
set_option maxHeartbeats 8000000 in
theorem st_if1 (l : List TkD) (n m k : Nat) (hl : l.length ≤ 100000) (hk : k ≤ l.length) (hB : ∀ k, k ≤ l.length → (smF l m .block k).isOut = false → RunG lsA 186 [] l n k (smF l m .block k)) (e0 : isT l k [105, 102] = true) (e9 : ∀ e k1 b k2, pexF l (k + 1) = .ok e k1 → smF l m .block k1 = .ok b k2 → isT l k2 [101, 108, 115, 101] = true)
    (ho : ((pexF l (k + 1)).bind fun e k1 => (smF l m .block (k1)).bind fun b k2 => (smF l m .block (k2 + 1)).bind fun c k3 => PR.ok [smE 3 [] exZ e b c] k3).isOut = false) :
    RunG oneA 197 [] l n k ((pexF l (k + 1)).bind fun e k1 => (smF l m .block (k1)).bind fun b k2 => (smF l m .block (k2 + 1)).bind fun c k3 => PR.ok [smE 3 [] exZ e b c] k3) := by
  have f0 := accept_t l n k _ e0 (by omega)
  have hlt := isT_lt e0 (by simp)
  cases r0 : pexF l (k + 1) with
  | out => exact absurd r0 (pex_no (by omega))
  | bad k' =>
    have q1 := E_bad (n := n) hl (by omega) r0
    show AP _ _ _ _ _ _ _
    refine bodyP (fun d => if d = 2 then 1 else 2) 3 Tryz.func197 rfl Tryz.ntmps197 (by simp) (by simp) ?_
    (repeat' (first | simp -implicitDefEqProofs +contextual (maxSteps := 9000000) only [kx, ↓ky, tq197, simprocAttr, exA, kA, lsA, kz] | (with_reducible first | refine SB.c (fun _ => ?_) (fun _ => ?_) | refine REG.i ?_ | refine PREG.i ?_ | exact REG.j | refine fun (_ : List AVal) => ?_) | refine CK.dx [0] [] enters182 f0 ?_ | refine CK.dp [0] [] enters199 q1 ?_ | with_reducible refine AndI ?_ | omega))
    (refine panQ.mk [0] ?_ <;> simp [kwt])
  | ok e k1 =>
    have le0 := pexLe (by omega) r0
    have c0 := E_ok (n := n) hl (by omega) r0
    rw [r0] at ho
    simp only [PR.bind] at ho ⊢
    cases r1 : smF l m .block (k1) with
    | out => rw [r1] at ho; cases ho
    | bad k' =>
      have q := hB (k1) (by omega) (by rw [r1]; rfl)
      rw [r1] at q
      have q1 : AP _ _ _ _ _ _ _ := q
      show AP _ _ _ _ _ _ _
      refine bodyP (fun d => if d = 2 then 1 else 2) 3 Tryz.func197 rfl Tryz.ntmps197 (by simp) (by simp) ?_
      (repeat' (first | simp -implicitDefEqProofs +contextual (maxSteps := 9000000) only [kx, ↓ky, tq197, simprocAttr, exA, kA, lsA, kz] | (with_reducible first | refine SB.c (fun _ => ?_) (fun _ => ?_) | refine REG.i ?_ | refine PREG.i ?_ | exact REG.j | refine fun (_ : List AVal) => ?_) | refine CK.dx [0] [] enters182 f0 ?_ | refine CK.dx [0] [] enters199 c0 ?_ | refine CK.dp [0] [] enters186 q1 ?_ | with_reducible refine AndI ?_ | omega))
      (refine panQ.mk [0] ?_ <;> simp [kwt])
    | ok b k2 =>
      have le1 := smLe (by omega) r1
      have q1 := hB (k1) (by omega) (by rw [r1]; rfl)
      rw [r1] at q1
      have c1 : AC _ _ _ _ _ _ _ := q1
      rw [r1] at ho
      simp only [PR.bind] at ho ⊢
      have t2 := accept_t l n (k2) _ (e9 _ _ _ _ r0 r1) (by omega)
      have hlt2 := isT_lt (e9 _ _ _ _ r0 r1) (by simp)
      cases r3 : smF l m .block (k2 + 1) with
      | out => rw [r3] at ho; cases ho
      | bad k' =>
        have q := hB (k2 + 1) (by omega) (by rw [r3]; rfl)
        rw [r3] at q
        have q1 : AP _ _ _ _ _ _ _ := q
        show AP _ _ _ _ _ _ _
        refine bodyP (fun d => if d = 2 then 1 else 2) 3 Tryz.func197 rfl Tryz.ntmps197 (by simp) (by simp) ?_
        (repeat' (first | simp -implicitDefEqProofs +contextual (maxSteps := 9000000) only [kx, ↓ky, tq197, simprocAttr, exA, kA, lsA, kz] | (with_reducible first | refine SB.c (fun _ => ?_) (fun _ => ?_) | refine REG.i ?_ | refine PREG.i ?_ | exact REG.j | refine fun (_ : List AVal) => ?_) | refine CK.dx [0] [] enters182 f0 ?_ | refine CK.dx [0] [] enters199 c0 ?_ | refine CK.dx [0] [] enters186 c1 ?_ | refine CK.dx [0] [] enters182 t2 ?_ | refine CK.dp [0] [] enters186 q1 ?_ | with_reducible refine AndI ?_ | omega))
        (refine panQ.mk [0] ?_ <;> simp [kwt])
      | ok c k3 =>
        have le3 := smLe (by omega) r3
        have q3 := hB (k2 + 1) (by omega) (by rw [r3]; rfl)
        rw [r3] at q3
        have c3 : AC _ _ _ _ _ _ _ := q3
        rw [r3] at ho
        simp only [PR.bind] at ho ⊢
        refine bodyG oneA (r := PR.ok [smE 3 [] exZ e b c] k3) (fun d => if d = 2 then 1 else 2) 3 Tryz.func197 rfl Tryz.ntmps197 (by rw [Tryz.results197]) (by simp) (by simp) rfl ?_
        (repeat' (first | simp -implicitDefEqProofs +contextual (maxSteps := 9000000) only [kx, ↓ky, tq197, simprocAttr, exA, kA, lsA, kz] | (with_reducible first | refine SB.c (fun _ => ?_) (fun _ => ?_) | refine REG.i ?_ | refine PREG.i ?_ | exact REG.j | refine fun (_ : List AVal) => ?_) | refine CK.dx [0] [] enters182 f0 ?_ | refine CK.dx [0] [] enters199 c0 ?_ | refine CK.dx [0] [] enters186 c1 ?_ | refine CK.dx [0] [] enters182 t2 ?_ | refine CK.dx [0] [] enters186 c3 ?_ | with_reducible refine AndI ?_ | omega))
        refine ⟨_, Weak.nz, ?_⟩
        simp only [St.nz, nzL, nzOs, nzO, nz, nz_arg]
        (refine retQ.mk [0] ?_ ?_ <;> simp [kwr, tq197, oneA, smA, smE, encSm_eq, exZ, exK, Sm.kind, Sm.name, Sm.slot, Sm.size, Sm.place, Sm.value, Sm.body, Sm.els, Ex.op, Ex.value, Ex.name, Ex.slot, Ex.size, Ex.args])
set_option maxRecDepth 100000 in
set_option maxHeartbeats 8000000 in
theorem st_if0 (l : List TkD) (n m k : Nat) (hl : l.length ≤ 100000) (hk : k ≤ l.length) (hB : ∀ k, k ≤ l.length → (smF l m .block k).isOut = false → RunG lsA 186 [] l n k (smF l m .block k)) (e0 : isT l k [105, 102] = true) (e9 : ∀ e k1 b k2, pexF l (k + 1) = .ok e k1 → smF l m .block k1 = .ok b k2 → isT l k2 [101, 108, 115, 101] = false)
    (ho : ((pexF l (k + 1)).bind fun e k1 => (smF l m .block (k1)).bind fun b k2 => PR.ok [smE 3 [] exZ e b []] k2).isOut = false) :
    RunG oneA 197 [] l n k ((pexF l (k + 1)).bind fun e k1 => (smF l m .block (k1)).bind fun b k2 => PR.ok [smE 3 [] exZ e b []] k2) := by
  have f0 := accept_t l n k _ e0 (by omega)
  have hlt := isT_lt e0 (by simp)
  cases r0 : pexF l (k + 1) with
  | out => exact absurd r0 (pex_no (by omega))
  | bad k' =>
    have q1 := E_bad (n := n) hl (by omega) r0
    show AP _ _ _ _ _ _ _
    refine bodyP (fun d => if d = 2 then 1 else 2) 3 Tryz.func197 rfl Tryz.ntmps197 (by simp) (by simp) ?_
    (repeat' (first | simp -implicitDefEqProofs +contextual (maxSteps := 9000000) only [kx, ↓ky, tq197, simprocAttr, exA, kA, lsA, kz] | (with_reducible first | refine SB.c (fun _ => ?_) (fun _ => ?_) | refine REG.i ?_ | refine PREG.i ?_ | exact REG.j | refine fun (_ : List AVal) => ?_) | refine CK.dx [0] [] enters182 f0 ?_ | refine CK.dp [0] [] enters199 q1 ?_ | with_reducible refine AndI ?_ | omega))
    (refine panQ.mk [0] ?_ <;> simp [kwt])
  | ok e k1 =>
    have le0 := pexLe (by omega) r0
    have c0 := E_ok (n := n) hl (by omega) r0
    rw [r0] at ho
    simp only [PR.bind] at ho ⊢
    cases r1 : smF l m .block (k1) with
    | out => rw [r1] at ho; cases ho
    | bad k' =>
      have q := hB (k1) (by omega) (by rw [r1]; rfl)
      rw [r1] at q
      have q1 : AP _ _ _ _ _ _ _ := q
      show AP _ _ _ _ _ _ _
      refine bodyP (fun d => if d = 2 then 1 else 2) 3 Tryz.func197 rfl Tryz.ntmps197 (by simp) (by simp) ?_
      (repeat' (first | simp -implicitDefEqProofs +contextual (maxSteps := 9000000) only [kx, ↓ky, tq197, simprocAttr, exA, kA, lsA, kz] | (with_reducible first | refine SB.c (fun _ => ?_) (fun _ => ?_) | refine REG.i ?_ | refine PREG.i ?_ | exact REG.j | refine fun (_ : List AVal) => ?_) | refine CK.dx [0] [] enters182 f0 ?_ | refine CK.dx [0] [] enters199 c0 ?_ | refine CK.dp [0] [] enters186 q1 ?_ | with_reducible refine AndI ?_ | omega))
      (refine panQ.mk [0] ?_ <;> simp [kwt])
    | ok b k2 =>
      have le1 := smLe (by omega) r1
      have q1 := hB (k1) (by omega) (by rw [r1]; rfl)
      rw [r1] at q1
      have c1 : AC _ _ _ _ _ _ _ := q1
      rw [r1] at ho
      simp only [PR.bind] at ho ⊢
      have t2 := accept_f l n (k2) _ (e9 _ _ _ _ r0 r1)
      refine bodyG oneA (r := PR.ok [smE 3 [] exZ e b []] k2) (fun d => if d = 2 then 1 else 2) 3 Tryz.func197 rfl Tryz.ntmps197 (by rw [Tryz.results197]) (by simp) (by simp) rfl ?_
      (repeat' (first | simp -implicitDefEqProofs +contextual (maxSteps := 9000000) only [kx, ↓ky, tq197, simprocAttr, exA, kA, lsA, kz] | (with_reducible first | refine SB.c (fun _ => ?_) (fun _ => ?_) | refine REG.i ?_ | refine PREG.i ?_ | exact REG.j | refine fun (_ : List AVal) => ?_) | refine CK.dx [0] [] enters182 f0 ?_ | refine CK.dx [0] [] enters199 c0 ?_ | refine CK.dx [0] [] enters186 c1 ?_ | refine CK.dx [0] [] enters182 t2 ?_ | with_reducible refine AndI ?_ | omega))
      refine ⟨_, Weak.nz, ?_⟩
      simp only [St.nz, nzL, nzOs, nzO, nz, nz_arg]
      (refine retQ.mk [0] ?_ ?_ <;> simp [kwr, tq197, oneA, smA, smE, encSm_eq, exZ, exK, Sm.kind, Sm.name, Sm.slot, Sm.size, Sm.place, Sm.value, Sm.body, Sm.els, Ex.op, Ex.value, Ex.name, Ex.slot, Ex.size, Ex.args])
set_option maxRecDepth 100000 in
set_option maxHeartbeats 8000000 in
theorem st_while (l : List TkD) (n m k : Nat) (hl : l.length ≤ 100000) (hk : k ≤ l.length) (hB : ∀ k, k ≤ l.length → (smF l m .block k).isOut = false → RunG lsA 186 [] l n k (smF l m .block k)) (e0 : isT l k [105, 102] = false) (e1 : isT l k [119, 104, 105, 108, 101] = true)
    (ho : ((pexF l (k + 1)).bind fun e k1 => (smF l m .block (k1)).bind fun b k2 => PR.ok [smE 4 [] exZ e b []] k2).isOut = false) :
    RunG oneA 197 [] l n k ((pexF l (k + 1)).bind fun e k1 => (smF l m .block (k1)).bind fun b k2 => PR.ok [smE 4 [] exZ e b []] k2) := by
  have f0 := accept_f l n k _ e0
  have f1 := accept_t l n k _ e1 (by omega)
  have hlt := isT_lt e1 (by simp)
  cases r0 : pexF l (k + 1) with
  | out => exact absurd r0 (pex_no (by omega))
  | bad k' =>
    have q1 := E_bad (n := n) hl (by omega) r0
    show AP _ _ _ _ _ _ _
    refine bodyP (fun d => if d = 2 then 1 else 2) 3 Tryz.func197 rfl Tryz.ntmps197 (by simp) (by simp) ?_
    (repeat' (first | simp -implicitDefEqProofs +contextual (maxSteps := 9000000) only [kx, ↓ky, tq197, simprocAttr, exA, kA, lsA, kz] | (with_reducible first | refine SB.c (fun _ => ?_) (fun _ => ?_) | refine REG.i ?_ | refine PREG.i ?_ | exact REG.j | refine fun (_ : List AVal) => ?_) | refine CK.dx [0] [] enters182 f0 ?_ | refine CK.dx [0] [] enters182 f1 ?_ | refine CK.dp [0] [] enters199 q1 ?_ | with_reducible refine AndI ?_ | omega))
    (refine panQ.mk [0] ?_ <;> simp [kwt])
  | ok e k1 =>
    have le0 := pexLe (by omega) r0
    have c0 := E_ok (n := n) hl (by omega) r0
    rw [r0] at ho
    simp only [PR.bind] at ho ⊢
    cases r1 : smF l m .block (k1) with
    | out => rw [r1] at ho; cases ho
    | bad k' =>
      have q := hB (k1) (by omega) (by rw [r1]; rfl)
      rw [r1] at q
      have q1 : AP _ _ _ _ _ _ _ := q
      show AP _ _ _ _ _ _ _
      refine bodyP (fun d => if d = 2 then 1 else 2) 3 Tryz.func197 rfl Tryz.ntmps197 (by simp) (by simp) ?_
      (repeat' (first | simp -implicitDefEqProofs +contextual (maxSteps := 9000000) only [kx, ↓ky, tq197, simprocAttr, exA, kA, lsA, kz] | (with_reducible first | refine SB.c (fun _ => ?_) (fun _ => ?_) | refine REG.i ?_ | refine PREG.i ?_ | exact REG.j | refine fun (_ : List AVal) => ?_) | refine CK.dx [0] [] enters182 f0 ?_ | refine CK.dx [0] [] enters182 f1 ?_ | refine CK.dx [0] [] enters199 c0 ?_ | refine CK.dp [0] [] enters186 q1 ?_ | with_reducible refine AndI ?_ | omega))
      (refine panQ.mk [0] ?_ <;> simp [kwt])
    | ok b k2 =>
      have le1 := smLe (by omega) r1
      have q1 := hB (k1) (by omega) (by rw [r1]; rfl)
      rw [r1] at q1
      have c1 : AC _ _ _ _ _ _ _ := q1
      rw [r1] at ho
      simp only [PR.bind] at ho ⊢
      refine bodyG oneA (r := PR.ok [smE 4 [] exZ e b []] k2) (fun d => if d = 2 then 1 else 2) 3 Tryz.func197 rfl Tryz.ntmps197 (by rw [Tryz.results197]) (by simp) (by simp) rfl ?_
      (repeat' (first | simp -implicitDefEqProofs +contextual (maxSteps := 9000000) only [kx, ↓ky, tq197, simprocAttr, exA, kA, lsA, kz] | (with_reducible first | refine SB.c (fun _ => ?_) (fun _ => ?_) | refine REG.i ?_ | refine PREG.i ?_ | exact REG.j | refine fun (_ : List AVal) => ?_) | refine CK.dx [0] [] enters182 f0 ?_ | refine CK.dx [0] [] enters182 f1 ?_ | refine CK.dx [0] [] enters199 c0 ?_ | refine CK.dx [0] [] enters186 c1 ?_ | with_reducible refine AndI ?_ | omega))
      refine ⟨_, Weak.nz, ?_⟩
      simp only [St.nz, nzL, nzOs, nzO, nz, nz_arg]
      (refine retQ.mk [0] ?_ ?_ <;> simp [kwr, tq197, oneA, smA, smE, encSm_eq, exZ, exK, Sm.kind, Sm.name, Sm.slot, Sm.size, Sm.place, Sm.value, Sm.body, Sm.els, Ex.op, Ex.value, Ex.name, Ex.slot, Ex.size, Ex.args])
set_option maxRecDepth 100000 in
set_option maxHeartbeats 8000000 in
theorem st_send (l : List TkD) (n m k : Nat) (hl : l.length ≤ 100000) (hk : k ≤ l.length) (hB : ∀ k, k ≤ l.length → (smF l m .block k).isOut = false → RunG lsA 186 [] l n k (smF l m .block k)) (e0 : isT l k [105, 102] = false) (e1 : isT l k [119, 104, 105, 108, 101] = false) (e2 : isT l k [115, 101, 110, 100] = true)
    (ho : ((pexF l (k + 1)).bind fun p k1 => (expF l [44] (k1)).bind fun _ k2 => (pexF l (k2)).bind fun e k3 => (expF l [59] (k3)).bind fun _ k4 => PR.ok [smE 5 [] p e [] []] k4).isOut = false) :
    RunG oneA 197 [] l n k ((pexF l (k + 1)).bind fun p k1 => (expF l [44] (k1)).bind fun _ k2 => (pexF l (k2)).bind fun e k3 => (expF l [59] (k3)).bind fun _ k4 => PR.ok [smE 5 [] p e [] []] k4) := by
  have f0 := accept_f l n k _ e0
  have f1 := accept_f l n k _ e1
  have f2 := accept_t l n k _ e2 (by omega)
  have hlt := isT_lt e2 (by simp)
  cases r0 : pexF l (k + 1) with
  | out => exact absurd r0 (pex_no (by omega))
  | bad k' =>
    have q1 := E_bad (n := n) hl (by omega) r0
    show AP _ _ _ _ _ _ _
    refine bodyP (fun d => if d = 2 then 1 else 2) 3 Tryz.func197 rfl Tryz.ntmps197 (by simp) (by simp) ?_
    (repeat' (first | simp -implicitDefEqProofs +contextual (maxSteps := 9000000) only [kx, ↓ky, tq197, simprocAttr, exA, kA, lsA, kz] | (with_reducible first | refine SB.c (fun _ => ?_) (fun _ => ?_) | refine REG.i ?_ | refine PREG.i ?_ | exact REG.j | refine fun (_ : List AVal) => ?_) | refine CK.dx [0] [] enters182 f0 ?_ | refine CK.dx [0] [] enters182 f1 ?_ | refine CK.dx [0] [] enters182 f2 ?_ | refine CK.dp [0] [] enters199 q1 ?_ | with_reducible refine AndI ?_ | omega))
    (refine panQ.mk [0] ?_ <;> simp [kwt])
  | ok p k1 =>
    have le0 := pexLe (by omega) r0
    have c0 := E_ok (n := n) hl (by omega) r0
    rw [r0] at ho
    simp only [PR.bind] at ho ⊢
    cases r1 : expF l [44] (k1) with
    | out => exact absurd r1 exp_no
    | bad k' =>
      have q1 := expect_bad l n _ _ _ r1
      show AP _ _ _ _ _ _ _
      refine bodyP (fun d => if d = 2 then 1 else 2) 3 Tryz.func197 rfl Tryz.ntmps197 (by simp) (by simp) ?_
      (repeat' (first | simp -implicitDefEqProofs +contextual (maxSteps := 9000000) only [kx, ↓ky, tq197, simprocAttr, exA, kA, lsA, kz] | (with_reducible first | refine SB.c (fun _ => ?_) (fun _ => ?_) | refine REG.i ?_ | refine PREG.i ?_ | exact REG.j | refine fun (_ : List AVal) => ?_) | refine CK.dx [0] [] enters182 f0 ?_ | refine CK.dx [0] [] enters182 f1 ?_ | refine CK.dx [0] [] enters182 f2 ?_ | refine CK.dx [0] [] enters199 c0 ?_ | refine CK.dp [0] [] enters185 q1 ?_ | with_reducible refine AndI ?_ | omega))
      (refine panQ.mk [0] ?_ <;> simp [kwt])
    | ok u1 k2 =>
      have le1 := expLe (by omega) (by simp) r1
      have c1 := expect_ok l n _ _ _ r1 (by omega)
      rw [r1] at ho
      simp only [PR.bind] at ho ⊢
      cases r2 : pexF l (k2) with
      | out => exact absurd r2 (pex_no (by omega))
      | bad k' =>
        have q1 := E_bad (n := n) hl (by omega) r2
        show AP _ _ _ _ _ _ _
        refine bodyP (fun d => if d = 2 then 1 else 2) 3 Tryz.func197 rfl Tryz.ntmps197 (by simp) (by simp) ?_
        (repeat' (first | simp -implicitDefEqProofs +contextual (maxSteps := 9000000) only [kx, ↓ky, tq197, simprocAttr, exA, kA, lsA, kz] | (with_reducible first | refine SB.c (fun _ => ?_) (fun _ => ?_) | refine REG.i ?_ | refine PREG.i ?_ | exact REG.j | refine fun (_ : List AVal) => ?_) | refine CK.dx [0] [] enters182 f0 ?_ | refine CK.dx [0] [] enters182 f1 ?_ | refine CK.dx [0] [] enters182 f2 ?_ | refine CK.dx [0] [] enters199 c0 ?_ | refine CK.dx [0] [] enters185 c1 ?_ | refine CK.dp [0] [] enters199 q1 ?_ | with_reducible refine AndI ?_ | omega))
        (refine panQ.mk [0] ?_ <;> simp [kwt])
      | ok e k3 =>
        have le2 := pexLe (by omega) r2
        have c2 := E_ok (n := n) hl (by omega) r2
        rw [r2] at ho
        simp only [PR.bind] at ho ⊢
        cases r3 : expF l [59] (k3) with
        | out => exact absurd r3 exp_no
        | bad k' =>
          have q1 := expect_bad l n _ _ _ r3
          show AP _ _ _ _ _ _ _
          refine bodyP (fun d => if d = 2 then 1 else 2) 3 Tryz.func197 rfl Tryz.ntmps197 (by simp) (by simp) ?_
          (repeat' (first | simp -implicitDefEqProofs +contextual (maxSteps := 9000000) only [kx, ↓ky, tq197, simprocAttr, exA, kA, lsA, kz] | (with_reducible first | refine SB.c (fun _ => ?_) (fun _ => ?_) | refine REG.i ?_ | refine PREG.i ?_ | exact REG.j | refine fun (_ : List AVal) => ?_) | refine CK.dx [0] [] enters182 f0 ?_ | refine CK.dx [0] [] enters182 f1 ?_ | refine CK.dx [0] [] enters182 f2 ?_ | refine CK.dx [0] [] enters199 c0 ?_ | refine CK.dx [0] [] enters185 c1 ?_ | refine CK.dx [0] [] enters199 c2 ?_ | refine CK.dp [0] [] enters185 q1 ?_ | with_reducible refine AndI ?_ | omega))
          (refine panQ.mk [0] ?_ <;> simp [kwt])
        | ok u3 k4 =>
          have le3 := expLe (by omega) (by simp) r3
          have c3 := expect_ok l n _ _ _ r3 (by omega)
          rw [r3] at ho
          simp only [PR.bind] at ho ⊢
          refine bodyG oneA (r := PR.ok [smE 5 [] p e [] []] k4) (fun d => if d = 2 then 1 else 2) 3 Tryz.func197 rfl Tryz.ntmps197 (by rw [Tryz.results197]) (by simp) (by simp) rfl ?_
          (repeat' (first | simp -implicitDefEqProofs +contextual (maxSteps := 9000000) only [kx, ↓ky, tq197, simprocAttr, exA, kA, lsA, kz] | (with_reducible first | refine SB.c (fun _ => ?_) (fun _ => ?_) | refine REG.i ?_ | refine PREG.i ?_ | exact REG.j | refine fun (_ : List AVal) => ?_) | refine CK.dx [0] [] enters182 f0 ?_ | refine CK.dx [0] [] enters182 f1 ?_ | refine CK.dx [0] [] enters182 f2 ?_ | refine CK.dx [0] [] enters199 c0 ?_ | refine CK.dx [0] [] enters185 c1 ?_ | refine CK.dx [0] [] enters199 c2 ?_ | refine CK.dx [0] [] enters185 c3 ?_ | with_reducible refine AndI ?_ | omega))
          refine ⟨_, Weak.nz, ?_⟩
          simp only [St.nz, nzL, nzOs, nzO, nz, nz_arg]
          (refine retQ.mk [0] ?_ ?_ <;> simp [kwr, tq197, oneA, smA, smE, encSm_eq, exZ, exK, Sm.kind, Sm.name, Sm.slot, Sm.size, Sm.place, Sm.value, Sm.body, Sm.els, Ex.op, Ex.value, Ex.name, Ex.slot, Ex.size, Ex.args])
set_option maxRecDepth 100000 in
set_option maxHeartbeats 8000000 in
theorem st_out (l : List TkD) (n m k : Nat) (hl : l.length ≤ 100000) (hk : k ≤ l.length) (hB : ∀ k, k ≤ l.length → (smF l m .block k).isOut = false → RunG lsA 186 [] l n k (smF l m .block k)) (e0 : isT l k [105, 102] = false) (e1 : isT l k [119, 104, 105, 108, 101] = false) (e2 : isT l k [115, 101, 110, 100] = false) (e3 : isT l k [111, 117, 116, 112, 117, 116] = true)
    (ho : ((pexF l (k + 1)).bind fun e k1 => (expF l [59] (k1)).bind fun _ k2 => PR.ok [smE 6 [] exZ e [] []] k2).isOut = false) :
    RunG oneA 197 [] l n k ((pexF l (k + 1)).bind fun e k1 => (expF l [59] (k1)).bind fun _ k2 => PR.ok [smE 6 [] exZ e [] []] k2) := by
  have f0 := accept_f l n k _ e0
  have f1 := accept_f l n k _ e1
  have f2 := accept_f l n k _ e2
  have f3 := accept_t l n k _ e3 (by omega)
  have hlt := isT_lt e3 (by simp)
  cases r0 : pexF l (k + 1) with
  | out => exact absurd r0 (pex_no (by omega))
  | bad k' =>
    have q1 := E_bad (n := n) hl (by omega) r0
    show AP _ _ _ _ _ _ _
    refine bodyP (fun d => if d = 2 then 1 else 2) 3 Tryz.func197 rfl Tryz.ntmps197 (by simp) (by simp) ?_
    (repeat' (first | simp -implicitDefEqProofs +contextual (maxSteps := 9000000) only [kx, ↓ky, tq197, simprocAttr, exA, kA, lsA, kz] | (with_reducible first | refine SB.c (fun _ => ?_) (fun _ => ?_) | refine REG.i ?_ | refine PREG.i ?_ | exact REG.j | refine fun (_ : List AVal) => ?_) | refine CK.dx [0] [] enters182 f0 ?_ | refine CK.dx [0] [] enters182 f1 ?_ | refine CK.dx [0] [] enters182 f2 ?_ | refine CK.dx [0] [] enters182 f3 ?_ | refine CK.dp [0] [] enters199 q1 ?_ | with_reducible refine AndI ?_ | omega))
    (refine panQ.mk [0] ?_ <;> simp [kwt])
  | ok e k1 =>
    have le0 := pexLe (by omega) r0
    have c0 := E_ok (n := n) hl (by omega) r0
    rw [r0] at ho
    simp only [PR.bind] at ho ⊢
    cases r1 : expF l [59] (k1) with
    | out => exact absurd r1 exp_no
    | bad k' =>
      have q1 := expect_bad l n _ _ _ r1
      show AP _ _ _ _ _ _ _
      refine bodyP (fun d => if d = 2 then 1 else 2) 3 Tryz.func197 rfl Tryz.ntmps197 (by simp) (by simp) ?_
      (repeat' (first | simp -implicitDefEqProofs +contextual (maxSteps := 9000000) only [kx, ↓ky, tq197, simprocAttr, exA, kA, lsA, kz] | (with_reducible first | refine SB.c (fun _ => ?_) (fun _ => ?_) | refine REG.i ?_ | refine PREG.i ?_ | exact REG.j | refine fun (_ : List AVal) => ?_) | refine CK.dx [0] [] enters182 f0 ?_ | refine CK.dx [0] [] enters182 f1 ?_ | refine CK.dx [0] [] enters182 f2 ?_ | refine CK.dx [0] [] enters182 f3 ?_ | refine CK.dx [0] [] enters199 c0 ?_ | refine CK.dp [0] [] enters185 q1 ?_ | with_reducible refine AndI ?_ | omega))
      (refine panQ.mk [0] ?_ <;> simp [kwt])
    | ok u1 k2 =>
      have le1 := expLe (by omega) (by simp) r1
      have c1 := expect_ok l n _ _ _ r1 (by omega)
      rw [r1] at ho
      simp only [PR.bind] at ho ⊢
      refine bodyG oneA (r := PR.ok [smE 6 [] exZ e [] []] k2) (fun d => if d = 2 then 1 else 2) 3 Tryz.func197 rfl Tryz.ntmps197 (by rw [Tryz.results197]) (by simp) (by simp) rfl ?_
      (repeat' (first | simp -implicitDefEqProofs +contextual (maxSteps := 9000000) only [kx, ↓ky, tq197, simprocAttr, exA, kA, lsA, kz] | (with_reducible first | refine SB.c (fun _ => ?_) (fun _ => ?_) | refine REG.i ?_ | refine PREG.i ?_ | exact REG.j | refine fun (_ : List AVal) => ?_) | refine CK.dx [0] [] enters182 f0 ?_ | refine CK.dx [0] [] enters182 f1 ?_ | refine CK.dx [0] [] enters182 f2 ?_ | refine CK.dx [0] [] enters182 f3 ?_ | refine CK.dx [0] [] enters199 c0 ?_ | refine CK.dx [0] [] enters185 c1 ?_ | with_reducible refine AndI ?_ | omega))
      refine ⟨_, Weak.nz, ?_⟩
      simp only [St.nz, nzL, nzOs, nzO, nz, nz_arg]
      (refine retQ.mk [0] ?_ ?_ <;> simp [kwr, tq197, oneA, smA, smE, encSm_eq, exZ, exK, Sm.kind, Sm.name, Sm.slot, Sm.size, Sm.place, Sm.value, Sm.body, Sm.els, Ex.op, Ex.value, Ex.name, Ex.slot, Ex.size, Ex.args])
set_option maxRecDepth 100000 in
set_option maxHeartbeats 8000000 in
theorem st_store (l : List TkD) (n m k : Nat) (hl : l.length ≤ 100000) (hk : k ≤ l.length) (hB : ∀ k, k ≤ l.length → (smF l m .block k).isOut = false → RunG lsA 186 [] l n k (smF l m .block k)) (e0 : isT l k [105, 102] = false) (e1 : isT l k [119, 104, 105, 108, 101] = false) (e2 : isT l k [115, 101, 110, 100] = false) (e3 : isT l k [111, 117, 116, 112, 117, 116] = false) (nm : List UInt8) (k1 : Nat) (hn : pnmF l k = .ok nm k1) (e9 : isT l k1 [91] = true)
    (ho : ((pexF l (k1 + 1)).bind fun p k2 => (expF l [93] (k2)).bind fun _ k3 => (expF l [61] (k3)).bind fun _ k4 => (pexF l (k4)).bind fun e k5 => (expF l [59] (k5)).bind fun _ k6 => PR.ok [smE 2 nm p e [] []] k6).isOut = false) :
    RunG oneA 197 [] l n k ((pexF l (k1 + 1)).bind fun p k2 => (expF l [93] (k2)).bind fun _ k3 => (expF l [61] (k3)).bind fun _ k4 => (pexF l (k4)).bind fun e k5 => (expF l [59] (k5)).bind fun _ k6 => PR.ok [smE 2 nm p e [] []] k6) := by
  have f0 := accept_f l n k _ e0
  have f1 := accept_f l n k _ e1
  have f2 := accept_f l n k _ e2
  have f3 := accept_f l n k _ e3
  have cn := name_ok l n k k1 nm hn (by omega)
  have hk1 : k1 ≤ l.length := by have := pnmF_past (l := l) hk; rw [hn] at this; exact this.2
  have g := accept_t l n k1 _ e9 (by omega)
  have hlt := isT_lt e9 (by simp)
  cases r0 : pexF l (k1 + 1) with
  | out => exact absurd r0 (pex_no (by omega))
  | bad k' =>
    have q1 := E_bad (n := n) hl (by omega) r0
    show AP _ _ _ _ _ _ _
    refine bodyP (fun d => if d = 2 then 1 else 2) 3 Tryz.func197 rfl Tryz.ntmps197 (by simp) (by simp) ?_
    (repeat' (first | simp -implicitDefEqProofs +contextual (maxSteps := 9000000) only [kx, ↓ky, tq197, simprocAttr, exA, kA, lsA, kz] | (with_reducible first | refine SB.c (fun _ => ?_) (fun _ => ?_) | refine REG.i ?_ | refine PREG.i ?_ | exact REG.j | refine fun (_ : List AVal) => ?_) | refine CK.dx [0] [] enters182 f0 ?_ | refine CK.dx [0] [] enters182 f1 ?_ | refine CK.dx [0] [] enters182 f2 ?_ | refine CK.dx [0] [] enters182 f3 ?_ | refine CK.dx [0] [] enters183 cn ?_ | refine CK.dx [0] [] enters182 g ?_ | refine CK.dp [0] [] enters199 q1 ?_ | with_reducible refine AndI ?_ | omega))
    (refine panQ.mk [0] ?_ <;> simp [kwt])
  | ok p k2 =>
    have le0 := pexLe (by omega) r0
    have c0 := E_ok (n := n) hl (by omega) r0
    rw [r0] at ho
    simp only [PR.bind] at ho ⊢
    cases r1 : expF l [93] (k2) with
    | out => exact absurd r1 exp_no
    | bad k' =>
      have q1 := expect_bad l n _ _ _ r1
      show AP _ _ _ _ _ _ _
      refine bodyP (fun d => if d = 2 then 1 else 2) 3 Tryz.func197 rfl Tryz.ntmps197 (by simp) (by simp) ?_
      (repeat' (first | simp -implicitDefEqProofs +contextual (maxSteps := 9000000) only [kx, ↓ky, tq197, simprocAttr, exA, kA, lsA, kz] | (with_reducible first | refine SB.c (fun _ => ?_) (fun _ => ?_) | refine REG.i ?_ | refine PREG.i ?_ | exact REG.j | refine fun (_ : List AVal) => ?_) | refine CK.dx [0] [] enters182 f0 ?_ | refine CK.dx [0] [] enters182 f1 ?_ | refine CK.dx [0] [] enters182 f2 ?_ | refine CK.dx [0] [] enters182 f3 ?_ | refine CK.dx [0] [] enters183 cn ?_ | refine CK.dx [0] [] enters182 g ?_ | refine CK.dx [0] [] enters199 c0 ?_ | refine CK.dp [0] [] enters185 q1 ?_ | with_reducible refine AndI ?_ | omega))
      (refine panQ.mk [0] ?_ <;> simp [kwt])
    | ok u1 k3 =>
      have le1 := expLe (by omega) (by simp) r1
      have c1 := expect_ok l n _ _ _ r1 (by omega)
      rw [r1] at ho
      simp only [PR.bind] at ho ⊢
      cases r2 : expF l [61] (k3) with
      | out => exact absurd r2 exp_no
      | bad k' =>
        have q1 := expect_bad l n _ _ _ r2
        show AP _ _ _ _ _ _ _
        refine bodyP (fun d => if d = 2 then 1 else 2) 3 Tryz.func197 rfl Tryz.ntmps197 (by simp) (by simp) ?_
        (repeat' (first | simp -implicitDefEqProofs +contextual (maxSteps := 9000000) only [kx, ↓ky, tq197, simprocAttr, exA, kA, lsA, kz] | (with_reducible first | refine SB.c (fun _ => ?_) (fun _ => ?_) | refine REG.i ?_ | refine PREG.i ?_ | exact REG.j | refine fun (_ : List AVal) => ?_) | refine CK.dx [0] [] enters182 f0 ?_ | refine CK.dx [0] [] enters182 f1 ?_ | refine CK.dx [0] [] enters182 f2 ?_ | refine CK.dx [0] [] enters182 f3 ?_ | refine CK.dx [0] [] enters183 cn ?_ | refine CK.dx [0] [] enters182 g ?_ | refine CK.dx [0] [] enters199 c0 ?_ | refine CK.dx [0] [] enters185 c1 ?_ | refine CK.dp [0] [] enters185 q1 ?_ | with_reducible refine AndI ?_ | omega))
        (refine panQ.mk [0] ?_ <;> simp [kwt])
      | ok u2 k4 =>
        have le2 := expLe (by omega) (by simp) r2
        have c2 := expect_ok l n _ _ _ r2 (by omega)
        rw [r2] at ho
        simp only [PR.bind] at ho ⊢
        cases r3 : pexF l (k4) with
        | out => exact absurd r3 (pex_no (by omega))
        | bad k' =>
          have q1 := E_bad (n := n) hl (by omega) r3
          show AP _ _ _ _ _ _ _
          refine bodyP (fun d => if d = 2 then 1 else 2) 3 Tryz.func197 rfl Tryz.ntmps197 (by simp) (by simp) ?_
          (repeat' (first | simp -implicitDefEqProofs +contextual (maxSteps := 9000000) only [kx, ↓ky, tq197, simprocAttr, exA, kA, lsA, kz] | (with_reducible first | refine SB.c (fun _ => ?_) (fun _ => ?_) | refine REG.i ?_ | refine PREG.i ?_ | exact REG.j | refine fun (_ : List AVal) => ?_) | refine CK.dx [0] [] enters182 f0 ?_ | refine CK.dx [0] [] enters182 f1 ?_ | refine CK.dx [0] [] enters182 f2 ?_ | refine CK.dx [0] [] enters182 f3 ?_ | refine CK.dx [0] [] enters183 cn ?_ | refine CK.dx [0] [] enters182 g ?_ | refine CK.dx [0] [] enters199 c0 ?_ | refine CK.dx [0] [] enters185 c1 ?_ | refine CK.dx [0] [] enters185 c2 ?_ | refine CK.dp [0] [] enters199 q1 ?_ | with_reducible refine AndI ?_ | omega))
          (refine panQ.mk [0] ?_ <;> simp [kwt])
        | ok e k5 =>
          have le3 := pexLe (by omega) r3
          have c3 := E_ok (n := n) hl (by omega) r3
          rw [r3] at ho
          simp only [PR.bind] at ho ⊢
          cases r4 : expF l [59] (k5) with
          | out => exact absurd r4 exp_no
          | bad k' =>
            have q1 := expect_bad l n _ _ _ r4
            show AP _ _ _ _ _ _ _
            refine bodyP (fun d => if d = 2 then 1 else 2) 3 Tryz.func197 rfl Tryz.ntmps197 (by simp) (by simp) ?_
            (repeat' (first | simp -implicitDefEqProofs +contextual (maxSteps := 9000000) only [kx, ↓ky, tq197, simprocAttr, exA, kA, lsA, kz] | (with_reducible first | refine SB.c (fun _ => ?_) (fun _ => ?_) | refine REG.i ?_ | refine PREG.i ?_ | exact REG.j | refine fun (_ : List AVal) => ?_) | refine CK.dx [0] [] enters182 f0 ?_ | refine CK.dx [0] [] enters182 f1 ?_ | refine CK.dx [0] [] enters182 f2 ?_ | refine CK.dx [0] [] enters182 f3 ?_ | refine CK.dx [0] [] enters183 cn ?_ | refine CK.dx [0] [] enters182 g ?_ | refine CK.dx [0] [] enters199 c0 ?_ | refine CK.dx [0] [] enters185 c1 ?_ | refine CK.dx [0] [] enters185 c2 ?_ | refine CK.dx [0] [] enters199 c3 ?_ | refine CK.dp [0] [] enters185 q1 ?_ | with_reducible refine AndI ?_ | omega))
            (refine panQ.mk [0] ?_ <;> simp [kwt])
          | ok u4 k6 =>
            have le4 := expLe (by omega) (by simp) r4
            have c4 := expect_ok l n _ _ _ r4 (by omega)
            rw [r4] at ho
            simp only [PR.bind] at ho ⊢
            refine bodyG oneA (r := PR.ok [smE 2 nm p e [] []] k6) (fun d => if d = 2 then 1 else 2) 3 Tryz.func197 rfl Tryz.ntmps197 (by rw [Tryz.results197]) (by simp) (by simp) rfl ?_
            (repeat' (first | simp -implicitDefEqProofs +contextual (maxSteps := 9000000) only [kx, ↓ky, tq197, simprocAttr, exA, kA, lsA, kz] | (with_reducible first | refine SB.c (fun _ => ?_) (fun _ => ?_) | refine REG.i ?_ | refine PREG.i ?_ | exact REG.j | refine fun (_ : List AVal) => ?_) | refine CK.dx [0] [] enters182 f0 ?_ | refine CK.dx [0] [] enters182 f1 ?_ | refine CK.dx [0] [] enters182 f2 ?_ | refine CK.dx [0] [] enters182 f3 ?_ | refine CK.dx [0] [] enters183 cn ?_ | refine CK.dx [0] [] enters182 g ?_ | refine CK.dx [0] [] enters199 c0 ?_ | refine CK.dx [0] [] enters185 c1 ?_ | refine CK.dx [0] [] enters185 c2 ?_ | refine CK.dx [0] [] enters199 c3 ?_ | refine CK.dx [0] [] enters185 c4 ?_ | with_reducible refine AndI ?_ | omega))
            refine ⟨_, Weak.nz, ?_⟩
            simp only [St.nz, nzL, nzOs, nzO, nz, nz_arg]
            (refine retQ.mk [0] ?_ ?_ <;> simp [kwr, tq197, oneA, smA, smE, encSm_eq, exZ, exK, Sm.kind, Sm.name, Sm.slot, Sm.size, Sm.place, Sm.value, Sm.body, Sm.els, Ex.op, Ex.value, Ex.name, Ex.slot, Ex.size, Ex.args])
set_option maxRecDepth 100000 in
set_option maxHeartbeats 8000000 in
theorem st_assign (l : List TkD) (n m k : Nat) (hl : l.length ≤ 100000) (hk : k ≤ l.length) (hB : ∀ k, k ≤ l.length → (smF l m .block k).isOut = false → RunG lsA 186 [] l n k (smF l m .block k)) (e0 : isT l k [105, 102] = false) (e1 : isT l k [119, 104, 105, 108, 101] = false) (e2 : isT l k [115, 101, 110, 100] = false) (e3 : isT l k [111, 117, 116, 112, 117, 116] = false) (nm : List UInt8) (k1 : Nat) (hn : pnmF l k = .ok nm k1) (e9 : isT l k1 [91] = false)
    (ho : ((expF l [61] (k1)).bind fun _ k4 => (pexF l (k4)).bind fun e k5 => (expF l [59] (k5)).bind fun _ k6 => PR.ok [smE 1 nm exZ e [] []] k6).isOut = false) :
    RunG oneA 197 [] l n k ((expF l [61] (k1)).bind fun _ k4 => (pexF l (k4)).bind fun e k5 => (expF l [59] (k5)).bind fun _ k6 => PR.ok [smE 1 nm exZ e [] []] k6) := by
  have f0 := accept_f l n k _ e0
  have f1 := accept_f l n k _ e1
  have f2 := accept_f l n k _ e2
  have f3 := accept_f l n k _ e3
  have cn := name_ok l n k k1 nm hn (by omega)
  have hk1 : k1 ≤ l.length := by have := pnmF_past (l := l) hk; rw [hn] at this; exact this.2
  have g := accept_f l n k1 _ e9
  cases r0 : expF l [61] (k1) with
  | out => exact absurd r0 exp_no
  | bad k' =>
    have q1 := expect_bad l n _ _ _ r0
    show AP _ _ _ _ _ _ _
    refine bodyP (fun d => if d = 2 then 1 else 2) 3 Tryz.func197 rfl Tryz.ntmps197 (by simp) (by simp) ?_
    (repeat' (first | simp -implicitDefEqProofs +contextual (maxSteps := 9000000) only [kx, ↓ky, tq197, simprocAttr, exA, kA, lsA, kz] | (with_reducible first | refine SB.c (fun _ => ?_) (fun _ => ?_) | refine REG.i ?_ | refine PREG.i ?_ | exact REG.j | refine fun (_ : List AVal) => ?_) | refine CK.dx [0] [] enters182 f0 ?_ | refine CK.dx [0] [] enters182 f1 ?_ | refine CK.dx [0] [] enters182 f2 ?_ | refine CK.dx [0] [] enters182 f3 ?_ | refine CK.dx [0] [] enters183 cn ?_ | refine CK.dx [0] [] enters182 g ?_ | refine CK.dp [0] [] enters185 q1 ?_ | with_reducible refine AndI ?_ | omega))
    (refine panQ.mk [0] ?_ <;> simp [kwt])
  | ok u0 k4 =>
    have le0 := expLe (by omega) (by simp) r0
    have c0 := expect_ok l n _ _ _ r0 (by omega)
    rw [r0] at ho
    simp only [PR.bind] at ho ⊢
    cases r1 : pexF l (k4) with
    | out => exact absurd r1 (pex_no (by omega))
    | bad k' =>
      have q1 := E_bad (n := n) hl (by omega) r1
      show AP _ _ _ _ _ _ _
      refine bodyP (fun d => if d = 2 then 1 else 2) 3 Tryz.func197 rfl Tryz.ntmps197 (by simp) (by simp) ?_
      (repeat' (first | simp -implicitDefEqProofs +contextual (maxSteps := 9000000) only [kx, ↓ky, tq197, simprocAttr, exA, kA, lsA, kz] | (with_reducible first | refine SB.c (fun _ => ?_) (fun _ => ?_) | refine REG.i ?_ | refine PREG.i ?_ | exact REG.j | refine fun (_ : List AVal) => ?_) | refine CK.dx [0] [] enters182 f0 ?_ | refine CK.dx [0] [] enters182 f1 ?_ | refine CK.dx [0] [] enters182 f2 ?_ | refine CK.dx [0] [] enters182 f3 ?_ | refine CK.dx [0] [] enters183 cn ?_ | refine CK.dx [0] [] enters182 g ?_ | refine CK.dx [0] [] enters185 c0 ?_ | refine CK.dp [0] [] enters199 q1 ?_ | with_reducible refine AndI ?_ | omega))
      (refine panQ.mk [0] ?_ <;> simp [kwt])
    | ok e k5 =>
      have le1 := pexLe (by omega) r1
      have c1 := E_ok (n := n) hl (by omega) r1
      rw [r1] at ho
      simp only [PR.bind] at ho ⊢
      cases r2 : expF l [59] (k5) with
      | out => exact absurd r2 exp_no
      | bad k' =>
        have q1 := expect_bad l n _ _ _ r2
        show AP _ _ _ _ _ _ _
        refine bodyP (fun d => if d = 2 then 1 else 2) 3 Tryz.func197 rfl Tryz.ntmps197 (by simp) (by simp) ?_
        (repeat' (first | simp -implicitDefEqProofs +contextual (maxSteps := 9000000) only [kx, ↓ky, tq197, simprocAttr, exA, kA, lsA, kz] | (with_reducible first | refine SB.c (fun _ => ?_) (fun _ => ?_) | refine REG.i ?_ | refine PREG.i ?_ | exact REG.j | refine fun (_ : List AVal) => ?_) | refine CK.dx [0] [] enters182 f0 ?_ | refine CK.dx [0] [] enters182 f1 ?_ | refine CK.dx [0] [] enters182 f2 ?_ | refine CK.dx [0] [] enters182 f3 ?_ | refine CK.dx [0] [] enters183 cn ?_ | refine CK.dx [0] [] enters182 g ?_ | refine CK.dx [0] [] enters185 c0 ?_ | refine CK.dx [0] [] enters199 c1 ?_ | refine CK.dp [0] [] enters185 q1 ?_ | with_reducible refine AndI ?_ | omega))
        (refine panQ.mk [0] ?_ <;> simp [kwt])
      | ok u2 k6 =>
        have le2 := expLe (by omega) (by simp) r2
        have c2 := expect_ok l n _ _ _ r2 (by omega)
        rw [r2] at ho
        simp only [PR.bind] at ho ⊢
        refine bodyG oneA (r := PR.ok [smE 1 nm exZ e [] []] k6) (fun d => if d = 2 then 1 else 2) 3 Tryz.func197 rfl Tryz.ntmps197 (by rw [Tryz.results197]) (by simp) (by simp) rfl ?_
        (repeat' (first | simp -implicitDefEqProofs +contextual (maxSteps := 9000000) only [kx, ↓ky, tq197, simprocAttr, exA, kA, lsA, kz] | (with_reducible first | refine SB.c (fun _ => ?_) (fun _ => ?_) | refine REG.i ?_ | refine PREG.i ?_ | exact REG.j | refine fun (_ : List AVal) => ?_) | refine CK.dx [0] [] enters182 f0 ?_ | refine CK.dx [0] [] enters182 f1 ?_ | refine CK.dx [0] [] enters182 f2 ?_ | refine CK.dx [0] [] enters182 f3 ?_ | refine CK.dx [0] [] enters183 cn ?_ | refine CK.dx [0] [] enters182 g ?_ | refine CK.dx [0] [] enters185 c0 ?_ | refine CK.dx [0] [] enters199 c1 ?_ | refine CK.dx [0] [] enters185 c2 ?_ | with_reducible refine AndI ?_ | omega))
        refine ⟨_, Weak.nz, ?_⟩
        simp only [St.nz, nzL, nzOs, nzO, nz, nz_arg]
        (refine retQ.mk [0] ?_ ?_ <;> simp [kwr, tq197, oneA, smA, smE, encSm_eq, exZ, exK, Sm.kind, Sm.name, Sm.slot, Sm.size, Sm.place, Sm.value, Sm.body, Sm.els, Ex.op, Ex.value, Ex.name, Ex.slot, Ex.size, Ex.args])
set_option maxRecDepth 100000 in
set_option maxHeartbeats 8000000 in
theorem st_noname (l : List TkD) (n k k' : Nat) (hl : l.length ≤ 100000) (hk : k ≤ l.length) (e0 : isT l k [105, 102] = false) (e1 : isT l k [119, 104, 105, 108, 101] = false) (e2 : isT l k [115, 101, 110, 100] = false) (e3 : isT l k [111, 117, 116, 112, 117, 116] = false) (hn : pnmF l k = .bad k') : AP Tryz.prog gl 197 [.ref 0 0] (psO l n k) (fv l n k') (psO l n k') := by
  have f0 := accept_f l n k _ e0
  have f1 := accept_f l n k _ e1
  have f2 := accept_f l n k _ e2
  have f3 := accept_f l n k _ e3
  have q := name_bad l n k k' hn hk
  refine bodyP (fun d => if d = 2 then 1 else 2) 3 Tryz.func197 rfl Tryz.ntmps197 (by simp) (by simp) ?_
  (repeat' (first | simp -implicitDefEqProofs +contextual (maxSteps := 9000000) only [kx, ↓ky, tq197, simprocAttr, kz] | (with_reducible first | refine SB.c (fun _ => ?_) (fun _ => ?_) | refine REG.i ?_ | refine PREG.i ?_ | exact REG.j | refine fun (_ : List AVal) => ?_) | refine CK.dx [0] [] enters182 f0 ?_ | refine CK.dx [0] [] enters182 f1 ?_ | refine CK.dx [0] [] enters182 f2 ?_ | refine CK.dx [0] [] enters182 f3 ?_ | refine CK.dp [0] [] enters183 q ?_ | with_reducible refine AndI ?_ | omega))
  (refine panQ.mk [0] ?_ <;> simp [kwt])
end Go.Proofs.YtfinhhblcdkpgaaGreatDoor
