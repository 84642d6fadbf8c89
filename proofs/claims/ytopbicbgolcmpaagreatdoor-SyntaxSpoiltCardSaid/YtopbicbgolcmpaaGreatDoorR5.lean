/- A part of the walk (Tryz_R5): its theorems have no condition beyond what they state. -/
import Derived.Test.YtopbicbgolcmpaaGreatDoorR4
import Derived.Test.YtopbicbgolcmpaaGreatDoorP8
set_option linter.unusedSimpArgs false
set_option linter.unusedVariables false
set_option linter.defProp false
namespace Go.Proofs.YtopbicbgolcmpaaGreatDoor
open Go Go.Abs Go.RowKit
def RunRB (l : List TkD) (n k : Nat) : PR (List Sm) → Prop
  | .ok b k' => AC Tryz.prog gl 49 [.ref 0 0] (okO l n k) (lsA b) (okO l n k')
  | .bad k' => ∃ b : List Sm, AC Tryz.prog gl 49 [.ref 0 0] (okO l n k) (lsA b) (flO l n k' (placeF l n k'))
  | .out => True
def RunRT (l : List TkD) (n k : Nat) : PR (List Sm) → Prop
  | .ok b k' => AC Tryz.prog gl 85 [.ref 0 0] (okO l n k) (oneA b) (okO l n k')
  | .bad k' => ∃ s : Sm, AC Tryz.prog gl 85 [.ref 0 0] (okO l n k) (oneA [s]) (flO l n k' (placeF l n k'))
  | .out => True
theorem RE_ok {l : List TkD} {n k k' : Nat} {e : Ex} (hT : AllOK l) (hl : l.length ≤ 100000) (hk : k ≤ l.length) (h : pexF l k = .ok e k') : AC Tryz.prog gl 99 [.ref 0 0, .pv (.int .i64 0)] (okO l n k) (exA e) (okO l n k') := by
  have := rexpr_run l n k hT hl hk
  rw [h] at this
  exact this
theorem RE_bad {l : List TkD} {n k k' : Nat} (hT : AllOK l) (hl : l.length ≤ 100000) (hk : k ≤ l.length) (h : pexF l k = .bad k') : ∃ e, AC Tryz.prog gl 99 [.ref 0 0, .pv (.int .i64 0)] (okO l n k) (exA e) (flO l n k' (placeF l n k')) := by
  have := rexpr_run l n k hT hl hk
  rw [h] at this
  exact this
theorem rbin0_fl (l : List TkD) (n k : Nat) (b : Int) : AC Tryz.prog gl 99 [.ref 0 0, .pv (.int .i64 0)] (flO l n k b) (exA exZ) (flO l n k b) := rbin_fl l n k b 5 0 rfl
set_option maxRecDepth 100000 in
set_option maxHeartbeats 4000000 in
theorem rblock_fl (l : List TkD) (n k : Nat) (b : Int) : AC Tryz.prog gl 49 [.ref 0 0] (flO l n k b) (lsA []) (flO l n k b) := by
  have c1 := rtake_fl l n k b [123]
  have c2 := rtake_fl l n k b [125]
  refine bodyW (fun _ => 2) 3 Tryz.func49 rfl Tryz.ntmps49 (by rw [Tryz.results49]) (by simp) (by simp) ?_
  (repeat' (first | simp -implicitDefEqProofs +contextual (maxSteps := 9000000) only [kx, ↓ky, tq49, simprocAttr, kz] | (with_reducible first | refine SB.c (fun _ => ?_) (fun _ => ?_) | refine REG.i ?_ | exact REG.j) | refine CK.dx [0] [] enters82 c1 ?_ | with_reducible refine AndI ?_ | omega))
  refine loopV (ι := Unit) (fun _ => ⟨[.ref 0 0, .junk, .junk, .snil, .junk, .junk, .junk, .junk, .junk, .junk, .junk, .junk, .junk, .junk, .junk, .junk, .junk, .junk, .junk, .junk, .junk, .junk, .junk], [some (flC l n k b), none, none]⟩) (fun _ => 0) () WFn ?_
  intro _
  (repeat' (first | simp -implicitDefEqProofs +contextual (maxSteps := 9000000) only [kx, ↓ky, tq49, simprocAttr, kz] | (with_reducible first | refine SB.c (fun _ => ?_) (fun _ => ?_) | refine REG.i ?_ | exact REG.j) | refine CK.dx [0] [] enters82 c2 ?_ | with_reducible refine AndI ?_ | omega))
  refine ⟨_, Weak.nz, ?_⟩
  simp only [St.nz, nzL, nzOs, nzO, nz]
  (refine retQ.mk [0] ?_ ?_ <;> simp [kwr, tq49, lsA])
set_option maxRecDepth 100000 in
set_option maxHeartbeats 8000000 in
theorem rst_if1 (l : List TkD) (n m k : Nat) (hT : AllOK l) (hl : l.length ≤ 100000) (hk : k ≤ l.length) (hB : ∀ k, k ≤ l.length → (smF l m .block k).isOut = false → RunRB l n k (smF l m .block k)) (e0 : isT l k [105, 102] = true) (e9 : ∀ e k1 b k2, pexF l (k + 1) = .ok e k1 → smF l m .block k1 = .ok b k2 → isT l k2 [101, 108, 115, 101] = true)
    (ho : ((pexF l (k + 1)).bind fun e k1 => (smF l m .block (k1)).bind fun b k2 => (smF l m .block (k2 + 1)).bind fun c k3 => PR.ok [smE 3 [] exZ e b c] k3).isOut = false) :
    RunRT l n k ((pexF l (k + 1)).bind fun e k1 => (smF l m .block (k1)).bind fun b k2 => (smF l m .block (k2 + 1)).bind fun c k3 => PR.ok [smE 3 [] exZ e b c] k3) := by
  have f0 := rskip_t l n k _ hT rfl (by omega) e0
  have hlt := isT_lt e0 (by simp)
  cases r0 : pexF l (k + 1) with
  | out => exact absurd r0 (pex_no (by omega))
  | bad k' =>
    obtain ⟨g, q1⟩ := RE_bad (n := n) hT hl (by omega) r0
    have z0 := rblock_fl l n k' (placeF l n k')
    have z1 := rskip_fl l n k' (placeF l n k') [101, 108, 115, 101]
    refine ⟨smE 3 [] exZ g [] [], ?_⟩
    refine bodyW (fun d => if d = 2 then 1 else 2) 3 Tryz.func85 rfl Tryz.ntmps85 (by rw [Tryz.results85]) (by simp) (by simp) ?_
    (repeat' (first | simp -implicitDefEqProofs +contextual (maxSteps := 9000000) only [kx, ↓ky, tq85, simprocAttr, exA, kA, lsA, kz] | (with_reducible first | refine SB.c (fun _ => ?_) (fun _ => ?_) | refine REG.i ?_ | exact REG.j) | refine CK.dx [0] [] enters47 f0 ?_ | refine CK.dx [0] [] enters99 q1 ?_ | refine CK.dx [0] [] enters49 z0 ?_ | refine CK.dx [0] [] enters47 z1 ?_ | with_reducible refine AndI ?_ | omega))
    refine ⟨_, Weak.nz, ?_⟩
    simp only [St.nz, nzL, nzOs, nzO, nz, nz_arg]
    (refine retQ.mk [0] ?_ ?_ <;> simp [kwr, tq85, oneA, smA, smE, encSm_eq, exZ, exK, Sm.kind, Sm.name, Sm.slot, Sm.size, Sm.place, Sm.value, Sm.body, Sm.els, Ex.op, Ex.value, Ex.name, Ex.slot, Ex.size, Ex.args])
  | ok e k1 =>
    have le0 := pexLe (by omega) r0
    have c0 := RE_ok (n := n) hT hl (by omega) r0
    rw [r0] at ho
    simp only [PR.bind] at ho ⊢
    cases r1 : smF l m .block (k1) with
    | out => rw [r1] at ho; cases ho
    | bad k' =>
      have q := hB (k1) (by omega) (by rw [r1]; rfl)
      rw [r1] at q
      obtain ⟨g, q1⟩ := q
      have z0 := rskip_fl l n k' (placeF l n k') [101, 108, 115, 101]
      refine ⟨smE 3 [] exZ e g [], ?_⟩
      refine bodyW (fun d => if d = 2 then 1 else 2) 3 Tryz.func85 rfl Tryz.ntmps85 (by rw [Tryz.results85]) (by simp) (by simp) ?_
      (repeat' (first | simp -implicitDefEqProofs +contextual (maxSteps := 9000000) only [kx, ↓ky, tq85, simprocAttr, exA, kA, lsA, kz] | (with_reducible first | refine SB.c (fun _ => ?_) (fun _ => ?_) | refine REG.i ?_ | exact REG.j) | refine CK.dx [0] [] enters47 f0 ?_ | refine CK.dx [0] [] enters99 c0 ?_ | refine CK.dx [0] [] enters49 q1 ?_ | refine CK.dx [0] [] enters47 z0 ?_ | with_reducible refine AndI ?_ | omega))
      refine ⟨_, Weak.nz, ?_⟩
      simp only [St.nz, nzL, nzOs, nzO, nz, nz_arg]
      (refine retQ.mk [0] ?_ ?_ <;> simp [kwr, tq85, oneA, smA, smE, encSm_eq, exZ, exK, Sm.kind, Sm.name, Sm.slot, Sm.size, Sm.place, Sm.value, Sm.body, Sm.els, Ex.op, Ex.value, Ex.name, Ex.slot, Ex.size, Ex.args])
    | ok b k2 =>
      have le1 := smLe (by omega) r1
      have q1 := hB (k1) (by omega) (by rw [r1]; rfl)
      rw [r1] at q1
      have c1 : AC _ _ _ _ _ _ _ := q1
      rw [r1] at ho
      simp only [PR.bind] at ho ⊢
      have t2 := rskip_t l n (k2) _ hT rfl (by omega) (e9 _ _ _ _ r0 r1)
      have hlt2 := isT_lt (e9 _ _ _ _ r0 r1) (by simp)
      cases r3 : smF l m .block (k2 + 1) with
      | out => rw [r3] at ho; cases ho
      | bad k' =>
        have q := hB (k2 + 1) (by omega) (by rw [r3]; rfl)
        rw [r3] at q
        obtain ⟨g, q1⟩ := q
        refine ⟨smE 3 [] exZ e b g, ?_⟩
        refine bodyW (fun d => if d = 2 then 1 else 2) 3 Tryz.func85 rfl Tryz.ntmps85 (by rw [Tryz.results85]) (by simp) (by simp) ?_
        (repeat' (first | simp -implicitDefEqProofs +contextual (maxSteps := 9000000) only [kx, ↓ky, tq85, simprocAttr, exA, kA, lsA, kz] | (with_reducible first | refine SB.c (fun _ => ?_) (fun _ => ?_) | refine REG.i ?_ | exact REG.j) | refine CK.dx [0] [] enters47 f0 ?_ | refine CK.dx [0] [] enters99 c0 ?_ | refine CK.dx [0] [] enters49 c1 ?_ | refine CK.dx [0] [] enters47 t2 ?_ | refine CK.dx [0] [] enters49 q1 ?_ | with_reducible refine AndI ?_ | omega))
        refine ⟨_, Weak.nz, ?_⟩
        simp only [St.nz, nzL, nzOs, nzO, nz, nz_arg]
        (refine retQ.mk [0] ?_ ?_ <;> simp [kwr, tq85, oneA, smA, smE, encSm_eq, exZ, exK, Sm.kind, Sm.name, Sm.slot, Sm.size, Sm.place, Sm.value, Sm.body, Sm.els, Ex.op, Ex.value, Ex.name, Ex.slot, Ex.size, Ex.args])
      | ok c k3 =>
        have le3 := smLe (by omega) r3
        have q3 := hB (k2 + 1) (by omega) (by rw [r3]; rfl)
        rw [r3] at q3
        have c3 : AC _ _ _ _ _ _ _ := q3
        rw [r3] at ho
        simp only [PR.bind] at ho ⊢
        show AC _ _ _ _ _ _ _
        refine bodyW (fun d => if d = 2 then 1 else 2) 3 Tryz.func85 rfl Tryz.ntmps85 (by rw [Tryz.results85]) (by simp) (by simp) ?_
        (repeat' (first | simp -implicitDefEqProofs +contextual (maxSteps := 9000000) only [kx, ↓ky, tq85, simprocAttr, exA, kA, lsA, kz] | (with_reducible first | refine SB.c (fun _ => ?_) (fun _ => ?_) | refine REG.i ?_ | exact REG.j) | refine CK.dx [0] [] enters47 f0 ?_ | refine CK.dx [0] [] enters99 c0 ?_ | refine CK.dx [0] [] enters49 c1 ?_ | refine CK.dx [0] [] enters47 t2 ?_ | refine CK.dx [0] [] enters49 c3 ?_ | with_reducible refine AndI ?_ | omega))
        refine ⟨_, Weak.nz, ?_⟩
        simp only [St.nz, nzL, nzOs, nzO, nz, nz_arg]
        (refine retQ.mk [0] ?_ ?_ <;> simp [kwr, tq85, oneA, smA, smE, encSm_eq, exZ, exK, Sm.kind, Sm.name, Sm.slot, Sm.size, Sm.place, Sm.value, Sm.body, Sm.els, Ex.op, Ex.value, Ex.name, Ex.slot, Ex.size, Ex.args])
set_option maxRecDepth 100000 in
set_option maxHeartbeats 8000000 in
theorem rst_if0 (l : List TkD) (n m k : Nat) (hT : AllOK l) (hl : l.length ≤ 100000) (hk : k ≤ l.length) (hB : ∀ k, k ≤ l.length → (smF l m .block k).isOut = false → RunRB l n k (smF l m .block k)) (e0 : isT l k [105, 102] = true) (e9 : ∀ e k1 b k2, pexF l (k + 1) = .ok e k1 → smF l m .block k1 = .ok b k2 → isT l k2 [101, 108, 115, 101] = false)
    (ho : ((pexF l (k + 1)).bind fun e k1 => (smF l m .block (k1)).bind fun b k2 => PR.ok [smE 3 [] exZ e b []] k2).isOut = false) :
    RunRT l n k ((pexF l (k + 1)).bind fun e k1 => (smF l m .block (k1)).bind fun b k2 => PR.ok [smE 3 [] exZ e b []] k2) := by
  have f0 := rskip_t l n k _ hT rfl (by omega) e0
  have hlt := isT_lt e0 (by simp)
  cases r0 : pexF l (k + 1) with
  | out => exact absurd r0 (pex_no (by omega))
  | bad k' =>
    obtain ⟨g, q1⟩ := RE_bad (n := n) hT hl (by omega) r0
    have z0 := rblock_fl l n k' (placeF l n k')
    have z1 := rskip_fl l n k' (placeF l n k') [101, 108, 115, 101]
    refine ⟨smE 3 [] exZ g [] [], ?_⟩
    refine bodyW (fun d => if d = 2 then 1 else 2) 3 Tryz.func85 rfl Tryz.ntmps85 (by rw [Tryz.results85]) (by simp) (by simp) ?_
    (repeat' (first | simp -implicitDefEqProofs +contextual (maxSteps := 9000000) only [kx, ↓ky, tq85, simprocAttr, exA, kA, lsA, kz] | (with_reducible first | refine SB.c (fun _ => ?_) (fun _ => ?_) | refine REG.i ?_ | exact REG.j) | refine CK.dx [0] [] enters47 f0 ?_ | refine CK.dx [0] [] enters99 q1 ?_ | refine CK.dx [0] [] enters49 z0 ?_ | refine CK.dx [0] [] enters47 z1 ?_ | with_reducible refine AndI ?_ | omega))
    refine ⟨_, Weak.nz, ?_⟩
    simp only [St.nz, nzL, nzOs, nzO, nz, nz_arg]
    (refine retQ.mk [0] ?_ ?_ <;> simp [kwr, tq85, oneA, smA, smE, encSm_eq, exZ, exK, Sm.kind, Sm.name, Sm.slot, Sm.size, Sm.place, Sm.value, Sm.body, Sm.els, Ex.op, Ex.value, Ex.name, Ex.slot, Ex.size, Ex.args])
  | ok e k1 =>
    have le0 := pexLe (by omega) r0
    have c0 := RE_ok (n := n) hT hl (by omega) r0
    rw [r0] at ho
    simp only [PR.bind] at ho ⊢
    cases r1 : smF l m .block (k1) with
    | out => rw [r1] at ho; cases ho
    | bad k' =>
      have q := hB (k1) (by omega) (by rw [r1]; rfl)
      rw [r1] at q
      obtain ⟨g, q1⟩ := q
      have z0 := rskip_fl l n k' (placeF l n k') [101, 108, 115, 101]
      refine ⟨smE 3 [] exZ e g [], ?_⟩
      refine bodyW (fun d => if d = 2 then 1 else 2) 3 Tryz.func85 rfl Tryz.ntmps85 (by rw [Tryz.results85]) (by simp) (by simp) ?_
      (repeat' (first | simp -implicitDefEqProofs +contextual (maxSteps := 9000000) only [kx, ↓ky, tq85, simprocAttr, exA, kA, lsA, kz] | (with_reducible first | refine SB.c (fun _ => ?_) (fun _ => ?_) | refine REG.i ?_ | exact REG.j) | refine CK.dx [0] [] enters47 f0 ?_ | refine CK.dx [0] [] enters99 c0 ?_ | refine CK.dx [0] [] enters49 q1 ?_ | refine CK.dx [0] [] enters47 z0 ?_ | with_reducible refine AndI ?_ | omega))
      refine ⟨_, Weak.nz, ?_⟩
      simp only [St.nz, nzL, nzOs, nzO, nz, nz_arg]
      (refine retQ.mk [0] ?_ ?_ <;> simp [kwr, tq85, oneA, smA, smE, encSm_eq, exZ, exK, Sm.kind, Sm.name, Sm.slot, Sm.size, Sm.place, Sm.value, Sm.body, Sm.els, Ex.op, Ex.value, Ex.name, Ex.slot, Ex.size, Ex.args])
    | ok b k2 =>
      have le1 := smLe (by omega) r1
      have q1 := hB (k1) (by omega) (by rw [r1]; rfl)
      rw [r1] at q1
      have c1 : AC _ _ _ _ _ _ _ := q1
      rw [r1] at ho
      simp only [PR.bind] at ho ⊢
      have t2 := rskip_f l n (k2) _ hT rfl (e9 _ _ _ _ r0 r1)
      show AC _ _ _ _ _ _ _
      refine bodyW (fun d => if d = 2 then 1 else 2) 3 Tryz.func85 rfl Tryz.ntmps85 (by rw [Tryz.results85]) (by simp) (by simp) ?_
      (repeat' (first | simp -implicitDefEqProofs +contextual (maxSteps := 9000000) only [kx, ↓ky, tq85, simprocAttr, exA, kA, lsA, kz] | (with_reducible first | refine SB.c (fun _ => ?_) (fun _ => ?_) | refine REG.i ?_ | exact REG.j) | refine CK.dx [0] [] enters47 f0 ?_ | refine CK.dx [0] [] enters99 c0 ?_ | refine CK.dx [0] [] enters49 c1 ?_ | refine CK.dx [0] [] enters47 t2 ?_ | with_reducible refine AndI ?_ | omega))
      refine ⟨_, Weak.nz, ?_⟩
      simp only [St.nz, nzL, nzOs, nzO, nz, nz_arg]
      (refine retQ.mk [0] ?_ ?_ <;> simp [kwr, tq85, oneA, smA, smE, encSm_eq, exZ, exK, Sm.kind, Sm.name, Sm.slot, Sm.size, Sm.place, Sm.value, Sm.body, Sm.els, Ex.op, Ex.value, Ex.name, Ex.slot, Ex.size, Ex.args])
set_option maxRecDepth 100000 in
set_option maxHeartbeats 8000000 in
theorem rst_while (l : List TkD) (n m k : Nat) (hT : AllOK l) (hl : l.length ≤ 100000) (hk : k ≤ l.length) (hB : ∀ k, k ≤ l.length → (smF l m .block k).isOut = false → RunRB l n k (smF l m .block k)) (e0 : isT l k [105, 102] = false) (e1 : isT l k [119, 104, 105, 108, 101] = true)
    (ho : ((pexF l (k + 1)).bind fun e k1 => (smF l m .block (k1)).bind fun b k2 => PR.ok [smE 4 [] exZ e b []] k2).isOut = false) :
    RunRT l n k ((pexF l (k + 1)).bind fun e k1 => (smF l m .block (k1)).bind fun b k2 => PR.ok [smE 4 [] exZ e b []] k2) := by
  have f0 := rskip_f l n k _ hT rfl e0
  have f1 := rskip_t l n k _ hT rfl (by omega) e1
  have hlt := isT_lt e1 (by simp)
  cases r0 : pexF l (k + 1) with
  | out => exact absurd r0 (pex_no (by omega))
  | bad k' =>
    obtain ⟨g, q1⟩ := RE_bad (n := n) hT hl (by omega) r0
    have z0 := rblock_fl l n k' (placeF l n k')
    refine ⟨smE 4 [] exZ g [] [], ?_⟩
    refine bodyW (fun d => if d = 2 then 1 else 2) 3 Tryz.func85 rfl Tryz.ntmps85 (by rw [Tryz.results85]) (by simp) (by simp) ?_
    (repeat' (first | simp -implicitDefEqProofs +contextual (maxSteps := 9000000) only [kx, ↓ky, tq85, simprocAttr, exA, kA, lsA, kz] | (with_reducible first | refine SB.c (fun _ => ?_) (fun _ => ?_) | refine REG.i ?_ | exact REG.j) | refine CK.dx [0] [] enters47 f0 ?_ | refine CK.dx [0] [] enters47 f1 ?_ | refine CK.dx [0] [] enters99 q1 ?_ | refine CK.dx [0] [] enters49 z0 ?_ | with_reducible refine AndI ?_ | omega))
    refine ⟨_, Weak.nz, ?_⟩
    simp only [St.nz, nzL, nzOs, nzO, nz, nz_arg]
    (refine retQ.mk [0] ?_ ?_ <;> simp [kwr, tq85, oneA, smA, smE, encSm_eq, exZ, exK, Sm.kind, Sm.name, Sm.slot, Sm.size, Sm.place, Sm.value, Sm.body, Sm.els, Ex.op, Ex.value, Ex.name, Ex.slot, Ex.size, Ex.args])
  | ok e k1 =>
    have le0 := pexLe (by omega) r0
    have c0 := RE_ok (n := n) hT hl (by omega) r0
    rw [r0] at ho
    simp only [PR.bind] at ho ⊢
    cases r1 : smF l m .block (k1) with
    | out => rw [r1] at ho; cases ho
    | bad k' =>
      have q := hB (k1) (by omega) (by rw [r1]; rfl)
      rw [r1] at q
      obtain ⟨g, q1⟩ := q
      refine ⟨smE 4 [] exZ e g [], ?_⟩
      refine bodyW (fun d => if d = 2 then 1 else 2) 3 Tryz.func85 rfl Tryz.ntmps85 (by rw [Tryz.results85]) (by simp) (by simp) ?_
      (repeat' (first | simp -implicitDefEqProofs +contextual (maxSteps := 9000000) only [kx, ↓ky, tq85, simprocAttr, exA, kA, lsA, kz] | (with_reducible first | refine SB.c (fun _ => ?_) (fun _ => ?_) | refine REG.i ?_ | exact REG.j) | refine CK.dx [0] [] enters47 f0 ?_ | refine CK.dx [0] [] enters47 f1 ?_ | refine CK.dx [0] [] enters99 c0 ?_ | refine CK.dx [0] [] enters49 q1 ?_ | with_reducible refine AndI ?_ | omega))
      refine ⟨_, Weak.nz, ?_⟩
      simp only [St.nz, nzL, nzOs, nzO, nz, nz_arg]
      (refine retQ.mk [0] ?_ ?_ <;> simp [kwr, tq85, oneA, smA, smE, encSm_eq, exZ, exK, Sm.kind, Sm.name, Sm.slot, Sm.size, Sm.place, Sm.value, Sm.body, Sm.els, Ex.op, Ex.value, Ex.name, Ex.slot, Ex.size, Ex.args])
    | ok b k2 =>
      have le1 := smLe (by omega) r1
      have q1 := hB (k1) (by omega) (by rw [r1]; rfl)
      rw [r1] at q1
      have c1 : AC _ _ _ _ _ _ _ := q1
      rw [r1] at ho
      simp only [PR.bind] at ho ⊢
      show AC _ _ _ _ _ _ _
      refine bodyW (fun d => if d = 2 then 1 else 2) 3 Tryz.func85 rfl Tryz.ntmps85 (by rw [Tryz.results85]) (by simp) (by simp) ?_
      (repeat' (first | simp -implicitDefEqProofs +contextual (maxSteps := 9000000) only [kx, ↓ky, tq85, simprocAttr, exA, kA, lsA, kz] | (with_reducible first | refine SB.c (fun _ => ?_) (fun _ => ?_) | refine REG.i ?_ | exact REG.j) | refine CK.dx [0] [] enters47 f0 ?_ | refine CK.dx [0] [] enters47 f1 ?_ | refine CK.dx [0] [] enters99 c0 ?_ | refine CK.dx [0] [] enters49 c1 ?_ | with_reducible refine AndI ?_ | omega))
      refine ⟨_, Weak.nz, ?_⟩
      simp only [St.nz, nzL, nzOs, nzO, nz, nz_arg]
      (refine retQ.mk [0] ?_ ?_ <;> simp [kwr, tq85, oneA, smA, smE, encSm_eq, exZ, exK, Sm.kind, Sm.name, Sm.slot, Sm.size, Sm.place, Sm.value, Sm.body, Sm.els, Ex.op, Ex.value, Ex.name, Ex.slot, Ex.size, Ex.args])
set_option maxRecDepth 100000 in
set_option maxHeartbeats 8000000 in
theorem rst_send (l : List TkD) (n m k : Nat) (hT : AllOK l) (hl : l.length ≤ 100000) (hk : k ≤ l.length) (hB : ∀ k, k ≤ l.length → (smF l m .block k).isOut = false → RunRB l n k (smF l m .block k)) (e0 : isT l k [105, 102] = false) (e1 : isT l k [119, 104, 105, 108, 101] = false) (e2 : isT l k [115, 101, 110, 100] = true)
    (ho : ((pexF l (k + 1)).bind fun p k1 => (expF l [44] (k1)).bind fun _ k2 => (pexF l (k2)).bind fun e k3 => (expF l [59] (k3)).bind fun _ k4 => PR.ok [smE 5 [] p e [] []] k4).isOut = false) :
    RunRT l n k ((pexF l (k + 1)).bind fun p k1 => (expF l [44] (k1)).bind fun _ k2 => (pexF l (k2)).bind fun e k3 => (expF l [59] (k3)).bind fun _ k4 => PR.ok [smE 5 [] p e [] []] k4) := by
  have f0 := rskip_f l n k _ hT rfl e0
  have f1 := rskip_f l n k _ hT rfl e1
  have f2 := rskip_t l n k _ hT rfl (by omega) e2
  have hlt := isT_lt e2 (by simp)
  cases r0 : pexF l (k + 1) with
  | out => exact absurd r0 (pex_no (by omega))
  | bad k' =>
    obtain ⟨g, q1⟩ := RE_bad (n := n) hT hl (by omega) r0
    have z0 := rtake_fl l n k' (placeF l n k') [44]
    have z1 := rbin0_fl l n k' (placeF l n k')
    have z2 := rtake_fl l n k' (placeF l n k') [59]
    refine ⟨smE 5 [] g exZ [] [], ?_⟩
    refine bodyW (fun d => if d = 2 then 1 else 2) 3 Tryz.func85 rfl Tryz.ntmps85 (by rw [Tryz.results85]) (by simp) (by simp) ?_
    (repeat' (first | simp -implicitDefEqProofs +contextual (maxSteps := 9000000) only [kx, ↓ky, tq85, simprocAttr, exA, kA, lsA, kz] | (with_reducible first | refine SB.c (fun _ => ?_) (fun _ => ?_) | refine REG.i ?_ | exact REG.j) | refine CK.dx [0] [] enters47 f0 ?_ | refine CK.dx [0] [] enters47 f1 ?_ | refine CK.dx [0] [] enters47 f2 ?_ | refine CK.dx [0] [] enters99 q1 ?_ | refine CK.dx [0] [] enters82 z0 ?_ | refine CK.dx [0] [] enters99 z1 ?_ | refine CK.dx [0] [] enters82 z2 ?_ | with_reducible refine AndI ?_ | omega))
    refine ⟨_, Weak.nz, ?_⟩
    simp only [St.nz, nzL, nzOs, nzO, nz, nz_arg]
    (refine retQ.mk [0] ?_ ?_ <;> simp [kwr, tq85, oneA, smA, smE, encSm_eq, exZ, exK, Sm.kind, Sm.name, Sm.slot, Sm.size, Sm.place, Sm.value, Sm.body, Sm.els, Ex.op, Ex.value, Ex.name, Ex.slot, Ex.size, Ex.args])
  | ok p k1 =>
    have le0 := pexLe (by omega) r0
    have c0 := RE_ok (n := n) hT hl (by omega) r0
    rw [r0] at ho
    simp only [PR.bind] at ho ⊢
    cases r1 : expF l [44] (k1) with
    | out => exact absurd r1 exp_no
    | bad k' =>
      have q1 := rtake_bad l n (k1) k' _ hT rfl r1
      have z0 := rbin0_fl l n k' (placeF l n k')
      have z1 := rtake_fl l n k' (placeF l n k') [59]
      refine ⟨smE 5 [] p exZ [] [], ?_⟩
      refine bodyW (fun d => if d = 2 then 1 else 2) 3 Tryz.func85 rfl Tryz.ntmps85 (by rw [Tryz.results85]) (by simp) (by simp) ?_
      (repeat' (first | simp -implicitDefEqProofs +contextual (maxSteps := 9000000) only [kx, ↓ky, tq85, simprocAttr, exA, kA, lsA, kz] | (with_reducible first | refine SB.c (fun _ => ?_) (fun _ => ?_) | refine REG.i ?_ | exact REG.j) | refine CK.dx [0] [] enters47 f0 ?_ | refine CK.dx [0] [] enters47 f1 ?_ | refine CK.dx [0] [] enters47 f2 ?_ | refine CK.dx [0] [] enters99 c0 ?_ | refine CK.dx [0] [] enters82 q1 ?_ | refine CK.dx [0] [] enters99 z0 ?_ | refine CK.dx [0] [] enters82 z1 ?_ | with_reducible refine AndI ?_ | omega))
      refine ⟨_, Weak.nz, ?_⟩
      simp only [St.nz, nzL, nzOs, nzO, nz, nz_arg]
      (refine retQ.mk [0] ?_ ?_ <;> simp [kwr, tq85, oneA, smA, smE, encSm_eq, exZ, exK, Sm.kind, Sm.name, Sm.slot, Sm.size, Sm.place, Sm.value, Sm.body, Sm.els, Ex.op, Ex.value, Ex.name, Ex.slot, Ex.size, Ex.args])
    | ok u1 k2 =>
      have le1 := expLe (by omega) (by simp) r1
      have c1 := rtake_ok l n (k1) (k2) _ hT rfl (by omega) r1
      rw [r1] at ho
      simp only [PR.bind] at ho ⊢
      cases r2 : pexF l (k2) with
      | out => exact absurd r2 (pex_no (by omega))
      | bad k' =>
        obtain ⟨g, q1⟩ := RE_bad (n := n) hT hl (by omega) r2
        have z0 := rtake_fl l n k' (placeF l n k') [59]
        refine ⟨smE 5 [] p g [] [], ?_⟩
        refine bodyW (fun d => if d = 2 then 1 else 2) 3 Tryz.func85 rfl Tryz.ntmps85 (by rw [Tryz.results85]) (by simp) (by simp) ?_
        (repeat' (first | simp -implicitDefEqProofs +contextual (maxSteps := 9000000) only [kx, ↓ky, tq85, simprocAttr, exA, kA, lsA, kz] | (with_reducible first | refine SB.c (fun _ => ?_) (fun _ => ?_) | refine REG.i ?_ | exact REG.j) | refine CK.dx [0] [] enters47 f0 ?_ | refine CK.dx [0] [] enters47 f1 ?_ | refine CK.dx [0] [] enters47 f2 ?_ | refine CK.dx [0] [] enters99 c0 ?_ | refine CK.dx [0] [] enters82 c1 ?_ | refine CK.dx [0] [] enters99 q1 ?_ | refine CK.dx [0] [] enters82 z0 ?_ | with_reducible refine AndI ?_ | omega))
        refine ⟨_, Weak.nz, ?_⟩
        simp only [St.nz, nzL, nzOs, nzO, nz, nz_arg]
        (refine retQ.mk [0] ?_ ?_ <;> simp [kwr, tq85, oneA, smA, smE, encSm_eq, exZ, exK, Sm.kind, Sm.name, Sm.slot, Sm.size, Sm.place, Sm.value, Sm.body, Sm.els, Ex.op, Ex.value, Ex.name, Ex.slot, Ex.size, Ex.args])
      | ok e k3 =>
        have le2 := pexLe (by omega) r2
        have c2 := RE_ok (n := n) hT hl (by omega) r2
        rw [r2] at ho
        simp only [PR.bind] at ho ⊢
        cases r3 : expF l [59] (k3) with
        | out => exact absurd r3 exp_no
        | bad k' =>
          have q1 := rtake_bad l n (k3) k' _ hT rfl r3
          refine ⟨smE 5 [] p e [] [], ?_⟩
          refine bodyW (fun d => if d = 2 then 1 else 2) 3 Tryz.func85 rfl Tryz.ntmps85 (by rw [Tryz.results85]) (by simp) (by simp) ?_
          (repeat' (first | simp -implicitDefEqProofs +contextual (maxSteps := 9000000) only [kx, ↓ky, tq85, simprocAttr, exA, kA, lsA, kz] | (with_reducible first | refine SB.c (fun _ => ?_) (fun _ => ?_) | refine REG.i ?_ | exact REG.j) | refine CK.dx [0] [] enters47 f0 ?_ | refine CK.dx [0] [] enters47 f1 ?_ | refine CK.dx [0] [] enters47 f2 ?_ | refine CK.dx [0] [] enters99 c0 ?_ | refine CK.dx [0] [] enters82 c1 ?_ | refine CK.dx [0] [] enters99 c2 ?_ | refine CK.dx [0] [] enters82 q1 ?_ | with_reducible refine AndI ?_ | omega))
          refine ⟨_, Weak.nz, ?_⟩
          simp only [St.nz, nzL, nzOs, nzO, nz, nz_arg]
          (refine retQ.mk [0] ?_ ?_ <;> simp [kwr, tq85, oneA, smA, smE, encSm_eq, exZ, exK, Sm.kind, Sm.name, Sm.slot, Sm.size, Sm.place, Sm.value, Sm.body, Sm.els, Ex.op, Ex.value, Ex.name, Ex.slot, Ex.size, Ex.args])
        | ok u3 k4 =>
          have le3 := expLe (by omega) (by simp) r3
          have c3 := rtake_ok l n (k3) (k4) _ hT rfl (by omega) r3
          rw [r3] at ho
          simp only [PR.bind] at ho ⊢
          show AC _ _ _ _ _ _ _
          refine bodyW (fun d => if d = 2 then 1 else 2) 3 Tryz.func85 rfl Tryz.ntmps85 (by rw [Tryz.results85]) (by simp) (by simp) ?_
          (repeat' (first | simp -implicitDefEqProofs +contextual (maxSteps := 9000000) only [kx, ↓ky, tq85, simprocAttr, exA, kA, lsA, kz] | (with_reducible first | refine SB.c (fun _ => ?_) (fun _ => ?_) | refine REG.i ?_ | exact REG.j) | refine CK.dx [0] [] enters47 f0 ?_ | refine CK.dx [0] [] enters47 f1 ?_ | refine CK.dx [0] [] enters47 f2 ?_ | refine CK.dx [0] [] enters99 c0 ?_ | refine CK.dx [0] [] enters82 c1 ?_ | refine CK.dx [0] [] enters99 c2 ?_ | refine CK.dx [0] [] enters82 c3 ?_ | with_reducible refine AndI ?_ | omega))
          refine ⟨_, Weak.nz, ?_⟩
          simp only [St.nz, nzL, nzOs, nzO, nz, nz_arg]
          (refine retQ.mk [0] ?_ ?_ <;> simp [kwr, tq85, oneA, smA, smE, encSm_eq, exZ, exK, Sm.kind, Sm.name, Sm.slot, Sm.size, Sm.place, Sm.value, Sm.body, Sm.els, Ex.op, Ex.value, Ex.name, Ex.slot, Ex.size, Ex.args])
set_option maxRecDepth 100000 in
set_option maxHeartbeats 8000000 in
theorem rst_out (l : List TkD) (n m k : Nat) (hT : AllOK l) (hl : l.length ≤ 100000) (hk : k ≤ l.length) (hB : ∀ k, k ≤ l.length → (smF l m .block k).isOut = false → RunRB l n k (smF l m .block k)) (e0 : isT l k [105, 102] = false) (e1 : isT l k [119, 104, 105, 108, 101] = false) (e2 : isT l k [115, 101, 110, 100] = false) (e3 : isT l k [111, 117, 116, 112, 117, 116] = true)
    (ho : ((pexF l (k + 1)).bind fun e k1 => (expF l [59] (k1)).bind fun _ k2 => PR.ok [smE 6 [] exZ e [] []] k2).isOut = false) :
    RunRT l n k ((pexF l (k + 1)).bind fun e k1 => (expF l [59] (k1)).bind fun _ k2 => PR.ok [smE 6 [] exZ e [] []] k2) := by
  have f0 := rskip_f l n k _ hT rfl e0
  have f1 := rskip_f l n k _ hT rfl e1
  have f2 := rskip_f l n k _ hT rfl e2
  have f3 := rskip_t l n k _ hT rfl (by omega) e3
  have hlt := isT_lt e3 (by simp)
  cases r0 : pexF l (k + 1) with
  | out => exact absurd r0 (pex_no (by omega))
  | bad k' =>
    obtain ⟨g, q1⟩ := RE_bad (n := n) hT hl (by omega) r0
    have z0 := rtake_fl l n k' (placeF l n k') [59]
    refine ⟨smE 6 [] exZ g [] [], ?_⟩
    refine bodyW (fun d => if d = 2 then 1 else 2) 3 Tryz.func85 rfl Tryz.ntmps85 (by rw [Tryz.results85]) (by simp) (by simp) ?_
    (repeat' (first | simp -implicitDefEqProofs +contextual (maxSteps := 9000000) only [kx, ↓ky, tq85, simprocAttr, exA, kA, lsA, kz] | (with_reducible first | refine SB.c (fun _ => ?_) (fun _ => ?_) | refine REG.i ?_ | exact REG.j) | refine CK.dx [0] [] enters47 f0 ?_ | refine CK.dx [0] [] enters47 f1 ?_ | refine CK.dx [0] [] enters47 f2 ?_ | refine CK.dx [0] [] enters47 f3 ?_ | refine CK.dx [0] [] enters99 q1 ?_ | refine CK.dx [0] [] enters82 z0 ?_ | with_reducible refine AndI ?_ | omega))
    refine ⟨_, Weak.nz, ?_⟩
    simp only [St.nz, nzL, nzOs, nzO, nz, nz_arg]
    (refine retQ.mk [0] ?_ ?_ <;> simp [kwr, tq85, oneA, smA, smE, encSm_eq, exZ, exK, Sm.kind, Sm.name, Sm.slot, Sm.size, Sm.place, Sm.value, Sm.body, Sm.els, Ex.op, Ex.value, Ex.name, Ex.slot, Ex.size, Ex.args])
  | ok e k1 =>
    have le0 := pexLe (by omega) r0
    have c0 := RE_ok (n := n) hT hl (by omega) r0
    rw [r0] at ho
    simp only [PR.bind] at ho ⊢
    cases r1 : expF l [59] (k1) with
    | out => exact absurd r1 exp_no
    | bad k' =>
      have q1 := rtake_bad l n (k1) k' _ hT rfl r1
      refine ⟨smE 6 [] exZ e [] [], ?_⟩
      refine bodyW (fun d => if d = 2 then 1 else 2) 3 Tryz.func85 rfl Tryz.ntmps85 (by rw [Tryz.results85]) (by simp) (by simp) ?_
      (repeat' (first | simp -implicitDefEqProofs +contextual (maxSteps := 9000000) only [kx, ↓ky, tq85, simprocAttr, exA, kA, lsA, kz] | (with_reducible first | refine SB.c (fun _ => ?_) (fun _ => ?_) | refine REG.i ?_ | exact REG.j) | refine CK.dx [0] [] enters47 f0 ?_ | refine CK.dx [0] [] enters47 f1 ?_ | refine CK.dx [0] [] enters47 f2 ?_ | refine CK.dx [0] [] enters47 f3 ?_ | refine CK.dx [0] [] enters99 c0 ?_ | refine CK.dx [0] [] enters82 q1 ?_ | with_reducible refine AndI ?_ | omega))
      refine ⟨_, Weak.nz, ?_⟩
      simp only [St.nz, nzL, nzOs, nzO, nz, nz_arg]
      (refine retQ.mk [0] ?_ ?_ <;> simp [kwr, tq85, oneA, smA, smE, encSm_eq, exZ, exK, Sm.kind, Sm.name, Sm.slot, Sm.size, Sm.place, Sm.value, Sm.body, Sm.els, Ex.op, Ex.value, Ex.name, Ex.slot, Ex.size, Ex.args])
    | ok u1 k2 =>
      have le1 := expLe (by omega) (by simp) r1
      have c1 := rtake_ok l n (k1) (k2) _ hT rfl (by omega) r1
      rw [r1] at ho
      simp only [PR.bind] at ho ⊢
      show AC _ _ _ _ _ _ _
      refine bodyW (fun d => if d = 2 then 1 else 2) 3 Tryz.func85 rfl Tryz.ntmps85 (by rw [Tryz.results85]) (by simp) (by simp) ?_
      (repeat' (first | simp -implicitDefEqProofs +contextual (maxSteps := 9000000) only [kx, ↓ky, tq85, simprocAttr, exA, kA, lsA, kz] | (with_reducible first | refine SB.c (fun _ => ?_) (fun _ => ?_) | refine REG.i ?_ | exact REG.j) | refine CK.dx [0] [] enters47 f0 ?_ | refine CK.dx [0] [] enters47 f1 ?_ | refine CK.dx [0] [] enters47 f2 ?_ | refine CK.dx [0] [] enters47 f3 ?_ | refine CK.dx [0] [] enters99 c0 ?_ | refine CK.dx [0] [] enters82 c1 ?_ | with_reducible refine AndI ?_ | omega))
      refine ⟨_, Weak.nz, ?_⟩
      simp only [St.nz, nzL, nzOs, nzO, nz, nz_arg]
      (refine retQ.mk [0] ?_ ?_ <;> simp [kwr, tq85, oneA, smA, smE, encSm_eq, exZ, exK, Sm.kind, Sm.name, Sm.slot, Sm.size, Sm.place, Sm.value, Sm.body, Sm.els, Ex.op, Ex.value, Ex.name, Ex.slot, Ex.size, Ex.args])
set_option maxRecDepth 100000 in
set_option maxHeartbeats 8000000 in
theorem rst_store (l : List TkD) (n m k : Nat) (hT : AllOK l) (hl : l.length ≤ 100000) (hk : k ≤ l.length) (hB : ∀ k, k ≤ l.length → (smF l m .block k).isOut = false → RunRB l n k (smF l m .block k)) (e0 : isT l k [105, 102] = false) (e1 : isT l k [119, 104, 105, 108, 101] = false) (e2 : isT l k [115, 101, 110, 100] = false) (e3 : isT l k [111, 117, 116, 112, 117, 116] = false) (nm : List UInt8) (k1 : Nat) (hn : pnmF l k = .ok nm k1) (e9 : isT l k1 [91] = true)
    (ho : ((pexF l (k1 + 1)).bind fun p k2 => (expF l [93] (k2)).bind fun _ k3 => (expF l [61] (k3)).bind fun _ k4 => (pexF l (k4)).bind fun e k5 => (expF l [59] (k5)).bind fun _ k6 => PR.ok [smE 2 nm p e [] []] k6).isOut = false) :
    RunRT l n k ((pexF l (k1 + 1)).bind fun p k2 => (expF l [93] (k2)).bind fun _ k3 => (expF l [61] (k3)).bind fun _ k4 => (pexF l (k4)).bind fun e k5 => (expF l [59] (k5)).bind fun _ k6 => PR.ok [smE 2 nm p e [] []] k6) := by
  have f0 := rskip_f l n k _ hT rfl e0
  have f1 := rskip_f l n k _ hT rfl e1
  have f2 := rskip_f l n k _ hT rfl e2
  have f3 := rskip_f l n k _ hT rfl e3
  have cn := rname_ok l n k k1 nm hn (by omega)
  have hk1 : k1 ≤ l.length := by have := pnmF_past (l := l) hk; rw [hn] at this; exact this.2
  have g9 := rsign_ac l n k1 [91] hT rfl
  rw [e9] at g9
  have hlt := isT_lt e9 (by simp)
  have hx1 : expF l [91] k1 = .ok () (k1 + 1) := by unfold expF; rw [if_pos e9]
  have g8 := rtake_ok l n k1 (k1 + 1) _ hT rfl (by omega) hx1
  cases r0 : pexF l (k1 + 1) with
  | out => exact absurd r0 (pex_no (by omega))
  | bad k' =>
    obtain ⟨g, q1⟩ := RE_bad (n := n) hT hl (by omega) r0
    have z0 := rtake_fl l n k' (placeF l n k') [93]
    have z1 := rtake_fl l n k' (placeF l n k') [61]
    have z2 := rbin0_fl l n k' (placeF l n k')
    have z3 := rtake_fl l n k' (placeF l n k') [59]
    refine ⟨smE 2 nm g exZ [] [], ?_⟩
    refine bodyW (fun d => if d = 2 then 1 else 2) 3 Tryz.func85 rfl Tryz.ntmps85 (by rw [Tryz.results85]) (by simp) (by simp) ?_
    (repeat' (first | simp -implicitDefEqProofs +contextual (maxSteps := 9000000) only [kx, ↓ky, tq85, simprocAttr, exA, kA, lsA, kz] | (with_reducible first | refine SB.c (fun _ => ?_) (fun _ => ?_) | refine REG.i ?_ | exact REG.j) | refine CK.dx [0] [] enters47 f0 ?_ | refine CK.dx [0] [] enters47 f1 ?_ | refine CK.dx [0] [] enters47 f2 ?_ | refine CK.dx [0] [] enters47 f3 ?_ | refine CK.dx [0] [] enters80 cn ?_ | refine CK.dx [0] [] enters81 g9 ?_ | refine CK.dx [0] [] enters82 g8 ?_ | refine CK.dx [0] [] enters99 q1 ?_ | refine CK.dx [0] [] enters82 z0 ?_ | refine CK.dx [0] [] enters82 z1 ?_ | refine CK.dx [0] [] enters99 z2 ?_ | refine CK.dx [0] [] enters82 z3 ?_ | with_reducible refine AndI ?_ | omega))
    refine ⟨_, Weak.nz, ?_⟩
    simp only [St.nz, nzL, nzOs, nzO, nz, nz_arg]
    (refine retQ.mk [0] ?_ ?_ <;> simp [kwr, tq85, oneA, smA, smE, encSm_eq, exZ, exK, Sm.kind, Sm.name, Sm.slot, Sm.size, Sm.place, Sm.value, Sm.body, Sm.els, Ex.op, Ex.value, Ex.name, Ex.slot, Ex.size, Ex.args])
  | ok p k2 =>
    have le0 := pexLe (by omega) r0
    have c0 := RE_ok (n := n) hT hl (by omega) r0
    rw [r0] at ho
    simp only [PR.bind] at ho ⊢
    cases r1 : expF l [93] (k2) with
    | out => exact absurd r1 exp_no
    | bad k' =>
      have q1 := rtake_bad l n (k2) k' _ hT rfl r1
      have z0 := rtake_fl l n k' (placeF l n k') [61]
      have z1 := rbin0_fl l n k' (placeF l n k')
      have z2 := rtake_fl l n k' (placeF l n k') [59]
      refine ⟨smE 2 nm p exZ [] [], ?_⟩
      refine bodyW (fun d => if d = 2 then 1 else 2) 3 Tryz.func85 rfl Tryz.ntmps85 (by rw [Tryz.results85]) (by simp) (by simp) ?_
      (repeat' (first | simp -implicitDefEqProofs +contextual (maxSteps := 9000000) only [kx, ↓ky, tq85, simprocAttr, exA, kA, lsA, kz] | (with_reducible first | refine SB.c (fun _ => ?_) (fun _ => ?_) | refine REG.i ?_ | exact REG.j) | refine CK.dx [0] [] enters47 f0 ?_ | refine CK.dx [0] [] enters47 f1 ?_ | refine CK.dx [0] [] enters47 f2 ?_ | refine CK.dx [0] [] enters47 f3 ?_ | refine CK.dx [0] [] enters80 cn ?_ | refine CK.dx [0] [] enters81 g9 ?_ | refine CK.dx [0] [] enters82 g8 ?_ | refine CK.dx [0] [] enters99 c0 ?_ | refine CK.dx [0] [] enters82 q1 ?_ | refine CK.dx [0] [] enters82 z0 ?_ | refine CK.dx [0] [] enters99 z1 ?_ | refine CK.dx [0] [] enters82 z2 ?_ | with_reducible refine AndI ?_ | omega))
      refine ⟨_, Weak.nz, ?_⟩
      simp only [St.nz, nzL, nzOs, nzO, nz, nz_arg]
      (refine retQ.mk [0] ?_ ?_ <;> simp [kwr, tq85, oneA, smA, smE, encSm_eq, exZ, exK, Sm.kind, Sm.name, Sm.slot, Sm.size, Sm.place, Sm.value, Sm.body, Sm.els, Ex.op, Ex.value, Ex.name, Ex.slot, Ex.size, Ex.args])
    | ok u1 k3 =>
      have le1 := expLe (by omega) (by simp) r1
      have c1 := rtake_ok l n (k2) (k3) _ hT rfl (by omega) r1
      rw [r1] at ho
      simp only [PR.bind] at ho ⊢
      cases r2 : expF l [61] (k3) with
      | out => exact absurd r2 exp_no
      | bad k' =>
        have q1 := rtake_bad l n (k3) k' _ hT rfl r2
        have z0 := rbin0_fl l n k' (placeF l n k')
        have z1 := rtake_fl l n k' (placeF l n k') [59]
        refine ⟨smE 2 nm p exZ [] [], ?_⟩
        refine bodyW (fun d => if d = 2 then 1 else 2) 3 Tryz.func85 rfl Tryz.ntmps85 (by rw [Tryz.results85]) (by simp) (by simp) ?_
        (repeat' (first | simp -implicitDefEqProofs +contextual (maxSteps := 9000000) only [kx, ↓ky, tq85, simprocAttr, exA, kA, lsA, kz] | (with_reducible first | refine SB.c (fun _ => ?_) (fun _ => ?_) | refine REG.i ?_ | exact REG.j) | refine CK.dx [0] [] enters47 f0 ?_ | refine CK.dx [0] [] enters47 f1 ?_ | refine CK.dx [0] [] enters47 f2 ?_ | refine CK.dx [0] [] enters47 f3 ?_ | refine CK.dx [0] [] enters80 cn ?_ | refine CK.dx [0] [] enters81 g9 ?_ | refine CK.dx [0] [] enters82 g8 ?_ | refine CK.dx [0] [] enters99 c0 ?_ | refine CK.dx [0] [] enters82 c1 ?_ | refine CK.dx [0] [] enters82 q1 ?_ | refine CK.dx [0] [] enters99 z0 ?_ | refine CK.dx [0] [] enters82 z1 ?_ | with_reducible refine AndI ?_ | omega))
        refine ⟨_, Weak.nz, ?_⟩
        simp only [St.nz, nzL, nzOs, nzO, nz, nz_arg]
        (refine retQ.mk [0] ?_ ?_ <;> simp [kwr, tq85, oneA, smA, smE, encSm_eq, exZ, exK, Sm.kind, Sm.name, Sm.slot, Sm.size, Sm.place, Sm.value, Sm.body, Sm.els, Ex.op, Ex.value, Ex.name, Ex.slot, Ex.size, Ex.args])
      | ok u2 k4 =>
        have le2 := expLe (by omega) (by simp) r2
        have c2 := rtake_ok l n (k3) (k4) _ hT rfl (by omega) r2
        rw [r2] at ho
        simp only [PR.bind] at ho ⊢
        cases r3 : pexF l (k4) with
        | out => exact absurd r3 (pex_no (by omega))
        | bad k' =>
          obtain ⟨g, q1⟩ := RE_bad (n := n) hT hl (by omega) r3
          have z0 := rtake_fl l n k' (placeF l n k') [59]
          refine ⟨smE 2 nm p g [] [], ?_⟩
          refine bodyW (fun d => if d = 2 then 1 else 2) 3 Tryz.func85 rfl Tryz.ntmps85 (by rw [Tryz.results85]) (by simp) (by simp) ?_
          (repeat' (first | simp -implicitDefEqProofs +contextual (maxSteps := 9000000) only [kx, ↓ky, tq85, simprocAttr, exA, kA, lsA, kz] | (with_reducible first | refine SB.c (fun _ => ?_) (fun _ => ?_) | refine REG.i ?_ | exact REG.j) | refine CK.dx [0] [] enters47 f0 ?_ | refine CK.dx [0] [] enters47 f1 ?_ | refine CK.dx [0] [] enters47 f2 ?_ | refine CK.dx [0] [] enters47 f3 ?_ | refine CK.dx [0] [] enters80 cn ?_ | refine CK.dx [0] [] enters81 g9 ?_ | refine CK.dx [0] [] enters82 g8 ?_ | refine CK.dx [0] [] enters99 c0 ?_ | refine CK.dx [0] [] enters82 c1 ?_ | refine CK.dx [0] [] enters82 c2 ?_ | refine CK.dx [0] [] enters99 q1 ?_ | refine CK.dx [0] [] enters82 z0 ?_ | with_reducible refine AndI ?_ | omega))
          refine ⟨_, Weak.nz, ?_⟩
          simp only [St.nz, nzL, nzOs, nzO, nz, nz_arg]
          (refine retQ.mk [0] ?_ ?_ <;> simp [kwr, tq85, oneA, smA, smE, encSm_eq, exZ, exK, Sm.kind, Sm.name, Sm.slot, Sm.size, Sm.place, Sm.value, Sm.body, Sm.els, Ex.op, Ex.value, Ex.name, Ex.slot, Ex.size, Ex.args])
        | ok e k5 =>
          have le3 := pexLe (by omega) r3
          have c3 := RE_ok (n := n) hT hl (by omega) r3
          rw [r3] at ho
          simp only [PR.bind] at ho ⊢
          cases r4 : expF l [59] (k5) with
          | out => exact absurd r4 exp_no
          | bad k' =>
            have q1 := rtake_bad l n (k5) k' _ hT rfl r4
            refine ⟨smE 2 nm p e [] [], ?_⟩
            refine bodyW (fun d => if d = 2 then 1 else 2) 3 Tryz.func85 rfl Tryz.ntmps85 (by rw [Tryz.results85]) (by simp) (by simp) ?_
            (repeat' (first | simp -implicitDefEqProofs +contextual (maxSteps := 9000000) only [kx, ↓ky, tq85, simprocAttr, exA, kA, lsA, kz] | (with_reducible first | refine SB.c (fun _ => ?_) (fun _ => ?_) | refine REG.i ?_ | exact REG.j) | refine CK.dx [0] [] enters47 f0 ?_ | refine CK.dx [0] [] enters47 f1 ?_ | refine CK.dx [0] [] enters47 f2 ?_ | refine CK.dx [0] [] enters47 f3 ?_ | refine CK.dx [0] [] enters80 cn ?_ | refine CK.dx [0] [] enters81 g9 ?_ | refine CK.dx [0] [] enters82 g8 ?_ | refine CK.dx [0] [] enters99 c0 ?_ | refine CK.dx [0] [] enters82 c1 ?_ | refine CK.dx [0] [] enters82 c2 ?_ | refine CK.dx [0] [] enters99 c3 ?_ | refine CK.dx [0] [] enters82 q1 ?_ | with_reducible refine AndI ?_ | omega))
            refine ⟨_, Weak.nz, ?_⟩
            simp only [St.nz, nzL, nzOs, nzO, nz, nz_arg]
            (refine retQ.mk [0] ?_ ?_ <;> simp [kwr, tq85, oneA, smA, smE, encSm_eq, exZ, exK, Sm.kind, Sm.name, Sm.slot, Sm.size, Sm.place, Sm.value, Sm.body, Sm.els, Ex.op, Ex.value, Ex.name, Ex.slot, Ex.size, Ex.args])
          | ok u4 k6 =>
            have le4 := expLe (by omega) (by simp) r4
            have c4 := rtake_ok l n (k5) (k6) _ hT rfl (by omega) r4
            rw [r4] at ho
            simp only [PR.bind] at ho ⊢
            show AC _ _ _ _ _ _ _
            refine bodyW (fun d => if d = 2 then 1 else 2) 3 Tryz.func85 rfl Tryz.ntmps85 (by rw [Tryz.results85]) (by simp) (by simp) ?_
            (repeat' (first | simp -implicitDefEqProofs +contextual (maxSteps := 9000000) only [kx, ↓ky, tq85, simprocAttr, exA, kA, lsA, kz] | (with_reducible first | refine SB.c (fun _ => ?_) (fun _ => ?_) | refine REG.i ?_ | exact REG.j) | refine CK.dx [0] [] enters47 f0 ?_ | refine CK.dx [0] [] enters47 f1 ?_ | refine CK.dx [0] [] enters47 f2 ?_ | refine CK.dx [0] [] enters47 f3 ?_ | refine CK.dx [0] [] enters80 cn ?_ | refine CK.dx [0] [] enters81 g9 ?_ | refine CK.dx [0] [] enters82 g8 ?_ | refine CK.dx [0] [] enters99 c0 ?_ | refine CK.dx [0] [] enters82 c1 ?_ | refine CK.dx [0] [] enters82 c2 ?_ | refine CK.dx [0] [] enters99 c3 ?_ | refine CK.dx [0] [] enters82 c4 ?_ | with_reducible refine AndI ?_ | omega))
            refine ⟨_, Weak.nz, ?_⟩
            simp only [St.nz, nzL, nzOs, nzO, nz, nz_arg]
            (refine retQ.mk [0] ?_ ?_ <;> simp [kwr, tq85, oneA, smA, smE, encSm_eq, exZ, exK, Sm.kind, Sm.name, Sm.slot, Sm.size, Sm.place, Sm.value, Sm.body, Sm.els, Ex.op, Ex.value, Ex.name, Ex.slot, Ex.size, Ex.args])
set_option maxRecDepth 100000 in
set_option maxHeartbeats 8000000 in
theorem rst_assign (l : List TkD) (n m k : Nat) (hT : AllOK l) (hl : l.length ≤ 100000) (hk : k ≤ l.length) (hB : ∀ k, k ≤ l.length → (smF l m .block k).isOut = false → RunRB l n k (smF l m .block k)) (e0 : isT l k [105, 102] = false) (e1 : isT l k [119, 104, 105, 108, 101] = false) (e2 : isT l k [115, 101, 110, 100] = false) (e3 : isT l k [111, 117, 116, 112, 117, 116] = false) (nm : List UInt8) (k1 : Nat) (hn : pnmF l k = .ok nm k1) (e9 : isT l k1 [91] = false)
    (ho : ((expF l [61] (k1)).bind fun _ k4 => (pexF l (k4)).bind fun e k5 => (expF l [59] (k5)).bind fun _ k6 => PR.ok [smE 1 nm exZ e [] []] k6).isOut = false) :
    RunRT l n k ((expF l [61] (k1)).bind fun _ k4 => (pexF l (k4)).bind fun e k5 => (expF l [59] (k5)).bind fun _ k6 => PR.ok [smE 1 nm exZ e [] []] k6) := by
  have f0 := rskip_f l n k _ hT rfl e0
  have f1 := rskip_f l n k _ hT rfl e1
  have f2 := rskip_f l n k _ hT rfl e2
  have f3 := rskip_f l n k _ hT rfl e3
  have cn := rname_ok l n k k1 nm hn (by omega)
  have hk1 : k1 ≤ l.length := by have := pnmF_past (l := l) hk; rw [hn] at this; exact this.2
  have g9 := rsign_ac l n k1 [91] hT rfl
  rw [e9] at g9
  cases r0 : expF l [61] (k1) with
  | out => exact absurd r0 exp_no
  | bad k' =>
    have q1 := rtake_bad l n (k1) k' _ hT rfl r0
    have z0 := rbin0_fl l n k' (placeF l n k')
    have z1 := rtake_fl l n k' (placeF l n k') [59]
    refine ⟨smE 1 nm exZ exZ [] [], ?_⟩
    refine bodyW (fun d => if d = 2 then 1 else 2) 3 Tryz.func85 rfl Tryz.ntmps85 (by rw [Tryz.results85]) (by simp) (by simp) ?_
    (repeat' (first | simp -implicitDefEqProofs +contextual (maxSteps := 9000000) only [kx, ↓ky, tq85, simprocAttr, exA, kA, lsA, kz] | (with_reducible first | refine SB.c (fun _ => ?_) (fun _ => ?_) | refine REG.i ?_ | exact REG.j) | refine CK.dx [0] [] enters47 f0 ?_ | refine CK.dx [0] [] enters47 f1 ?_ | refine CK.dx [0] [] enters47 f2 ?_ | refine CK.dx [0] [] enters47 f3 ?_ | refine CK.dx [0] [] enters80 cn ?_ | refine CK.dx [0] [] enters81 g9 ?_ | refine CK.dx [0] [] enters82 q1 ?_ | refine CK.dx [0] [] enters99 z0 ?_ | refine CK.dx [0] [] enters82 z1 ?_ | with_reducible refine AndI ?_ | omega))
    refine ⟨_, Weak.nz, ?_⟩
    simp only [St.nz, nzL, nzOs, nzO, nz, nz_arg]
    (refine retQ.mk [0] ?_ ?_ <;> simp [kwr, tq85, oneA, smA, smE, encSm_eq, exZ, exK, Sm.kind, Sm.name, Sm.slot, Sm.size, Sm.place, Sm.value, Sm.body, Sm.els, Ex.op, Ex.value, Ex.name, Ex.slot, Ex.size, Ex.args])
  | ok u0 k4 =>
    have le0 := expLe (by omega) (by simp) r0
    have c0 := rtake_ok l n (k1) (k4) _ hT rfl (by omega) r0
    rw [r0] at ho
    simp only [PR.bind] at ho ⊢
    cases r1 : pexF l (k4) with
    | out => exact absurd r1 (pex_no (by omega))
    | bad k' =>
      obtain ⟨g, q1⟩ := RE_bad (n := n) hT hl (by omega) r1
      have z0 := rtake_fl l n k' (placeF l n k') [59]
      refine ⟨smE 1 nm exZ g [] [], ?_⟩
      refine bodyW (fun d => if d = 2 then 1 else 2) 3 Tryz.func85 rfl Tryz.ntmps85 (by rw [Tryz.results85]) (by simp) (by simp) ?_
      (repeat' (first | simp -implicitDefEqProofs +contextual (maxSteps := 9000000) only [kx, ↓ky, tq85, simprocAttr, exA, kA, lsA, kz] | (with_reducible first | refine SB.c (fun _ => ?_) (fun _ => ?_) | refine REG.i ?_ | exact REG.j) | refine CK.dx [0] [] enters47 f0 ?_ | refine CK.dx [0] [] enters47 f1 ?_ | refine CK.dx [0] [] enters47 f2 ?_ | refine CK.dx [0] [] enters47 f3 ?_ | refine CK.dx [0] [] enters80 cn ?_ | refine CK.dx [0] [] enters81 g9 ?_ | refine CK.dx [0] [] enters82 c0 ?_ | refine CK.dx [0] [] enters99 q1 ?_ | refine CK.dx [0] [] enters82 z0 ?_ | with_reducible refine AndI ?_ | omega))
      refine ⟨_, Weak.nz, ?_⟩
      simp only [St.nz, nzL, nzOs, nzO, nz, nz_arg]
      (refine retQ.mk [0] ?_ ?_ <;> simp [kwr, tq85, oneA, smA, smE, encSm_eq, exZ, exK, Sm.kind, Sm.name, Sm.slot, Sm.size, Sm.place, Sm.value, Sm.body, Sm.els, Ex.op, Ex.value, Ex.name, Ex.slot, Ex.size, Ex.args])
    | ok e k5 =>
      have le1 := pexLe (by omega) r1
      have c1 := RE_ok (n := n) hT hl (by omega) r1
      rw [r1] at ho
      simp only [PR.bind] at ho ⊢
      cases r2 : expF l [59] (k5) with
      | out => exact absurd r2 exp_no
      | bad k' =>
        have q1 := rtake_bad l n (k5) k' _ hT rfl r2
        refine ⟨smE 1 nm exZ e [] [], ?_⟩
        refine bodyW (fun d => if d = 2 then 1 else 2) 3 Tryz.func85 rfl Tryz.ntmps85 (by rw [Tryz.results85]) (by simp) (by simp) ?_
        (repeat' (first | simp -implicitDefEqProofs +contextual (maxSteps := 9000000) only [kx, ↓ky, tq85, simprocAttr, exA, kA, lsA, kz] | (with_reducible first | refine SB.c (fun _ => ?_) (fun _ => ?_) | refine REG.i ?_ | exact REG.j) | refine CK.dx [0] [] enters47 f0 ?_ | refine CK.dx [0] [] enters47 f1 ?_ | refine CK.dx [0] [] enters47 f2 ?_ | refine CK.dx [0] [] enters47 f3 ?_ | refine CK.dx [0] [] enters80 cn ?_ | refine CK.dx [0] [] enters81 g9 ?_ | refine CK.dx [0] [] enters82 c0 ?_ | refine CK.dx [0] [] enters99 c1 ?_ | refine CK.dx [0] [] enters82 q1 ?_ | with_reducible refine AndI ?_ | omega))
        refine ⟨_, Weak.nz, ?_⟩
        simp only [St.nz, nzL, nzOs, nzO, nz, nz_arg]
        (refine retQ.mk [0] ?_ ?_ <;> simp [kwr, tq85, oneA, smA, smE, encSm_eq, exZ, exK, Sm.kind, Sm.name, Sm.slot, Sm.size, Sm.place, Sm.value, Sm.body, Sm.els, Ex.op, Ex.value, Ex.name, Ex.slot, Ex.size, Ex.args])
      | ok u2 k6 =>
        have le2 := expLe (by omega) (by simp) r2
        have c2 := rtake_ok l n (k5) (k6) _ hT rfl (by omega) r2
        rw [r2] at ho
        simp only [PR.bind] at ho ⊢
        show AC _ _ _ _ _ _ _
        refine bodyW (fun d => if d = 2 then 1 else 2) 3 Tryz.func85 rfl Tryz.ntmps85 (by rw [Tryz.results85]) (by simp) (by simp) ?_
        (repeat' (first | simp -implicitDefEqProofs +contextual (maxSteps := 9000000) only [kx, ↓ky, tq85, simprocAttr, exA, kA, lsA, kz] | (with_reducible first | refine SB.c (fun _ => ?_) (fun _ => ?_) | refine REG.i ?_ | exact REG.j) | refine CK.dx [0] [] enters47 f0 ?_ | refine CK.dx [0] [] enters47 f1 ?_ | refine CK.dx [0] [] enters47 f2 ?_ | refine CK.dx [0] [] enters47 f3 ?_ | refine CK.dx [0] [] enters80 cn ?_ | refine CK.dx [0] [] enters81 g9 ?_ | refine CK.dx [0] [] enters82 c0 ?_ | refine CK.dx [0] [] enters99 c1 ?_ | refine CK.dx [0] [] enters82 c2 ?_ | with_reducible refine AndI ?_ | omega))
        refine ⟨_, Weak.nz, ?_⟩
        simp only [St.nz, nzL, nzOs, nzO, nz, nz_arg]
        (refine retQ.mk [0] ?_ ?_ <;> simp [kwr, tq85, oneA, smA, smE, encSm_eq, exZ, exK, Sm.kind, Sm.name, Sm.slot, Sm.size, Sm.place, Sm.value, Sm.body, Sm.els, Ex.op, Ex.value, Ex.name, Ex.slot, Ex.size, Ex.args])
set_option maxRecDepth 100000 in
set_option maxHeartbeats 8000000 in
theorem rst_noname (l : List TkD) (n k k' : Nat) (hT : AllOK l) (hl : l.length ≤ 100000) (hk : k ≤ l.length) (e0 : isT l k [105, 102] = false) (e1 : isT l k [119, 104, 105, 108, 101] = false) (e2 : isT l k [115, 101, 110, 100] = false) (e3 : isT l k [111, 117, 116, 112, 117, 116] = false) (hn : pnmF l k = .bad k') : RunRT l n k (.bad k') := by
  have f0 := rskip_f l n k _ hT rfl e0
  have f1 := rskip_f l n k _ hT rfl e1
  have f2 := rskip_f l n k _ hT rfl e2
  have f3 := rskip_f l n k _ hT rfl e3
  have q := rname_bad l n k k' hn
  have z0 := rsign_fl l n k' (placeF l n k') [91]
  have z1 := rtake_fl l n k' (placeF l n k') [61]
  have z2 := rbin0_fl l n k' (placeF l n k')
  have z3 := rtake_fl l n k' (placeF l n k') [59]
  refine ⟨smE 1 [] exZ exZ [] [], ?_⟩
  refine bodyW (fun d => if d = 2 then 1 else 2) 3 Tryz.func85 rfl Tryz.ntmps85 (by rw [Tryz.results85]) (by simp) (by simp) ?_
  (repeat' (first | simp -implicitDefEqProofs +contextual (maxSteps := 9000000) only [kx, ↓ky, tq85, simprocAttr, exA, kA, lsA, kz] | (with_reducible first | refine SB.c (fun _ => ?_) (fun _ => ?_) | refine REG.i ?_ | exact REG.j) | refine CK.dx [0] [] enters47 f0 ?_ | refine CK.dx [0] [] enters47 f1 ?_ | refine CK.dx [0] [] enters47 f2 ?_ | refine CK.dx [0] [] enters47 f3 ?_ | refine CK.dx [0] [] enters80 q ?_ | refine CK.dx [0] [] enters81 z0 ?_ | refine CK.dx [0] [] enters82 z1 ?_ | refine CK.dx [0] [] enters99 z2 ?_ | refine CK.dx [0] [] enters82 z3 ?_ | with_reducible refine AndI ?_ | omega))
  refine ⟨_, Weak.nz, ?_⟩
  simp only [St.nz, nzL, nzOs, nzO, nz, nz_arg]
  (refine retQ.mk [0] ?_ ?_ <;> simp [kwr, tq85, oneA, smA, smE, encSm_eq, exZ, exK, Sm.kind, Sm.name, Sm.slot, Sm.size, Sm.place, Sm.value, Sm.body, Sm.els, Ex.op, Ex.value, Ex.name, Ex.slot, Ex.size, Ex.args])
end Go.Proofs.YtopbicbgolcmpaaGreatDoor
