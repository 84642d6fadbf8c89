/- A part of the walk (Tryz_R7): its theorems have no condition beyond what they state. -/
import Derived.Test.YtopbicbgolcmpaaGreatDoorR6
import Derived.Test.YtopbicbgolcmpaaGreatDoorP10
import Derived.Test.YtopbicbgolcmpaaGreatDoorLib3
set_option linter.unusedSimpArgs false
set_option linter.unusedVariables false
set_option linter.defProp false
namespace Go.Proofs.YtopbicbgolcmpaaGreatDoor
open Go Go.Abs Go.RowKit
def decS (l : List TkD) (k : Nat) : PR (Option VarD) :=
  if isT l k [118, 97, 114] then (pnmF l (k + 1)).bind fun nm k1 => (initF l k1).bind fun v k2 => (expF l [59] k2).bind fun _ k3 => .ok (some ⟨nm, 0, v⟩) k3
  else if isT l k [97, 114, 114, 97, 121] then (pnmF l (k + 1)).bind fun nm k1 => (expF l [91] k1).bind fun _ k2 => (nmF l 1 k2).bind fun v k3 => (expF l [93] k3).bind fun _ k4 => (expF l [59] k4).bind fun _ k5 => .ok (some ⟨nm, v, 0⟩) k5
  else .ok none k
theorem pdcF_step (l : List TkD) (n : Nat) (acc : List VarD) (k : Nat) : pdcF l (n + 1) acc k = (decS l k).bind fun o k' => match o with | some v => pdcF l n (acc ++ [v]) k' | none => .ok acc k' := by
  rw [pdcF_eq]
  unfold decS
  split
  · simp only [PR.bind_assoc]; rfl
  split
  · simp only [PR.bind_assoc]; rfl
  · rfl
theorem decS_on (l : List TkD) (k : Nat) (hk : k ≤ l.length) : (decS l k).on k l.length := by
  unfold decS
  split
  · rename_i h
    have := isT_lt h (by simp)
    exact PR.on.le (PR.on.bind (pnmF_past (k := k + 1) (by omega)).on (fun nm k1 _ h1 => PR.on.bind (initF_on h1) (fun v k2 _ h2 => PR.on.bind (expF_past h2 (by simp)).on (fun _ k3 _ h3 => PR.ok_on _ h3)))) (by omega)
  split
  · rename_i h
    have := isT_lt h (by simp)
    exact PR.on.le (PR.on.bind (pnmF_past (k := k + 1) (by omega)).on (fun nm k1 _ h1 => PR.on.bind (expF_past h1 (by simp)).on (fun _ k2 _ h2 => PR.on.bind (nmF_past h2).on (fun v k3 _ h3 => PR.on.bind (expF_past h3 (by simp)).on (fun _ k4 _ h4 => PR.on.bind (expF_past h4 (by simp)).on (fun _ k5 _ h5 => PR.ok_on _ h5)))))) (by omega)
  · exact PR.ok_on _ hk
theorem decS_some {l : List TkD} {k k' : Nat} {v : VarD} (h : decS l k = .ok (some v) k') (hk : k ≤ l.length) : k < k' := by
  unfold decS at h
  split at h
  · rename_i h0
    have := isT_lt h0 (by simp)
    obtain ⟨nm, k1, h1, h2⟩ := PR.bind_ok h
    have a1 := pnmF_past (l := l) (k := k + 1) (by omega)
    rw [h1] at a1
    obtain ⟨v, k2, h3, h4⟩ := PR.bind_ok h2
    have a2 := initF_on (l := l) a1.2
    rw [h3] at a2
    obtain ⟨u, k3, h5, h6⟩ := PR.bind_ok h4
    have a3 := expF_past (l := l) (s := [59]) a2.2 (by simp)
    rw [h5] at a3
    cases h6
    have b1 : k + 1 < k1 := a1.1
    have b2 : k1 ≤ k2 := a2.1
    have b3 : k2 < k' := a3.1
    omega
  split at h
  · rename_i h0
    have := isT_lt h0 (by simp)
    obtain ⟨nm, k1, h1, h2⟩ := PR.bind_ok h
    have a1 := pnmF_past (l := l) (k := k + 1) (by omega)
    rw [h1] at a1
    have b1 : k + 1 < k1 := a1.1
    obtain ⟨u, k2, h3, h4⟩ := PR.bind_ok h2
    have a2 := expF_past (l := l) (s := [91]) a1.2 (by simp)
    rw [h3] at a2
    obtain ⟨v, k3, h5, h6⟩ := PR.bind_ok h4
    have a3 := nmF_past (l := l) (z := 1) a2.2
    rw [h5] at a3
    obtain ⟨u2, k4, h7, h8⟩ := PR.bind_ok h6
    have a4 := expF_past (l := l) (s := [93]) a3.2 (by simp)
    rw [h7] at a4
    obtain ⟨u3, k5, h9, h10⟩ := PR.bind_ok h8
    have a5 := expF_past (l := l) (s := [59]) a4.2 (by simp)
    rw [h9] at a5
    cases h10
    have b2 : k1 < k2 := a2.1
    have b3 : k2 < k3 := a3.1
    have b4 : k3 < k4 := a4.1
    have b5 : k4 < k' := a5.1
    omega
  · cases h
def vrA (v : VarD) : AVal := .agg [.pv (.str v.name), .pv (.int .i64 v.size), .pv (.int .i64 v.init)]
def RunRD (l : List TkD) (n k : Nat) : PR (Option VarD) → Prop
  | .ok (some v) k' => AC Tryz.prog gl 46 [.ref 0 0] (okO l n k) (.tup [vrA v, .pv (.bool true)]) (okO l n k')
  | .ok none k' => AC Tryz.prog gl 46 [.ref 0 0] (okO l n k) (.tup [vrA ⟨[], 0, 0⟩, .pv (.bool false)]) (okO l n k')
  | .bad k' => ∃ v, AC Tryz.prog gl 46 [.ref 0 0] (okO l n k) (.tup [vrA v, .pv (.bool true)]) (flO l n k' (placeF l n k'))
  | .out => True
set_option maxRecDepth 100000 in
set_option maxHeartbeats 16000000 in
theorem rdecl_run (l : List TkD) (n k : Nat) (hT : AllOK l) (hl : l.length ≤ 100000) (hk : k ≤ l.length) (hv : ∀ k, (l.getD k tk0).value ≤ 9223372036854775807) : RunRD l n k (decS l k) := by
  have h00 : IntKind.i64.wrap 0 = 0 := by decide
  unfold decS
  by_cases e0 : isT l k [118, 97, 114] = true
  · rw [if_pos e0]
    have f0 := rskip_t l n k _ hT rfl (by omega) e0
    have hlt := isT_lt e0 (by simp)
    cases r1 : pnmF l (k + 1) with
    | out => exact absurd r1 name_no
    | bad k' =>
      simp only [PR.bind]
      have q1 := rname_bad l n _ _ r1
      have z0 := rsign_fl l n k' (placeF l n k') [61]
      have z1 := rtake_fl l n k' (placeF l n k') [59]
      refine ⟨⟨[], 0, 0⟩, ?_⟩
      refine bodyO (fun d => if d = 2 then 1 else 2) 3 Tryz.func46 rfl Tryz.ntmps46 (by rw [Tryz.results46]) (by simp) (by simp) ?_
      (repeat' (first | simp -implicitDefEqProofs +contextual (maxSteps := 9000000) only [kx, ↓ky, tq46, simprocAttr, h00, kz] | (with_reducible first | refine SB.c (fun _ => ?_) (fun _ => ?_) | refine REG.i ?_ | exact REG.j) | refine CK.dx [0] [] enters47 f0 ?_ | refine CK.dx [0] [] enters80 q1 ?_ | refine CK.dx [0] [] enters81 z0 ?_ | refine CK.dx [0] [] enters82 z1 ?_ | with_reducible refine AndI ?_ | omega))
      (refine retQ.mk [0] ?_ ?_ <;> simp [kwr, tq46, vrA])
    | ok nm k1 =>
      simp only [PR.bind]
      have le1 := nameLe (by omega) r1
      have c1 := rname_ok l n _ _ _ r1 (by omega)
      unfold initF
      have g9 := rsign_ac l n k1 [61] hT rfl
      by_cases e1 : isT l k1 [61] = true
      · rw [if_pos e1]
        rw [e1] at g9
        have hlt1 := isT_lt e1 (by simp)
        have hx1 : expF l [61] k1 = .ok () (k1 + 1) := by unfold expF; rw [if_pos e1]
        have g8 := rtake_ok l n k1 (k1 + 1) _ hT rfl (by omega) hx1
        have g7 := rsign_ac l n (k1 + 1) [45] hT rfl
        by_cases e2 : isT l (k1 + 1) [45] = true
        · rw [if_pos e2]
          rw [e2] at g7
          have hlt2 := isT_lt e2 (by simp)
          have hx2 : expF l [45] (k1 + 1) = .ok () (k1 + 2) := by unfold expF; rw [if_pos e2]
          have g6 := rtake_ok l n (k1 + 1) (k1 + 2) _ hT rfl (by omega) hx2
          cases r4 : nmF l 0 (k1 + 2) with
          | out => exact absurd r4 num_no
          | bad k' =>
            simp only [PR.bind]
            have q1 := rnum_bad l n (k1 + 2) k' _ r4
            have z0 := rtake_fl l n k' (placeF l n k') [59]
            refine ⟨⟨nm, 0, 0⟩, ?_⟩
            refine bodyO (fun d => if d = 2 then 1 else 2) 3 Tryz.func46 rfl Tryz.ntmps46 (by rw [Tryz.results46]) (by simp) (by simp) ?_
            (repeat' (first | simp -implicitDefEqProofs +contextual (maxSteps := 9000000) only [kx, ↓ky, tq46, simprocAttr, h00, kz] | (with_reducible first | refine SB.c (fun _ => ?_) (fun _ => ?_) | refine REG.i ?_ | exact REG.j) | refine CK.dx [0] [] enters47 f0 ?_ | refine CK.dx [0] [] enters80 c1 ?_ | refine CK.dx [0] [] enters81 g9 ?_ | refine CK.dx [0] [] enters82 g8 ?_ | refine CK.dx [0] [] enters81 g7 ?_ | refine CK.dx [0] [] enters82 g6 ?_ | refine CK.dx [0] [] enters83 q1 ?_ | refine CK.dx [0] [] enters82 z0 ?_ | with_reducible refine AndI ?_ | omega))
            (refine retQ.mk [0] ?_ ?_ <;> simp [kwr, tq46, vrA])
          | ok v k2 =>
            simp only [PR.bind]
            have le_r4 := numLe (by omega) r4
            have vv_r4 := num_val hv r4
            have c_r4 := rnum_ok l n (k1 + 2) (k2) _ _ r4 (by omega)
            have gneg : IntKind.i64.wrap (0 - v) = -v := by rw [wrap64 _ (by omega) (by omega)]; omega
            cases r5 : expF l [59] (k2) with
            | out => exact absurd r5 exp_no
            | bad k' =>
              simp only [PR.bind]
              have q1 := rtake_bad l n (k2) k' _ hT rfl r5
              refine ⟨⟨nm, 0, -v⟩, ?_⟩
              refine bodyO (fun d => if d = 2 then 1 else 2) 3 Tryz.func46 rfl Tryz.ntmps46 (by rw [Tryz.results46]) (by simp) (by simp) ?_
              (repeat' (first | simp -implicitDefEqProofs +contextual (maxSteps := 9000000) only [kx, ↓ky, tq46, simprocAttr, h00, gneg, kz] | (with_reducible first | refine SB.c (fun _ => ?_) (fun _ => ?_) | refine REG.i ?_ | exact REG.j) | refine CK.dx [0] [] enters47 f0 ?_ | refine CK.dx [0] [] enters80 c1 ?_ | refine CK.dx [0] [] enters81 g9 ?_ | refine CK.dx [0] [] enters82 g8 ?_ | refine CK.dx [0] [] enters81 g7 ?_ | refine CK.dx [0] [] enters82 g6 ?_ | refine CK.dx [0] [] enters83 c_r4 ?_ | refine CK.dx [0] [] enters82 q1 ?_ | with_reducible refine AndI ?_ | omega))
              (refine retQ.mk [0] ?_ ?_ <;> simp [kwr, tq46, vrA])
            | ok u5 k5 =>
              simp only [PR.bind]
              have c5 := rtake_ok l n (k2) k5 _ hT rfl (by omega) r5
              show AC _ _ _ _ _ _ _
              refine bodyO (fun d => if d = 2 then 1 else 2) 3 Tryz.func46 rfl Tryz.ntmps46 (by rw [Tryz.results46]) (by simp) (by simp) ?_
              (repeat' (first | simp -implicitDefEqProofs +contextual (maxSteps := 9000000) only [kx, ↓ky, tq46, simprocAttr, h00, gneg, kz] | (with_reducible first | refine SB.c (fun _ => ?_) (fun _ => ?_) | refine REG.i ?_ | exact REG.j) | refine CK.dx [0] [] enters47 f0 ?_ | refine CK.dx [0] [] enters80 c1 ?_ | refine CK.dx [0] [] enters81 g9 ?_ | refine CK.dx [0] [] enters82 g8 ?_ | refine CK.dx [0] [] enters81 g7 ?_ | refine CK.dx [0] [] enters82 g6 ?_ | refine CK.dx [0] [] enters83 c_r4 ?_ | refine CK.dx [0] [] enters82 c5 ?_ | with_reducible refine AndI ?_ | omega))
              (refine retQ.mk [0] ?_ ?_ <;> simp [kwr, tq46, vrA])
        · rw [if_neg e2]
          rw [show isT l (k1 + 1) [45] = false by simpa using e2] at g7
          cases r4 : nmF l 0 (k1 + 1) with
          | out => exact absurd r4 num_no
          | bad k' =>
            simp only [PR.bind]
            have q1 := rnum_bad l n (k1 + 1) k' _ r4
            have z0 := rtake_fl l n k' (placeF l n k') [59]
            refine ⟨⟨nm, 0, 0⟩, ?_⟩
            refine bodyO (fun d => if d = 2 then 1 else 2) 3 Tryz.func46 rfl Tryz.ntmps46 (by rw [Tryz.results46]) (by simp) (by simp) ?_
            (repeat' (first | simp -implicitDefEqProofs +contextual (maxSteps := 9000000) only [kx, ↓ky, tq46, simprocAttr, h00, kz] | (with_reducible first | refine SB.c (fun _ => ?_) (fun _ => ?_) | refine REG.i ?_ | exact REG.j) | refine CK.dx [0] [] enters47 f0 ?_ | refine CK.dx [0] [] enters80 c1 ?_ | refine CK.dx [0] [] enters81 g9 ?_ | refine CK.dx [0] [] enters82 g8 ?_ | refine CK.dx [0] [] enters81 g7 ?_ | refine CK.dx [0] [] enters83 q1 ?_ | refine CK.dx [0] [] enters82 z0 ?_ | with_reducible refine AndI ?_ | omega))
            (refine retQ.mk [0] ?_ ?_ <;> simp [kwr, tq46, vrA])
          | ok v k2 =>
            simp only [PR.bind]
            have le_r4 := numLe (by omega) r4
            have vv_r4 := num_val hv r4
            have c_r4 := rnum_ok l n (k1 + 1) (k2) _ _ r4 (by omega)
            cases r5 : expF l [59] (k2) with
            | out => exact absurd r5 exp_no
            | bad k' =>
              simp only [PR.bind]
              have q1 := rtake_bad l n (k2) k' _ hT rfl r5
              refine ⟨⟨nm, 0, v⟩, ?_⟩
              refine bodyO (fun d => if d = 2 then 1 else 2) 3 Tryz.func46 rfl Tryz.ntmps46 (by rw [Tryz.results46]) (by simp) (by simp) ?_
              (repeat' (first | simp -implicitDefEqProofs +contextual (maxSteps := 9000000) only [kx, ↓ky, tq46, simprocAttr, h00, kz] | (with_reducible first | refine SB.c (fun _ => ?_) (fun _ => ?_) | refine REG.i ?_ | exact REG.j) | refine CK.dx [0] [] enters47 f0 ?_ | refine CK.dx [0] [] enters80 c1 ?_ | refine CK.dx [0] [] enters81 g9 ?_ | refine CK.dx [0] [] enters82 g8 ?_ | refine CK.dx [0] [] enters81 g7 ?_ | refine CK.dx [0] [] enters83 c_r4 ?_ | refine CK.dx [0] [] enters82 q1 ?_ | with_reducible refine AndI ?_ | omega))
              (refine retQ.mk [0] ?_ ?_ <;> simp [kwr, tq46, vrA])
            | ok u5 k5 =>
              simp only [PR.bind]
              have c5 := rtake_ok l n (k2) k5 _ hT rfl (by omega) r5
              show AC _ _ _ _ _ _ _
              refine bodyO (fun d => if d = 2 then 1 else 2) 3 Tryz.func46 rfl Tryz.ntmps46 (by rw [Tryz.results46]) (by simp) (by simp) ?_
              (repeat' (first | simp -implicitDefEqProofs +contextual (maxSteps := 9000000) only [kx, ↓ky, tq46, simprocAttr, h00, kz] | (with_reducible first | refine SB.c (fun _ => ?_) (fun _ => ?_) | refine REG.i ?_ | exact REG.j) | refine CK.dx [0] [] enters47 f0 ?_ | refine CK.dx [0] [] enters80 c1 ?_ | refine CK.dx [0] [] enters81 g9 ?_ | refine CK.dx [0] [] enters82 g8 ?_ | refine CK.dx [0] [] enters81 g7 ?_ | refine CK.dx [0] [] enters83 c_r4 ?_ | refine CK.dx [0] [] enters82 c5 ?_ | with_reducible refine AndI ?_ | omega))
              (refine retQ.mk [0] ?_ ?_ <;> simp [kwr, tq46, vrA])
      · rw [if_neg e1]
        rw [show isT l k1 [61] = false by simpa using e1] at g9
        simp only [PR.bind]
        cases r5 : expF l [59] (k1) with
        | out => exact absurd r5 exp_no
        | bad k' =>
          simp only [PR.bind]
          have q1 := rtake_bad l n (k1) k' _ hT rfl r5
          refine ⟨⟨nm, 0, 0⟩, ?_⟩
          refine bodyO (fun d => if d = 2 then 1 else 2) 3 Tryz.func46 rfl Tryz.ntmps46 (by rw [Tryz.results46]) (by simp) (by simp) ?_
          (repeat' (first | simp -implicitDefEqProofs +contextual (maxSteps := 9000000) only [kx, ↓ky, tq46, simprocAttr, h00, kz] | (with_reducible first | refine SB.c (fun _ => ?_) (fun _ => ?_) | refine REG.i ?_ | exact REG.j) | refine CK.dx [0] [] enters47 f0 ?_ | refine CK.dx [0] [] enters80 c1 ?_ | refine CK.dx [0] [] enters81 g9 ?_ | refine CK.dx [0] [] enters82 q1 ?_ | with_reducible refine AndI ?_ | omega))
          (refine retQ.mk [0] ?_ ?_ <;> simp [kwr, tq46, vrA])
        | ok u5 k5 =>
          simp only [PR.bind]
          have c5 := rtake_ok l n (k1) k5 _ hT rfl (by omega) r5
          show AC _ _ _ _ _ _ _
          refine bodyO (fun d => if d = 2 then 1 else 2) 3 Tryz.func46 rfl Tryz.ntmps46 (by rw [Tryz.results46]) (by simp) (by simp) ?_
          (repeat' (first | simp -implicitDefEqProofs +contextual (maxSteps := 9000000) only [kx, ↓ky, tq46, simprocAttr, h00, kz] | (with_reducible first | refine SB.c (fun _ => ?_) (fun _ => ?_) | refine REG.i ?_ | exact REG.j) | refine CK.dx [0] [] enters47 f0 ?_ | refine CK.dx [0] [] enters80 c1 ?_ | refine CK.dx [0] [] enters81 g9 ?_ | refine CK.dx [0] [] enters82 c5 ?_ | with_reducible refine AndI ?_ | omega))
          (refine retQ.mk [0] ?_ ?_ <;> simp [kwr, tq46, vrA])
  rw [if_neg e0]
  have f0 := rskip_f l n k _ hT rfl (by simpa using e0)
  by_cases e1 : isT l k [97, 114, 114, 97, 121] = true
  · rw [if_pos e1]
    have f1 := rskip_t l n k _ hT rfl (by omega) e1
    have hlt := isT_lt e1 (by simp)
    cases r1 : pnmF l (k + 1) with
    | out => exact absurd r1 name_no
    | bad k' =>
      simp only [PR.bind]
      have q1 := rname_bad l n _ _ r1
      have z0 := rtake_fl l n k' (placeF l n k') [91]
      have z1 := rnum_fl l n k' (placeF l n k') 1
      have z2 := rtake_fl l n k' (placeF l n k') [93]
      have z3 := rtake_fl l n k' (placeF l n k') [59]
      refine ⟨⟨[], 0, 0⟩, ?_⟩
      refine bodyO (fun d => if d = 2 then 1 else 2) 3 Tryz.func46 rfl Tryz.ntmps46 (by rw [Tryz.results46]) (by simp) (by simp) ?_
      (repeat' (first | simp -implicitDefEqProofs +contextual (maxSteps := 9000000) only [kx, ↓ky, tq46, simprocAttr, h00, kz] | (with_reducible first | refine SB.c (fun _ => ?_) (fun _ => ?_) | refine REG.i ?_ | exact REG.j) | refine CK.dx [0] [] enters47 f0 ?_ | refine CK.dx [0] [] enters47 f1 ?_ | refine CK.dx [0] [] enters80 q1 ?_ | refine CK.dx [0] [] enters82 z0 ?_ | refine CK.dx [0] [] enters83 z1 ?_ | refine CK.dx [0] [] enters82 z2 ?_ | refine CK.dx [0] [] enters82 z3 ?_ | with_reducible refine AndI ?_ | omega))
      (refine retQ.mk [0] ?_ ?_ <;> simp [kwr, tq46, vrA])
    | ok nm k1 =>
      simp only [PR.bind]
      have le1 := nameLe (by omega) r1
      have c1 := rname_ok l n _ _ _ r1 (by omega)
      cases r2 : expF l [91] (k1) with
      | out => exact absurd r2 exp_no
      | bad k' =>
        simp only [PR.bind]
        have q1 := rtake_bad l n (k1) k' _ hT rfl r2
        have z1 := rnum_fl l n k' (placeF l n k') 1
        have z2 := rtake_fl l n k' (placeF l n k') [93]
        have z3 := rtake_fl l n k' (placeF l n k') [59]
        refine ⟨⟨nm, 0, 0⟩, ?_⟩
        refine bodyO (fun d => if d = 2 then 1 else 2) 3 Tryz.func46 rfl Tryz.ntmps46 (by rw [Tryz.results46]) (by simp) (by simp) ?_
        (repeat' (first | simp -implicitDefEqProofs +contextual (maxSteps := 9000000) only [kx, ↓ky, tq46, simprocAttr, h00, kz] | (with_reducible first | refine SB.c (fun _ => ?_) (fun _ => ?_) | refine REG.i ?_ | exact REG.j) | refine CK.dx [0] [] enters47 f0 ?_ | refine CK.dx [0] [] enters47 f1 ?_ | refine CK.dx [0] [] enters80 c1 ?_ | refine CK.dx [0] [] enters82 q1 ?_ | refine CK.dx [0] [] enters83 z1 ?_ | refine CK.dx [0] [] enters82 z2 ?_ | refine CK.dx [0] [] enters82 z3 ?_ | with_reducible refine AndI ?_ | omega))
        (refine retQ.mk [0] ?_ ?_ <;> simp [kwr, tq46, vrA])
      | ok u_r2 k2 =>
        simp only [PR.bind]
        have le_r2 := expLe (by omega) (by simp) r2
        have c_r2 := rtake_ok l n (k1) (k2) _ hT rfl (by omega) r2
        cases r3 : nmF l 1 (k2) with
        | out => exact absurd r3 num_no
        | bad k' =>
          simp only [PR.bind]
          have q1 := rnum_bad l n (k2) k' _ r3
          have z2 := rtake_fl l n k' (placeF l n k') [93]
          have z3 := rtake_fl l n k' (placeF l n k') [59]
          refine ⟨⟨nm, 0, 0⟩, ?_⟩
          refine bodyO (fun d => if d = 2 then 1 else 2) 3 Tryz.func46 rfl Tryz.ntmps46 (by rw [Tryz.results46]) (by simp) (by simp) ?_
          (repeat' (first | simp -implicitDefEqProofs +contextual (maxSteps := 9000000) only [kx, ↓ky, tq46, simprocAttr, h00, kz] | (with_reducible first | refine SB.c (fun _ => ?_) (fun _ => ?_) | refine REG.i ?_ | exact REG.j) | refine CK.dx [0] [] enters47 f0 ?_ | refine CK.dx [0] [] enters47 f1 ?_ | refine CK.dx [0] [] enters80 c1 ?_ | refine CK.dx [0] [] enters82 c_r2 ?_ | refine CK.dx [0] [] enters83 q1 ?_ | refine CK.dx [0] [] enters82 z2 ?_ | refine CK.dx [0] [] enters82 z3 ?_ | with_reducible refine AndI ?_ | omega))
          (refine retQ.mk [0] ?_ ?_ <;> simp [kwr, tq46, vrA])
        | ok v k3 =>
          simp only [PR.bind]
          have le_r3 := numLe (by omega) r3
          have vv_r3 := num_val hv r3
          have c_r3 := rnum_ok l n (k2) (k3) _ _ r3 (by omega)
          cases r4 : expF l [93] (k3) with
          | out => exact absurd r4 exp_no
          | bad k' =>
            simp only [PR.bind]
            have q1 := rtake_bad l n (k3) k' _ hT rfl r4
            have z3 := rtake_fl l n k' (placeF l n k') [59]
            refine ⟨⟨nm, v, 0⟩, ?_⟩
            refine bodyO (fun d => if d = 2 then 1 else 2) 3 Tryz.func46 rfl Tryz.ntmps46 (by rw [Tryz.results46]) (by simp) (by simp) ?_
            (repeat' (first | simp -implicitDefEqProofs +contextual (maxSteps := 9000000) only [kx, ↓ky, tq46, simprocAttr, h00, kz] | (with_reducible first | refine SB.c (fun _ => ?_) (fun _ => ?_) | refine REG.i ?_ | exact REG.j) | refine CK.dx [0] [] enters47 f0 ?_ | refine CK.dx [0] [] enters47 f1 ?_ | refine CK.dx [0] [] enters80 c1 ?_ | refine CK.dx [0] [] enters82 c_r2 ?_ | refine CK.dx [0] [] enters83 c_r3 ?_ | refine CK.dx [0] [] enters82 q1 ?_ | refine CK.dx [0] [] enters82 z3 ?_ | with_reducible refine AndI ?_ | omega))
            (refine retQ.mk [0] ?_ ?_ <;> simp [kwr, tq46, vrA])
          | ok u_r4 k4 =>
            simp only [PR.bind]
            have le_r4 := expLe (by omega) (by simp) r4
            have c_r4 := rtake_ok l n (k3) (k4) _ hT rfl (by omega) r4
            cases r5 : expF l [59] (k4) with
            | out => exact absurd r5 exp_no
            | bad k' =>
              simp only [PR.bind]
              have q1 := rtake_bad l n (k4) k' _ hT rfl r5
              refine ⟨⟨nm, v, 0⟩, ?_⟩
              refine bodyO (fun d => if d = 2 then 1 else 2) 3 Tryz.func46 rfl Tryz.ntmps46 (by rw [Tryz.results46]) (by simp) (by simp) ?_
              (repeat' (first | simp -implicitDefEqProofs +contextual (maxSteps := 9000000) only [kx, ↓ky, tq46, simprocAttr, h00, kz] | (with_reducible first | refine SB.c (fun _ => ?_) (fun _ => ?_) | refine REG.i ?_ | exact REG.j) | refine CK.dx [0] [] enters47 f0 ?_ | refine CK.dx [0] [] enters47 f1 ?_ | refine CK.dx [0] [] enters80 c1 ?_ | refine CK.dx [0] [] enters82 c_r2 ?_ | refine CK.dx [0] [] enters83 c_r3 ?_ | refine CK.dx [0] [] enters82 c_r4 ?_ | refine CK.dx [0] [] enters82 q1 ?_ | with_reducible refine AndI ?_ | omega))
              (refine retQ.mk [0] ?_ ?_ <;> simp [kwr, tq46, vrA])
            | ok u5 k5 =>
              simp only [PR.bind]
              have c5 := rtake_ok l n (k4) k5 _ hT rfl (by omega) r5
              show AC _ _ _ _ _ _ _
              refine bodyO (fun d => if d = 2 then 1 else 2) 3 Tryz.func46 rfl Tryz.ntmps46 (by rw [Tryz.results46]) (by simp) (by simp) ?_
              (repeat' (first | simp -implicitDefEqProofs +contextual (maxSteps := 9000000) only [kx, ↓ky, tq46, simprocAttr, h00, kz] | (with_reducible first | refine SB.c (fun _ => ?_) (fun _ => ?_) | refine REG.i ?_ | exact REG.j) | refine CK.dx [0] [] enters47 f0 ?_ | refine CK.dx [0] [] enters47 f1 ?_ | refine CK.dx [0] [] enters80 c1 ?_ | refine CK.dx [0] [] enters82 c_r2 ?_ | refine CK.dx [0] [] enters83 c_r3 ?_ | refine CK.dx [0] [] enters82 c_r4 ?_ | refine CK.dx [0] [] enters82 c5 ?_ | with_reducible refine AndI ?_ | omega))
              (refine retQ.mk [0] ?_ ?_ <;> simp [kwr, tq46, vrA])
  · rw [if_neg e1]
    have f1 := rskip_f l n k _ hT rfl (by simpa using e1)
    show AC _ _ _ _ _ _ _
    refine bodyO (fun d => if d = 2 then 1 else 2) 3 Tryz.func46 rfl Tryz.ntmps46 (by rw [Tryz.results46]) (by simp) (by simp) ?_
    (repeat' (first | simp -implicitDefEqProofs +contextual (maxSteps := 9000000) only [kx, ↓ky, tq46, simprocAttr, kz] | (with_reducible first | refine SB.c (fun _ => ?_) (fun _ => ?_) | refine REG.i ?_ | exact REG.j) | refine CK.dx [0] [] enters47 f0 ?_ | refine CK.dx [0] [] enters47 f1 ?_ | with_reducible refine AndI ?_ | omega))
    (refine retQ.mk [0] ?_ ?_ <;> simp [kwr, tq46, vrA])
end Go.Proofs.YtopbicbgolcmpaaGreatDoor
