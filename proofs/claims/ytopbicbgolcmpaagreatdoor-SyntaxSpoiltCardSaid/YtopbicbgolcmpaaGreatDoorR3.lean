/- A part of the walk (Tryz_R3): its theorems have no condition beyond what they state. -/
import Derived.Test.YtopbicbgolcmpaaGreatDoorR2
import Derived.Test.YtopbicbgolcmpaaGreatDoorLib3
set_option linter.unusedSimpArgs false
set_option linter.unusedVariables false
set_option linter.defProp false
namespace Go.Proofs.YtopbicbgolcmpaaGreatDoor
open Go Go.Abs Go.RowKit
theorem prim_sp {l : List TkD} {m k : Nat} (hT : AllOK l) (hk : k < l.length) (h : (l.getD k tk0).kind = 1) (hs : spF (l.getD k tk0).text > 0) : exF l (m + 1) .prim k = .ok (exK (spF (l.getD k tk0).text)) (k + 1) := by
  rw [prim_one hT hk h]
  unfold spF at hs ⊢
  repeat' split
  all_goals simp_all
theorem prim_ns {l : List TkD} {m k : Nat} (hT : AllOK l) (hk : k < l.length) (h : (l.getD k tk0).kind = 1) (hs : ¬ spF (l.getD k tk0).text > 0) : exF l (m + 1) .prim k = (pnmF l k).bind fun nm k1 => if isT l k1 [91] then (exF l m (.bin 0) (k1 + 1)).bind fun e k' => (expF l [93] k').bind fun _ k2 => .ok (exI nm e) k2 else .ok (exN nm) k1 := by
  rw [prim_one hT hk h]
  unfold spF at hs
  repeat' split at hs
  all_goals simp_all
set_option maxRecDepth 100000 in
set_option maxHeartbeats 8000000 in
theorem rprim_step (l : List TkD) (n m k : Nat) (hT : AllOK l) (hl : l.length ≤ 100000) (hk : k ≤ l.length)
    (hB : ∀ k, k ≤ l.length → (exF l m (.bin 0) k).isOut = false → RunRE 99 [.pv (.int .i64 0)] l n k (exF l m (.bin 0) k))
    (ho : (exF l (m + 1) .prim k).isOut = false) : RunRE 126 [] l n k (exF l (m + 1) .prim k) := by
  have cF := rfail_ok l n k
  have hw := wrapS k (by omega)
  by_cases hlt : k < l.length
  rotate_left
  · have h' : (k : Int) ≥ l.length := by omega
    rw [prim_end hlt]
    refine ⟨exZ, ?_⟩
    refine bodyO (fun d => if d = 2 then 1 else if d = 3 then 2 else if d = 5 then 3 else 4) 5 Tryz.func126 rfl Tryz.ntmps126 (by rw [Tryz.results126]) (by simp) (by simp) ?_
    (repeat' (first | simp -implicitDefEqProofs +contextual (maxSteps := 9000000) only [kx, ↓ky, tq126, simprocAttr, h', kz] | (with_reducible first | refine SB.c (fun _ => ?_) (fun _ => ?_) | refine REG.i ?_ | exact REG.j) | refine CK.dx [0] [] enters48 cF ?_ | with_reducible refine AndI ?_ | omega))
    (refine retQ.mk [0] ?_ ?_ <;> simp [kwr, tq126, exZ, exA_K])
  have h' : ¬ (k : Int) ≥ l.length := by omega
  have h2' : (k : Int) < l.length := by omega
  have hg := getTk2 l k hlt
  have hTk := hT k hlt
  rcases hTk.k with hk1 | hk1 | hk1
  · -- a word
    have cS := special_ac (l.getD k tk0).text
    by_cases hsp : spF (l.getD k tk0).text > 0
    · rw [prim_sp hT hlt hk1 hsp]
      rw [hk1] at hg
      generalize spF (l.getD k tk0).text = op at *
      generalize (l.getD k tk0).text = tx at *
      show AC _ _ _ _ _ _ _
      refine bodyO (fun d => if d = 2 then 1 else if d = 3 then 2 else if d = 5 then 3 else 4) 5 Tryz.func126 rfl Tryz.ntmps126 (by rw [Tryz.results126]) (by simp) (by simp) ?_
      (repeat' (first | simp -implicitDefEqProofs +contextual (maxSteps := 9000000) only [kx, ↓ky, tq126, simprocAttr, hlt, h', h2', hg, hsp, hw] | (with_reducible first | refine SB.c (fun _ => ?_) (fun _ => ?_) | refine REG.i ?_ | exact REG.j) | refine CK.d0 enters140 cS ?_ | with_reducible refine AndI ?_ | omega))
      (refine retQ.mk [0] ?_ ?_ <;> simp [kwr, tq126, exA_K])
    · rw [prim_ns hT hlt hk1 hsp] at ho ⊢
      rw [hk1] at hg
      cases hr : pnmF l k with
      | out => have := pnmF_out (l := l) (k := k); rw [hr] at this; cases this
      | bad k' =>
        have cN := rname_bad l n k k' hr
        have cG := rsign_fl l n k' (placeF l n k') [91]
        refine ⟨exN [], ?_⟩
        generalize spF (l.getD k tk0).text = op at *
        refine bodyO (fun d => if d = 2 then 1 else if d = 3 then 2 else if d = 5 then 3 else 4) 5 Tryz.func126 rfl Tryz.ntmps126 (by rw [Tryz.results126]) (by simp) (by simp) ?_
        (repeat' (first | simp -implicitDefEqProofs +contextual (maxSteps := 9000000) only [kx, ↓ky, tq126, simprocAttr, hlt, h', h2', hg, hsp, kz] | (with_reducible first | refine SB.c (fun _ => ?_) (fun _ => ?_) | refine REG.i ?_ | exact REG.j) | refine CK.d0 enters140 cS ?_ | refine CK.dx [0] [] enters80 cN ?_ | refine CK.dx [0] [] enters81 cG ?_ | with_reducible refine AndI ?_ | omega))
        (refine retQ.mk [0] ?_ ?_ <;> simp [kwr, tq126, exA_N])
      | ok nm k1 =>
        rw [hr] at ho
        simp only [PR.bind] at ho ⊢
        have cN := rname_ok l n k k1 nm hr (by omega)
        have le1 : k1 ≤ l.length := by have := pnmF_past (l := l) hk; rw [hr] at this; exact this.2
        have cG := rsign_ac l n k1 [91] hT rfl
        by_cases h3 : isT l k1 [91] = true
        · rw [if_pos h3] at ho ⊢
          rw [h3] at cG
          have hlt1 := isT_lt h3 (by simp)
          have hx1 : expF l [91] k1 = .ok () (k1 + 1) := by unfold expF; rw [if_pos h3]
          have cT := rtake_ok l n k1 (k1 + 1) _ hT rfl (by omega) hx1
          cases hr2 : exF l m (.bin 0) (k1 + 1) with
          | out => rw [hr2] at ho; cases ho
          | bad k' =>
            have q := hB (k1 + 1) (by omega) (by rw [hr2]; rfl)
            rw [hr2] at q
            obtain ⟨e, q1⟩ := q
            have cE := rtake_fl l n k' (placeF l n k') [93]
            refine ⟨exI nm e, ?_⟩
            generalize spF (l.getD k tk0).text = op at *
            refine bodyO (fun d => if d = 2 then 1 else if d = 3 then 2 else if d = 5 then 3 else 4) 5 Tryz.func126 rfl Tryz.ntmps126 (by rw [Tryz.results126]) (by simp) (by simp) ?_
            (repeat' (first | simp -implicitDefEqProofs +contextual (maxSteps := 9000000) only [kx, ↓ky, tq126, simprocAttr, exA, kA, hlt, h', h2', hg, hsp, kz] | (with_reducible first | refine SB.c (fun _ => ?_) (fun _ => ?_) | refine REG.i ?_ | exact REG.j) | refine CK.d0 enters140 cS ?_ | refine CK.dx [0] [] enters80 cN ?_ | refine CK.dx [0] [] enters81 cG ?_ | refine CK.dx [0] [] enters82 cT ?_ | refine CK.dx [0] [] enters99 q1 ?_ | refine CK.dx [0] [] enters82 cE ?_ | with_reducible refine AndI ?_ | omega))
            (refine retQ.mk [0] ?_ ?_ <;> simp [kwr, tq126, exI, exA, Ex.op, Ex.value, Ex.name, Ex.slot, Ex.size, Ex.args, arg_cons, encEx_eq])
          | ok e k' =>
            have q := hB (k1 + 1) (by omega) (by rw [hr2]; rfl)
            rw [hr2] at q
            have q1 : AC _ _ _ _ _ _ _ := q
            have hp' : k1 + 1 < k' ∧ k' ≤ l.length := by have := (exF_on (l := l) m (.bin 0) (k1 + 1) (by omega)).2 rfl; rw [hr2] at this; exact this
            rw [hr2] at ho
            simp only [PR.bind] at ho ⊢
            cases hx : expF l [93] k' with
            | out => have := expF_out (l := l) (s := [93]) (k := k'); rw [hx] at this; cases this
            | bad k2 =>
              have cE := rtake_bad l n k' k2 _ hT rfl hx
              refine ⟨exI nm e, ?_⟩
              generalize spF (l.getD k tk0).text = op at *
              refine bodyO (fun d => if d = 2 then 1 else if d = 3 then 2 else if d = 5 then 3 else 4) 5 Tryz.func126 rfl Tryz.ntmps126 (by rw [Tryz.results126]) (by simp) (by simp) ?_
              (repeat' (first | simp -implicitDefEqProofs +contextual (maxSteps := 9000000) only [kx, ↓ky, tq126, simprocAttr, exA, kA, hlt, h', h2', hg, hsp, kz] | (with_reducible first | refine SB.c (fun _ => ?_) (fun _ => ?_) | refine REG.i ?_ | exact REG.j) | refine CK.d0 enters140 cS ?_ | refine CK.dx [0] [] enters80 cN ?_ | refine CK.dx [0] [] enters81 cG ?_ | refine CK.dx [0] [] enters82 cT ?_ | refine CK.dx [0] [] enters99 q1 ?_ | refine CK.dx [0] [] enters82 cE ?_ | with_reducible refine AndI ?_ | omega))
              (refine retQ.mk [0] ?_ ?_ <;> simp [kwr, tq126, exI, exA, Ex.op, Ex.value, Ex.name, Ex.slot, Ex.size, Ex.args, arg_cons, encEx_eq])
            | ok u k2 =>
              have cE := rtake_ok l n k' k2 _ hT rfl (by omega) hx
              show AC _ _ _ _ _ _ _
              generalize spF (l.getD k tk0).text = op at *
              refine bodyO (fun d => if d = 2 then 1 else if d = 3 then 2 else if d = 5 then 3 else 4) 5 Tryz.func126 rfl Tryz.ntmps126 (by rw [Tryz.results126]) (by simp) (by simp) ?_
              (repeat' (first | simp -implicitDefEqProofs +contextual (maxSteps := 9000000) only [kx, ↓ky, tq126, simprocAttr, exA, kA, hlt, h', h2', hg, hsp, kz] | (with_reducible first | refine SB.c (fun _ => ?_) (fun _ => ?_) | refine REG.i ?_ | exact REG.j) | refine CK.d0 enters140 cS ?_ | refine CK.dx [0] [] enters80 cN ?_ | refine CK.dx [0] [] enters81 cG ?_ | refine CK.dx [0] [] enters82 cT ?_ | refine CK.dx [0] [] enters99 q1 ?_ | refine CK.dx [0] [] enters82 cE ?_ | with_reducible refine AndI ?_ | omega))
              (refine retQ.mk [0] ?_ ?_ <;> simp [kwr, tq126, exI, exA, Ex.op, Ex.value, Ex.name, Ex.slot, Ex.size, Ex.args, arg_cons, encEx_eq])
        · rw [if_neg h3]
          rw [show isT l k1 [91] = false by simpa using h3] at cG
          show AC _ _ _ _ _ _ _
          generalize spF (l.getD k tk0).text = op at *
          refine bodyO (fun d => if d = 2 then 1 else if d = 3 then 2 else if d = 5 then 3 else 4) 5 Tryz.func126 rfl Tryz.ntmps126 (by rw [Tryz.results126]) (by simp) (by simp) ?_
          (repeat' (first | simp -implicitDefEqProofs +contextual (maxSteps := 9000000) only [kx, ↓ky, tq126, simprocAttr, hlt, h', h2', hg, hsp, kz] | (with_reducible first | refine SB.c (fun _ => ?_) (fun _ => ?_) | refine REG.i ?_ | exact REG.j) | refine CK.d0 enters140 cS ?_ | refine CK.dx [0] [] enters80 cN ?_ | refine CK.dx [0] [] enters81 cG ?_ | with_reducible refine AndI ?_ | omega))
          (refine retQ.mk [0] ?_ ?_ <;> simp [kwr, tq126, exA_N])
  · -- a number
    rw [prim_two hT hlt hk1]
    rw [hk1] at hg
    show AC _ _ _ _ _ _ _
    refine bodyO (fun d => if d = 2 then 1 else if d = 3 then 2 else if d = 5 then 3 else 4) 5 Tryz.func126 rfl Tryz.ntmps126 (by rw [Tryz.results126]) (by simp) (by simp) ?_
    (repeat' (first | simp -implicitDefEqProofs +contextual (maxSteps := 9000000) only [kx, ↓ky, tq126, simprocAttr, hlt, h', h2', hg, hw] | (with_reducible first | refine SB.c (fun _ => ?_) (fun _ => ?_) | refine REG.i ?_ | exact REG.j) | with_reducible refine AndI ?_ | omega))
    (refine retQ.mk [0] ?_ ?_ <;> simp [kwr, tq126, exA_C])
  · -- a sign
    by_cases hp : isT l k [40] = true
    · rw [prim_paren hT hlt hk1 hp] at ho ⊢
      rw [hk1] at hg
      have ht : ((l.getD k tk0).text == [40]) = true := by rw [← isT_eq hlt]; exact hp
      cases hr2 : exF l m (.bin 0) (k + 1) with
      | out => rw [hr2] at ho; cases ho
      | bad k' =>
        have q := hB (k + 1) (by omega) (by rw [hr2]; rfl)
        rw [hr2] at q
        obtain ⟨e, q1⟩ := q
        have cE := rtake_fl l n k' (placeF l n k') [41]
        refine ⟨e, ?_⟩
        refine bodyO (fun d => if d = 2 then 1 else if d = 3 then 2 else if d = 5 then 3 else 4) 5 Tryz.func126 rfl Tryz.ntmps126 (by rw [Tryz.results126]) (by simp) (by simp) ?_
        (repeat' (first | simp -implicitDefEqProofs +contextual (maxSteps := 9000000) only [kx, ↓ky, tq126, simprocAttr, exA, kA, hlt, h', h2', hg, ht, hw, kz] | (with_reducible first | refine SB.c (fun _ => ?_) (fun _ => ?_) | refine REG.i ?_ | exact REG.j) | refine CK.dx [0] [] enters99 q1 ?_ | refine CK.dx [0] [] enters82 cE ?_ | with_reducible refine AndI ?_ | omega))
        (refine retQ.mk [0] ?_ ?_ <;> simp [kwr, tq126, exA, sc_arg, ren_arg])
      | ok e k' =>
        have q := hB (k + 1) (by omega) (by rw [hr2]; rfl)
        rw [hr2] at q
        have q1 : AC _ _ _ _ _ _ _ := q
        have hp' : k + 1 < k' ∧ k' ≤ l.length := by have := (exF_on (l := l) m (.bin 0) (k + 1) (by omega)).2 rfl; rw [hr2] at this; exact this
        rw [hr2] at ho
        simp only [PR.bind] at ho ⊢
        cases hx : expF l [41] k' with
        | out => have := expF_out (l := l) (s := [41]) (k := k'); rw [hx] at this; cases this
        | bad k2 =>
          have cE := rtake_bad l n k' k2 _ hT rfl hx
          refine ⟨e, ?_⟩
          refine bodyO (fun d => if d = 2 then 1 else if d = 3 then 2 else if d = 5 then 3 else 4) 5 Tryz.func126 rfl Tryz.ntmps126 (by rw [Tryz.results126]) (by simp) (by simp) ?_
          (repeat' (first | simp -implicitDefEqProofs +contextual (maxSteps := 9000000) only [kx, ↓ky, tq126, simprocAttr, exA, kA, hlt, h', h2', hg, ht, hw, kz] | (with_reducible first | refine SB.c (fun _ => ?_) (fun _ => ?_) | refine REG.i ?_ | exact REG.j) | refine CK.dx [0] [] enters99 q1 ?_ | refine CK.dx [0] [] enters82 cE ?_ | with_reducible refine AndI ?_ | omega))
          (refine retQ.mk [0] ?_ ?_ <;> simp [kwr, tq126, exA, sc_arg, ren_arg])
        | ok u k2 =>
          have cE := rtake_ok l n k' k2 _ hT rfl (by omega) hx
          show AC _ _ _ _ _ _ _
          refine bodyO (fun d => if d = 2 then 1 else if d = 3 then 2 else if d = 5 then 3 else 4) 5 Tryz.func126 rfl Tryz.ntmps126 (by rw [Tryz.results126]) (by simp) (by simp) ?_
          (repeat' (first | simp -implicitDefEqProofs +contextual (maxSteps := 9000000) only [kx, ↓ky, tq126, simprocAttr, exA, kA, hlt, h', h2', hg, ht, hw, kz] | (with_reducible first | refine SB.c (fun _ => ?_) (fun _ => ?_) | refine REG.i ?_ | exact REG.j) | refine CK.dx [0] [] enters99 q1 ?_ | refine CK.dx [0] [] enters82 cE ?_ | with_reducible refine AndI ?_ | omega))
          (refine retQ.mk [0] ?_ ?_ <;> simp [kwr, tq126, exA, sc_arg, ren_arg])
    · replace hp : isT l k [40] = false := by simpa using hp
      rw [prim_three hT hlt hk1 hp]
      rw [hk1] at hg
      have ht : ((l.getD k tk0).text == [40]) = false := by rw [← isT_eq hlt]; exact hp
      refine ⟨exZ, ?_⟩
      refine bodyO (fun d => if d = 2 then 1 else if d = 3 then 2 else if d = 5 then 3 else 4) 5 Tryz.func126 rfl Tryz.ntmps126 (by rw [Tryz.results126]) (by simp) (by simp) ?_
      (repeat' (first | simp -implicitDefEqProofs +contextual (maxSteps := 9000000) only [kx, ↓ky, tq126, simprocAttr, hlt, h', h2', hg, ht, kz] | (with_reducible first | refine SB.c (fun _ => ?_) (fun _ => ?_) | refine REG.i ?_ | exact REG.j) | refine CK.dx [0] [] enters48 cF ?_ | with_reducible refine AndI ?_ | omega))
      (refine retQ.mk [0] ?_ ?_ <;> simp [kwr, tq126, exZ, exA_K])
end Go.Proofs.YtopbicbgolcmpaaGreatDoor
