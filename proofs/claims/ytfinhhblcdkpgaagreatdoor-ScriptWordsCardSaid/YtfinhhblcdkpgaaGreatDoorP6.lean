/- A part of the walk (Tryz_P6): its theorems have no condition beyond what they state. -/
import Derived.Test.YtfinhhblcdkpgaaGreatDoorP5
set_option linter.unusedSimpArgs false
set_option linter.unusedVariables false
set_option linter.defProp false
namespace Go.Proofs.YtfinhhblcdkpgaaGreatDoor
open Go Go.Abs Go.RowKit
def resQ (site : Nat → Nat) (nobj : Nat) (rs : List ResultVar) (l : List TkD) (n : Nat) : PR Ex → Exit → St → Prop
  | .ok e k' => retQ (envOf site nobj) 1 rs (exA e) (psO l n k')
  | .bad k' => panQ 1 (fv l n k') (psO l n k')
  | .out => fun _ _ => True
theorem bodyR {f : FuncId} {fn : Func} {code : Code} (site : Nat → Nat) (nobj : Nat) (hf : Tryz.prog.funcs[f]? = some fn) (hb : fn.body = some code) {nt : Nat} (hn : fn.ntmps = nt) {rs : List ResultVar} (hrs : fn.results.toList = rs) {args : List AVal} {l : List TkD} {n k : Nat} {r : PR Ex}
    (hargs : (AVal.ref 0 0 :: args).length ≤ nt) (hobjs : (psO l n k).length ≤ nobj) (hr : r.isOut = false)
    (h : VC Tryz.prog (envOf site nobj) 1 code ⟨(AVal.ref 0 0 :: args) ++ List.replicate (nt - (AVal.ref 0 0 :: args).length) .junk, psO l n k ++ List.replicate (nobj - (psO l n k).length) none⟩ (resQ site nobj rs l n r)) : RunE f args l n k r := by
  cases r with
  | ok e k' => exact bodyO site nobj hf hb hn hrs hargs hobjs h
  | bad k' => exact bodyP site nobj hf hb hn hargs hobjs h
  | out => cases hr
structure LI (l : List TkD) (lv : Nat) (R : PR Ex) where
  j : Nat
  e : Ex
  k : Nat
  hk : k ≤ l.length
  h : exF l j (.loop lv e) k = R
set_option maxRecDepth 100000 in
set_option maxHeartbeats 8000000 in
theorem binary_step (l : List TkD) (n m lv k : Nat) (hl : l.length ≤ 100000) (hk : k ≤ l.length) (hlv : lv ≤ 5)
    (hB : ∀ j, j ≤ m → ∀ lv k, lv ≤ 5 → k ≤ l.length → (exF l j (.bin lv) k).isOut = false → RunE 199 [.pv (.int .i64 lv)] l n k (exF l j (.bin lv) k))
    (hU : ∀ k, k ≤ l.length → (exF l m .un k).isOut = false → RunE 201 [] l n k (exF l m .un k))
    (ho : (exF l (m + 1) (.bin lv) k).isOut = false) : RunE 199 [.pv (.int .i64 lv)] l n k (exF l (m + 1) (.bin lv) k) := by
  have hwl := wrapS lv (by omega)
  rw [exF_bin] at ho ⊢
  by_cases h5 : lv = 5
  · subst h5
    rw [if_pos rfl] at ho ⊢
    have c := hU k hk ho
    cases hr : exF l m .un k with
    | out => rw [hr] at ho; cases ho
    | ok e k' =>
      rw [hr] at c
      have c1 : AC _ _ _ _ _ _ _ := c
      show AC _ _ _ _ _ _ _
      refine bodyO (fun d => if d = 2 then 1 else if d = 3 then 2 else if d = 4 then 3 else 4) 5 Tryz.func199 rfl Tryz.ntmps199 (by rw [Tryz.results199]) (by simp) (by simp) ?_
      (repeat' (first | simp -implicitDefEqProofs +contextual (maxSteps := 9000000) only [kx, ↓ky, tq199, simprocAttr, exA, kA, kz] | (with_reducible first | refine SB.c (fun _ => ?_) (fun _ => ?_) | refine REG.i ?_ | exact REG.j) | refine CK.dx [0] [] enters201 c1 ?_ | with_reducible refine AndI ?_ | omega))
      (refine retQ.mk [0] ?_ ?_ <;> simp [kwr, tq199, exA, sc_arg, ren_arg])
    | bad k' =>
      rw [hr] at c
      have c1 : AP _ _ _ _ _ _ _ := c
      show AP _ _ _ _ _ _ _
      refine bodyP (fun d => if d = 2 then 1 else if d = 3 then 2 else if d = 4 then 3 else 4) 5 Tryz.func199 rfl Tryz.ntmps199 (by simp) (by simp) ?_
      (repeat' (first | simp -implicitDefEqProofs +contextual (maxSteps := 9000000) only [kx, ↓ky, tq199, simprocAttr, exA, kA, kz] | (with_reducible first | refine SB.c (fun _ => ?_) (fun _ => ?_) | refine REG.i ?_ | refine PREG.i ?_ | exact REG.j | refine fun (_ : List AVal) => ?_) | refine CK.dp [0] [] enters201 c1 ?_ | with_reducible refine AndI ?_ | omega))
      (refine panQ.mk [0] ?_ <;> simp [kwt])
  · rw [if_neg h5] at ho ⊢
    have h5' : ((lv : Int) == 5) = false := by simp; omega
    have c := hB m (Nat.le_refl _) (lv + 1) k (by omega) hk
    have hpast := (exF_on (l := l) m (.bin (lv + 1)) k hk).2 rfl
    cases hr : exF l m (.bin (lv + 1)) k with
    | out => rw [hr] at ho; cases ho
    | bad k' =>
      rw [hr] at c
      have c1 : AP _ _ _ _ _ _ _ := c rfl
      show AP _ _ _ _ _ _ _
      refine bodyP (fun d => if d = 2 then 1 else if d = 3 then 2 else if d = 4 then 3 else 4) 5 Tryz.func199 rfl Tryz.ntmps199 (by simp) (by simp) ?_
      (repeat' (first | simp -implicitDefEqProofs +contextual (maxSteps := 9000000) only [kx, ↓ky, tq199, simprocAttr, exA, kA, h5', hwl, kz] | (with_reducible first | refine SB.c (fun _ => ?_) (fun _ => ?_) | refine REG.i ?_ | refine PREG.i ?_ | exact REG.j | refine fun (_ : List AVal) => ?_) | refine CK.dp [0] [] enters199 c1 ?_ | with_reducible refine AndI ?_ | omega))
      (refine panQ.mk [0] ?_ <;> simp [kwt])
    | ok e k' =>
      rw [hr] at c ho hpast
      have c1 : AC _ _ _ _ _ _ _ := c rfl
      have hp' : k < k' ∧ k' ≤ l.length := hpast
      simp only [PR.bind] at ho ⊢
      generalize hR : exF l m (.loop lv e) k' = R at *
      have cN := next_ac l n lv k' (by omega)
      refine bodyR (fun d => if d = 2 then 1 else if d = 3 then 2 else if d = 4 then 3 else 4) 5 Tryz.func199 rfl Tryz.ntmps199 (by rw [Tryz.results199]) (by simp) (by simp) (by assumption) ?_
      (repeat' (first | simp -implicitDefEqProofs +contextual (maxSteps := 9000000) only [kx, ↓ky, tq199, simprocAttr, exA, kA, h5', hwl, kz] | (with_reducible first | refine SB.c (fun _ => ?_) (fun _ => ?_) | refine REG.i ?_ | refine PREG.i ?_ | exact REG.j | refine fun (_ : List AVal) => ?_) | refine CK.dx [0] [] enters199 c1 ?_ | refine CK.dx [2,1,0] [] enters202 cN ?_ | with_reducible refine AndI ?_ | omega))
      refine loopV (ι := {i : LI l lv R // i.j ≤ m}) (fun i => ⟨(.junk :: .junk :: .ref 1 0 :: .ref 2 0 :: .ref 3 0 :: .clo 202 [.ref 2 0, .ref 1 0] :: .ref 4 0 :: .pv (.int .i64 (opF lv (peekF l i.1.k) : Nat)) :: .junk :: .junk :: .junk :: .junk :: .junk :: .junk :: .junk :: .junk :: .junk :: .junk :: .junk :: .junk :: .junk :: .junk :: .junk :: .junk :: .junk :: .junk :: .junk :: .junk :: .junk :: .junk :: .junk :: .junk :: []), [some (psC l n (nxK l lv i.1.k)), some (.cells [.ref 0 0]), some (.cells [.pv (.int .i64 lv)]), some (.cells [.pv (.int .i64 0), .pv (.int .i64 0), .pv (.str []), .pv (.int .i64 0), .pv (.int .i64 0), .snil]), some (.cells [.pv (.int .i64 i.1.e.op), .pv (.int .i64 i.1.e.value), .pv (.str i.1.e.name), .pv (.int .i64 i.1.e.slot), .pv (.int .i64 i.1.e.size), argA i.1.e.args])]⟩) (fun i => i.1.j) ⟨⟨m, e, k', hp'.2, hR⟩, Nat.le_refl _⟩ (WFe (by simp [kwf, ren_arg, sc_arg]) (by simp [kwf, ren_arg, sc_arg])) ?_
      rintro ⟨⟨j, e, k, hk, hi⟩, hj⟩
      replace hj : j ≤ m := hj
      cases j with
      | zero =>
        exfalso
        rw [← hi] at ho
        cases ho
      | succ j =>
        rw [exF_loop] at hi
        by_cases h0 : opF lv (peekF l k) = 0
        · have hnx : nxK l lv k = k := by unfold nxK; rw [if_pos h0]
          rw [if_pos h0] at hi
          subst hi
          (repeat' (first | simp -implicitDefEqProofs +contextual (maxSteps := 9000000) only [kx, ↓ky, tq199, simprocAttr, h0, hnx, kA] | (with_reducible first | refine SB.c (fun _ => ?_) (fun _ => ?_) | refine REG.i ?_ | refine PREG.i ?_ | exact REG.j | refine fun (_ : List AVal) => ?_) | with_reducible refine AndI ?_ | omega))
          (refine retQ.mk [0] ?_ ?_ <;> simp [kwr, tq199, exA, sc_arg, ren_arg])
        · have hnx : nxK l lv k = k + 1 := by unfold nxK; rw [if_neg h0]
          have hlt := opF_lt h0
          rw [if_neg h0] at hi
          generalize hop : opF lv (peekF l k) = op at *
          have h0' : ((op : Int) != 0) = true := by simp; omega
          have d := hB j (by omega) (lv + 1) (k + 1) (by omega) (by omega)
          have hpd := (exF_on (l := l) j (.bin (lv + 1)) (k + 1) (by omega)).2 rfl
          cases hr2 : exF l j (.bin (lv + 1)) (k + 1) with
          | out => rw [hr2] at hi; rw [← hi] at ho; cases ho
          | bad k2 =>
            rw [hr2] at d hi
            have d1 : AP _ _ _ _ _ _ _ := d rfl
            replace hi : PR.bad k2 = R := hi
            subst hi
            (repeat' (first | simp -implicitDefEqProofs +contextual (maxSteps := 9000000) only [kx, ↓ky, tq199, simprocAttr, h0', hnx, hwl, exA, kA, kz] | (with_reducible first | refine SB.c (fun _ => ?_) (fun _ => ?_) | refine REG.i ?_ | refine PREG.i ?_ | exact REG.j | refine fun (_ : List AVal) => ?_) | refine CK.dp [0] [] enters199 d1 ?_ | with_reducible refine AndI ?_ | omega))
            (refine panQ.mk [0] ?_ <;> simp [kwt])
          | ok e2 k2 =>
            rw [hr2] at d hi hpd
            have d1 : AC _ _ _ _ _ _ _ := d rfl
            replace hi : exF l j (.loop lv (exB op e e2)) k2 = R := hi
            have hp2 : k + 1 < k2 ∧ k2 ≤ l.length := hpd
            have dN := next_ac l n lv k2 (by omega)
            (repeat' (first | simp -implicitDefEqProofs +contextual (maxSteps := 9000000) only [kx, ↓ky, tq199, simprocAttr, h0', hnx, hwl, exA, kA, kz] | (with_reducible first | refine SB.c (fun _ => ?_) (fun _ => ?_) | refine REG.i ?_ | refine PREG.i ?_ | exact REG.j | refine fun (_ : List AVal) => ?_) | refine CK.dx [0] [] enters199 d1 ?_ | refine CK.dx [2,1,0] [] enters202 dN ?_ | with_reducible refine AndI ?_ | omega))
            exact ⟨⟨⟨j, exB op e e2, k2, hp2.2, hi⟩, by show j ≤ m; omega⟩, (WFe (by simp [kwf, exB, Ex.op, Ex.value, Ex.name, Ex.slot, Ex.size, Ex.args, arg_cons, encEx_eq]) (by simp [kwf, exB, Ex.op, Ex.value, Ex.name, Ex.slot, Ex.size, Ex.args, arg_cons, encEx_eq])), by show j < j + 1; omega⟩
end Go.Proofs.YtfinhhblcdkpgaaGreatDoor
