/- A part of the walk (Tryz_S5): its theorems have no condition beyond what they state. -/
import Derived.Test.YtfinhhblcdkpgaaGreatDoorS1
import Derived.Test.YtfinhhblcdkpgaaGreatDoorLib4
import Derived.Test.YtfinhhblcdkpgaaGreatDoorN9
set_option linter.unusedSimpArgs false
set_option linter.unusedVariables false
set_option linter.defProp false
namespace Go.Proofs.YtfinhhblcdkpgaaGreatDoor
open Go Go.Abs
set_option maxRecDepth 100000 in
theorem goodName_ac (s : List UInt8) (m : Bool) : AC Tryz.prog gl 129 [.pv (.str s), .pv (.bool m)] [] (.pv (.bool (goodNameF s m))) [] := by
  have cV := valid_ac s
  refine body0 (fun _ => 0) 0 Tryz.func129 rfl Tryz.ntmps129 (by rw [Tryz.results129]) (by simp) ?_
  cases m
  all_goals (repeat' (first | simp -implicitDefEqProofs +contextual (maxSteps := 9000000) only [kx, ↓ky, tq129, simprocAttr] | (with_reducible first | refine SB.c (fun _ => ?_) (fun _ => ?_) | refine REG.i ?_ | exact REG.j) | refine CK.d0 enters92 cV ?_ | with_reducible refine AndI ?_ | omega))
  all_goals simp [goodNameF]
set_option maxRecDepth 100000 in
theorem arity_ac (n : Int) : AC Tryz.prog gl 166 [.pv (.int .i64 n)] [] (.pv (.int .i64 (arityF n))) [] := by
  refine body0 (fun _ => 0) 0 Tryz.func166 rfl Tryz.ntmps166 (by rw [Tryz.results166]) (by simp) ?_
  (repeat' (first | simp -implicitDefEqProofs +contextual (maxSteps := 9000000) only [kx, ↓ky, tq166, simprocAttr] | (with_reducible first | refine SB.c (fun _ => ?_) (fun _ => ?_) | refine REG.i ?_ | exact REG.j) | with_reducible refine AndI ?_ | omega))
  all_goals (simp only [arityF]; grind)
set_option maxRecDepth 100000 in
theorem zeroExpr_ac (e : Ex) : AC Tryz.prog gl 131 [.pv (.ptr (encEx e))] [] (.pv (.bool (zeroEF e))) [] := by
  rw [encEx_eq]
  refine body0 (fun _ => 0) 0 Tryz.func131 rfl Tryz.ntmps131 (by rw [Tryz.results131]) (by simp) ?_
  (repeat' (first | simp -implicitDefEqProofs +contextual (maxSteps := 9000000) only [kx, ↓ky, tq131, simprocAttr] | (with_reducible first | refine SB.c (fun _ => ?_) (fun _ => ?_) | refine REG.i ?_ | exact REG.j) | with_reducible refine AndI ?_ | omega))
  all_goals (simp only [zeroEF]; grind)
set_option maxRecDepth 100000 in
set_option maxHeartbeats 4000000 in
theorem goodExpr_ac (n : Nat) : ∀ e : Ex, szE e ≤ n → n ≤ 1000000000 → AC Tryz.prog gl 130 [.pv (.ptr (encEx e))] [] (.pv (.bool (goodEF e))) [] := by
  induction n with
  | zero => intro e h; have := szE_pos e; omega
  | succ n ih =>
    intro e hd hn
    have hsz := szE_eq e
    have hal := szEs_len e.args
    have he := encEx_eq e
    have hge := goodEF_eq e
    have cA := arity_ac e.op
    rw [he]
    refine body0 (fun _ => 0) 0 Tryz.func130 rfl Tryz.ntmps130 (by rw [Tryz.results130]) (by simp) ?_
    (repeat' (first | simp -implicitDefEqProofs +contextual (maxSteps := 9000000) only [kx, ↓ky, tq130, simprocAttr] | (with_reducible first | refine SB.c (fun _ => ?_) (fun _ => ?_) | refine REG.i ?_ | exact REG.j) | refine CK.d0 enters166 cA ?_ | refine CK.d0 enters129 (goodName_ac _ _) ?_ | ((with_reducible first | refine VX.sb (fun hb => ?_) (fun hb => ?_) | refine CK.sb (fun hb => ?_) (fun hb => ?_) | refine VX.sa (fun hb => ?_) (fun hb => ?_) | refine CK.sa (fun hb => ?_) (fun hb => ?_)) <;> simp only [hb]) | with_reducible refine AndI ?_ | omega))
    all_goals try (clear ih; rw [hge]; simp only [headEF]; grind)
    all_goals (
      have hh : goodEF e = goodEFs e.args := by
        clear ih
        have : headEF e.op e.value e.name e.slot e.size e.args.length = true := by (simp only [headEF]; grind)
        rw [hge, this, Bool.true_and]
      rw [hh]
      refine loopV (ι := {k : Nat // k ≤ e.args.length ∧ goodEFs e.args = goodEFs (e.args.drop k)}) (fun i => ⟨(.pv (.ptr [.int .i64 e.op, .int .i64 e.value, .str e.name, .int .i64 e.slot, .int .i64 e.size, .slice (e.args.map encEx)]) :: .junk :: .pv (.bool false) :: .junk :: .junk :: .junk :: .junk :: .junk :: .junk :: .junk :: .junk :: .junk :: .junk :: .junk :: .junk :: .junk :: .junk :: .junk :: .junk :: .junk :: .junk :: .junk :: .junk :: .junk :: .junk :: .junk :: .junk :: .junk :: .junk :: .junk :: .junk :: .junk :: .junk :: .junk :: .junk :: .junk :: .junk :: .junk :: .junk :: .junk :: .junk :: .junk :: .junk :: .junk :: .junk :: .junk :: .junk :: .junk :: .junk :: .junk :: .junk :: .junk :: .junk :: .junk :: .junk :: .junk :: .junk :: .junk :: .junk :: .junk :: .junk :: .junk :: .junk :: .junk :: .junk :: .junk :: .junk :: .junk :: .junk :: .junk :: .pv (.int .i64 e.args.length) :: .pv (.int .i64 i.1) :: .junk :: .junk :: .junk :: .junk :: .junk :: .junk :: .junk :: .junk :: .junk :: .junk :: .junk :: []), []⟩) (fun i => e.args.length - i.1) ⟨0, by simp⟩ WFn ?_
      rintro ⟨k, hk, hkg⟩
      by_cases hlt : k < e.args.length
      · have hlt' : (k : Int) < e.args.length := by omega
        have hget := getD_map encEx e.args k hlt
        have hmem : e.args[k] ∈ e.args := List.getElem_mem hlt
        have hdx := szEs_mem e.args e.args[k] hmem
        rw [List.drop_eq_getElem_cons hlt, goodEFs] at hkg
        generalize hx : e.args[k] = x at *
        have hlen := encEx_length x
        have hw := wrapS k (by omega)
        have hc := ih x (by omega) (by omega)
        cases hgx : goodEF x
        · rw [hgx, Bool.false_and] at hkg
          rw [hgx] at hc
          (repeat' (first | simp -implicitDefEqProofs +contextual (maxSteps := 9000000) only [kx, ↓ky, tq130, simprocAttr, hlt', hlt, hget, hlen, hkg] | (with_reducible first | refine SB.c (fun _ => ?_) (fun _ => ?_) | refine REG.i ?_ | exact REG.j) | refine CK.d0 enters130 hc ?_ | with_reducible refine AndI ?_ | omega))
        · rw [hgx, Bool.true_and] at hkg
          rw [hgx] at hc
          (repeat' (first | simp -implicitDefEqProofs +contextual (maxSteps := 9000000) only [kx, ↓ky, tq130, simprocAttr, hlt', hlt, hget, hlen, hw] | (with_reducible first | refine SB.c (fun _ => ?_) (fun _ => ?_) | refine REG.i ?_ | exact REG.j) | refine CK.d0 enters130 hc ?_ | with_reducible refine AndI ?_ | omega))
          exact ⟨⟨k + 1, by omega, hkg⟩, WFn, by show e.args.length - (k + 1) < e.args.length - k; omega⟩
      · have hlt' : ¬ (k : Int) < e.args.length := by omega
        rw [List.drop_eq_nil_of_le (by omega), goodEFs] at hkg
        (repeat' (first | simp -implicitDefEqProofs +contextual (maxSteps := 9000000) only [kx, ↓ky, tq130, simprocAttr, hlt', hkg] | (with_reducible first | refine SB.c (fun _ => ?_) (fun _ => ?_) | refine REG.i ?_ | exact REG.j) | with_reducible refine AndI ?_ | omega)))
set_option maxRecDepth 100000 in
set_option maxHeartbeats 4000000 in
theorem goodStmt_of (n : Nat) (hn : n ≤ 1000000000) (ihl : ∀ l : List Sm, szSs l ≤ n → AC Tryz.prog gl 66 [.pv (.slice (l.map encSm))] [] (.pv (.bool (goodSFs l))) []) (s : Sm) (hs : szS s ≤ n + 1) : AC Tryz.prog gl 93 [.pv (.ptr (encSm s))] [] (.pv (.bool (goodSF s))) [] := by
  have hsz := szS_eq s
  have h1 := szE_pos s.place
  have h2 := szE_pos s.value
  have hcP := goodExpr_ac n s.place (by omega) hn
  have hcV := goodExpr_ac n s.value (by omega) hn
  have hcZ := zeroExpr_ac s.place
  have hcB := ihl s.body (by omega)
  have hcE := ihl s.els (by omega)
  have hge := goodSF_eq s
  rw [encEx_eq] at hcP hcV hcZ
  rw [encSm_eq]
  refine body0 (fun _ => 0) 0 Tryz.func93 rfl Tryz.ntmps93 (by rw [Tryz.results93]) (by simp) ?_
  (repeat' (first | simp -implicitDefEqProofs +contextual (maxSteps := 9000000) only [kx, ↓ky, tq93, simprocAttr] | (with_reducible first | refine SB.c (fun _ => ?_) (fun _ => ?_) | refine REG.i ?_ | exact REG.j) | refine CK.d0 enters129 (goodName_ac _ _) ?_ | refine CK.d0 enters130 hcP ?_ | refine CK.d0 enters130 hcV ?_ | refine CK.d0 enters131 hcZ ?_ | refine CK.d0 enters66 hcB ?_ | refine CK.d0 enters66 hcE ?_ | ((with_reducible first | refine VX.sb (fun hb => ?_) (fun hb => ?_) | refine CK.sb (fun hb => ?_) (fun hb => ?_) | refine VX.sa (fun hb => ?_) (fun hb => ?_) | refine CK.sa (fun hb => ?_) (fun hb => ?_)) <;> simp only [hb]) | with_reducible refine AndI ?_ | omega))
  all_goals clear ihl hcP hcV hcZ hcB hcE
  all_goals (rw [hge]; simp only [headSF]; grind)
set_option maxRecDepth 100000 in
theorem goodList_of (l : List Sm) (hl : l.length ≤ 1000000000) (ihs : ∀ s : Sm, s ∈ l → AC Tryz.prog gl 93 [.pv (.ptr (encSm s))] [] (.pv (.bool (goodSF s))) []) : AC Tryz.prog gl 66 [.pv (.slice (l.map encSm))] [] (.pv (.bool (goodSFs l))) [] := by
  refine body0 (fun _ => 0) 0 Tryz.func66 rfl Tryz.ntmps66 (by rw [Tryz.results66]) (by simp) ?_
  (repeat' (first | simp -implicitDefEqProofs +contextual (maxSteps := 9000000) only [kx, ↓ky, tq66, simprocAttr] | (with_reducible first | refine SB.c (fun _ => ?_) (fun _ => ?_) | refine REG.i ?_ | exact REG.j) | with_reducible refine AndI ?_ | omega))
  refine loopV (ι := {k : Nat // k ≤ l.length ∧ goodSFs l = goodSFs (l.drop k)}) (fun i => ⟨[.pv (.slice (l.map encSm)), .junk, .pv (.bool false), .junk, .junk, .pv (.int .i64 l.length), .pv (.int .i64 i.1), .junk, .junk, .junk, .junk, .junk, .junk, .junk, .junk], []⟩) (fun i => l.length - i.1) ⟨0, by simp⟩ WFn ?_
  rintro ⟨k, hk, hkg⟩
  by_cases hlt : k < l.length
  · have hlt' : (k : Int) < l.length := by omega
    have hget := getD_map encSm l k hlt
    have hmem : l[k] ∈ l := List.getElem_mem hlt
    rw [List.drop_eq_getElem_cons hlt, goodSFs] at hkg
    have hc := ihs l[k] hmem
    generalize hx : l[k] = x at *
    have hlen := encSm_length x
    have hw := wrapS k (by omega)
    cases hgx : goodSF x
    · rw [hgx, Bool.false_and] at hkg
      rw [hgx] at hc
      (repeat' (first | simp -implicitDefEqProofs +contextual (maxSteps := 9000000) only [kx, ↓ky, tq66, simprocAttr, hlt', hlt, hget, hlen, hkg] | (with_reducible first | refine SB.c (fun _ => ?_) (fun _ => ?_) | refine REG.i ?_ | exact REG.j) | refine CK.d0 enters93 hc ?_ | with_reducible refine AndI ?_ | omega))
    · rw [hgx, Bool.true_and] at hkg
      rw [hgx] at hc
      (repeat' (first | simp -implicitDefEqProofs +contextual (maxSteps := 9000000) only [kx, ↓ky, tq66, simprocAttr, hlt', hlt, hget, hlen, hw] | (with_reducible first | refine SB.c (fun _ => ?_) (fun _ => ?_) | refine REG.i ?_ | exact REG.j) | refine CK.d0 enters93 hc ?_ | with_reducible refine AndI ?_ | omega))
      exact ⟨⟨k + 1, by omega, hkg⟩, WFn, by show l.length - (k + 1) < l.length - k; omega⟩
  · have hlt' : ¬ (k : Int) < l.length := by omega
    rw [List.drop_eq_nil_of_le (by omega), goodSFs] at hkg
    (repeat' (first | simp -implicitDefEqProofs +contextual (maxSteps := 9000000) only [kx, ↓ky, tq66, simprocAttr, hlt', hkg] | (with_reducible first | refine SB.c (fun _ => ?_) (fun _ => ?_) | refine REG.i ?_ | exact REG.j) | with_reducible refine AndI ?_ | omega))
theorem goodList_both (n : Nat) : n ≤ 1000000000 → ∀ l : List Sm, szSs l ≤ n → AC Tryz.prog gl 66 [.pv (.slice (l.map encSm))] [] (.pv (.bool (goodSFs l))) [] := by
  induction n with
  | zero => intro hn l hl; exact goodList_of l (by have := szSs_len l; omega) (fun s hs => by have := szSs_mem l s hs; have := szS_pos s; omega)
  | succ n ih =>
    intro hn l hl
    exact goodList_of l (by have := szSs_len l; omega) (fun s hs => goodStmt_of n (by omega) (ih (by omega)) s (by have := szSs_mem l s hs; omega))
theorem goodList_ac (l : List Sm) (hl : szSs l ≤ 1000000000) : AC Tryz.prog gl 66 [.pv (.slice (l.map encSm))] [] (.pv (.bool (goodSFs l))) [] := goodList_both _ (Nat.le_refl _) l hl
set_option maxRecDepth 100000 in
theorem goodVar_ac (v : VarD) : AC Tryz.prog gl 65 [.agg [.pv (.str v.name), .pv (.int .i64 v.size), .pv (.int .i64 v.init)]] [] (.pv (.bool (goodVarF v))) [] := by
  have cV := valid_ac v.name
  refine body0 (fun _ => 0) 1 Tryz.func65 rfl Tryz.ntmps65 (by rw [Tryz.results65]) (by simp) ?_
  (repeat' (first | simp -implicitDefEqProofs +contextual (maxSteps := 9000000) only [kx, ↓ky, tq65, simprocAttr] | (with_reducible first | refine SB.c (fun _ => ?_) (fun _ => ?_) | refine REG.i ?_ | exact REG.j) | refine CK.d0 enters92 cV ?_ | ((with_reducible first | refine VX.sb (fun hb => ?_) (fun hb => ?_) | refine CK.sb (fun hb => ?_) (fun hb => ?_) | refine VX.sa (fun hb => ?_) (fun hb => ?_) | refine CK.sa (fun hb => ?_) (fun hb => ?_)) <;> simp only [hb]) | with_reducible refine AndI ?_ | omega))
  all_goals (simp only [goodVarF]; grind)
set_option maxRecDepth 100000 in
set_option maxHeartbeats 4000000 in
theorem check_ac (p : PgD) (hp : szP p ≤ 1000000000) : AC Tryz.prog gl 42 [pgA p] [] (.pv (.int .i64 (checkF goodSFs p))) [] := by
  have hal : p.vars.length ≤ 1000000000 := by unfold szP at hp; omega
  have hd := depth_ac p hp
  have g1 := goodList_ac p.start (by unfold szP at hp; omega)
  have g2 := goodList_ac p.message (by unfold szP at hp; omega)
  have g3 := goodList_ac p.tick (by unfold szP at hp; omega)
  have g4 := goodList_ac p.input (by unfold szP at hp; omega)
  unfold pgA at hd ⊢
  unfold checkF
  by_cases h1 : depP p > 16
  · rw [if_pos h1]
    refine body0 (fun d => if d = 4 then 1 else 0) 2 Tryz.func42 rfl Tryz.ntmps42 (by rw [Tryz.results42]) (by simp) ?_
    (repeat' (first | simp -implicitDefEqProofs +contextual (maxSteps := 9000000) only [kx, ↓ky, tq42, simprocAttr, h1] | (with_reducible first | refine SB.c (fun _ => ?_) (fun _ => ?_) | refine REG.i ?_ | exact REG.j) | refine CK.d0 enters64 hd ?_ | with_reducible refine AndI ?_ | omega))
  rw [if_neg h1]
  refine body0 (fun d => if d = 4 then 1 else 0) 2 Tryz.func42 rfl Tryz.ntmps42 (by rw [Tryz.results42]) (by simp) ?_
  (repeat' (first | simp -implicitDefEqProofs +contextual (maxSteps := 9000000) only [kx, ↓ky, tq42, simprocAttr, h1] | (with_reducible first | refine SB.c (fun _ => ?_) (fun _ => ?_) | refine REG.i ?_ | exact REG.j) | refine CK.d0 enters64 hd ?_ | with_reducible refine AndI ?_ | omega))
  refine loopV (ι := {k : Nat // k ≤ p.vars.length ∧ p.vars.any (fun v => !goodVarF v) = (p.vars.drop k).any (fun v => !goodVarF v)}) (fun i => ⟨(.junk :: .ref 0 0 :: .junk :: .junk :: .junk :: .junk :: .junk :: .junk :: .junk :: .pv (.slice (p.vars.map encVar)) :: .pv (.int .i64 p.vars.length) :: .pv (.int .i64 i.1) :: .junk :: .junk :: .junk :: .junk :: .junk :: .junk :: .junk :: .junk :: .junk :: .junk :: .junk :: .junk :: .junk :: .junk :: .junk :: .junk :: .junk :: .junk :: .junk :: .junk :: .junk :: .junk :: .junk :: .junk :: .junk :: .junk :: .junk :: .junk :: .junk :: []), [some (.cells [.pv (.slice (p.vars.map encVar)), .pv (.slice (p.start.map encSm)), .pv (.slice (p.message.map encSm)), .pv (.slice (p.tick.map encSm)), .pv (.slice (p.input.map encSm))]), none]⟩) (fun i => p.vars.length - i.1) ⟨0, by simp⟩ WFn ?_
  rintro ⟨k, hk, hany⟩
  by_cases hlt : k < p.vars.length
  · have hlt' : (k : Int) < p.vars.length := by omega
    have hget := getD_map encVar p.vars k hlt
    rw [List.drop_eq_getElem_cons hlt, List.any_cons] at hany
    have hc := goodVar_ac p.vars[k]
    generalize p.vars[k] = x at *
    have hw := wrapS k (by omega)
    have hxe : encVar x = [.str x.name, .int .i64 x.size, .int .i64 x.init] := rfl
    cases hgv : goodVarF x
    · rw [hgv, Bool.not_false, Bool.true_or] at hany
      rw [hgv] at hc
      (repeat' (first | simp -implicitDefEqProofs +contextual (maxSteps := 9000000) only [kx, ↓ky, tq42, simprocAttr, hlt', hlt, hget, hxe, hany] | (with_reducible first | refine SB.c (fun _ => ?_) (fun _ => ?_) | refine REG.i ?_ | exact REG.j) | refine CK.d0 enters65 hc ?_ | with_reducible refine AndI ?_ | omega))
    · rw [hgv, Bool.not_true, Bool.false_or] at hany
      rw [hgv] at hc
      (repeat' (first | simp -implicitDefEqProofs +contextual (maxSteps := 9000000) only [kx, ↓ky, tq42, simprocAttr, hlt', hlt, hget, hxe, hw] | (with_reducible first | refine SB.c (fun _ => ?_) (fun _ => ?_) | refine REG.i ?_ | exact REG.j) | refine CK.d0 enters65 hc ?_ | with_reducible refine AndI ?_ | omega))
      exact ⟨⟨k + 1, by omega, hany⟩, WFn, by show p.vars.length - (k + 1) < p.vars.length - k; omega⟩
  · have hlt' : ¬ (k : Int) < p.vars.length := by omega
    rw [List.drop_eq_nil_of_le (by omega), List.any_nil] at hany
    (repeat' (first | simp -implicitDefEqProofs +contextual (maxSteps := 9000000) only [kx, ↓ky, tq42, simprocAttr, hlt', hany] | (with_reducible first | refine SB.c (fun _ => ?_) (fun _ => ?_) | refine REG.i ?_ | exact REG.j) | refine CK.d0 enters66 g1 ?_ | refine CK.d0 enters66 g2 ?_ | refine CK.d0 enters66 g3 ?_ | refine CK.d0 enters66 g4 ?_ | with_reducible refine AndI ?_ | omega))
    all_goals grind
end Go.Proofs.YtfinhhblcdkpgaaGreatDoor
