/- A part of the walk (Tryz_S5): its theorems have no condition beyond what they state. -/
import Derived.Test.YtopbicbgolcmpaaGreatDoorS1
import Derived.Test.YtopbicbgolcmpaaGreatDoorLib3
import Derived.Test.YtopbicbgolcmpaaGreatDoorN9
set_option linter.unusedSimpArgs false
set_option linter.unusedVariables false
set_option linter.defProp false
namespace Go.Proofs.YtopbicbgolcmpaaGreatDoor
open Go Go.Abs
set_option maxRecDepth 100000 in
theorem zero2_ac (e : Ex) : AC Tryz.prog gl 65 [exP e] [] (.pv (.bool (zeroEF e))) [] := by
  unfold exP
  refine body0 (fun _ => 0) 1 Tryz.func65 rfl Tryz.ntmps65 (by rw [Tryz.results65]) (by simp) ?_
  (repeat' (first | simp -implicitDefEqProofs +contextual (maxSteps := 9000000) only [kx, ↓ky, tq65, simprocAttr] | (with_reducible first | refine SB.c (fun _ => ?_) (fun _ => ?_) | refine REG.i ?_ | exact REG.j) | with_reducible refine AndI ?_ | omega))
  all_goals (simp only [zeroEF]; grind)
set_option maxRecDepth 100000 in
theorem operands_ac (n : Int) : AC Tryz.prog gl 93 [.pv (.int .i64 n)] [] (.pv (.int .i64 (arityF n))) [] := by
  refine body0 (fun _ => 0) 0 Tryz.func93 rfl Tryz.ntmps93 (by rw [Tryz.results93]) (by simp) ?_
  (repeat' (first | simp -implicitDefEqProofs +contextual (maxSteps := 9000000) only [kx, ↓ky, tq93, simprocAttr] | (with_reducible first | refine SB.c (fun _ => ?_) (fun _ => ?_) | refine REG.i ?_ | exact REG.j) | with_reducible refine AndI ?_ | omega))
  all_goals simp only [arityF]
  all_goals simp at *
  all_goals (repeat' split)
  all_goals omega
set_option maxRecDepth 100000 in
set_option maxHeartbeats 4000000 in
theorem good2_ac (n : Nat) : ∀ e : Ex, szE e ≤ n → n ≤ 1000000000 → AC Tryz.prog gl 64 [exP e] [] (.pv (.bool (goodEF e))) [] := by
  induction n with
  | zero => intro e h; have := szE_pos e; omega
  | succ n ih =>
    intro e hd hn
    have hsz := szE_eq e
    have hal := szEs_len e.args
    have hge := goodEF_eq e
    have cO := operands_ac e.op
    have cV := valid1_ac e.name
    unfold exP
    refine body0 (fun _ => 0) 1 Tryz.func64 rfl Tryz.ntmps64 (by rw [Tryz.results64]) (by simp) ?_
    (repeat' (first | simp -implicitDefEqProofs +contextual (maxSteps := 9000000) only [kx, ↓ky, tq64, simprocAttr] | (with_reducible first | refine SB.c (fun _ => ?_) (fun _ => ?_) | refine REG.i ?_ | exact REG.j) | refine CK.d0 enters93 cO ?_ | refine CK.d0 enters37 cV ?_ | ((with_reducible first | refine VX.sb (fun hb => ?_) (fun hb => ?_) | refine CK.sb (fun hb => ?_) (fun hb => ?_) | refine VX.sa (fun hb => ?_) (fun hb => ?_) | refine CK.sa (fun hb => ?_) (fun hb => ?_)) <;> simp only [hb]) | with_reducible refine AndI ?_ | omega))
    all_goals try (clear ih; rw [hge]; simp only [headEF, goodNameF]; grind)
    all_goals (
      have hh : goodEF e = goodEFs e.args := by
        clear ih
        have : headEF e.op e.value e.name e.slot e.size e.args.length = true := by (simp only [headEF, goodNameF]; grind)
        rw [hge, this, Bool.true_and]
      rw [hh]
      refine loopV (ι := {k : Nat // k ≤ e.args.length ∧ goodEFs e.args = goodEFs (e.args.drop k)}) (fun i => ⟨(.junk :: .ref 0 0 :: .junk :: .junk :: .pv (.int .i64 i.1) :: .junk :: .junk :: .junk :: .junk :: .junk :: .junk :: .junk :: .junk :: .junk :: .junk :: .junk :: .junk :: .junk :: .junk :: .junk :: .junk :: .junk :: .junk :: .junk :: .junk :: .junk :: .junk :: .junk :: .junk :: .junk :: .junk :: .junk :: .junk :: .junk :: .junk :: .junk :: .junk :: .junk :: .junk :: .junk :: .junk :: .junk :: .junk :: .junk :: .junk :: .junk :: .junk :: .junk :: .junk :: .junk :: .junk :: .junk :: .junk :: .junk :: .junk :: .junk :: .junk :: .junk :: .junk :: .junk :: .junk :: .junk :: .junk :: .junk :: .junk :: .junk :: .junk :: .junk :: .junk :: .junk :: .junk :: .junk :: .junk :: .junk :: .junk :: .junk :: .junk :: .junk :: .junk :: .junk :: .junk :: .junk :: []), [some (.cells [.pv (.int .i64 e.op), .pv (.int .i64 e.value), .pv (.str e.name), .pv (.int .i64 e.slot), .pv (.int .i64 e.size), .pv (.slice (e.args.map encEx))])]⟩) (fun i => e.args.length - i.1) ⟨0, by simp⟩ WFn ?_
      rintro ⟨k, hk, hkg⟩
      by_cases hlt : k < e.args.length
      · have hlt' : (k : Int) < e.args.length := by omega
        have hget := getD_map encEx e.args k hlt
        have hdx := szEs_mem e.args e.args[k] (List.getElem_mem hlt)
        rw [List.drop_eq_getElem_cons hlt, goodEFs] at hkg
        generalize hx : e.args[k] = x at *
        have hxe := encEx_eq x
        have hic := ih x (by omega) (by omega)
        have hw := wrapS k (by omega)
        cases hgx : goodEF x
        · rw [hgx, Bool.false_and] at hkg
          rw [hgx] at hic
          (repeat' (first | simp -implicitDefEqProofs +contextual (maxSteps := 9000000) only [kx, ↓ky, tq64, simprocAttr, hlt', hlt, hget, hxe, hkg] | (with_reducible first | refine SB.c (fun _ => ?_) (fun _ => ?_) | refine REG.i ?_ | exact REG.j) | refine CK.d0 enters64 hic ?_ | with_reducible refine AndI ?_ | omega))
        · rw [hgx, Bool.true_and] at hkg
          rw [hgx] at hic
          (repeat' (first | simp -implicitDefEqProofs +contextual (maxSteps := 9000000) only [kx, ↓ky, tq64, simprocAttr, hlt', hlt, hget, hxe, hw] | (with_reducible first | refine SB.c (fun _ => ?_) (fun _ => ?_) | refine REG.i ?_ | exact REG.j) | refine CK.d0 enters64 hic ?_ | with_reducible refine AndI ?_ | omega))
          exact ⟨⟨k + 1, by omega, hkg⟩, WFn, by show e.args.length - (k + 1) < e.args.length - k; omega⟩
      · have hlt' : ¬ (k : Int) < e.args.length := by omega
        rw [List.drop_eq_nil_of_le (by omega), goodEFs] at hkg
        (repeat' (first | simp -implicitDefEqProofs +contextual (maxSteps := 9000000) only [kx, ↓ky, tq64, simprocAttr, hlt', hkg] | (with_reducible first | refine SB.c (fun _ => ?_) (fun _ => ?_) | refine REG.i ?_ | exact REG.j) | with_reducible refine AndI ?_ | omega)))
set_option maxRecDepth 100000 in
set_option maxHeartbeats 8000000 in
theorem fine_of (l : List Sm) (hl : l.length ≤ 1000000000) (cE : ∀ s ∈ l, AC Tryz.prog gl 64 [exP s.place] [] (.pv (.bool (goodEF s.place))) [] ∧ AC Tryz.prog gl 64 [exP s.value] [] (.pv (.bool (goodEF s.value))) [])
    (cL : ∀ s ∈ l, AC Tryz.prog gl 38 [.pv (.slice (s.body.map encSm))] [] (.pv (.bool (goodSFs s.body))) [] ∧ AC Tryz.prog gl 38 [.pv (.slice (s.els.map encSm))] [] (.pv (.bool (goodSFs s.els))) []) :
    AC Tryz.prog gl 38 [.pv (.slice (l.map encSm))] [] (.pv (.bool (goodSFs l))) [] := by
  refine body0 (fun _ => 0) 1 Tryz.func38 rfl Tryz.ntmps38 (by rw [Tryz.results38]) (by simp) ?_
  (repeat' (first | simp -implicitDefEqProofs +contextual (maxSteps := 9000000) only [kx, ↓ky, tq38, simprocAttr] | (with_reducible first | refine SB.c (fun _ => ?_) (fun _ => ?_) | refine REG.i ?_ | exact REG.j) | with_reducible refine AndI ?_ | omega))
  refine loopV (ι := {k : Nat // k ≤ l.length ∧ goodSFs l = goodSFs (l.drop k)}) (fun i => ⟨(.pv (.slice (l.map encSm)) :: .junk :: .junk :: .pv (.int .i64 i.1) :: .junk :: .junk :: .junk :: .junk :: .junk :: .junk :: .junk :: .junk :: .junk :: .junk :: .junk :: .junk :: .junk :: .junk :: .junk :: .junk :: .junk :: .junk :: .junk :: .junk :: .junk :: .junk :: .junk :: .junk :: .junk :: .junk :: .junk :: .junk :: .junk :: .junk :: .junk :: .junk :: .junk :: .junk :: .junk :: .junk :: .junk :: .junk :: .junk :: .junk :: .junk :: .junk :: .junk :: .junk :: .junk :: .junk :: .junk :: .junk :: .junk :: .junk :: .junk :: .junk :: .junk :: .junk :: .junk :: .junk :: .junk :: .junk :: .junk :: .junk :: .junk :: .junk :: .junk :: .junk :: .junk :: .junk :: .junk :: .junk :: .junk :: .junk :: .junk :: .junk :: .junk :: .junk :: .junk :: .junk :: .junk :: .junk :: .junk :: .junk :: .junk :: .junk :: .junk :: .junk :: .junk :: .junk :: .junk :: .junk :: .junk :: .junk :: .junk :: .junk :: .junk :: .junk :: .junk :: .junk :: .junk :: .junk :: .junk :: .junk :: .junk :: .junk :: .junk :: .junk :: .junk :: .junk :: .junk :: .junk :: .junk :: .junk :: .junk :: .junk :: .junk :: .junk :: .junk :: .junk :: .junk :: .junk :: .junk :: .junk :: .junk :: .junk :: .junk :: .junk :: .junk :: .junk :: .junk :: .junk :: []), [none]⟩) (fun i => l.length - i.1) ⟨0, by simp⟩ WFn ?_
  rintro ⟨k, hk, hkg⟩
  by_cases hlt : k < l.length
  · have hlt' : (k : Int) < l.length := by omega
    have hget := getD_map encSm l k hlt
    have hmem : l[k] ∈ l := List.getElem_mem hlt
    rw [List.drop_eq_getElem_cons hlt, goodSFs] at hkg
    obtain ⟨cP, cV⟩ := cE l[k] hmem
    obtain ⟨cB, cN⟩ := cL l[k] hmem
    have cZ := zero2_ac l[k].place
    have cW := valid1_ac l[k].name
    clear cE cL
    generalize hx : l[k] = x at *
    have hxe := encSm_eq x
    have hgx := goodSF_eq x
    have hw := wrapS k (by omega)
    (repeat' (first | simp -implicitDefEqProofs +contextual (maxSteps := 9000000) only [kx, ↓ky, tq38, simprocAttr, hlt', hlt, hget, hxe, hw] | (with_reducible first | refine SB.c (fun _ => ?_) (fun _ => ?_) | refine REG.i ?_ | exact REG.j) | refine CK.d0 enters37 cW ?_ | refine CK.d0 enters64 cP ?_ | refine CK.d0 enters64 cV ?_ | refine CK.d0 enters65 cZ ?_ | refine CK.d0 enters38 cB ?_ | refine CK.d0 enters38 cN ?_ | ((with_reducible first | refine VX.sb (fun hb => ?_) (fun hb => ?_) | refine CK.sb (fun hb => ?_) (fun hb => ?_) | refine VX.sa (fun hb => ?_) (fun hb => ?_) | refine CK.sa (fun hb => ?_) (fun hb => ?_)) <;> simp only [hb]) | with_reducible refine AndI ?_ | omega))
    all_goals clear cP cV cB cN cZ cW
    all_goals try (
      have hz : goodSF x = false := by (rw [hgx]; simp only [headSF, goodNameF]; grind)
      rw [hkg, hz, Bool.false_and]
      done)
    all_goals (
      have hz : goodSF x = true := by (rw [hgx]; simp only [headSF, goodNameF]; grind)
      rw [hz, Bool.true_and] at hkg
      exact ⟨⟨k + 1, by omega, hkg⟩, WFn, by show l.length - (k + 1) < l.length - k; omega⟩)
  · have hlt' : ¬ (k : Int) < l.length := by omega
    rw [List.drop_eq_nil_of_le (by omega), goodSFs] at hkg
    (repeat' (first | simp -implicitDefEqProofs +contextual (maxSteps := 9000000) only [kx, ↓ky, tq38, simprocAttr, hlt', hkg] | (with_reducible first | refine SB.c (fun _ => ?_) (fun _ => ?_) | refine REG.i ?_ | exact REG.j) | with_reducible refine AndI ?_ | omega))
theorem fine_both (n : Nat) : n ≤ 1000000000 → ∀ l : List Sm, szSs l ≤ n → AC Tryz.prog gl 38 [.pv (.slice (l.map encSm))] [] (.pv (.bool (goodSFs l))) [] := by
  induction n with
  | zero => intro hn l hl; exact fine_of l (by have := szSs_len l; omega) (fun s hs => by have := szSs_mem l s hs; have := szS_pos s; omega) (fun s hs => by have := szSs_mem l s hs; have := szS_pos s; omega)
  | succ n ih =>
    intro hn l hl
    exact fine_of l (by have := szSs_len l; omega) (fun s hs => by
      have := szSs_mem l s hs; have := szS_eq s
      exact ⟨good2_ac n s.place (by omega) (by omega), good2_ac n s.value (by omega) (by omega)⟩) (fun s hs => by
      have := szSs_mem l s hs; have := szS_eq s; have := szE_pos s.place
      exact ⟨ih (by omega) s.body (by omega), ih (by omega) s.els (by omega)⟩)
theorem fine_ac (l : List Sm) (hl : szSs l ≤ 1000000000) : AC Tryz.prog gl 38 [.pv (.slice (l.map encSm))] [] (.pv (.bool (goodSFs l))) [] := fine_both _ (Nat.le_refl _) l hl
set_option maxRecDepth 100000 in
set_option maxHeartbeats 8000000 in
theorem check2_ac (p : PgD) (hp : szP p ≤ 1000000000) : AC Tryz.prog gl 18 [pgA p] [] (.pv (.int .i64 (checkF goodSFs p))) [] := by
  have hal : p.vars.length ≤ 1000000000 := by unfold szP at hp; omega
  have hd := rdepth_ac p hp
  have g1 := fine_ac p.start (by unfold szP at hp; omega)
  have g2 := fine_ac p.message (by unfold szP at hp; omega)
  have g3 := fine_ac p.tick (by unfold szP at hp; omega)
  have g4 := fine_ac p.input (by unfold szP at hp; omega)
  unfold pgA at hd ⊢
  unfold checkF
  by_cases h1 : depP p > 16
  · rw [if_pos h1]
    refine body0 (fun d => if d = 4 then 1 else 0) 2 Tryz.func18 rfl Tryz.ntmps18 (by rw [Tryz.results18]) (by simp) ?_
    (repeat' (first | simp -implicitDefEqProofs +contextual (maxSteps := 9000000) only [kx, ↓ky, tq18, simprocAttr, h1] | (with_reducible first | refine SB.c (fun _ => ?_) (fun _ => ?_) | refine REG.i ?_ | exact REG.j) | refine CK.d0 enters20 hd ?_ | with_reducible refine AndI ?_ | omega))
  rw [if_neg h1]
  refine body0 (fun d => if d = 4 then 1 else 0) 2 Tryz.func18 rfl Tryz.ntmps18 (by rw [Tryz.results18]) (by simp) ?_
  (repeat' (first | simp -implicitDefEqProofs +contextual (maxSteps := 9000000) only [kx, ↓ky, tq18, simprocAttr, h1] | (with_reducible first | refine SB.c (fun _ => ?_) (fun _ => ?_) | refine REG.i ?_ | exact REG.j) | refine CK.d0 enters20 hd ?_ | with_reducible refine AndI ?_ | omega))
  refine loopV (ι := {k : Nat // k ≤ p.vars.length ∧ p.vars.any (fun v => !goodVarF v) = (p.vars.drop k).any (fun v => !goodVarF v)}) (fun i => ⟨(.junk :: .ref 0 0 :: .junk :: .pv (.int .i64 i.1) :: .junk :: .junk :: .junk :: .junk :: .junk :: .junk :: .junk :: .junk :: .junk :: .junk :: .junk :: .junk :: .junk :: .junk :: .junk :: .junk :: .junk :: .junk :: .junk :: .junk :: .junk :: .junk :: .junk :: .junk :: .junk :: .junk :: .junk :: .junk :: .junk :: .junk :: .junk :: .junk :: .junk :: .junk :: .junk :: .junk :: .junk :: .junk :: .junk :: .junk :: .junk :: .junk :: .junk :: .junk :: .junk :: .junk :: .junk :: .junk :: .junk :: .junk :: .junk :: .junk :: .junk :: .junk :: .junk :: .junk :: .junk :: .junk :: .junk :: .junk :: .junk :: .junk :: []), [some (.cells [.pv (.slice (p.vars.map encVar)), .pv (.slice (p.start.map encSm)), .pv (.slice (p.message.map encSm)), .pv (.slice (p.tick.map encSm)), .pv (.slice (p.input.map encSm))]), none]⟩) (fun i => p.vars.length - i.1) ⟨0, by simp⟩ WFn ?_
  rintro ⟨k, hk, hany⟩
  by_cases hlt : k < p.vars.length
  · have hlt' : (k : Int) < p.vars.length := by omega
    have hget := getD_map encVar p.vars k hlt
    rw [List.drop_eq_getElem_cons hlt, List.any_cons] at hany
    have hc := valid1_ac p.vars[k].name
    generalize p.vars[k] = x at *
    have hw := wrapS k (by omega)
    have hxe : encVar x = [.str x.name, .int .i64 x.size, .int .i64 x.init] := rfl
    have hgx : goodVarF x = goodVarF x := rfl
    conv at hgx => rhs; unfold goodVarF
    (repeat' (first | simp -implicitDefEqProofs +contextual (maxSteps := 9000000) only [kx, ↓ky, tq18, simprocAttr, hlt', hlt, hget, hxe, hw] | (with_reducible first | refine SB.c (fun _ => ?_) (fun _ => ?_) | refine REG.i ?_ | exact REG.j) | refine CK.d0 enters37 hc ?_ | ((with_reducible first | refine VX.sb (fun hb => ?_) (fun hb => ?_) | refine CK.sb (fun hb => ?_) (fun hb => ?_) | refine VX.sa (fun hb => ?_) (fun hb => ?_) | refine CK.sa (fun hb => ?_) (fun hb => ?_)) <;> simp only [hb]) | with_reducible refine AndI ?_ | omega))
    all_goals try (
      have hz : goodVarF x = false := by (rw [hgx]; grind)
      rw [hany, hz, Bool.not_false, Bool.true_or, if_pos rfl]
      done)
    all_goals (
      have hz : goodVarF x = true := by (rw [hgx]; grind)
      rw [hz, Bool.not_true, Bool.false_or] at hany
      exact ⟨⟨k + 1, by omega, hany⟩, WFn, by show p.vars.length - (k + 1) < p.vars.length - k; omega⟩)
  · have hlt' : ¬ (k : Int) < p.vars.length := by omega
    rw [List.drop_eq_nil_of_le (by omega), List.any_nil] at hany
    (repeat' (first | simp -implicitDefEqProofs +contextual (maxSteps := 9000000) only [kx, ↓ky, tq18, simprocAttr, hlt', hany] | (with_reducible first | refine SB.c (fun _ => ?_) (fun _ => ?_) | refine REG.i ?_ | exact REG.j) | refine CK.d0 enters38 g1 ?_ | refine CK.d0 enters38 g2 ?_ | refine CK.d0 enters38 g3 ?_ | refine CK.d0 enters38 g4 ?_ | with_reducible refine AndI ?_ | omega))
    all_goals grind
end Go.Proofs.YtopbicbgolcmpaaGreatDoor
