/- A part of the walk (Tryz_S2): its theorems have no condition beyond what they state. -/
import Derived.Test.YtopbicbgolcmpaaGreatDoorS1
set_option linter.unusedSimpArgs false
set_option linter.unusedVariables false
set_option linter.defProp false
namespace Go.Proofs.YtopbicbgolcmpaaGreatDoor
open Go Go.Abs
set_option maxRecDepth 100000 in
set_option maxHeartbeats 8000000 in
theorem sameE_ac (n : Nat) : ∀ e : Ex, szE e ≤ n → n ≤ 1000000000 → AC Tryz.prog gl 50 [exP e, exP e] [] (.pv (.bool true)) [] := by
  induction n with
  | zero => intro e h; have := szE_pos e; omega
  | succ n ih =>
    intro e hd hn
    have hsz := szE_eq e
    have hal := szEs_len e.args
    unfold exP
    refine body0 (fun d => if d = 2 then 0 else 1) 2 Tryz.func50 rfl Tryz.ntmps50 (by rw [Tryz.results50]) (by simp) ?_
    (repeat' (first | simp -implicitDefEqProofs +contextual (maxSteps := 9000000) only [kx, ↓ky, tq50, simprocAttr, bne_self_eq_false] | (with_reducible first | refine SB.c (fun _ => ?_) (fun _ => ?_) | refine REG.i ?_ | exact REG.j) | with_reducible refine AndI ?_ | omega))
    refine loopV (ι := {k : Nat // k ≤ e.args.length}) (fun i => ⟨(.junk :: .junk :: .ref 0 0 :: .ref 1 0 :: .junk :: .pv (.int .i64 i.1) :: .junk :: .junk :: .junk :: .junk :: .junk :: .junk :: .junk :: .junk :: .junk :: .junk :: .junk :: .junk :: .junk :: .junk :: .junk :: .junk :: .junk :: .junk :: .junk :: .junk :: .junk :: .junk :: .junk :: .junk :: .junk :: .junk :: .junk :: .junk :: .junk :: .junk :: .junk :: .junk :: .junk :: .junk :: .junk :: .junk :: .junk :: .junk :: .junk :: .junk :: .junk :: .junk :: .junk :: .junk :: .junk :: .junk :: .junk :: .junk :: .junk :: .junk :: .junk :: .junk :: .junk :: .junk :: .junk :: .junk :: .junk :: .junk :: .junk :: .junk :: .junk :: []), [some (.cells [.pv (.int .i64 e.op), .pv (.int .i64 e.value), .pv (.str e.name), .pv (.int .i64 e.slot), .pv (.int .i64 e.size), .pv (.slice (e.args.map encEx))]), some (.cells [.pv (.int .i64 e.op), .pv (.int .i64 e.value), .pv (.str e.name), .pv (.int .i64 e.slot), .pv (.int .i64 e.size), .pv (.slice (e.args.map encEx))])]⟩) (fun i => e.args.length - i.1) ⟨0, by simp⟩ WFn ?_
    rintro ⟨k, hk⟩
    by_cases hlt : k < e.args.length
    · have hlt' : (k : Int) < e.args.length := by omega
      have hget := getD_map encEx e.args k hlt
      have hdx := szEs_mem e.args e.args[k] (List.getElem_mem hlt)
      generalize hx : e.args[k] = x at *
      have hxe := encEx_eq x
      have hic := ih x (by omega) (by omega)
      have hw := wrapS k (by omega)
      (repeat' (first | simp -implicitDefEqProofs +contextual (maxSteps := 9000000) only [kx, ↓ky, tq50, simprocAttr, hlt', hlt, hget, hxe, hw] | (with_reducible first | refine SB.c (fun _ => ?_) (fun _ => ?_) | refine REG.i ?_ | exact REG.j) | refine CK.d0 enters50 hic ?_ | with_reducible refine AndI ?_ | omega))
      exact ⟨⟨k + 1, by omega⟩, WFn, by show e.args.length - (k + 1) < e.args.length - k; omega⟩
    · have hlt' : ¬ (k : Int) < e.args.length := by omega
      (repeat' (first | simp -implicitDefEqProofs +contextual (maxSteps := 9000000) only [kx, ↓ky, tq50, simprocAttr, hlt'] | (with_reducible first | refine SB.c (fun _ => ?_) (fun _ => ?_) | refine REG.i ?_ | exact REG.j) | with_reducible refine AndI ?_ | omega))
set_option maxRecDepth 100000 in
set_option maxHeartbeats 8000000 in
theorem sameS_of (l : List Sm) (hl : l.length ≤ 1000000000) (cE : ∀ s ∈ l, AC Tryz.prog gl 50 [exP s.place, exP s.place] [] (.pv (.bool true)) [] ∧ AC Tryz.prog gl 50 [exP s.value, exP s.value] [] (.pv (.bool true)) [])
    (cL : ∀ s ∈ l, AC Tryz.prog gl 24 [.pv (.slice (s.body.map encSm)), .pv (.slice (s.body.map encSm))] [] (.pv (.bool true)) [] ∧ AC Tryz.prog gl 24 [.pv (.slice (s.els.map encSm)), .pv (.slice (s.els.map encSm))] [] (.pv (.bool true)) []) :
    AC Tryz.prog gl 24 [.pv (.slice (l.map encSm)), .pv (.slice (l.map encSm))] [] (.pv (.bool true)) [] := by
  refine body0 (fun d => if d = 6 then 0 else 1) 2 Tryz.func24 rfl Tryz.ntmps24 (by rw [Tryz.results24]) (by simp) ?_
  (repeat' (first | simp -implicitDefEqProofs +contextual (maxSteps := 9000000) only [kx, ↓ky, tq24, simprocAttr, bne_self_eq_false] | (with_reducible first | refine SB.c (fun _ => ?_) (fun _ => ?_) | refine REG.i ?_ | exact REG.j) | with_reducible refine AndI ?_ | omega))
  refine loopV (ι := {k : Nat // k ≤ l.length}) (fun i => ⟨(.pv (.slice (l.map encSm)) :: .pv (.slice (l.map encSm)) :: .junk :: .junk :: .junk :: .pv (.int .i64 i.1) :: .junk :: .junk :: .junk :: .junk :: .junk :: .junk :: .junk :: .junk :: .junk :: .junk :: .junk :: .junk :: .junk :: .junk :: .junk :: .junk :: .junk :: .junk :: .junk :: .junk :: .junk :: .junk :: .junk :: .junk :: .junk :: .junk :: .junk :: .junk :: .junk :: .junk :: .junk :: .junk :: .junk :: .junk :: .junk :: .junk :: .junk :: .junk :: .junk :: .junk :: .junk :: .junk :: .junk :: .junk :: .junk :: .junk :: .junk :: .junk :: .junk :: .junk :: .junk :: .junk :: .junk :: .junk :: .junk :: .junk :: .junk :: .junk :: .junk :: .junk :: .junk :: .junk :: .junk :: .junk :: .junk :: .junk :: .junk :: .junk :: .junk :: .junk :: .junk :: .junk :: .junk :: .junk :: .junk :: .junk :: .junk :: .junk :: .junk :: []), [none, none]⟩) (fun i => l.length - i.1) ⟨0, by simp⟩ WFn ?_
  rintro ⟨k, hk⟩
  by_cases hlt : k < l.length
  · have hlt' : (k : Int) < l.length := by omega
    have hget := getD_map encSm l k hlt
    have hmem : l[k] ∈ l := List.getElem_mem hlt
    obtain ⟨cP, cV⟩ := cE l[k] hmem
    obtain ⟨cB, cN⟩ := cL l[k] hmem
    clear cE cL
    generalize hx : l[k] = x at *
    have hxe := encSm_eq x
    have hw := wrapS k (by omega)
    (repeat' (first | simp -implicitDefEqProofs +contextual (maxSteps := 9000000) only [kx, ↓ky, tq24, simprocAttr, bne_self_eq_false, hlt', hlt, hget, hxe, hw] | (with_reducible first | refine SB.c (fun _ => ?_) (fun _ => ?_) | refine REG.i ?_ | exact REG.j) | refine CK.d0 enters50 cP ?_ | refine CK.d0 enters50 cV ?_ | refine CK.d0 enters24 cB ?_ | refine CK.d0 enters24 cN ?_ | with_reducible refine AndI ?_ | omega))
    exact ⟨⟨k + 1, by omega⟩, WFn, by show l.length - (k + 1) < l.length - k; omega⟩
  · have hlt' : ¬ (k : Int) < l.length := by omega
    (repeat' (first | simp -implicitDefEqProofs +contextual (maxSteps := 9000000) only [kx, ↓ky, tq24, simprocAttr, hlt'] | (with_reducible first | refine SB.c (fun _ => ?_) (fun _ => ?_) | refine REG.i ?_ | exact REG.j) | with_reducible refine AndI ?_ | omega))
theorem sameS_both (n : Nat) : n ≤ 1000000000 → ∀ l : List Sm, szSs l ≤ n → AC Tryz.prog gl 24 [.pv (.slice (l.map encSm)), .pv (.slice (l.map encSm))] [] (.pv (.bool true)) [] := by
  induction n with
  | zero => intro hn l hl; exact sameS_of l (by have := szSs_len l; omega) (fun s hs => by have := szSs_mem l s hs; have := szS_pos s; omega) (fun s hs => by have := szSs_mem l s hs; have := szS_pos s; omega)
  | succ n ih =>
    intro hn l hl
    exact sameS_of l (by have := szSs_len l; omega) (fun s hs => by
      have := szSs_mem l s hs; have := szS_eq s
      exact ⟨sameE_ac n s.place (by omega) (by omega), sameE_ac n s.value (by omega) (by omega)⟩) (fun s hs => by
      have := szSs_mem l s hs; have := szS_eq s; have := szE_pos s.place
      exact ⟨ih (by omega) s.body (by omega), ih (by omega) s.els (by omega)⟩)
theorem sameS_ac (l : List Sm) (hl : szSs l ≤ 1000000000) : AC Tryz.prog gl 24 [.pv (.slice (l.map encSm)), .pv (.slice (l.map encSm))] [] (.pv (.bool true)) [] := sameS_both _ (Nat.le_refl _) l hl
set_option maxRecDepth 100000 in
set_option maxHeartbeats 8000000 in
theorem sameP_ac (p : PgD) (hp : szP p ≤ 1000000000) : AC Tryz.prog gl 9 [pgA p, pgA p] [] (.pv (.bool true)) [] := by
  unfold szP at hp
  have c1 := sameS_ac p.start (by omega)
  have c2 := sameS_ac p.message (by omega)
  have c3 := sameS_ac p.tick (by omega)
  have c4 := sameS_ac p.input (by omega)
  unfold pgA
  refine body0 (fun d => if d = 2 then 0 else 1) 2 Tryz.func9 rfl Tryz.ntmps9 (by rw [Tryz.results9]) (by simp) ?_
  (repeat' (first | simp -implicitDefEqProofs +contextual (maxSteps := 9000000) only [kx, ↓ky, tq9, simprocAttr, bne_self_eq_false] | (with_reducible first | refine SB.c (fun _ => ?_) (fun _ => ?_) | refine REG.i ?_ | exact REG.j) | with_reducible refine AndI ?_ | omega))
  refine loopV (ι := {k : Nat // k ≤ p.vars.length}) (fun i => ⟨(.junk :: .junk :: .ref 0 0 :: .ref 1 0 :: .junk :: .pv (.int .i64 i.1) :: .junk :: .junk :: .junk :: .junk :: .junk :: .junk :: .junk :: .junk :: .junk :: .junk :: .junk :: .junk :: .junk :: .junk :: .junk :: .junk :: .junk :: .junk :: .junk :: .junk :: .junk :: .junk :: .junk :: .junk :: .junk :: .junk :: .junk :: .junk :: .junk :: .junk :: .junk :: .junk :: .junk :: .junk :: .junk :: .junk :: .junk :: .junk :: .junk :: .junk :: .junk :: .junk :: .junk :: .junk :: .junk :: .junk :: .junk :: .junk :: .junk :: .junk :: .junk :: []), [some (.cells [.pv (.slice (p.vars.map encVar)), .pv (.slice (p.start.map encSm)), .pv (.slice (p.message.map encSm)), .pv (.slice (p.tick.map encSm)), .pv (.slice (p.input.map encSm))]), some (.cells [.pv (.slice (p.vars.map encVar)), .pv (.slice (p.start.map encSm)), .pv (.slice (p.message.map encSm)), .pv (.slice (p.tick.map encSm)), .pv (.slice (p.input.map encSm))])]⟩) (fun i => p.vars.length - i.1) ⟨0, by simp⟩ WFn ?_
  rintro ⟨k, hk⟩
  by_cases hlt : k < p.vars.length
  · have hlt' : (k : Int) < p.vars.length := by omega
    have hget := getD_map encVar p.vars k hlt
    generalize hx : p.vars[k] = x at *
    have hxe : encVar x = [.str x.name, .int .i64 x.size, .int .i64 x.init] := rfl
    have hw := wrapS k (by omega)
    (repeat' (first | simp -implicitDefEqProofs +contextual (maxSteps := 9000000) only [kx, ↓ky, tq9, simprocAttr, bne_self_eq_false, hlt', hlt, hget, hxe, hw] | (with_reducible first | refine SB.c (fun _ => ?_) (fun _ => ?_) | refine REG.i ?_ | exact REG.j) | with_reducible refine AndI ?_ | omega))
    exact ⟨⟨k + 1, by omega⟩, WFn, by show p.vars.length - (k + 1) < p.vars.length - k; omega⟩
  · have hlt' : ¬ (k : Int) < p.vars.length := by omega
    (repeat' (first | simp -implicitDefEqProofs +contextual (maxSteps := 9000000) only [kx, ↓ky, tq9, simprocAttr, hlt'] | (with_reducible first | refine SB.c (fun _ => ?_) (fun _ => ?_) | refine REG.i ?_ | exact REG.j) | refine CK.d0 enters24 c1 ?_ | refine CK.d0 enters24 c2 ?_ | refine CK.d0 enters24 c3 ?_ | refine CK.d0 enters24 c4 ?_ | with_reducible refine AndI ?_ | omega))
end Go.Proofs.YtopbicbgolcmpaaGreatDoor
