/- A part of the walk (Tryz_S1): its theorems have no condition beyond what they state. -/
import Derived.Test.YtopbicbgolcmpaaGreatDoorT0
import Derived.Test.YtopbicbgolcmpaaGreatDoorLib3
set_option linter.unusedSimpArgs false
set_option linter.unusedVariables false
set_option linter.defProp false
namespace Go.Proofs.YtopbicbgolcmpaaGreatDoor
open Go Go.Abs
abbrev exP (e : Ex) : AVal := .agg [.pv (.int .i64 e.op), .pv (.int .i64 e.value), .pv (.str e.name), .pv (.int .i64 e.slot), .pv (.int .i64 e.size), .pv (.slice (e.args.map encEx))]
set_option maxRecDepth 100000 in
set_option maxHeartbeats 2000000 in
theorem exprDepth_ac (n : Nat) : ∀ e : Ex, szE e ≤ n → n ≤ 1000000000 → AC Tryz.prog gl 94 [.pv (.ptr (encEx e))] [] (.pv (.int .i64 (depE e))) [] := by
  induction n with
  | zero => intro e h; have := szE_pos e; omega
  | succ n ih =>
    intro e hd hn
    have hsz := szE_eq e
    have hal := szEs_len e.args
    have hdz := depE_sz e
    have he := encEx_eq e
    rw [he]
    refine body0 (fun _ => 0) 0 Tryz.func94 rfl Tryz.ntmps94 (by rw [Tryz.results94]) (by simp) ?_
    (repeat' (first | simp -implicitDefEqProofs +contextual (maxSteps := 9000000) only [kx, ↓ky, tq94, simprocAttr] | (with_reducible first | refine SB.c (fun _ => ?_) (fun _ => ?_) | refine REG.i ?_ | exact REG.j) | with_reducible refine AndI ?_ | omega))
    refine loopV (ι := {k : Nat // k ≤ e.args.length}) (fun i => ⟨[.pv (.ptr [.int .i64 e.op, .int .i64 e.value, .str e.name, .int .i64 e.slot, .int .i64 e.size, .slice (e.args.map encEx)]), .junk, .pv (.int .i64 0), .pv (.int .i64 (depEs 0 (e.args.take i.1))), .junk, .junk, .junk, .junk, .junk, .pv (.int .i64 e.args.length), .pv (.int .i64 i.1), .junk, .junk, .junk, .junk, .junk, .junk, .junk, .junk, .junk, .junk, .junk, .junk, .junk, .junk], []⟩) (fun i => e.args.length - i.1) ⟨0, by omega⟩ (WFe (by simp [kwf, depEs]) (by simp [kwf, depEs])) ?_
    rintro ⟨k, hk⟩
    by_cases hlt : k < e.args.length
    · have hlt' : (k : Int) < e.args.length := by omega
      have hget := getD_map encEx e.args k hlt
      have hmem : e.args[k] ∈ e.args := List.getElem_mem hlt
      have hdx := szEs_mem e.args e.args[k] hmem
      have hsn : depEs 0 (e.args.take (k + 1)) = mx (depEs 0 (e.args.take k)) (depE e.args[k]) := by
        rw [List.take_succ_eq_append_getElem hlt, depEs_snoc]
      generalize hx : e.args[k] = x at *
      have hlen := encEx_length x
      have hw := wrapS k (by omega)
      have hc := ih x (by omega) (by omega)
      (repeat' (first | simp -implicitDefEqProofs +contextual (maxSteps := 9000000) only [kx, ↓ky, tq94, simprocAttr, hlt', hlt, hget, hlen, hw] | (with_reducible first | refine SB.c (fun _ => ?_) (fun _ => ?_) | refine REG.i ?_ | exact REG.j) | refine CK.d0 enters94 hc ?_ | with_reducible refine AndI ?_ | omega))
      exact ⟨⟨k + 1, by omega⟩, (WFe (by simp [kwf, hsn]) (by simp [kwf, hsn])), by show e.args.length - (k + 1) < e.args.length - k; omega⟩
    · have hlt' : ¬ (k : Int) < e.args.length := by omega
      have hke : k = e.args.length := by omega
      subst hke
      have hw2 : IntKind.i64.wrap (1 + depEs 0 e.args) = depE e := by
        rw [depE_eq] at hdz ⊢
        have := depEs_le 0 e.args
        exact wrap64 _ (by omega) (by omega)
      (repeat' (first | simp -implicitDefEqProofs +contextual (maxSteps := 9000000) only [kx, ↓ky, tq94, simprocAttr, hlt', List.take_length, hw2] | (with_reducible first | refine SB.c (fun _ => ?_) (fun _ => ?_) | refine REG.i ?_ | exact REG.j) | with_reducible refine AndI ?_ | omega))
set_option maxRecDepth 100000 in
set_option maxHeartbeats 2000000 in
theorem stmtDepth_of (n : Nat) (hn : n ≤ 1000000000) (ihl : ∀ l : List Sm, szSs l ≤ n → AC Tryz.prog gl 39 [.pv (.slice (l.map encSm))] [] (.pv (.int .i64 (depSs 0 l))) []) (s : Sm) (hs : szS s ≤ n + 1) : AC Tryz.prog gl 66 [.pv (.ptr (encSm s))] [] (.pv (.int .i64 (depS s))) [] := by
  have hsz := szS_eq s
  have h1 := szE_pos s.place
  have h2 := szE_pos s.value
  have hdz := depS_sz s
  have hdp := depS_pos s
  have hds := depS_eq s
  rw [encSm_eq]
  have hw : IntKind.i64.wrap (1 + imax (imax (imax (depE s.place) (depE s.value)) (depSs 0 s.body)) (depSs 0 s.els)) = depS s := by
    rw [← hds]; exact wrap64 _ (by omega) (by omega)
  have cP := exprDepth_ac n s.place (by omega) hn
  have cV := exprDepth_ac n s.value (by omega) hn
  rw [encEx_eq] at cP cV
  have cB := ihl s.body (by omega)
  have cE := ihl s.els (by omega)
  refine body0 (fun _ => 0) 0 Tryz.func66 rfl Tryz.ntmps66 (by rw [Tryz.results66]) (by simp) ?_
  (repeat' (first | simp -implicitDefEqProofs +contextual (maxSteps := 9000000) only [kx, ↓ky, tq66, simprocAttr, hw] | (with_reducible first | refine SB.c (fun _ => ?_) (fun _ => ?_) | refine REG.i ?_ | exact REG.j) | refine CK.d0 enters94 cP ?_ | refine CK.d0 enters94 cV ?_ | refine CK.d0 enters39 cB ?_ | refine CK.d0 enters39 cE ?_ | with_reducible refine AndI ?_ | omega))
set_option maxRecDepth 100000 in
set_option maxHeartbeats 2000000 in
theorem listDepth_of (n : Nat) (hn : n ≤ 1000000000) (l : List Sm) (hl : szSs l ≤ n) (ihs : ∀ s : Sm, s ∈ l → AC Tryz.prog gl 66 [.pv (.ptr (encSm s))] [] (.pv (.int .i64 (depS s))) []) : AC Tryz.prog gl 39 [.pv (.slice (l.map encSm))] [] (.pv (.int .i64 (depSs 0 l))) [] := by
  have hal := szSs_len l
  refine body0 (fun _ => 0) 0 Tryz.func39 rfl Tryz.ntmps39 (by rw [Tryz.results39]) (by simp) ?_
  (repeat' (first | simp -implicitDefEqProofs +contextual (maxSteps := 9000000) only [kx, ↓ky, tq39, simprocAttr] | (with_reducible first | refine SB.c (fun _ => ?_) (fun _ => ?_) | refine REG.i ?_ | exact REG.j) | with_reducible refine AndI ?_ | omega))
  refine loopV (ι := {k : Nat // k ≤ l.length}) (fun i => ⟨[.pv (.slice (l.map encSm)), .junk, .pv (.int .i64 0), .pv (.int .i64 (depSs 0 (l.take i.1))), .junk, .junk, .pv (.int .i64 l.length), .pv (.int .i64 i.1), .junk, .junk, .junk, .junk, .junk, .junk, .junk, .junk, .junk, .junk], []⟩) (fun i => l.length - i.1) ⟨0, by omega⟩ (WFe (by simp [kwf, depSs]) (by simp [kwf, depSs])) ?_
  rintro ⟨k, hk⟩
  by_cases hlt : k < l.length
  · have hlt' : (k : Int) < l.length := by omega
    have hget := getD_map encSm l k hlt
    have hmem : l[k] ∈ l := List.getElem_mem hlt
    have hsn : depSs 0 (l.take (k + 1)) = mx (depSs 0 (l.take k)) (depS l[k]) := by
      rw [List.take_succ_eq_append_getElem hlt, depSs_snoc]
    have hc := ihs l[k] hmem
    generalize hx : l[k] = x at *
    have hlen := encSm_length x
    have hw := wrapS k (by omega)
    (repeat' (first | simp -implicitDefEqProofs +contextual (maxSteps := 9000000) only [kx, ↓ky, tq39, simprocAttr, hlt', hlt, hget, hlen, hw] | (with_reducible first | refine SB.c (fun _ => ?_) (fun _ => ?_) | refine REG.i ?_ | exact REG.j) | refine CK.d0 enters66 hc ?_ | with_reducible refine AndI ?_ | omega))
    exact ⟨⟨k + 1, by omega⟩, (WFe (by simp [kwf, hsn]) (by simp [kwf, hsn])), by show l.length - (k + 1) < l.length - k; omega⟩
  · have hlt' : ¬ (k : Int) < l.length := by omega
    have hke : k = l.length := by omega
    subst hke
    (repeat' (first | simp -implicitDefEqProofs +contextual (maxSteps := 9000000) only [kx, ↓ky, tq39, simprocAttr, hlt', List.take_length] | (with_reducible first | refine SB.c (fun _ => ?_) (fun _ => ?_) | refine REG.i ?_ | exact REG.j) | with_reducible refine AndI ?_ | omega))
theorem depth_both (n : Nat) : n ≤ 1000000000 → (∀ l : List Sm, szSs l ≤ n → AC Tryz.prog gl 39 [.pv (.slice (l.map encSm))] [] (.pv (.int .i64 (depSs 0 l))) []) := by
  induction n with
  | zero => intro hn l hl; exact listDepth_of 0 hn l hl (fun s hs => by have := szSs_mem l s hs; have := szS_pos s; omega)
  | succ n ih =>
    intro hn l hl
    exact listDepth_of (n + 1) hn l hl (fun s hs => stmtDepth_of n (by omega) (ih (by omega)) s (by have := szSs_mem l s hs; omega))
theorem listDepth_ac (l : List Sm) (hl : szSs l ≤ 1000000000) : AC Tryz.prog gl 39 [.pv (.slice (l.map encSm))] [] (.pv (.int .i64 (depSs 0 l))) [] := depth_both _ (Nat.le_refl _) l hl
set_option maxRecDepth 100000 in
set_option maxHeartbeats 2000000 in
theorem depth_ac (p : PgD) (hp : szP p ≤ 1000000000) : AC Tryz.prog gl 19 [pgA p] [] (.pv (.int .i64 (depP p))) [] := by
  unfold szP at hp
  have c1 := listDepth_ac p.start (by omega)
  have c2 := listDepth_ac p.message (by omega)
  have c3 := listDepth_ac p.tick (by omega)
  have c4 := listDepth_ac p.input (by omega)
  unfold depP pgA
  refine body0 (fun _ => 0) 1 Tryz.func19 rfl Tryz.ntmps19 (by rw [Tryz.results19]) (by simp) ?_
  (repeat' (first | simp -implicitDefEqProofs +contextual (maxSteps := 9000000) only [kx, ↓ky, tq19, simprocAttr] | (with_reducible first | refine SB.c (fun _ => ?_) (fun _ => ?_) | refine REG.i ?_ | exact REG.j) | refine CK.d0 enters39 c1 ?_ | refine CK.d0 enters39 c2 ?_ | refine CK.d0 enters39 c3 ?_ | refine CK.d0 enters39 c4 ?_ | with_reducible refine AndI ?_ | omega))
set_option maxRecDepth 100000 in
set_option maxHeartbeats 4000000 in
theorem deep_ac (n : Nat) : ∀ e : Ex, szE e ≤ n → n ≤ 1000000000 → AC Tryz.prog gl 67 [exP e] [] (.pv (.int .i64 (depE e))) [] := by
  induction n with
  | zero => intro e h; have := szE_pos e; omega
  | succ n ih =>
    intro e hd hn
    have hsz := szE_eq e
    have hal := szEs_len e.args
    have hdz := depE_sz e
    rw [depE_eq] at hdz ⊢
    have hde := depEs_le 0 e.args
    unfold exP
    refine body0 (fun _ => 0) 1 Tryz.func67 rfl Tryz.ntmps67 (by rw [Tryz.results67]) (by simp) ?_
    (repeat' (first | simp -implicitDefEqProofs +contextual (maxSteps := 9000000) only [kx, ↓ky, tq67, simprocAttr] | (with_reducible first | refine SB.c (fun _ => ?_) (fun _ => ?_) | refine REG.i ?_ | exact REG.j) | with_reducible refine AndI ?_ | omega))
    refine loopV (ι := {k : Nat // k ≤ e.args.length}) (fun i => ⟨[.junk, .ref 0 0, .junk, .pv (.int .i64 (depEs 0 (e.args.take i.1))), .pv (.int .i64 i.1), .junk, .junk, .junk, .junk, .junk, .junk, .junk, .junk, .junk, .junk, .junk, .junk, .junk, .junk, .junk, .junk, .junk], [some (.cells [.pv (.int .i64 e.op), .pv (.int .i64 e.value), .pv (.str e.name), .pv (.int .i64 e.slot), .pv (.int .i64 e.size), .pv (.slice (e.args.map encEx))])]⟩) (fun i => e.args.length - i.1) ⟨0, by omega⟩ (WFe (by simp [kwf, depEs]) (by simp [kwf, depEs])) ?_
    rintro ⟨k, hk⟩
    by_cases hlt : k < e.args.length
    · have hlt' : (k : Int) < e.args.length := by omega
      have hget := getD_map encEx e.args k hlt
      have hdx := szEs_mem e.args e.args[k] (List.getElem_mem hlt)
      have hsn : depEs 0 (e.args.take (k + 1)) = mx (depEs 0 (e.args.take k)) (depE e.args[k]) := by
        rw [List.take_succ_eq_append_getElem hlt, depEs_snoc]
      generalize hx : e.args[k] = x at *
      have hxe := encEx_eq x
      have hic := ih x (by omega) (by omega)
      have hw := wrapS k (by omega)
      (repeat' (first | simp -implicitDefEqProofs +contextual (maxSteps := 9000000) only [kx, ↓ky, tq67, simprocAttr, hlt', hlt, hget, hxe, hw] | (with_reducible first | refine SB.c (fun _ => ?_) (fun _ => ?_) | refine REG.i ?_ | exact REG.j) | refine CK.d0 enters67 hic ?_ | with_reducible refine AndI ?_ | omega))
      exact ⟨⟨k + 1, by omega⟩, (WFe (by simp [kwf, hsn]) (by simp [kwf, hsn])), by show e.args.length - (k + 1) < e.args.length - k; omega⟩
    · have hlt' : ¬ (k : Int) < e.args.length := by omega
      have hke : k = e.args.length := by omega
      subst hke
      have hw : IntKind.i64.wrap (depEs 0 e.args + 1) = 1 + depEs 0 e.args := by rw [wrap64 _ (by omega) (by omega)]; omega
      (repeat' (first | simp -implicitDefEqProofs +contextual (maxSteps := 9000000) only [kx, ↓ky, tq67, simprocAttr, hlt', List.take_length, hw] | (with_reducible first | refine SB.c (fun _ => ?_) (fun _ => ?_) | refine REG.i ?_ | exact REG.j) | with_reducible refine AndI ?_ | omega))
set_option maxRecDepth 100000 in
set_option maxHeartbeats 4000000 in
theorem nested_of (n : Nat) (hn : n ≤ 1000000000) (l : List Sm) (hl : szSs l ≤ n) (ih : ∀ s ∈ l, AC Tryz.prog gl 40 [.pv (.slice (s.body.map encSm))] [] (.pv (.int .i64 (depSs 0 s.body))) [] ∧ AC Tryz.prog gl 40 [.pv (.slice (s.els.map encSm))] [] (.pv (.int .i64 (depSs 0 s.els))) []) : AC Tryz.prog gl 40 [.pv (.slice (l.map encSm))] [] (.pv (.int .i64 (depSs 0 l))) [] := by
  have hal := szSs_len l
  refine body0 (fun _ => 0) 0 Tryz.func40 rfl Tryz.ntmps40 (by rw [Tryz.results40]) (by simp) ?_
  (repeat' (first | simp -implicitDefEqProofs +contextual (maxSteps := 9000000) only [kx, ↓ky, tq40, simprocAttr] | (with_reducible first | refine SB.c (fun _ => ?_) (fun _ => ?_) | refine REG.i ?_ | exact REG.j) | with_reducible refine AndI ?_ | omega))
  refine loopV (ι := {k : Nat // k ≤ l.length}) (fun i => ⟨(.pv (.slice (l.map encSm)) :: .junk :: .junk :: .pv (.int .i64 (depSs 0 (l.take i.1))) :: .pv (.int .i64 i.1) :: .junk :: .junk :: .junk :: .junk :: .junk :: .junk :: .junk :: .junk :: .junk :: .junk :: .junk :: .junk :: .junk :: .junk :: .junk :: .junk :: .junk :: .junk :: .junk :: .junk :: .junk :: .junk :: .junk :: .junk :: .junk :: .junk :: .junk :: .junk :: .junk :: .junk :: .junk :: .junk :: .junk :: .junk :: .junk :: []), []⟩) (fun i => l.length - i.1) ⟨0, by omega⟩ (WFe (by simp [kwf, depSs]) (by simp [kwf, depSs])) ?_
  rintro ⟨k, hk⟩
  by_cases hlt : k < l.length
  · have hlt' : (k : Int) < l.length := by omega
    have hget := getD_map encSm l k hlt
    have hmem : l[k] ∈ l := List.getElem_mem hlt
    have hsn : depSs 0 (l.take (k + 1)) = mx (depSs 0 (l.take k)) (depS l[k]) := by
      rw [List.take_succ_eq_append_getElem hlt, depSs_snoc]
    obtain ⟨cB, cE⟩ := ih l[k] hmem
    have hsm := szSs_mem l l[k] hmem
    generalize hx : l[k] = x at *
    have hsz := szS_eq x
    have hdz := depS_sz x
    have hdp := depS_pos x
    have hds := depS_eq x
    have cP := deep_ac n x.place (by omega) hn
    have cV := deep_ac n x.value (by omega) hn
    have hxe := encSm_eq x
    have hw1 : IntKind.i64.wrap (1 + imax (imax (imax (depE x.place) (depE x.value)) (depSs 0 x.body)) (depSs 0 x.els)) = depS x := by
      rw [← hds]; exact wrap64 _ (by omega) (by omega)
    have hw := wrapS k (by omega)
    (repeat' (first | simp -implicitDefEqProofs +contextual (maxSteps := 9000000) only [kx, ↓ky, tq40, simprocAttr, hlt', hlt, hget, hxe, hw, hw1] | (with_reducible first | refine SB.c (fun _ => ?_) (fun _ => ?_) | refine REG.i ?_ | exact REG.j) | refine CK.d0 enters67 cP ?_ | refine CK.d0 enters67 cV ?_ | refine CK.d0 enters40 cB ?_ | refine CK.d0 enters40 cE ?_ | with_reducible refine AndI ?_ | omega))
    exact ⟨⟨k + 1, by omega⟩, (WFe (by simp [kwf, hsn]) (by simp [kwf, hsn])), by show l.length - (k + 1) < l.length - k; omega⟩
  · have hlt' : ¬ (k : Int) < l.length := by omega
    have hke : k = l.length := by omega
    subst hke
    (repeat' (first | simp -implicitDefEqProofs +contextual (maxSteps := 9000000) only [kx, ↓ky, tq40, simprocAttr, hlt', List.take_length] | (with_reducible first | refine SB.c (fun _ => ?_) (fun _ => ?_) | refine REG.i ?_ | exact REG.j) | with_reducible refine AndI ?_ | omega))
theorem nested_both (n : Nat) : n ≤ 1000000000 → (∀ l : List Sm, szSs l ≤ n → AC Tryz.prog gl 40 [.pv (.slice (l.map encSm))] [] (.pv (.int .i64 (depSs 0 l))) []) := by
  induction n with
  | zero => intro hn l hl; exact nested_of 0 hn l hl (fun s hs => by have := szSs_mem l s hs; have := szS_pos s; omega)
  | succ n ih =>
    intro hn l hl
    exact nested_of (n + 1) hn l hl (fun s hs => by have := szSs_mem l s hs; have := szS_eq s; have := szE_pos s.place; exact ⟨ih (by omega) _ (by omega), ih (by omega) _ (by omega)⟩)
theorem nested_ac (l : List Sm) (hl : szSs l ≤ 1000000000) : AC Tryz.prog gl 40 [.pv (.slice (l.map encSm))] [] (.pv (.int .i64 (depSs 0 l))) [] := nested_both _ (Nat.le_refl _) l hl
set_option maxRecDepth 100000 in
set_option maxHeartbeats 2000000 in
theorem rdepth_ac (p : PgD) (hp : szP p ≤ 1000000000) : AC Tryz.prog gl 20 [pgA p] [] (.pv (.int .i64 (depP p))) [] := by
  unfold szP at hp
  have c1 := nested_ac p.start (by omega)
  have c2 := nested_ac p.message (by omega)
  have c3 := nested_ac p.tick (by omega)
  have c4 := nested_ac p.input (by omega)
  unfold depP pgA
  refine body0 (fun _ => 0) 1 Tryz.func20 rfl Tryz.ntmps20 (by rw [Tryz.results20]) (by simp) ?_
  (repeat' (first | simp -implicitDefEqProofs +contextual (maxSteps := 9000000) only [kx, ↓ky, tq20, simprocAttr] | (with_reducible first | refine SB.c (fun _ => ?_) (fun _ => ?_) | refine REG.i ?_ | exact REG.j) | refine CK.d0 enters40 c1 ?_ | refine CK.d0 enters40 c2 ?_ | refine CK.d0 enters40 c3 ?_ | refine CK.d0 enters40 c4 ?_ | with_reducible refine AndI ?_ | omega))
end Go.Proofs.YtopbicbgolcmpaaGreatDoor
