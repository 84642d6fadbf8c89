/- A part of the walk (Tryz_S1): its theorems have no condition beyond what they state. -/
import Derived.Test.YtfinhhblcdkpgaaGreatDoorT0
import Derived.Test.YtfinhhblcdkpgaaGreatDoorLib3
set_option linter.unusedSimpArgs false
set_option linter.unusedVariables false
set_option linter.defProp false
namespace Go.Proofs.YtfinhhblcdkpgaaGreatDoor
open Go Go.Abs
set_option maxRecDepth 100000 in
set_option maxHeartbeats 2000000 in
theorem exprDepth_ac (n : Nat) : ∀ e : Ex, szE e ≤ n → n ≤ 1000000000 → AC Tryz.prog gl 164 [.pv (.ptr (encEx e))] [] (.pv (.int .i64 (depE e))) [] := by
  induction n with
  | zero => intro e h; have := szE_pos e; omega
  | succ n ih =>
    intro e hd hn
    have hsz := szE_eq e
    have hal := szEs_len e.args
    have hdz := depE_sz e
    have he := encEx_eq e
    rw [he]
    refine body0 (fun _ => 0) 0 Tryz.func164 rfl Tryz.ntmps164 (by rw [Tryz.results164]) (by simp) ?_
    (repeat' (first | simp -implicitDefEqProofs +contextual (maxSteps := 9000000) only [kx, ↓ky, tq164, simprocAttr] | (with_reducible first | refine SB.c (fun _ => ?_) (fun _ => ?_) | refine REG.i ?_ | exact REG.j) | with_reducible refine AndI ?_ | omega))
    refine loopV (ι := {k : Nat // k ≤ e.args.length}) (fun i => ⟨[.pv (.ptr [.int .i64 e.op, .int .i64 e.value, .str e.name, .int .i64 e.slot, .int .i64 e.size, .slice (e.args.map encEx)]), .junk, .pv (.int .i64 0), .pv (.int .i64 (depEs 0 (e.args.take i.1))), .junk, .junk, .junk, .junk, .junk, .pv (.int .i64 e.args.length), .pv (.int .i64 i.1), .junk, .junk, .junk, .junk, .junk, .junk, .junk, .junk, .junk, .junk, .junk, .junk, .junk, .junk], []⟩) (fun i => e.args.length - i.1) ⟨0, by omega⟩ (WFe (by simp [kwf, depEs]) (by simp [kwf, depEs])) ?_
    rintro ⟨k, hk⟩
    by_cases hlt : k < e.args.length
    · have hlt' : (k : Int) < e.args.length := by omega
      have hget := getD_map encEx e.args k hlt
      have hmem : e.args[k] ∈ e.args := List.getElem_mem hlt
      have hdx := szEs_mem e.args e.args[k] hmem
      have hsn : depEs 0 (e.args.take (k + 1)) = mx (depEs 0 (e.args.take k)) (depE e.args[k]) := by
        rw [List.take_succ_eq_append_getElem hlt, depEs_snoc]
      generalize hx : e.args[k] = x at *
      have hlen := encEx_length x
      have hw := wrapS k (by omega)
      have hc := ih x (by omega) (by omega)
      (repeat' (first | simp -implicitDefEqProofs +contextual (maxSteps := 9000000) only [kx, ↓ky, tq164, simprocAttr, hlt', hlt, hget, hlen, hw] | (with_reducible first | refine SB.c (fun _ => ?_) (fun _ => ?_) | refine REG.i ?_ | exact REG.j) | refine CK.d0 enters164 hc ?_ | with_reducible refine AndI ?_ | omega))
      exact ⟨⟨k + 1, by omega⟩, (WFe (by simp [kwf, hsn]) (by simp [kwf, hsn])), by show e.args.length - (k + 1) < e.args.length - k; omega⟩
    · have hlt' : ¬ (k : Int) < e.args.length := by omega
      have hke : k = e.args.length := by omega
      subst hke
      have hw2 : IntKind.i64.wrap (1 + depEs 0 e.args) = depE e := by
        rw [depE_eq] at hdz ⊢
        have := depEs_le 0 e.args
        exact wrap64 _ (by omega) (by omega)
      (repeat' (first | simp -implicitDefEqProofs +contextual (maxSteps := 9000000) only [kx, ↓ky, tq164, simprocAttr, hlt', List.take_length, hw2] | (with_reducible first | refine SB.c (fun _ => ?_) (fun _ => ?_) | refine REG.i ?_ | exact REG.j) | with_reducible refine AndI ?_ | omega))
set_option maxRecDepth 100000 in
set_option maxHeartbeats 2000000 in
theorem stmtDepth_of (n : Nat) (hn : n ≤ 1000000000) (ihl : ∀ l : List Sm, szSs l ≤ n → AC Tryz.prog gl 91 [.pv (.slice (l.map encSm))] [] (.pv (.int .i64 (depSs 0 l))) []) (s : Sm) (hs : szS s ≤ n + 1) : AC Tryz.prog gl 125 [.pv (.ptr (encSm s))] [] (.pv (.int .i64 (depS s))) [] := by
  have hsz := szS_eq s
  have h1 := szE_pos s.place
  have h2 := szE_pos s.value
  have hdz := depS_sz s
  have hdp := depS_pos s
  have hds := depS_eq s
  rw [encSm_eq]
  have hw : IntKind.i64.wrap (1 + imax (imax (imax (depE s.place) (depE s.value)) (depSs 0 s.body)) (depSs 0 s.els)) = depS s := by
    rw [← hds]; exact wrap64 _ (by omega) (by omega)
  have cP := exprDepth_ac n s.place (by omega) hn
  have cV := exprDepth_ac n s.value (by omega) hn
  rw [encEx_eq] at cP cV
  have cB := ihl s.body (by omega)
  have cE := ihl s.els (by omega)
  refine body0 (fun _ => 0) 0 Tryz.func125 rfl Tryz.ntmps125 (by rw [Tryz.results125]) (by simp) ?_
  (repeat' (first | simp -implicitDefEqProofs +contextual (maxSteps := 9000000) only [kx, ↓ky, tq125, simprocAttr, hw] | (with_reducible first | refine SB.c (fun _ => ?_) (fun _ => ?_) | refine REG.i ?_ | exact REG.j) | refine CK.d0 enters164 cP ?_ | refine CK.d0 enters164 cV ?_ | refine CK.d0 enters91 cB ?_ | refine CK.d0 enters91 cE ?_ | with_reducible refine AndI ?_ | omega))
set_option maxRecDepth 100000 in
set_option maxHeartbeats 2000000 in
theorem listDepth_of (n : Nat) (hn : n ≤ 1000000000) (l : List Sm) (hl : szSs l ≤ n) (ihs : ∀ s : Sm, s ∈ l → AC Tryz.prog gl 125 [.pv (.ptr (encSm s))] [] (.pv (.int .i64 (depS s))) []) : AC Tryz.prog gl 91 [.pv (.slice (l.map encSm))] [] (.pv (.int .i64 (depSs 0 l))) [] := by
  have hal := szSs_len l
  refine body0 (fun _ => 0) 0 Tryz.func91 rfl Tryz.ntmps91 (by rw [Tryz.results91]) (by simp) ?_
  (repeat' (first | simp -implicitDefEqProofs +contextual (maxSteps := 9000000) only [kx, ↓ky, tq91, simprocAttr] | (with_reducible first | refine SB.c (fun _ => ?_) (fun _ => ?_) | refine REG.i ?_ | exact REG.j) | with_reducible refine AndI ?_ | omega))
  refine loopV (ι := {k : Nat // k ≤ l.length}) (fun i => ⟨[.pv (.slice (l.map encSm)), .junk, .pv (.int .i64 0), .pv (.int .i64 (depSs 0 (l.take i.1))), .junk, .junk, .pv (.int .i64 l.length), .pv (.int .i64 i.1), .junk, .junk, .junk, .junk, .junk, .junk, .junk, .junk, .junk, .junk], []⟩) (fun i => l.length - i.1) ⟨0, by omega⟩ (WFe (by simp [kwf, depSs]) (by simp [kwf, depSs])) ?_
  rintro ⟨k, hk⟩
  by_cases hlt : k < l.length
  · have hlt' : (k : Int) < l.length := by omega
    have hget := getD_map encSm l k hlt
    have hmem : l[k] ∈ l := List.getElem_mem hlt
    have hsn : depSs 0 (l.take (k + 1)) = mx (depSs 0 (l.take k)) (depS l[k]) := by
      rw [List.take_succ_eq_append_getElem hlt, depSs_snoc]
    have hc := ihs l[k] hmem
    generalize hx : l[k] = x at *
    have hlen := encSm_length x
    have hw := wrapS k (by omega)
    (repeat' (first | simp -implicitDefEqProofs +contextual (maxSteps := 9000000) only [kx, ↓ky, tq91, simprocAttr, hlt', hlt, hget, hlen, hw] | (with_reducible first | refine SB.c (fun _ => ?_) (fun _ => ?_) | refine REG.i ?_ | exact REG.j) | refine CK.d0 enters125 hc ?_ | with_reducible refine AndI ?_ | omega))
    exact ⟨⟨k + 1, by omega⟩, (WFe (by simp [kwf, hsn]) (by simp [kwf, hsn])), by show l.length - (k + 1) < l.length - k; omega⟩
  · have hlt' : ¬ (k : Int) < l.length := by omega
    have hke : k = l.length := by omega
    subst hke
    (repeat' (first | simp -implicitDefEqProofs +contextual (maxSteps := 9000000) only [kx, ↓ky, tq91, simprocAttr, hlt', List.take_length] | (with_reducible first | refine SB.c (fun _ => ?_) (fun _ => ?_) | refine REG.i ?_ | exact REG.j) | with_reducible refine AndI ?_ | omega))
theorem depth_both (n : Nat) : n ≤ 1000000000 → (∀ l : List Sm, szSs l ≤ n → AC Tryz.prog gl 91 [.pv (.slice (l.map encSm))] [] (.pv (.int .i64 (depSs 0 l))) []) := by
  induction n with
  | zero => intro hn l hl; exact listDepth_of 0 hn l hl (fun s hs => by have := szSs_mem l s hs; have := szS_pos s; omega)
  | succ n ih =>
    intro hn l hl
    exact listDepth_of (n + 1) hn l hl (fun s hs => stmtDepth_of n (by omega) (ih (by omega)) s (by have := szSs_mem l s hs; omega))
theorem listDepth_ac (l : List Sm) (hl : szSs l ≤ 1000000000) : AC Tryz.prog gl 91 [.pv (.slice (l.map encSm))] [] (.pv (.int .i64 (depSs 0 l))) [] := depth_both _ (Nat.le_refl _) l hl
set_option maxRecDepth 100000 in
set_option maxHeartbeats 2000000 in
theorem depth_ac (p : PgD) (hp : szP p ≤ 1000000000) : AC Tryz.prog gl 64 [pgA p] [] (.pv (.int .i64 (depP p))) [] := by
  unfold szP at hp
  have c1 := listDepth_ac p.start (by omega)
  have c2 := listDepth_ac p.message (by omega)
  have c3 := listDepth_ac p.tick (by omega)
  have c4 := listDepth_ac p.input (by omega)
  unfold depP pgA
  refine body0 (fun _ => 0) 1 Tryz.func64 rfl Tryz.ntmps64 (by rw [Tryz.results64]) (by simp) ?_
  (repeat' (first | simp -implicitDefEqProofs +contextual (maxSteps := 9000000) only [kx, ↓ky, tq64, simprocAttr] | (with_reducible first | refine SB.c (fun _ => ?_) (fun _ => ?_) | refine REG.i ?_ | exact REG.j) | refine CK.d0 enters91 c1 ?_ | refine CK.d0 enters91 c2 ?_ | refine CK.d0 enters91 c3 ?_ | refine CK.d0 enters91 c4 ?_ | with_reducible refine AndI ?_ | omega))
end Go.Proofs.YtfinhhblcdkpgaaGreatDoor
