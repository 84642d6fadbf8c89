/- A part of the walk (Tryz_K10): its theorems have no condition beyond what they state. -/
import Derived.Test.YtfinhhblcdkpgaaGreatDoorK9
set_option linter.unusedSimpArgs false
set_option linter.unusedVariables false
set_option linter.defProp false
namespace Go.Proofs.YtfinhhblcdkpgaaGreatDoor
open Go Go.Abs
abbrev smV (s : Sm) : AVal := .agg [.pv (.int .i64 s.kind), .pv (.str s.name), .pv (.int .i64 s.slot), .pv (.int .i64 s.size),
    .pv (.int .i64 s.place.op), .pv (.int .i64 s.place.value), .pv (.str s.place.name), .pv (.int .i64 s.place.slot), .pv (.int .i64 s.place.size), .pv (.slice (s.place.args.map encEx)),
    .pv (.int .i64 s.value.op), .pv (.int .i64 s.value.value), .pv (.str s.value.name), .pv (.int .i64 s.value.slot), .pv (.int .i64 s.value.size), .pv (.slice (s.value.args.map encEx)),
    .pv (.slice (s.body.map encSm)), .pv (.slice (s.els.map encSm))]
set_option maxRecDepth 100000 in
set_option maxHeartbeats 8000000 in
theorem zstmt_of (pl : List Pl) (n : Nat) (hn : n ≤ 1000000000) (ihl : ∀ (l : List Sm) (f : Fl), szSs l ≤ n → AC Tryz.prog gl 43 [.ref 0 0, .pv (.slice (l.map encSm))] [rObj f, mObj pl] (.pv (.slice ((rsSs pl l f).1.map encSm))) [rObj (rsSs pl l f).2, mObj pl])
    (s : Sm) (f : Fl) (hs : szS s ≤ n + 1) : AC Tryz.prog gl 67 [.ref 0 0, smV s] [rObj f, mObj pl] (smV (rsS pl s f).1) [rObj (rsS pl s f).2, mObj pl] := by
  have hsz := szS_eq s
  have h1 := szE_pos s.place
  have h2 := szE_pos s.value
  rw [rsS_eq]
  have hq2 : s.kind = 1 → findF pl s.name false f = rsQ pl s f := fun h => by simp [rsQ, headQ, h]
  have hq3 : ¬ s.kind = 1 → s.kind = 2 → findF pl s.name true f = rsQ pl s f := fun h h' => by simp [rsQ, headQ, h, h']
  have hq0 : ¬ s.kind = 1 → ¬ s.kind = 2 → rsQ pl s f = ((s.slot, s.size), f) := fun h h' => by simp [rsQ, headQ, h, h']
  have hP : rsP pl s f = rsE pl s.place (rsQ pl s f).2 := rfl
  have hV : rsV pl s f = rsE pl s.value (rsP pl s f).2 := rfl
  have hB : rsB pl s f = rsSs pl s.body (rsV pl s f).2 := rfl
  have hL : rsL pl s f = rsSs pl s.els (rsB pl s f).2 := rfl
  have cP := rexpr_ac pl n s.place (rsQ pl s f).2 (by omega) hn
  have cV := rexpr_ac pl n s.value (rsP pl s f).2 (by omega) hn
  have cB := ihl s.body (rsV pl s f).2 (by omega)
  have cL := ihl s.els (rsB pl s f).2 (by omega)
  rw [← hP] at cP
  rw [← hV] at cV
  rw [← hB] at cB
  rw [← hL] at cL
  clear hP hV hB hL ihl
  generalize rsQ pl s f = q at *
  generalize rsP pl s f = p' at *
  generalize rsV pl s f = v' at *
  generalize rsB pl s f = b' at *
  generalize rsL pl s f = l' at *
  simp only [exV, smV, Sm.kind_mk, Sm.name_mk, Sm.slot_mk, Sm.size_mk, Sm.place_mk, Sm.value_mk, Sm.body_mk, Sm.els_mk] at *
  rcases (show s.kind = 1 ∨ (¬ s.kind = 1 ∧ s.kind = 2) ∨ (¬ s.kind = 1 ∧ ¬ s.kind = 2) by omega) with h2 | ⟨h2, h3⟩ | ⟨h2, h3⟩
  · have hc1 := find_ac pl s.name false f
    rw [hq2 h2] at hc1
    have h2' : (s.kind == 1) = true := by simp [h2]
    refine bodyO (fun d => if d = 3 then 2 else if d = 4 then 3 else 9) 4 Tryz.func67 rfl Tryz.ntmps67 (by rw [Tryz.results67]) (by simp) (by simp) ?_
    (repeat' (first | simp -implicitDefEqProofs +contextual (maxSteps := 9000000) only [kx, ↓ky, tq67, simprocAttr, h2', kz] | (with_reducible first | refine SB.c (fun _ => ?_) (fun _ => ?_) | refine REG.i ?_ | exact REG.j) | refine CK.dx [0, 1] [] enters94 hc1 ?_ | refine CK.dx [0, 1] [] enters95 cP ?_ | refine CK.dx [0, 1] [] enters95 cV ?_ | refine CK.dx [0, 1] [] enters43 cB ?_ | refine CK.dx [0, 1] [] enters43 cL ?_ | with_reducible refine AndI ?_ | omega))
    (refine retQ.mk [0, 1, 2, 3] ?_ ?_ <;> simp [kwr, tq67])
  · have hc1 := find_ac pl s.name true f
    rw [hq3 h2 h3] at hc1
    have h2' : (s.kind == 1) = false := by simpa using h2
    have h3' : (s.kind == 2) = true := by simp [h3]
    refine bodyO (fun d => if d = 3 then 2 else if d = 4 then 3 else 9) 4 Tryz.func67 rfl Tryz.ntmps67 (by rw [Tryz.results67]) (by simp) (by simp) ?_
    (repeat' (first | simp -implicitDefEqProofs +contextual (maxSteps := 9000000) only [kx, ↓ky, tq67, simprocAttr, h2', h3', kz] | (with_reducible first | refine SB.c (fun _ => ?_) (fun _ => ?_) | refine REG.i ?_ | exact REG.j) | refine CK.dx [0, 1] [] enters94 hc1 ?_ | refine CK.dx [0, 1] [] enters95 cP ?_ | refine CK.dx [0, 1] [] enters95 cV ?_ | refine CK.dx [0, 1] [] enters43 cB ?_ | refine CK.dx [0, 1] [] enters43 cL ?_ | with_reducible refine AndI ?_ | omega))
    (refine retQ.mk [0, 1, 2, 3] ?_ ?_ <;> simp [kwr, tq67])
  · have h2' : (s.kind == 1) = false := by simpa using h2
    have h3' : (s.kind == 2) = false := by simpa using h3
    have hq := hq0 h2 h3
    have hs1 : s.slot = q.1.1 := by rw [hq]
    have hs2 : s.size = q.1.2 := by rw [hq]
    have hs3 : f.1 = q.2.1 := by rw [hq]
    have hs4 : f.2 = q.2.2 := by rw [hq]
    simp only [rObj, hs1, hs2, hs3, hs4]
    refine bodyO (fun d => if d = 3 then 2 else if d = 4 then 3 else 9) 4 Tryz.func67 rfl Tryz.ntmps67 (by rw [Tryz.results67]) (by simp) (by simp) ?_
    (repeat' (first | simp -implicitDefEqProofs +contextual (maxSteps := 9000000) only [kx, ↓ky, tq67, simprocAttr, h2', h3', kz] | (with_reducible first | refine SB.c (fun _ => ?_) (fun _ => ?_) | refine REG.i ?_ | exact REG.j) | refine CK.dx [0, 1] [] enters95 cP ?_ | refine CK.dx [0, 1] [] enters95 cV ?_ | refine CK.dx [0, 1] [] enters43 cB ?_ | refine CK.dx [0, 1] [] enters43 cL ?_ | with_reducible refine AndI ?_ | omega))
    (refine retQ.mk [0, 1, 2, 3] ?_ ?_ <;> simp [kwr, tq67])
set_option maxRecDepth 100000 in
set_option maxHeartbeats 8000000 in
theorem zlist_of (pl : List Pl) (l : List Sm) (f : Fl) (hl : l.length ≤ 1000000000) (ihs : ∀ (s : Sm) (f : Fl), s ∈ l → AC Tryz.prog gl 67 [.ref 0 0, smV s] [rObj f, mObj pl] (smV (rsS pl s f).1) [rObj (rsS pl s f).2, mObj pl]) :
    AC Tryz.prog gl 43 [.ref 0 0, .pv (.slice (l.map encSm))] [rObj f, mObj pl] (.pv (.slice ((rsSs pl l f).1.map encSm))) [rObj (rsSs pl l f).2, mObj pl] := by
  refine bodyW (fun d => if d = 7 then 3 else if d = 19 then 4 else 9) 5 Tryz.func43 rfl Tryz.ntmps43 (by rw [Tryz.results43]) (by simp) (by simp) ?_
  (repeat' (first | simp -implicitDefEqProofs +contextual (maxSteps := 9000000) only [kx, ↓ky, tq43, simprocAttr] | (with_reducible first | refine SB.c (fun _ => ?_) (fun _ => ?_) | refine REG.i ?_ | exact REG.j) | with_reducible refine AndI ?_ | omega))
  (refine LW.weak (Weak.nilRow 5 2 18 rfl rfl (by decide)) ?_; simp only [List.set_cons_zero, List.set_cons_succ])
  refine loopV (ι := {k : Nat // k ≤ l.length}) (fun i => ⟨[.ref 0 0, .junk, .junk, .junk, .snil, .row 2 i.1, .junk, .junk, .pv (.slice (l.map encSm)), .pv (.int .i64 l.length), .pv (.int .i64 i.1), .junk, .junk, .junk, .junk, .junk, .junk, .junk, .junk, .junk, .junk, .junk],
        [rObj (rsSs pl (l.take i.1) f).2, mObj pl, some (.row 18 ((rsSs pl (l.take i.1) f).1.map encSm)), none, none]⟩) (fun i => l.length - i.1) ⟨0, by omega⟩ (WFe (by simp [kwf, rsSs]) (by simp [kwf, rsSs])) ?_
  rintro ⟨k, hk⟩
  by_cases hlt : k < l.length
  · have hlt' : (k : Int) < l.length := by omega
    have hget := getD_map encSm l k hlt
    have hmem : l[k] ∈ l := List.getElem_mem hlt
    have hsn := rsSs_take pl l f k hlt
    have hrl : (rsSs pl (l.take k) f).1.length = k := by rw [rsSs_len]; simp; omega
    have hic := ihs l[k] (rsSs pl (l.take k) f).2 hmem
    generalize hx : l[k] = x at *
    have hxe := encSm_eq x
    generalize rsSs pl (l.take k) f = r at *
    have hye := encSm_eq (rsS pl x r.2).1
    generalize rsS pl x r.2 = y at *
    have hw : IntKind.i64.wrap ((k : Int) + 1) = ((k + 1 : Nat) : Int) := by rw [wrap64 _ (by omega) (by omega)]; rfl
    have hrm := roomL (k + 1) 232 (by omega)
    (repeat' (first | simp -implicitDefEqProofs +contextual (maxSteps := 9000000) only [kx, ↓ky, tq43, simprocAttr, hlt', hlt, hget, hxe, hrl, hrm, hw, kz] | (with_reducible first | refine SB.c (fun _ => ?_) (fun _ => ?_) | refine REG.i ?_ | exact REG.j) | refine CK.dx [0, 1] [] enters67 hic ?_ | with_reducible refine AndI ?_ | omega))
    exact ⟨⟨k + 1, by omega⟩, (WTe [0, 1, 4, 3, 2] (by simp [kwt, hsn, hye]) (by simp [kwt, hsn, hye])), by simp; omega⟩
  · have hlt' : ¬ (k : Int) < l.length := by omega
    have hke : k = l.length := by omega
    subst hke
    (repeat' (first | simp -implicitDefEqProofs +contextual (maxSteps := 9000000) only [kx, ↓ky, tq43, simprocAttr, hlt', List.take_length] | (with_reducible first | refine SB.c (fun _ => ?_) (fun _ => ?_) | refine REG.i ?_ | exact REG.j) | with_reducible refine AndI ?_ | omega))
    refine ⟨_, Weak.freeze 2 rfl, ?_⟩
    simp only [St.frz, frzL, frz, frzO, List.map_cons, List.map_nil, List.set_cons_zero, List.set_cons_succ, List.length_map, List.take_length, rsSs_len, if_true, if_false, ↓reduceIte, Nat.reduceEqDiff, eq_self, reduceCtorEq, Nat.succ_ne_self]
    (refine retQ.mk [0, 1, 2, 3, 4] ?_ ?_ <;> simp [kwr, tq43])
theorem zlist_both (pl : List Pl) (n : Nat) : n ≤ 1000000000 → ∀ (l : List Sm) (f : Fl), szSs l ≤ n → AC Tryz.prog gl 43 [.ref 0 0, .pv (.slice (l.map encSm))] [rObj f, mObj pl] (.pv (.slice ((rsSs pl l f).1.map encSm))) [rObj (rsSs pl l f).2, mObj pl] := by
  induction n with
  | zero => intro hn l f hl; exact zlist_of pl l f (by have := szSs_len l; omega) (fun s f hs => by have := szSs_mem l s hs; have := szS_pos s; omega)
  | succ n ih =>
    intro hn l f hl
    exact zlist_of pl l f (by have := szSs_len l; omega) (fun s f hs => zstmt_of pl n (by omega) (ih (by omega)) s f (by have := szSs_mem l s hs; omega))
theorem zlist_ac (pl : List Pl) (l : List Sm) (f : Fl) (hl : szSs l ≤ 1000000000) : AC Tryz.prog gl 43 [.ref 0 0, .pv (.slice (l.map encSm))] [rObj f, mObj pl] (.pv (.slice ((rsSs pl l f).1.map encSm))) [rObj (rsSs pl l f).2, mObj pl] := zlist_both pl _ (Nat.le_refl _) l f hl
end Go.Proofs.YtfinhhblcdkpgaaGreatDoor
