/- The resolver of expressions. No condition. -/
import Derived.Test.YtfinhhblcdkpgaaGreatDoorK1
set_option linter.unusedSimpArgs false
set_option linter.unusedVariables false
set_option linter.defProp false
namespace Go.Proofs.YtfinhhblcdkpgaaGreatDoor
open Go Go.Abs
abbrev exV (e : Ex) : AVal := .agg [.pv (.int .i64 e.op), .pv (.int .i64 e.value), .pv (.str e.name), .pv (.int .i64 e.slot), .pv (.int .i64 e.size), .pv (.slice (e.args.map encEx))]
set_option maxRecDepth 100000 in
set_option maxHeartbeats 8000000 in
theorem rexpr_ac (pl : List Pl) (n : Nat) : ∀ (e : Ex) (f : Fl), szE e ≤ n → n ≤ 1000000000 → AC Tryz.prog gl 95 [.ref 0 0, exV e] [rObj f, mObj pl]
    (exV (rsE pl e f).1) [rObj (rsE pl e f).2, mObj pl] := by
  induction n with
  | zero => intro e f h; have := szE_pos e; omega
  | succ n ih =>
    intro e f hd hn
    have hsz := szE_eq e
    have hal := szEs_len e.args
    rw [rsE_eq]
    have hq2 : e.op = 2 → findF pl e.name false f = headQ pl e.op e.name e.slot e.size f 2 3 := fun h => by simp [headQ, h]
    have hq3 : ¬ e.op = 2 → e.op = 3 → findF pl e.name true f = headQ pl e.op e.name e.slot e.size f 2 3 := fun h h' => by simp [headQ, h, h']
    have hq0 : ¬ e.op = 2 → ¬ e.op = 3 → headQ pl e.op e.name e.slot e.size f 2 3 = ((e.slot, e.size), f) := fun h h' => by simp [headQ, h, h']
    generalize headQ pl e.op e.name e.slot e.size f 2 3 = q at *
    simp only [exV, Ex.op_mk, Ex.value_mk, Ex.name_mk, Ex.slot_mk, Ex.size_mk, Ex.args_mk]
    rcases (show e.op = 2 ∨ (¬ e.op = 2 ∧ e.op = 3) ∨ (¬ e.op = 2 ∧ ¬ e.op = 3) by omega) with h2 | ⟨h2, h3⟩ | ⟨h2, h3⟩
    · have hc1 := find_ac pl e.name false f
      rw [hq2 h2] at hc1
      have h2' : (e.op == 2) = true := by simp [h2]
      refine bodyW (fun d => if d = 3 then 2 else if d = 4 then 3 else if d = 7 then 5 else if d = 44 then 6 else 9) 7 Tryz.func95 rfl Tryz.ntmps95 (by rw [Tryz.results95]) (by simp) (by simp) ?_
      (repeat' (first | simp -implicitDefEqProofs +contextual (maxSteps := 9000000) only [kx, ↓ky, tq95, simprocAttr, h2', kz] | (with_reducible first | refine SB.c (fun _ => ?_) (fun _ => ?_) | refine REG.i ?_ | exact REG.j) | refine CK.dx [0, 1] [] enters94 hc1 ?_ | with_reducible refine AndI ?_ | omega))
      (refine LW.weak (Weak.nilRow 5 4 6 rfl rfl (by decide)) ?_; simp only [List.set_cons_zero, List.set_cons_succ])
      refine loopV (ι := {k : Nat // k ≤ e.args.length}) (fun i => ⟨(.ref 0 0 :: .junk :: .junk :: .ref 2 0 :: .ref 3 0 :: .row 4 i.1 :: .junk :: .junk :: .junk :: .junk :: .junk :: .junk :: .junk :: .junk :: .junk :: .junk :: .junk :: .junk :: .junk :: .junk :: .junk :: .junk :: .junk :: .junk :: .junk :: .junk :: .junk :: .junk :: .junk :: .junk :: .junk :: .junk :: .junk :: .pv (.slice (e.args.map encEx)) :: .pv (.int .i64 e.args.length) :: .pv (.int .i64 i.1) :: .junk :: .junk :: .junk :: .junk :: .junk :: .junk :: .junk :: .junk :: .junk :: .junk :: .junk :: .junk :: .junk :: []), [rObj (rsEs pl (e.args.take i.1) q.2).2, mObj pl, some (.cells [.pv (.int .i64 e.op), .pv (.int .i64 e.value), .pv (.str e.name), .pv (.int .i64 q.1.1), .pv (.int .i64 q.1.2), .pv (.slice (e.args.map encEx))]), some (.cells [.pv (.int .i64 0), .pv (.int .i64 0), .pv (.str []), .pv (.int .i64 0), .pv (.int .i64 0), .snil]), some (.row 6 ((rsEs pl (e.args.take i.1) q.2).1.map encEx)), none, none]⟩) (fun i => e.args.length - i.1) ⟨0, by omega⟩ (WFe (by simp [kwf, rsEs]) (by simp [kwf, rsEs])) ?_
      rintro ⟨k, hk⟩
      by_cases hlt : k < e.args.length
      · have hlt' : (k : Int) < e.args.length := by omega
        have hget := getD_map encEx e.args k hlt
        have hmem : e.args[k] ∈ e.args := List.getElem_mem hlt
        have hdx := szEs_mem e.args e.args[k] hmem
        have hsn := rsEs_take pl e.args q.2 k hlt
        have hrl : (rsEs pl (e.args.take k) q.2).1.length = k := by rw [rsEs_len]; simp; omega
        generalize hx : e.args[k] = x at *
        have hxe := encEx_eq x
        have hlen := encEx_length x
        have hic := ih x (rsEs pl (e.args.take k) q.2).2 (by omega) (by omega)
        generalize rsEs pl (e.args.take k) q.2 = r at *
        have hye := encEx_eq (rsE pl x r.2).1
        generalize rsE pl x r.2 = y at *
        have hw := wrapS k (by omega)
        have hrm := roomL (k + 1) 72 (by omega)
        (repeat' (first | simp -implicitDefEqProofs +contextual (maxSteps := 9000000) only [kx, ↓ky, tq95, simprocAttr, hlt', hlt, hget, hxe, hrl, hrm, hw, kz] | (with_reducible first | refine SB.c (fun _ => ?_) (fun _ => ?_) | refine REG.i ?_ | exact REG.j) | refine CK.dx [0, 1] [] enters95 hic ?_ | with_reducible refine AndI ?_ | omega))
        exact ⟨⟨k + 1, by omega⟩, (WTe [0, 1, 2, 3, 6, 5, 4] (by simp [kwt, hsn, hye]) (by simp [kwt, hsn, hye])), by simp; omega⟩
      · have hlt' : ¬ (k : Int) < e.args.length := by omega
        have hke : k = e.args.length := by omega
        subst hke
        (repeat' (first | simp -implicitDefEqProofs +contextual (maxSteps := 9000000) only [kx, ↓ky, tq95, simprocAttr, hlt', List.take_length] | (with_reducible first | refine SB.c (fun _ => ?_) (fun _ => ?_) | refine REG.i ?_ | exact REG.j) | with_reducible refine AndI ?_ | omega))
        refine ⟨_, Weak.freeze 4 rfl, ?_⟩
        simp only [St.frz, frzL, frz, frzO, List.map_cons, List.map_nil, List.set_cons_zero, List.set_cons_succ, List.length_map, List.take_length, rsEs_len, if_true, if_false, ↓reduceIte, Nat.reduceEqDiff, eq_self, reduceCtorEq, Nat.succ_ne_self]
        (refine retQ.mk [0, 1, 2, 3, 4, 5, 6] ?_ ?_ <;> simp [kwr, tq95])
    · have hc1 := find_ac pl e.name true f
      rw [hq3 h2 h3] at hc1
      have h2' : (e.op == 2) = false := by simpa using h2
      have h3' : (e.op == 3) = true := by simp [h3]
      refine bodyW (fun d => if d = 3 then 2 else if d = 4 then 3 else if d = 7 then 5 else if d = 44 then 6 else 9) 7 Tryz.func95 rfl Tryz.ntmps95 (by rw [Tryz.results95]) (by simp) (by simp) ?_
      (repeat' (first | simp -implicitDefEqProofs +contextual (maxSteps := 9000000) only [kx, ↓ky, tq95, simprocAttr, h2', h3', kz] | (with_reducible first | refine SB.c (fun _ => ?_) (fun _ => ?_) | refine REG.i ?_ | exact REG.j) | refine CK.dx [0, 1] [] enters94 hc1 ?_ | with_reducible refine AndI ?_ | omega))
      (refine LW.weak (Weak.nilRow 5 4 6 rfl rfl (by decide)) ?_; simp only [List.set_cons_zero, List.set_cons_succ])
      refine loopV (ι := {k : Nat // k ≤ e.args.length}) (fun i => ⟨(.ref 0 0 :: .junk :: .junk :: .ref 2 0 :: .ref 3 0 :: .row 4 i.1 :: .junk :: .junk :: .junk :: .junk :: .junk :: .junk :: .junk :: .junk :: .junk :: .junk :: .junk :: .junk :: .junk :: .junk :: .junk :: .junk :: .junk :: .junk :: .junk :: .junk :: .junk :: .junk :: .junk :: .junk :: .junk :: .junk :: .junk :: .pv (.slice (e.args.map encEx)) :: .pv (.int .i64 e.args.length) :: .pv (.int .i64 i.1) :: .junk :: .junk :: .junk :: .junk :: .junk :: .junk :: .junk :: .junk :: .junk :: .junk :: .junk :: .junk :: .junk :: []), [rObj (rsEs pl (e.args.take i.1) q.2).2, mObj pl, some (.cells [.pv (.int .i64 e.op), .pv (.int .i64 e.value), .pv (.str e.name), .pv (.int .i64 q.1.1), .pv (.int .i64 q.1.2), .pv (.slice (e.args.map encEx))]), some (.cells [.pv (.int .i64 0), .pv (.int .i64 0), .pv (.str []), .pv (.int .i64 0), .pv (.int .i64 0), .snil]), some (.row 6 ((rsEs pl (e.args.take i.1) q.2).1.map encEx)), none, none]⟩) (fun i => e.args.length - i.1) ⟨0, by omega⟩ (WFe (by simp [kwf, rsEs]) (by simp [kwf, rsEs])) ?_
      rintro ⟨k, hk⟩
      by_cases hlt : k < e.args.length
      · have hlt' : (k : Int) < e.args.length := by omega
        have hget := getD_map encEx e.args k hlt
        have hmem : e.args[k] ∈ e.args := List.getElem_mem hlt
        have hdx := szEs_mem e.args e.args[k] hmem
        have hsn := rsEs_take pl e.args q.2 k hlt
        have hrl : (rsEs pl (e.args.take k) q.2).1.length = k := by rw [rsEs_len]; simp; omega
        generalize hx : e.args[k] = x at *
        have hxe := encEx_eq x
        have hlen := encEx_length x
        have hic := ih x (rsEs pl (e.args.take k) q.2).2 (by omega) (by omega)
        generalize rsEs pl (e.args.take k) q.2 = r at *
        have hye := encEx_eq (rsE pl x r.2).1
        generalize rsE pl x r.2 = y at *
        have hw := wrapS k (by omega)
        have hrm := roomL (k + 1) 72 (by omega)
        (repeat' (first | simp -implicitDefEqProofs +contextual (maxSteps := 9000000) only [kx, ↓ky, tq95, simprocAttr, hlt', hlt, hget, hxe, hrl, hrm, hw, kz] | (with_reducible first | refine SB.c (fun _ => ?_) (fun _ => ?_) | refine REG.i ?_ | exact REG.j) | refine CK.dx [0, 1] [] enters95 hic ?_ | with_reducible refine AndI ?_ | omega))
        exact ⟨⟨k + 1, by omega⟩, (WTe [0, 1, 2, 3, 6, 5, 4] (by simp [kwt, hsn, hye]) (by simp [kwt, hsn, hye])), by simp; omega⟩
      · have hlt' : ¬ (k : Int) < e.args.length := by omega
        have hke : k = e.args.length := by omega
        subst hke
        (repeat' (first | simp -implicitDefEqProofs +contextual (maxSteps := 9000000) only [kx, ↓ky, tq95, simprocAttr, hlt', List.take_length] | (with_reducible first | refine SB.c (fun _ => ?_) (fun _ => ?_) | refine REG.i ?_ | exact REG.j) | with_reducible refine AndI ?_ | omega))
        refine ⟨_, Weak.freeze 4 rfl, ?_⟩
        simp only [St.frz, frzL, frz, frzO, List.map_cons, List.map_nil, List.set_cons_zero, List.set_cons_succ, List.length_map, List.take_length, rsEs_len, if_true, if_false, ↓reduceIte, Nat.reduceEqDiff, eq_self, reduceCtorEq, Nat.succ_ne_self]
        (refine retQ.mk [0, 1, 2, 3, 4, 5, 6] ?_ ?_ <;> simp [kwr, tq95])
    · have h2' : (e.op == 2) = false := by simpa using h2
      have h3' : (e.op == 3) = false := by simpa using h3
      have hq := hq0 h2 h3
      have hs1 : e.slot = q.1.1 := by rw [hq]
      have hs2 : e.size = q.1.2 := by rw [hq]
      have hs3 : f.1 = q.2.1 := by rw [hq]
      have hs4 : f.2 = q.2.2 := by rw [hq]
      simp only [rObj, hs1, hs2, hs3, hs4]
      refine bodyW (fun d => if d = 3 then 2 else if d = 4 then 3 else if d = 7 then 5 else if d = 44 then 6 else 9) 7 Tryz.func95 rfl Tryz.ntmps95 (by rw [Tryz.results95]) (by simp) (by simp) ?_
      (repeat' (first | simp -implicitDefEqProofs +contextual (maxSteps := 9000000) only [kx, ↓ky, tq95, simprocAttr, h2', h3'] | (with_reducible first | refine SB.c (fun _ => ?_) (fun _ => ?_) | refine REG.i ?_ | exact REG.j) | with_reducible refine AndI ?_ | omega))
      (refine LW.weak (Weak.nilRow 5 4 6 rfl rfl (by decide)) ?_; simp only [List.set_cons_zero, List.set_cons_succ])
      refine loopV (ι := {k : Nat // k ≤ e.args.length}) (fun i => ⟨(.ref 0 0 :: .junk :: .junk :: .ref 2 0 :: .ref 3 0 :: .row 4 i.1 :: .junk :: .junk :: .junk :: .junk :: .junk :: .junk :: .junk :: .junk :: .junk :: .junk :: .junk :: .junk :: .junk :: .junk :: .junk :: .junk :: .junk :: .junk :: .junk :: .junk :: .junk :: .junk :: .junk :: .junk :: .junk :: .junk :: .junk :: .pv (.slice (e.args.map encEx)) :: .pv (.int .i64 e.args.length) :: .pv (.int .i64 i.1) :: .junk :: .junk :: .junk :: .junk :: .junk :: .junk :: .junk :: .junk :: .junk :: .junk :: .junk :: .junk :: .junk :: []), [rObj (rsEs pl (e.args.take i.1) q.2).2, mObj pl, some (.cells [.pv (.int .i64 e.op), .pv (.int .i64 e.value), .pv (.str e.name), .pv (.int .i64 q.1.1), .pv (.int .i64 q.1.2), .pv (.slice (e.args.map encEx))]), some (.cells [.pv (.int .i64 0), .pv (.int .i64 0), .pv (.str []), .pv (.int .i64 0), .pv (.int .i64 0), .snil]), some (.row 6 ((rsEs pl (e.args.take i.1) q.2).1.map encEx)), none, none]⟩) (fun i => e.args.length - i.1) ⟨0, by omega⟩ (WFe (by simp [kwf, rsEs]) (by simp [kwf, rsEs])) ?_
      rintro ⟨k, hk⟩
      by_cases hlt : k < e.args.length
      · have hlt' : (k : Int) < e.args.length := by omega
        have hget := getD_map encEx e.args k hlt
        have hmem : e.args[k] ∈ e.args := List.getElem_mem hlt
        have hdx := szEs_mem e.args e.args[k] hmem
        have hsn := rsEs_take pl e.args q.2 k hlt
        have hrl : (rsEs pl (e.args.take k) q.2).1.length = k := by rw [rsEs_len]; simp; omega
        generalize hx : e.args[k] = x at *
        have hxe := encEx_eq x
        have hlen := encEx_length x
        have hic := ih x (rsEs pl (e.args.take k) q.2).2 (by omega) (by omega)
        generalize rsEs pl (e.args.take k) q.2 = r at *
        have hye := encEx_eq (rsE pl x r.2).1
        generalize rsE pl x r.2 = y at *
        have hw := wrapS k (by omega)
        have hrm := roomL (k + 1) 72 (by omega)
        (repeat' (first | simp -implicitDefEqProofs +contextual (maxSteps := 9000000) only [kx, ↓ky, tq95, simprocAttr, hlt', hlt, hget, hxe, hrl, hrm, hw, kz] | (with_reducible first | refine SB.c (fun _ => ?_) (fun _ => ?_) | refine REG.i ?_ | exact REG.j) | refine CK.dx [0, 1] [] enters95 hic ?_ | with_reducible refine AndI ?_ | omega))
        exact ⟨⟨k + 1, by omega⟩, (WTe [0, 1, 2, 3, 6, 5, 4] (by simp [kwt, hsn, hye]) (by simp [kwt, hsn, hye])), by simp; omega⟩
      · have hlt' : ¬ (k : Int) < e.args.length := by omega
        have hke : k = e.args.length := by omega
        subst hke
        (repeat' (first | simp -implicitDefEqProofs +contextual (maxSteps := 9000000) only [kx, ↓ky, tq95, simprocAttr, hlt', List.take_length] | (with_reducible first | refine SB.c (fun _ => ?_) (fun _ => ?_) | refine REG.i ?_ | exact REG.j) | with_reducible refine AndI ?_ | omega))
        refine ⟨_, Weak.freeze 4 rfl, ?_⟩
        simp only [St.frz, frzL, frz, frzO, List.map_cons, List.map_nil, List.set_cons_zero, List.set_cons_succ, List.length_map, List.take_length, rsEs_len, if_true, if_false, ↓reduceIte, Nat.reduceEqDiff, eq_self, reduceCtorEq, Nat.succ_ne_self]
        (refine retQ.mk [0, 1, 2, 3, 4, 5, 6] ?_ ?_ <;> simp [kwr, tq95])
end Go.Proofs.YtfinhhblcdkpgaaGreatDoor
