/- The reader's next line; equality of steps. No condition. -/
import Derived.Test.YtfinhhblcdkpgaaGreatDoorK6
set_option linter.unusedSimpArgs false
set_option linter.unusedVariables false
set_option linter.defProp false
namespace Go.Proofs.YtfinhhblcdkpgaaGreatDoor
open Go Go.Abs Go.RowKit
def encCd (c : CdD) : List PVal := [.slice (c.init.map enc1), .slice (c.start.map encSm), .slice (c.message.map encSm), .slice (c.tick.map encSm), .slice (c.input.map encSm)]
abbrev rdO (ls : List (List UInt8)) (torn : Bool) (k : Nat) (cs : List CdD) (p f : Int) (xs : List StD) : List (Option AObj) :=
  [some (.cells [.pv (.slice (ls.map encT)), .pv (.bool torn), .pv (.int .i64 k), .row 1 cs.length, .pv (.int .i64 p), .pv (.int .i64 f), .row 2 xs.length]), some (.row 5 (cs.map encCd)), some (.row 4 (xs.map encSt))]
set_option maxRecDepth 100000 in
set_option maxHeartbeats 2000000 in
theorem rdnext_ac (ls : List (List UInt8)) (torn : Bool) (k : Nat) (cs : List CdD) (p f : Int) (xs : List StD) (hk : k ≤ 1000000000) (hl : ls.length ≤ 1000000000) :
    AC Tryz.prog gl 60 [.ref 0 0] (rdO ls torn k cs p f xs) (.tup [.pv (.str (ls.getD k [])), .pv (.bool (decide (k < ls.length)))]) (rdO ls torn (k + 1) cs p f xs) := by
  have hw := wrapS k (by omega)
  by_cases h : k < ls.length
  · have h1 : ¬ (((k + 1 : Nat) : Int) > ls.length) := by omega
    have h2 : (((k + 1 : Nat) : Int)) - 1 = k := by omega
    have h3 : IntKind.i64.wrap (((k + 1 : Nat) : Int) - 1) = k := by rw [wrap64 _ (by omega) (by omega)]; omega
    have hget := getD_map encT ls k h
    have hg2 : ls.getD k [] = ls[k] := by rw [List.getD_eq_getElem?_getD, List.getElem?_eq_getElem h]; rfl
    rw [decide_eq_true h, hg2]
    generalize ls[k] = x at *
    replace hget : (ls.map encT).getD k [] = [.str x] := hget
    refine bodyO (fun _ => 3) 4 Tryz.func60 rfl Tryz.ntmps60 (by rw [Tryz.results60]) (by simp) (by simp) ?_
    (repeat' (first | simp -implicitDefEqProofs +contextual (maxSteps := 9000000) only [kx, ↓ky, tq60, simprocAttr, hw, h1, h3, h, hget] | (with_reducible first | refine SB.c (fun _ => ?_) (fun _ => ?_) | refine REG.i ?_ | exact REG.j) | with_reducible refine AndI ?_ | omega))
    (refine retQ.mk [0, 1, 2] ?_ ?_ <;> simp [kwr, tq60])
  · have h1 : (((k + 1 : Nat) : Int) > ls.length) := by omega
    have hg2 : ls.getD k [] = [] := by rw [List.getD_eq_getElem?_getD, List.getElem?_eq_none (by omega)]; rfl
    rw [decide_eq_false h, hg2]
    refine bodyO (fun _ => 3) 4 Tryz.func60 rfl Tryz.ntmps60 (by rw [Tryz.results60]) (by simp) (by simp) ?_
    (repeat' (first | simp -implicitDefEqProofs +contextual (maxSteps := 9000000) only [kx, ↓ky, tq60, simprocAttr, hw, h1] | (with_reducible first | refine SB.c (fun _ => ?_) (fun _ => ?_) | refine REG.i ?_ | exact REG.j) | with_reducible refine AndI ?_ | omega))
    (refine retQ.mk [0, 1, 2] ?_ ?_ <;> simp [kwr, tq60])
end Go.Proofs.YtfinhhblcdkpgaaGreatDoor
