/- A part of the walk (Tryd_W1): its theorems have no condition beyond what they state. -/
import Derived.Test.YtopbicbgolcmpaaDoorP3
import Derived.Test.YtopbicbgolcmpaaDoorN12
import Derived.Test.YtopbicbgolcmpaaDoorLib3
set_option linter.unusedSimpArgs false
set_option linter.unusedVariables false
set_option linter.defProp false
namespace Go.Proofs.YtopbicbgolcmpaaDoor
open Go Go.Abs Go.RowKit
abbrev wrO (t : List UInt8) : List (Option AObj) := [some (.cells [.row 1 t.length]), some (.row 1 (t.map bRow))]
abbrev wrQ (t : List UInt8) : List (Option AObj) := [some (.cells [.row 2 t.length]), some .dead, some (.row 1 (t.map bRow))]
set_option maxRecDepth 100000 in
set_option maxHeartbeats 4000000 in
theorem put_ac (ps : List (List UInt8)) (t : List UInt8) (hb : (t ++ ps.flatten).length ≤ 140000000000000) (hn : ps.length ≤ 1000) : AC Tryd.prog gl 33 [.ref 0 0, .pv (.slice (ps.map fun s => [.str s]))] (wrO t) (.tup []) (wrQ (t ++ ps.flatten)) := by
  refine bodyO (fun _ => 3) 4 Tryd.func33 rfl Tryd.ntmps33 (by rw [Tryd.results33]) (by simp) (by simp) ?_
  (repeat' (first | simp -implicitDefEqProofs +contextual (maxSteps := 9000000) only [kx, ↓ky, tq33, simprocAttr] | (with_reducible first | refine SB.c (fun _ => ?_) (fun _ => ?_) | refine REG.i ?_ | exact REG.j) | with_reducible refine AndI ?_ | omega))
  refine loopV (ι := {k : Nat // k ≤ ps.length}) (fun i => ⟨[.ref 0 0, .junk, .junk, .junk, .junk, .junk, .pv (.slice (ps.map fun s => [.str s])), .pv (.int .i64 ps.length), .pv (.int .i64 i.1), .junk, .junk, .junk, .junk, .junk, .junk, .junk, .junk, .junk, .junk, .junk, .junk, .junk], [some (.cells [.row 2 (t ++ (ps.take i.1).flatten).length]), some .dead, some (.row 1 ((t ++ (ps.take i.1).flatten).map bRow)), none]⟩) (fun i => ps.length - i.1) ⟨0, by omega⟩ (WMe [0, 1, 1, 3] (by simp [kwt]) (by simp [kwt])) ?_
  rintro ⟨k, hk⟩
  by_cases hlt : k < ps.length
  · have hlt' : (k : Int) < ps.length := by omega
    have hget := getDm (fun s => [PVal.str s]) ps k [] hlt
    have hs : ps.getD k [] = ps[k] := by simp [List.getD, hlt]
    rw [hs] at hget
    have hst : ps.take (k + 1) = ps.take k ++ [ps[k]] := List.take_succ_eq_append_getElem hlt
    have hle : (ps.take (k + 1)).flatten.length ≤ ps.flatten.length := by
      have e := congrArg (fun l => l.flatten.length) (List.take_append_drop (k + 1) ps)
      simp only [List.flatten_append, List.length_append] at e
      omega
    rw [hst] at hle
    simp only [List.flatten_append, List.flatten_cons, List.flatten_nil, List.append_nil, List.length_append] at hle hb
    have hw := wrapS k (by omega)
    generalize ps[k] = s at *
    have hu : t ++ (ps.take (k + 1)).flatten = (t ++ (ps.take k).flatten) ++ s := by rw [hst]; simp
    have hlu : (t ++ (ps.take k).flatten).length = t.length + (ps.take k).flatten.length := by simp
    generalize t ++ (ps.take k).flatten = u at *
    have hrm := roomL (u.length + s.length) 1 (by omega)
    (repeat' (first | simp -implicitDefEqProofs +contextual (maxSteps := 9000000) only [kx, ↓ky, tq33, simprocAttr, hlt', hlt, hget, hw, hrm] | (with_reducible first | refine SB.c (fun _ => ?_) (fun _ => ?_) | refine REG.i ?_ | exact REG.j) | with_reducible refine AndI ?_ | omega))
    exact ⟨⟨k + 1, by omega⟩, (WTe [0, 1, 3, 2] (by simp [kwt, hu]) (by simp [kwt, hu])), by show ps.length - (k + 1) < ps.length - k; omega⟩
  · have hlt' : ¬ (k : Int) < ps.length := by omega
    have hke : k = ps.length := by omega
    subst hke
    (repeat' (first | simp -implicitDefEqProofs +contextual (maxSteps := 9000000) only [kx, ↓ky, tq33, simprocAttr, hlt'] | (with_reducible first | refine SB.c (fun _ => ?_) (fun _ => ?_) | refine REG.i ?_ | exact REG.j) | with_reducible refine AndI ?_ | omega))
    (refine retQ.mk [0, 1, 2] ?_ ?_ <;> simp [kwr, tq33, List.take_length])
theorem put1 (a t : List UInt8) (hb : (t ++ a).length ≤ 140000000000000) : AC Tryd.prog gl 33 [.ref 0 0, .pv (.slice [[.str a]])] (wrO t) (.tup []) (wrQ (t ++ a)) := by
  have h := put_ac [a] t (by simpa using hb) (by simp)
  rw [show [a].flatten = a by simp] at h
  exact h
theorem put2 (a b t : List UInt8) (hb : (t ++ (a ++ b)).length ≤ 140000000000000) : AC Tryd.prog gl 33 [.ref 0 0, .pv (.slice [[.str a], [.str b]])] (wrO t) (.tup []) (wrQ (t ++ (a ++ b))) := by
  have h := put_ac [a, b] t (by simpa using hb) (by simp)
  rw [show [a, b].flatten = a ++ b by simp] at h
  exact h
theorem put3 (a b c t : List UInt8) (hb : (t ++ (a ++ (b ++ c))).length ≤ 140000000000000) : AC Tryd.prog gl 33 [.ref 0 0, .pv (.slice [[.str a], [.str b], [.str c]])] (wrO t) (.tup []) (wrQ (t ++ (a ++ (b ++ c)))) := by
  have h := put_ac [a, b, c] t (by simpa using hb) (by simp)
  rw [show [a, b, c].flatten = a ++ (b ++ c) by simp] at h
  exact h
theorem put5 (a b c d e t : List UInt8) (hb : (t ++ (a ++ (b ++ (c ++ (d ++ e))))).length ≤ 140000000000000) : AC Tryd.prog gl 33 [.ref 0 0, .pv (.slice [[.str a], [.str b], [.str c], [.str d], [.str e]])] (wrO t) (.tup []) (wrQ (t ++ (a ++ (b ++ (c ++ (d ++ e)))))) := by
  have h := put_ac [a, b, c, d, e] t (by simpa using hb) (by simp)
  rw [show [a, b, c, d, e].flatten = a ++ (b ++ (c ++ (d ++ e))) by simp] at h
  exact h
set_option maxRecDepth 100000 in
set_option maxHeartbeats 4000000 in
theorem woperand_of (e : Ex) (t : List UInt8) (hb : t.length + (opdT (decide (e.op ≥ 8), fmE e)).length ≤ 140000000000000) (hE : ∀ t, t.length + (fmE e).length ≤ 140000000000000 → AC Tryd.prog gl 74 [.ref 0 0, .pv (.ptr (encEx e))] (wrO t) (.tup []) (wrQ (t ++ fmE e))) :
    AC Tryd.prog gl 89 [.ref 0 0, .pv (.ptr (encEx e))] (wrO t) (.tup []) (wrQ (t ++ opdT (decide (e.op ≥ 8), fmE e))) := by
  unfold opdT at hb ⊢
  by_cases h : e.op < 8
  · have hd : decide (e.op ≥ 8) = false := by simp; omega
    rw [hd] at hb ⊢
    simp only [Bool.false_eq_true, if_false] at hb ⊢
    have c := hE t (by omega)
    rw [encEx_eq] at c ⊢
    refine bodyO (fun _ => 2) 3 Tryd.func89 rfl Tryd.ntmps89 (by rw [Tryd.results89]) (by simp) (by simp) ?_
    (repeat' (first | simp -implicitDefEqProofs +contextual (maxSteps := 9000000) only [kx, ↓ky, tq89, simprocAttr, h, kz] | (with_reducible first | refine SB.c (fun _ => ?_) (fun _ => ?_) | refine REG.i ?_ | exact REG.j) | refine CK.dx [0, 1] [2] enters74 c ?_ | with_reducible refine AndI ?_ | omega))
    (refine retQ.mk [0, 1, 2] ?_ ?_ <;> simp [kwr, tq89])
  · have hd : decide (e.op ≥ 8) = true := by simp; omega
    rw [hd] at hb ⊢
    simp only [if_true, List.length_cons, List.length_append, List.length_nil] at hb ⊢
    have c1 := put1 [40] t (by simp; omega)
    have c2 := hE (t ++ [40]) (by simp; omega)
    have c3 := put1 [41] (t ++ [40] ++ fmE e) (by simp; omega)
    rw [encEx_eq] at c2 ⊢
    have e1 : t ++ [40] ++ fmE e ++ [41] = t ++ 40 :: (fmE e ++ [41]) := by simp
    rw [e1] at c3
    refine bodyO (fun _ => 2) 5 Tryd.func89 rfl Tryd.ntmps89 (by rw [Tryd.results89]) (by simp) (by simp) ?_
    (repeat' (first | simp -implicitDefEqProofs +contextual (maxSteps := 9000000) only [kx, ↓ky, tq89, simprocAttr, h, kz] | (with_reducible first | refine SB.c (fun _ => ?_) (fun _ => ?_) | refine REG.i ?_ | exact REG.j) | refine CK.dx [0, 1] [2] enters33 c1 ?_ | refine CK.dx [0, 2] [3] enters74 c2 ?_ | refine CK.dx [0, 3] [4] enters33 c3 ?_ | with_reducible refine AndI ?_ | omega))
    (refine retQ.mk [0, 1, 4] ?_ ?_ <;> simp [kwr, tq89])
end Go.Proofs.YtopbicbgolcmpaaDoor
