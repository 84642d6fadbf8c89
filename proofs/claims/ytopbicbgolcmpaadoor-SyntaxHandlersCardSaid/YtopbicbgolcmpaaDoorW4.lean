/- A part of the walk (Tryd_W4): its theorems have no condition beyond what they state. -/
import Derived.Test.YtopbicbgolcmpaaDoorW3
import Derived.Test.YtopbicbgolcmpaaDoorS5
set_option linter.unusedSimpArgs false
set_option linter.unusedVariables false
set_option linter.defProp false
namespace Go.Proofs.YtopbicbgolcmpaaDoor
open Go Go.Abs Go.RowKit
set_option maxRecDepth 100000 in
set_option maxHeartbeats 4000000 in
theorem whand_ac (nm : List UInt8) (hnm : nm.length ≤ 10) (l : List Sm) (hl : szSs l ≤ 1000000) (hg : goodSFs l = true) (hr : rgSs l = true) (t : List UInt8) (hb : t.length + (hdT nm l).length ≤ 100000000000000) :
    AC Tryd.prog gl 35 [.ref 0 0, .pv (.str nm), .pv (.slice (l.map encSm))] (wrO t) (.tup []) (wrQ (t ++ hdT nm l)) := by
  by_cases h0 : l.length = 0
  · have h0' : ((l.length : Nat) : Int) = 0 := by omega
    have e : hdT nm l = [] := by simp [hdT, h0]
    rw [e, List.append_nil]
    refine bodyW (fun _ => 2) 5 Tryd.func35 rfl Tryd.ntmps35 (by rw [Tryd.results35]) (by simp) (by simp) ?_
    (repeat' (first | simp -implicitDefEqProofs +contextual (maxSteps := 9000000) only [kx, ↓ky, tq35, simprocAttr, h0'] | (with_reducible first | refine SB.c (fun _ => ?_) (fun _ => ?_) | refine REG.i ?_ | exact REG.j) | with_reducible refine AndI ?_ | omega))
    refine ⟨⟨[.ref 0 0, .junk, .junk, .junk, .junk, .junk, .junk, .junk, .junk, .junk, .junk, .junk, .junk, .junk, .junk, .junk, .junk, .junk, .junk], [some (.cells [.row 2 t.length]), some .dead, some (.row 1 (t.map bRow)), none, none]⟩, (WMe [0, 1, 1, 3, 4] (by simp [kwt]) (by simp [kwt])), ?_⟩
    (refine retQ.mk [0, 1, 2] ?_ ?_ <;> simp [kwr, tq35])
  · have h0' : ¬ ((l.length : Nat) : Int) = 0 := by omega
    have e : hdT nm l = [111, 110, 32] ++ (nm ++ [32, 123, 10]) ++ lsT 1 l ++ [125, 10] := by
      unfold hdT
      rw [if_neg h0]
      simp only [List.append_assoc]
    rw [e] at hb ⊢
    simp only [List.length_append, List.length_cons, List.length_nil] at hb
    have c1 := put3 [111, 110, 32] nm [32, 123, 10] t (by simp only [List.length_append, List.length_cons, List.length_nil]; omega)
    have c2 := wlist_ac l hl hg hr (t ++ ([111, 110, 32] ++ (nm ++ [32, 123, 10]))) (by simp only [List.length_append, List.length_cons, List.length_nil]; omega)
    have c3 := put1 [125, 10] (t ++ ([111, 110, 32] ++ (nm ++ [32, 123, 10])) ++ lsT 1 l) (by simp only [List.length_append, List.length_cons, List.length_nil]; omega)
    have ef : t ++ ([111, 110, 32] ++ (nm ++ [32, 123, 10])) ++ lsT 1 l ++ [125, 10] = t ++ ([111, 110, 32] ++ (nm ++ [32, 123, 10]) ++ lsT 1 l ++ [125, 10]) := by simp only [List.append_assoc]
    rw [ef] at c3
    refine bodyO (fun _ => 2) 5 Tryd.func35 rfl Tryd.ntmps35 (by rw [Tryd.results35]) (by simp) (by simp) ?_
    (repeat' (first | simp -implicitDefEqProofs +contextual (maxSteps := 9000000) only [kx, ↓ky, tq35, simprocAttr, h0', kz] | (with_reducible first | refine SB.c (fun _ => ?_) (fun _ => ?_) | refine REG.i ?_ | exact REG.j) | refine CK.dx [0, 1] [2] enters33 c1 ?_ | refine CK.dx [0, 2] [3] enters52 c2 ?_ | refine CK.dx [0, 3] [4] enters33 c3 ?_ | with_reducible refine AndI ?_ | omega))
    (refine retQ.mk [0, 1, 4] ?_ ?_ <;> simp [kwr, tq35])
end Go.Proofs.YtopbicbgolcmpaaDoor
