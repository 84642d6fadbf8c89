/- A part of the walk (Tryz_W9): its theorems have no condition beyond what they state. -/
import Derived.Test.YtopbicbgolcmpaaGreatDoorW8
import Derived.Test.YtopbicbgolcmpaaGreatDoorS3
import Derived.Test.YtopbicbgolcmpaaGreatDoorS1
set_option linter.unusedSimpArgs false
set_option linter.unusedVariables false
set_option linter.defProp false
namespace Go.Proofs.YtopbicbgolcmpaaGreatDoor
open Go Go.Abs Go.RowKit
set_option maxRecDepth 100000 in
set_option maxHeartbeats 8000000 in
theorem formats_law (cs : List UInt8) : AC Tryz.prog gl 5 [.pv (.slice (cs.map encB))] [] (.pv (.bool true)) [] := by
  have cA := awake_ac
  have cN := new_ac cs 240 (by omega)
  have hxs : (cs.take 240).length ≤ 1000 := by simp only [List.length_take]; omega
  generalize cs.take 240 = xs at *
  have cP := program_ac xs hxs 0 (by omega)
  have z := programF_sz xs 0
  have g := programF_rg xs 0
  have l := programF_le xs 0 (by omega)
  generalize programF xs 0 = r at *
  obtain ⟨p, a⟩ := r
  simp only at cP z g l
  obtain ⟨p2, a2, l2, z2, g2, cB⟩ := bad_ac xs hxs a l p z g
  unfold pgA at cP cB
  refine body0 (fun d => if d = 4 then 1 else 2) 3 Tryz.func5 rfl Tryz.ntmps5 (by rw [Tryz.results5]) (by simp) ?_
  (repeat' (first | simp -implicitDefEqProofs +contextual (maxSteps := 9000000) only [kx, ↓ky, tq5, simprocAttr, kz] | (with_reducible first | refine SB.c (fun _ => ?_) (fun _ => ?_) | refine REG.i ?_ | exact REG.j) | refine CK.d0 enters6 cA ?_ | refine CK.dx [] [0] enters10 cN ?_ | refine CK.dx [0] [] enters12 cP ?_ | refine CK.dx [0] [] enters15 cB ?_ | with_reducible refine AndI ?_ | omega))
  refine loopV (ι := {k : Nat // k ≤ 2}) (fun i => ⟨(.junk :: .junk :: .junk :: .junk :: .junk :: .junk :: .junk :: .junk :: .junk :: .junk :: .junk :: .junk :: .junk :: .junk :: .junk :: .junk :: .junk :: .junk :: .junk :: .junk :: .junk :: .pv (.slice [[.slice (p.vars.map encVar), .slice (p.start.map encSm), .slice (p.message.map encSm), .slice (p.tick.map encSm), .slice (p.input.map encSm)], [.slice (p2.vars.map encVar), .slice (p2.start.map encSm), .slice (p2.message.map encSm), .slice (p2.tick.map encSm), .slice (p2.input.map encSm)]]) :: .pv (.int .i64 2) :: .pv (.int .i64 i.1) :: .junk :: .junk :: .junk :: .junk :: .junk :: .junk :: .junk :: .junk :: .junk :: .junk :: .junk :: .junk :: .junk :: .junk :: .junk :: .junk :: .junk :: .junk :: .junk :: .junk :: .junk :: .junk :: .junk :: .junk :: .junk :: .junk :: .junk :: .junk :: .junk :: .junk :: .junk :: .junk :: .junk :: .junk :: .junk :: .junk :: []), [none, none, none]⟩) (fun i => 2 - i.1) ⟨0, by omega⟩ WFn ?_
  rintro ⟨k, hk⟩
  by_cases hlt : k < 2
  · have hlt' : (k : Int) < 2 := by omega
    have hw := wrapS k (by omega)
    have hG : ∃ q : PgD, szP q ≤ 1000000 ∧ rgP q = true ∧ ([[.slice (p.vars.map encVar), .slice (p.start.map encSm), .slice (p.message.map encSm), .slice (p.tick.map encSm), .slice (p.input.map encSm)], [.slice (p2.vars.map encVar), .slice (p2.start.map encSm), .slice (p2.message.map encSm), .slice (p2.tick.map encSm), .slice (p2.input.map encSm)]] : List (List PVal)).getD k [] = [.slice (q.vars.map encVar), .slice (q.start.map encSm), .slice (q.message.map encSm), .slice (q.tick.map encSm), .slice (q.input.map encSm)] := by
      rcases (show k = 0 ∨ k = 1 by omega) with rfl | rfl
      · exact ⟨p, by omega, g, rfl⟩
      · exact ⟨p2, z2, g2, rfl⟩
    obtain ⟨q, q1, q2, hget⟩ := hG
    have c1 := format_ac q q1 q2
    have c2 := format2_ac q q1 q2
    have c3 := check_ac q (by omega)
    have c4 := check2_ac q (by omega)
    have c5 := depth_ac q (by omega)
    have c6 := rdepth_ac q (by omega)
    unfold pgA at c1 c2 c3 c4 c5 c6
    generalize fmtF q = f at *
    generalize checkF goodSFs q = e at *
    generalize depP q = d at *
    clear cA cN cP cB
    (repeat' (first | simp -implicitDefEqProofs +contextual (maxSteps := 9000000) only [kx, ↓ky, tq5, simprocAttr, hlt', hlt, hget, hw] | (with_reducible first | refine SB.c (fun _ => ?_) (fun _ => ?_) | refine REG.i ?_ | exact REG.j) | refine CK.d0 enters16 c1 ?_ | refine CK.d0 enters11 c2 ?_ | refine CK.d0 enters17 c3 ?_ | refine CK.d0 enters18 c4 ?_ | refine CK.d0 enters19 c5 ?_ | refine CK.d0 enters20 c6 ?_ | ((with_reducible first | refine VX.sb (fun hb => ?_) (fun hb => ?_) | refine CK.sb (fun hb => ?_) (fun hb => ?_) | refine VX.sa (fun hb => ?_) (fun hb => ?_) | refine CK.sa (fun hb => ?_) (fun hb => ?_)) <;> simp only [hb]) | with_reducible refine AndI ?_ | omega))
    all_goals first | exact ⟨⟨k + 1, by omega⟩, WFn, by show 2 - (k + 1) < 2 - k; omega⟩ | (clear hget; exfalso; simp_all; done)
  · have hlt' : ¬ (k : Int) < 2 := by omega
    (repeat' (first | simp -implicitDefEqProofs +contextual (maxSteps := 9000000) only [kx, ↓ky, tq5, simprocAttr, hlt'] | (with_reducible first | refine SB.c (fun _ => ?_) (fun _ => ?_) | refine REG.i ?_ | exact REG.j) | with_reducible refine AndI ?_ | omega))
end Go.Proofs.YtopbicbgolcmpaaGreatDoor
