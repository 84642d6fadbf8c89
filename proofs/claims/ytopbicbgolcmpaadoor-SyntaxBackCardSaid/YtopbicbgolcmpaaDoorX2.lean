/- A part of the walk (Tryd_X2): its theorems have no condition beyond what they state. -/
import Derived.Test.YtopbicbgolcmpaaDoorW5
import Derived.Test.YtopbicbgolcmpaaDoorM2
import Derived.Test.YtopbicbgolcmpaaDoorS3
import Derived.Test.YtopbicbgolcmpaaDoorS2
import Derived.Test.YtopbicbgolcmpaaDoorLib4
set_option linter.unusedSimpArgs false
set_option linter.unusedVariables false
set_option linter.defProp false
namespace Go.Proofs.YtopbicbgolcmpaaDoor
open Go Go.Abs Go.RowKit
set_option maxRecDepth 100000 in
set_option maxHeartbeats 8000000 in
theorem back_law (cs : List UInt8) : AC Tryd.prog gl 5 [.pv (.slice (cs.map encB))] [] (.pv (.bool true)) [] := by
  have cA := awake_ac
  have cN := new_ac cs 200 (by omega)
  have hxs : (cs.take 200).length ≤ 1000 := by simp only [List.length_take]; omega
  generalize cs.take 200 = xs at *
  have cP := program_ac xs hxs 0 (by omega)
  have z := programF_sz xs 0
  have g := programF_rg xs 0
  have hck := programF_check xs 0
  generalize programF xs 0 = r at *
  obtain ⟨p, a⟩ := r
  simp only at cP z g hck
  have cF := format_ac p (by omega) g
  have cQ := Parse_ac (pgT p)
  have cS := sameP_ac p (by omega)
  obtain ⟨hG, hd⟩ := check_GP hck g
  have hrb := read_back hG hd
  have hf : fmtF p = if ((pgT p).length : Int) > 4096 then ([], 5) else (pgT p, 0) := by unfold fmtF; rw [hck]; rfl
  rw [hf] at cF
  unfold pgA at cP cF cS
  by_cases hl : ((pgT p).length : Int) > 4096
  · rw [if_pos hl] at cF
    simp only at cF
    clear hf hrb hck z g hG hd cQ cS
    refine body0 (fun d => if d = 14 then 0 else if d = 3 then 1 else 2) 3 Tryd.func5 rfl Tryd.ntmps5 (by rw [Tryd.results5]) (by simp) ?_
    (repeat' (first | simp -implicitDefEqProofs +contextual (maxSteps := 9000000) only [kx, ↓ky, tq5, simprocAttr, kz] | (with_reducible first | refine SB.c (fun _ => ?_) (fun _ => ?_) | refine REG.i ?_ | exact REG.j) | refine CK.d0 enters7 cA ?_ | refine CK.dx [] [0] enters11 cN ?_ | refine CK.dx [0] [] enters12 cP ?_ | refine CK.d0 enters13 cF ?_ | with_reducible refine AndI ?_ | omega))
  · rw [if_neg hl] at cF
    simp only at cF
    rw [hrb (by omega)] at cQ
    unfold rP pgA at cQ
    simp only at cQ
    clear hf hrb hck z g hG hd hl
    generalize pgT p = t at *
    refine body0 (fun d => if d = 14 then 0 else if d = 3 then 1 else 2) 3 Tryd.func5 rfl Tryd.ntmps5 (by rw [Tryd.results5]) (by simp) ?_
    (repeat' (first | simp -implicitDefEqProofs +contextual (maxSteps := 9000000) only [kx, ↓ky, tq5, simprocAttr, kz] | (with_reducible first | refine SB.c (fun _ => ?_) (fun _ => ?_) | refine REG.i ?_ | exact REG.j) | refine CK.d0 enters7 cA ?_ | refine CK.dx [] [0] enters11 cN ?_ | refine CK.dx [0] [] enters12 cP ?_ | refine CK.d0 enters13 cF ?_ | refine CK.d0 enters8 cQ ?_ | refine CK.d0 enters9 cS ?_ | with_reducible refine AndI ?_ | omega))
end Go.Proofs.YtopbicbgolcmpaaDoor
