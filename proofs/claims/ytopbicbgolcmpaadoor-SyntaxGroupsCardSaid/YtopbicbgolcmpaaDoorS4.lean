/- A part of the walk (Tryd_S4): its theorems have no condition beyond what they state. -/
import Derived.Test.YtopbicbgolcmpaaDoorS3
import Derived.Test.YtopbicbgolcmpaaDoorS2
import Derived.Test.YtopbicbgolcmpaaDoorLib3
set_option linter.unusedSimpArgs false
set_option linter.unusedVariables false
set_option linter.defProp false
namespace Go.Proofs.YtopbicbgolcmpaaDoor
open Go Go.Abs Go.RowKit
theorem chkG_ok {i k : Nat} (hi : i < 13) (hk : k < 13) : ∃ a b op, parF (flatT (sgT.getD i []) (sgT.getD k [])) = (⟨[], [], [], [smE 6 [] exZ (exB op a b) [] []], []⟩, 0, 0) ∧ parF (if lvT.getD i 0 < lvT.getD k 0 then rightT (sgT.getD i []) (sgT.getD k []) else leftT (sgT.getD i []) (sgT.getD k [])) = (⟨[], [], [], [smE 6 [] exZ (exB op a b) [] []], []⟩, 0, 0) := by
  have h := List.all_eq_true.1 (List.all_eq_true.1 groups_all i (by simpa using hi)) k (by simpa using hk)
  unfold chkG at h
  split at h
  · rename_i a b op a' b' op' h1 h2
    simp only [Bool.and_eq_true, beq_iff_eq] at h
    have e1 := outE_ok h1
    have e2 := outE_ok h2
    rw [← eqE_ok _ _ h.1.1, ← eqE_ok _ _ h.1.2, ← h.2] at e2
    exact ⟨a, b, op, e1, e2⟩
  · cases h
theorem sg_len {i : Nat} (h : i < 13) : (sgT.getD i []).length ≤ 2 := by
  have : ((List.range 13).all fun i => decide ((sgT.getD i []).length ≤ 2)) = true := by decide
  simpa using List.all_eq_true.1 this i (by simpa using h)
set_option maxRecDepth 100000 in
set_option maxHeartbeats 8000000 in
theorem groups_law (a b : Nat) (ha : a < 256) (hb : b < 256) : AC Tryd.prog gl 3 [.pv (.int .u8 a), .pv (.int .u8 b)] [] (.pv (.bool true)) [] := by
  have cA := awake_ac
  have hwa : IntKind.i64.wrap (a : Int) = a := wrap64 _ (by omega) (by omega)
  have hwb : IntKind.i64.wrap (b : Int) = b := wrap64 _ (by omega) (by omega)
  have hma : (a : Int).tmod 13 = ((a % 13 : Nat) : Int) := by rw [Int.tmod_eq_emod_of_nonneg (by omega)]; omega
  have hmb : (b : Int).tmod 13 = ((b % 13 : Nat) : Int) := by rw [Int.tmod_eq_emod_of_nonneg (by omega)]; omega
  have hi : a % 13 < 13 := by omega
  have hk : b % 13 < 13 := by omega
  generalize a % 13 = i at *
  generalize b % 13 = k at *
  obtain ⟨ea, eb, op, h1, h2⟩ := chkG_ok hi hk
  have hgi : ∀ j, j < 13 → ([[PVal.str [124, 124]], [PVal.str [38, 38]], [PVal.str [61, 61]], [PVal.str [33, 61]], [PVal.str [60]], [PVal.str [60, 61]], [PVal.str [62]], [PVal.str [62, 61]], [PVal.str [43]], [PVal.str [45]], [PVal.str [42]], [PVal.str [47]], [PVal.str [37]]] : List (List PVal)).getD j [] = [PVal.str (sgT.getD j [])] := fun j hj => getDm (fun s => [PVal.str s]) sgT j [] hj
  have hli : ∀ j, j < 13 → ([[PVal.int .i64 0], [PVal.int .i64 1], [PVal.int .i64 2], [PVal.int .i64 2], [PVal.int .i64 2], [PVal.int .i64 2], [PVal.int .i64 2], [PVal.int .i64 2], [PVal.int .i64 3], [PVal.int .i64 3], [PVal.int .i64 4], [PVal.int .i64 4], [PVal.int .i64 4]] : List (List PVal)).getD j [] = [PVal.int .i64 (lvT.getD j 0)] := fun j hj => getDm (fun n => [PVal.int .i64 n]) lvT j 0 hj
  have g1 := hgi i hi
  have g2 := hgi k hk
  have l1 := hli i hi
  have l2 := hli k hk
  clear hgi hli
  have n1 := sg_len hi
  have n2 := sg_len hk
  have c1 := Parse_ac (flatT (sgT.getD i []) (sgT.getD k []))
  rw [h1] at c1
  have c2 := Parse_ac (if lvT.getD i 0 < lvT.getD k 0 then rightT (sgT.getD i []) (sgT.getD k []) else leftT (sgT.getD i []) (sgT.getD k []))
  rw [h2] at c2
  have hsz := parF_sz (flatT (sgT.getD i []) (sgT.getD k []))
  rw [h1] at hsz
  have c3 := sameP_ac _ hsz
  clear h1 h2 hsz
  have e1 : encSm (smE 6 [] exZ (exB op ea eb) [] []) = [.int .i64 6, .str [], .int .i64 0, .int .i64 0, .int .i64 0, .int .i64 0, .str [], .int .i64 0, .int .i64 0, .slice [], .int .i64 op, .int .i64 0, .str [], .int .i64 0, .int .i64 0, .slice [encEx ea, encEx eb], .slice [], .slice []] := rfl
  unfold rP pgA at c1 c2
  unfold pgA at c3
  generalize sgT.getD i [] = s at *
  generalize sgT.getD k [] = t at *
  generalize lvT.getD i 0 = u at *
  generalize lvT.getD k 0 = v at *
  by_cases hl : u < v
  · rw [if_pos hl] at c2
    refine body0 (fun d => if d = 11 then 0 else 1) 2 Tryd.func3 rfl Tryd.ntmps3 (by rw [Tryd.results3]) (by simp) ?_
    (repeat' (first | simp -implicitDefEqProofs +contextual (maxSteps := 9000000) only [kx, ↓ky, tq3, simprocAttr, hwa, hwb, hma, hmb, hi, hk, g1, g2, l1, l2, hl, e1, List.length_append] | (with_reducible first | refine SB.c (fun _ => ?_) (fun _ => ?_) | refine REG.i ?_ | exact REG.j) | refine CK.d0 enters7 cA ?_ | refine CK.d0 enters8 c1 ?_ | refine CK.d0 enters8 c2 ?_ | refine CK.d0 enters9 c3 ?_ | with_reducible refine AndI ?_ | omega))
  · rw [if_neg hl] at c2
    refine body0 (fun d => if d = 11 then 0 else 1) 2 Tryd.func3 rfl Tryd.ntmps3 (by rw [Tryd.results3]) (by simp) ?_
    (repeat' (first | simp -implicitDefEqProofs +contextual (maxSteps := 9000000) only [kx, ↓ky, tq3, simprocAttr, hwa, hwb, hma, hmb, hi, hk, g1, g2, l1, l2, hl, e1, List.length_append] | (with_reducible first | refine SB.c (fun _ => ?_) (fun _ => ?_) | refine REG.i ?_ | exact REG.j) | refine CK.d0 enters7 cA ?_ | refine CK.d0 enters8 c1 ?_ | refine CK.d0 enters8 c2 ?_ | refine CK.d0 enters9 c3 ?_ | with_reducible refine AndI ?_ | omega))
end Go.Proofs.YtopbicbgolcmpaaDoor
