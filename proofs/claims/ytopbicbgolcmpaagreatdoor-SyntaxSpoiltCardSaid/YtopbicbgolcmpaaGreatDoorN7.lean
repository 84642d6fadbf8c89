/- A part of the walk (Tryz_N7): its theorems have no condition beyond what they state. -/
import Derived.Test.YtopbicbgolcmpaaGreatDoorN6
set_option linter.unusedSimpArgs false
set_option linter.unusedVariables false
set_option linter.defProp false
namespace Go.Proofs.YtopbicbgolcmpaaGreatDoor
open Go Go.Abs Go.RowKit
set_option maxRecDepth 10000 in
set_option maxHeartbeats 2000000 in
theorem rscan_ac (s : List UInt8) : AC Tryz.prog gl 13 [.pv (.str s)] [] (rS (scan s)) [] := by
  refine body0 (fun d => if d = 7 then 0 else 2) 3 Tryz.func13 rfl Tryz.ntmps13 (by rw [Tryz.results13]) (by simp) ?_
  by_cases hbig : s.length > 4096
  · have hbig' : (s.length : Int) > 4096 := by omega
    have hsc : scan s = ([], 0, 5) := by unfold scan; rw [if_pos hbig]
    rw [hsc]
    (repeat' (first | simp -implicitDefEqProofs +contextual (maxSteps := 9000000) only [kx, ↓ky, tq13, simprocAttr, hbig'] | (with_reducible first | refine SB.c (fun _ => ?_) (fun _ => ?_) | refine REG.i ?_ | exact REG.j) | with_reducible refine AndI ?_ | omega))
  have hbig' : ¬ (s.length : Int) > 4096 := by omega
  have hsc : scan s = scanF s (s.length + 1) 0 [] := by unfold scan; rw [if_neg hbig]
  rw [hsc]
  (repeat' (first | simp -implicitDefEqProofs +contextual (maxSteps := 9000000) only [kx, ↓ky, tq13, simprocAttr, hbig'] | (with_reducible first | refine SB.c (fun _ => ?_) (fun _ => ?_) | refine REG.i ?_ | exact REG.j) | with_reducible refine AndI ?_ | omega))
  (refine LW.weak (Weak.nilRow 5 1 4 rfl rfl (by decide)) ?_; simp only [List.set_cons_zero, List.set_cons_succ])
  refine loopV (ι := SI s) (fun i => ⟨(.pv (.str s) :: .junk :: .junk :: .junk :: .junk :: .row 1 i.acc.length :: .pv (.int .i64 i.k) :: .junk :: .junk :: .junk :: .junk :: .junk :: .junk :: .junk :: .junk :: .junk :: .junk :: .junk :: .junk :: .junk :: .junk :: .junk :: .junk :: .junk :: .junk :: .junk :: .junk :: .junk :: .junk :: .junk :: .junk :: .junk :: .junk :: .junk :: .junk :: .junk :: .junk :: .junk :: .junk :: .junk :: .junk :: .junk :: .junk :: .junk :: .junk :: .junk :: .junk :: .junk :: .junk :: .junk :: .junk :: .junk :: .junk :: .junk :: .junk :: .junk :: .junk :: .junk :: []), [none, some (.row 4 (i.acc.map encTk)), none]⟩) (fun i => s.length - i.k) (SI.start s) (WFe (by simp [kwf, SI.start_k, SI.start_acc]) (by simp [kwf, SI.start_k, SI.start_acc])) ?_
  rintro ⟨k, acc, f, hk, hf, ha, heq⟩
  by_cases hlt : k < s.length
  · have hlt' : (k : Int) < s.length := by omega
    have hw := wrapS k (by omega)
    have cB := rblank_ac (s.getD k 0)
    by_cases hb : isB (s.getD k 0) = true
    · rw [hb] at cB
      (repeat' (first | simp -implicitDefEqProofs +contextual (maxSteps := 9000000) only [kx, ↓ky, tq13, simprocAttr, hlt, hlt', hw] | (with_reducible first | refine SB.c (fun _ => ?_) (fun _ => ?_) | refine REG.i ?_ | exact REG.j) | refine CK.d0 enters29 cB ?_ | with_reducible refine AndI ?_ | omega))
      exact ⟨SI.blank (SI.mk k acc f hk hf ha heq) hlt hb, (WFe (by simp [kwf, SI.blank_k, SI.blank_acc]) (by simp [kwf, SI.blank_k, SI.blank_acc])), by simp only [SI.blank_k]; omega⟩
    · rw [(Bool.not_eq_true _).mp hb] at cB
      by_cases hh : s.getD k 0 = 35
      · have hg : k < runF notLF s k ∧ runF notLF s k ≤ s.length := hash_gt (SI.mk k acc f hk hf ha heq) hlt hh
        have h35 : ((((s.getD k 0).toNat : Nat) : Int) == 35) = true := by rw [hh]; rfl
        (repeat' (first | simp -implicitDefEqProofs +contextual (maxSteps := 9000000) only [kx, ↓ky, tq13, simprocAttr, hlt, hlt', h35] | (with_reducible first | refine SB.c (fun _ => ?_) (fun _ => ?_) | refine REG.i ?_ | exact REG.j) | refine CK.d0 enters29 cB ?_ | with_reducible refine AndI ?_ | omega))
        refine loopV (ι := {j : Nat // k ≤ j ∧ j ≤ s.length ∧ runF notLF s j = runF notLF s k}) (fun i => ⟨(.pv (.str s) :: .junk :: .junk :: .junk :: .junk :: .row 1 acc.length :: .pv (.int .i64 i.1) :: .junk :: .junk :: .junk :: .junk :: .junk :: .junk :: .junk :: .junk :: .junk :: .junk :: .junk :: .junk :: .junk :: .junk :: .junk :: .junk :: .junk :: .junk :: .junk :: .junk :: .junk :: .junk :: .junk :: .junk :: .junk :: .junk :: .junk :: .junk :: .junk :: .junk :: .junk :: .junk :: .junk :: .junk :: .junk :: .junk :: .junk :: .junk :: .junk :: .junk :: .junk :: .junk :: .junk :: .junk :: .junk :: .junk :: .junk :: .junk :: .junk :: .junk :: .junk :: []), [none, some (.row 4 (acc.map encTk)), none]⟩) (fun i => s.length - i.1) ⟨k, by omega, by omega, rfl⟩ WFn ?_
        rintro ⟨j, hj1, hj, hjeq⟩
        have hwj : j < s.length → IntKind.i64.wrap ((j : Int) + 1) = ((j + 1 : Nat) : Int) := fun h => wrapS j (by omega)
        have hn10 : ((((s.getD j 0).toNat : Nat) : Int) != 10) = notLF (s.getD j 0) := congrArg (!·) (u8b (s.getD j 0) 10)
        (repeat' (first | simp -implicitDefEqProofs +contextual (maxSteps := 9000000) only [kx, ↓ky, tq13, simprocAttr, hn10] | (with_reducible first | refine SB.c (fun _ => ?_) (fun _ => ?_) | refine REG.i ?_ | exact REG.j) | with_reducible refine AndI ?_ | omega))
        · rename_i hc
          obtain ⟨h1, h2, h3⟩ := run_more notLF s j hc
          exact ⟨⟨j + 1, by omega, by omega, by rw [← hjeq, h2]⟩, (WFe (by simp [kwf, hwj h1]) (by simp [kwf, hwj h1])), by simp; omega⟩
        · rename_i hc
          have hke := run_exit notLF s j hc
          have hjk : runF notLF s k = j := by omega
          exact ⟨SI.hsh (SI.mk k acc f hk hf ha heq) hlt hh, (WFe (by simp [kwf, SI.hsh_k, SI.hsh_acc, hjk]) (by simp [kwf, SI.hsh_k, SI.hsh_acc, hjk])), by simp only [SI.hsh_k]; omega⟩
      · have m5 := u8f hh
        simp only [UInt8.reduceToNat, Int.cast_ofNat_Int] at m5
        have cO := rone_ac s k (by omega) hlt
        by_cases h0 : (oneF s k).2.2 = 0
        · have hg : k < (oneF s k).2.1.toNat ∧ (oneF s k).2.1.toNat ≤ s.length ∧ (oneF s k).2.1 = (((oneF s k).2.1.toNat : Nat) : Int) := tok_gt (SI.mk k acc f hk hf ha heq) hlt h0
          have hrm := roomL (acc.length + 1) 40 (by omega)
          have h0' : ((oneF s k).2.2 != 0) = false := by simpa using h0
          (repeat' (first | simp -implicitDefEqProofs +contextual (maxSteps := 9000000) only [kx, ↓ky, tq13, simprocAttr, hlt, hlt', m5, h0', hrm] | (with_reducible first | refine SB.c (fun _ => ?_) (fun _ => ?_) | refine REG.i ?_ | exact REG.j) | refine CK.d0 enters29 cB ?_ | refine CK.d0 enters30 cO ?_ | with_reducible refine AndI ?_ | omega))
          exact ⟨SI.tok (SI.mk k acc f hk hf ha heq) hlt hb hh h0, (WTe [0, 2, 1] (by simp [kwt, SI.tok_k, SI.tok_acc, encTk, ← hg.2.2]) (by simp [kwt, SI.tok_k, SI.tok_acc, encTk, ← hg.2.2])), by simp only [SI.tok_k]; omega⟩
        · have h0' : ((oneF s k).2.2 != 0) = true := by simpa using h0
          have hbad : scanF s (s.length + 1) 0 [] = ([], (k : Int), (oneF s k).2.2) := SI.bad (SI.mk k acc f hk hf ha heq) hlt hb hh h0
          rw [hbad]
          (repeat' (first | simp -implicitDefEqProofs +contextual (maxSteps := 9000000) only [kx, ↓ky, tq13, simprocAttr, hlt, hlt', m5, h0'] | (with_reducible first | refine SB.c (fun _ => ?_) (fun _ => ?_) | refine REG.i ?_ | exact REG.j) | refine CK.d0 enters29 cB ?_ | refine CK.d0 enters30 cO ?_ | with_reducible refine AndI ?_ | omega))
  · have hlt' : ¬ (k : Int) < s.length := by omega
    have hfin : scanF s (s.length + 1) 0 [] = (acc, 0, 0) := SI.fin (SI.mk k acc f hk hf ha heq) hlt
    rw [hfin]
    (repeat' (first | simp -implicitDefEqProofs +contextual (maxSteps := 9000000) only [kx, ↓ky, tq13, simprocAttr, hlt'] | (with_reducible first | refine SB.c (fun _ => ?_) (fun _ => ?_) | refine REG.i ?_ | exact REG.j) | with_reducible refine AndI ?_ | omega))
    all_goals simp
end Go.Proofs.YtopbicbgolcmpaaGreatDoor
