/- A part of the walk (Tryz_N4): its theorems have no condition beyond what they state. -/
import Derived.Test.YtfinhhblcdkpgaaGreatDoorN3
import Derived.Test.YtfinhhblcdkpgaaGreatDoorLib3
set_option linter.unusedSimpArgs false
set_option linter.unusedVariables false
set_option linter.defProp false
namespace Go.Proofs.YtfinhhblcdkpgaaGreatDoor
open Go Go.Abs Go.RowKit
abbrev rS (r : List TkD × Int × Int) : AVal := .tup [.pv (.slice (r.1.map encTk)), .pv (.int .i64 r.2.1), .pv (.int .i64 r.2.2)]
set_option maxRecDepth 100000 in
set_option maxHeartbeats 2000000 in
theorem scan_ac (s : List UInt8) : AC Tryz.prog gl 123 [.pv (.str s)] [] (rS (scan s)) [] := by
  refine body0 (fun d => if d = 7 then 0 else 2) 3 Tryz.func123 rfl Tryz.ntmps123 (by rw [Tryz.results123]) (by simp) ?_
  by_cases hbig : s.length > 4096
  · have hbig' : (s.length : Int) > 4096 := by omega
    have hsc : scan s = ([], 0, 5) := by unfold scan; rw [if_pos hbig]
    rw [hsc]
    (repeat' (first | simp -implicitDefEqProofs +contextual (maxSteps := 9000000) only [kx, ↓ky, tq123, simprocAttr, hbig'] | (with_reducible first | refine SB.c (fun _ => ?_) (fun _ => ?_) | refine REG.i ?_ | exact REG.j) | with_reducible refine AndI ?_ | omega))
  have hbig' : ¬ (s.length : Int) > 4096 := by omega
  have hsc : scan s = scanF s (s.length + 1) 0 [] := by unfold scan; rw [if_neg hbig]
  rw [hsc]
  (repeat' (first | simp -implicitDefEqProofs +contextual (maxSteps := 9000000) only [kx, ↓ky, tq123, simprocAttr, hbig'] | (with_reducible first | refine SB.c (fun _ => ?_) (fun _ => ?_) | refine REG.i ?_ | exact REG.j) | with_reducible refine AndI ?_ | omega))
  (refine LW.weak (Weak.nilRow 5 1 4 rfl rfl (by decide)) ?_; simp only [List.set_cons_zero, List.set_cons_succ])
  refine loopV (ι := SI s) (fun i => ⟨(.pv (.str s) :: .junk :: .junk :: .junk :: .junk :: .row 1 i.acc.length :: .pv (.int .i64 i.k) :: .junk :: .junk :: .junk :: .junk :: .junk :: .junk :: .junk :: .junk :: .junk :: .junk :: .junk :: .junk :: .junk :: .junk :: .junk :: .junk :: .junk :: .junk :: .junk :: .junk :: .junk :: .junk :: .junk :: .junk :: .junk :: .junk :: .junk :: .junk :: .junk :: .junk :: .junk :: .junk :: .junk :: .junk :: .junk :: .junk :: .junk :: .junk :: .junk :: .junk :: .junk :: .junk :: []), [none, some (.row 4 (i.acc.map encTk)), none]⟩) (fun i => s.length - i.k) (SI.start s) (WFe (by simp [kwf, SI.start_k, SI.start_acc]) (by simp [kwf, SI.start_k, SI.start_acc])) ?_
  rintro ⟨k, acc, f, hk, hf, ha, heq⟩
  by_cases hlt : k < s.length
  · have hlt' : (k : Int) < s.length := by omega
    have hw := wrapS k (by omega)
    by_cases hb : isB (s.getD k 0) = true
    · rcases isB_or hb with hc | hc | hc | hc
      all_goals
        (repeat' (first | simp -implicitDefEqProofs +contextual (maxSteps := 9000000) only [kx, ↓ky, tq123, simprocAttr, hlt, hlt', hc, UInt8.reduceToNat, hw] | (with_reducible first | refine SB.c (fun _ => ?_) (fun _ => ?_) | refine REG.i ?_ | exact REG.j) | with_reducible refine AndI ?_ | omega))
        exact ⟨SI.blank (SI.mk k acc f hk hf ha heq) hlt hb, (WFe (by simp [kwf, SI.blank_k, SI.blank_acc]) (by simp [kwf, SI.blank_k, SI.blank_acc])), by simp only [SI.blank_k]; omega⟩
    · obtain ⟨n1, n2, n3, n4⟩ := isB_not hb
      have m1 := u8f n1
      have m2 := u8f n2
      have m3 := u8f n3
      have m4 := u8f n4
      simp only [UInt8.reduceToNat, Int.cast_ofNat_Int] at m1 m2 m3 m4
      by_cases hh : s.getD k 0 = 35
      · have cC := comment_ac s k (by omega) (by omega)
        have hg : k < runF notLF s k ∧ runF notLF s k ≤ s.length := hash_gt (SI.mk k acc f hk hf ha heq) hlt hh
        (repeat' (first | simp -implicitDefEqProofs +contextual (maxSteps := 9000000) only [kx, ↓ky, tq123, simprocAttr, hlt, hlt', hh, UInt8.reduceToNat] | (with_reducible first | refine SB.c (fun _ => ?_) (fun _ => ?_) | refine REG.i ?_ | exact REG.j) | refine CK.d0 enters159 cC ?_ | with_reducible refine AndI ?_ | omega))
        exact ⟨SI.hsh (SI.mk k acc f hk hf ha heq) hlt hh, (WFe (by simp [kwf, SI.hsh_k, SI.hsh_acc]) (by simp [kwf, SI.hsh_k, SI.hsh_acc])), by simp only [SI.hsh_k]; omega⟩
      · have m5 := u8f hh
        simp only [UInt8.reduceToNat, Int.cast_ofNat_Int] at m5
        have cO := one_ac s k (by omega) hlt
        by_cases h0 : (oneF s k).2.2 = 0
        · have hg : k < (oneF s k).2.1.toNat ∧ (oneF s k).2.1.toNat ≤ s.length ∧ (oneF s k).2.1 = (((oneF s k).2.1.toNat : Nat) : Int) := tok_gt (SI.mk k acc f hk hf ha heq) hlt h0
          have hrm := roomL (acc.length + 1) 40 (by have := ha; omega)
          have h0' : ((oneF s k).2.2 != 0) = false := by simpa using h0
          (repeat' (first | simp -implicitDefEqProofs +contextual (maxSteps := 9000000) only [kx, ↓ky, tq123, simprocAttr, hlt, hlt', m1, m2, m3, m4, m5, h0', hrm] | (with_reducible first | refine SB.c (fun _ => ?_) (fun _ => ?_) | refine REG.i ?_ | exact REG.j) | refine CK.d0 enters160 cO ?_ | with_reducible refine AndI ?_ | omega))
          exact ⟨SI.tok (SI.mk k acc f hk hf ha heq) hlt hb hh h0, (WTe [0, 2, 1] (by simp [kwt, SI.tok_k, SI.tok_acc, encTk, ← hg.2.2]) (by simp [kwt, SI.tok_k, SI.tok_acc, encTk, ← hg.2.2])), by simp only [SI.tok_k]; omega⟩
        · have h0' : ((oneF s k).2.2 != 0) = true := by simpa using h0
          have hbad : scanF s (s.length + 1) 0 [] = ([], (k : Int), (oneF s k).2.2) := SI.bad (SI.mk k acc f hk hf ha heq) hlt hb hh h0
          rw [hbad]
          (repeat' (first | simp -implicitDefEqProofs +contextual (maxSteps := 9000000) only [kx, ↓ky, tq123, simprocAttr, hlt, hlt', m1, m2, m3, m4, m5, h0'] | (with_reducible first | refine SB.c (fun _ => ?_) (fun _ => ?_) | refine REG.i ?_ | exact REG.j) | refine CK.d0 enters160 cO ?_ | with_reducible refine AndI ?_ | omega))
  · have hlt' : ¬ (k : Int) < s.length := by omega
    have hfin : scanF s (s.length + 1) 0 [] = (acc, 0, 0) := SI.fin (SI.mk k acc f hk hf ha heq) hlt
    rw [hfin]
    (repeat' (first | simp -implicitDefEqProofs +contextual (maxSteps := 9000000) only [kx, ↓ky, tq123, simprocAttr, hlt'] | (with_reducible first | refine SB.c (fun _ => ?_) (fun _ => ?_) | refine REG.i ?_ | exact REG.j) | with_reducible refine AndI ?_ | omega))
    all_goals simp
end Go.Proofs.YtfinhhblcdkpgaaGreatDoor
