/- A part of the walk (Tryz_N6): its theorems have no condition beyond what they state. -/
import Derived.Test.YtopbicbgolcmpaaGreatDoorN5
set_option linter.unusedSimpArgs false
set_option linter.unusedVariables false
set_option linter.defProp false
namespace Go.Proofs.YtopbicbgolcmpaaGreatDoor
open Go Go.Abs Go.RowKit
set_option maxRecDepth 10000 in
set_option maxHeartbeats 2000000 in
theorem rone_ac (s : List UInt8) (a : Nat) (hs : s.length ≤ 4096) (ha : a < s.length) : AC Tryz.prog gl 30 [.pv (.str s), .pv (.int .i64 a)] [] (rT (oneF s a)) [] := by
  have ha' : (a : Int) < s.length := by omega
  have hw := wrapS a (by omega)
  have e1 : letterF ((s.getD a 0).toNat : Int) = isL (s.getD a 0) := rfl
  have e2 : digitF ((s.getD a 0).toNat : Int) = isD (s.getD a 0) := rfl
  refine body0 (fun _ => 0) 1 Tryz.func30 rfl Tryz.ntmps30 (by rw [Tryz.results30]) (by simp) ?_
  by_cases hl : isL (s.getD a 0) = true
  · have hW : isW (s.getD a 0) = true := by simp [isW]; exact .inl hl
    have hr0 : runF isW s a = runF isW s (a + 1) := by rw [runF_step isW s a ha, if_pos hW]
    (repeat' (first | simp -implicitDefEqProofs +contextual (maxSteps := 9000000) only [kx, ↓ky, tq30, simprocAttr, ha, ha', e1, hl, hw] | (with_reducible first | refine SB.c (fun _ => ?_) (fun _ => ?_) | refine REG.i ?_ | exact REG.j) | refine CK.d0 enters53 (rletter_ac _) ?_ | with_reducible refine AndI ?_ | omega))
    refine loopV (ι := {k : Nat // a < k ∧ k ≤ s.length ∧ runF isW s k = runF isW s a}) (fun i => ⟨(.pv (.str s) :: .pv (.int .i64 a) :: .junk :: .junk :: .ref 0 0 :: .junk :: .junk :: .junk :: .pv (.int .i64 i.1) :: .junk :: .junk :: .junk :: .junk :: .junk :: .junk :: .junk :: .junk :: .junk :: .junk :: .junk :: .junk :: .junk :: .junk :: .junk :: .junk :: .junk :: .junk :: .junk :: .junk :: .junk :: .junk :: .junk :: .junk :: .junk :: .junk :: .junk :: .junk :: .junk :: .junk :: .junk :: .junk :: .junk :: .junk :: .junk :: .junk :: .junk :: .junk :: .junk :: .junk :: .junk :: .junk :: .junk :: .junk :: .junk :: .junk :: .junk :: .junk :: .junk :: .junk :: .junk :: .junk :: .junk :: .junk :: .junk :: .junk :: .junk :: .junk :: .junk :: .junk :: .junk :: .junk :: .junk :: .junk :: .junk :: .junk :: .junk :: .junk :: .junk :: .junk :: .junk :: .junk :: .junk :: .junk :: .junk :: .junk :: .junk :: .junk :: .junk :: .junk :: .junk :: .junk :: .junk :: .junk :: .junk :: .junk :: .junk :: .junk :: .junk :: .junk :: .junk :: .junk :: .junk :: .junk :: .junk :: .junk :: .junk :: .junk :: .junk :: .junk :: .junk :: .junk :: .junk :: .junk :: .junk :: .junk :: .junk :: .junk :: .junk :: .junk :: .junk :: .junk :: .junk :: .junk :: .junk :: .junk :: .junk :: .junk :: .junk :: .junk :: .junk :: []), [some (.cells [.pv (.int .i64 0), .pv (.str []), .pv (.int .i64 0), .pv (.int .i64 0)])]⟩) (fun i => s.length - i.1) ⟨a + 1, by omega, by omega, hr0.symm⟩ WFn ?_
    rintro ⟨k, hk1, hk, heq⟩
    have hst := runF_step isW s k
    have hen := runF_end isW s k
    have hwk : k < s.length → IntKind.i64.wrap ((k : Int) + 1) = ((k + 1 : Nat) : Int) := fun h => wrapS k (by omega)
    have hsub : IntKind.i64.wrap ((k : Int) - a) = k - a := wrap64 _ (by omega) (by omega)
    have hcut : ((s.take k).drop a) = cut s a k := rfl
    have ho : oneF s a = if runF isW s a - a > 16 then (tk0, (0 : Int), (5 : Int)) else ((⟨1, cut s a (runF isW s a), 0, (a : Int)⟩ : TkD), ((runF isW s a : Nat) : Int), (0 : Int)) := by unfold oneF; rw [if_pos hl]
    (repeat' (first | simp -implicitDefEqProofs +contextual (maxSteps := 9000000) only [kx, ↓ky, tq30, simprocAttr, hsub, hcut] | (with_reducible first | refine SB.c (fun _ => ?_) (fun _ => ?_) | refine REG.i ?_ | exact REG.j) | refine CK.d0 enters53 (rletter_ac _) ?_ | refine CK.d0 enters54 (rdigit_ac _) ?_ | with_reducible refine AndI ?_ | omega))
    · rename_i hc
      obtain ⟨hlt, h2, h3⟩ := run_more isW s k hc
      exact ⟨⟨k + 1, by omega, by omega, by rw [← heq, h2]⟩, (WFe (by simp [kwf, hwk hlt]) (by simp [kwf, hwk hlt])), by simp; omega⟩
    · rename_i hc hg
      have hke := run_exit isW s k hc
      have hg' : runF isW s a - a > 16 := by omega
      rw [ho, if_pos hg']
      simp [tk0]
    · rename_i hc hg
      have hke := run_exit isW s k hc
      have hra : runF isW s a = k := by omega
      have hg' : ¬ runF isW s a - a > 16 := by omega
      rw [ho, if_neg hg', hra]
      simp
  · have hl' : isL (s.getD a 0) = false := by simpa using hl
    by_cases hd : isD (s.getD a 0) = true
    · have ho : oneF s a = numF s a := by unfold oneF; rw [if_neg hl, if_pos hd]
      rw [ho]
      have h48 : ((((s.getD a 0).toNat : Nat) : Int) != 48) = (s.getD a 0 != 48) := congrArg (!·) (u8b (s.getD a 0) 48)
      have hlen2 := numEnd_le s a ha
      by_cases hc0 : s.getD a 0 = 48
      · have hne : ((((s.getD a 0).toNat : Nat) : Int) != 48) = false := by rw [h48, hc0]; rfl
        have hke : numEnd s a = a + 1 := by unfold numEnd; rw [if_pos hc0]
        have hdig : ∀ c ∈ cut s a (a + 1), isD c = true := by rw [cut_succ s a a ha (Nat.le_refl _), cut_self]; simpa using hd
        rw [hke] at hlen2
        have cN := rnumber_ac (cut s a (a + 1)) hdig (by rw [cut_len s a _ hlen2.2]; omega)
        have hcut : ((s.take (a + 1)).drop a) = cut s a (a + 1) := rfl
        (repeat' (first | simp -implicitDefEqProofs +contextual (maxSteps := 9000000) only [kx, ↓ky, tq30, simprocAttr, ha, ha', e1, hl', e2, hd, hne, hw, hcut] | (with_reducible first | refine SB.c (fun _ => ?_) (fun _ => ?_) | refine REG.i ?_ | exact REG.j) | refine CK.d0 enters53 (rletter_ac _) ?_ | refine CK.d0 enters54 (rdigit_ac _) ?_ | refine CK.d0 enters55 cN ?_ | with_reducible refine AndI ?_ | omega))
        · rename_i hc
          obtain ⟨_, _, h3⟩ := run_more isW s _ hc
          have hg : runF isW s (numEnd s a) > numEnd s a := by rw [hke]; exact h3
          simp [numF, hg, tk0]
        · rename_i hc hv
          have h3 := run_exit isW s _ hc
          have hg : ¬ runF isW s (numEnd s a) > numEnd s a := by rw [hke]; omega
          have hv' : ¬ valF (cut s a (numEnd s a)) < 9223372036854775808 := by rw [hke]; simpa using hv
          simp only [numF, if_neg hg, if_neg hv', tk0]
          simp
        · rename_i hc hv
          have h3 := run_exit isW s _ hc
          have hg : ¬ runF isW s (numEnd s a) > numEnd s a := by rw [hke]; omega
          have hv2 : valF (cut s a (numEnd s a)) < 9223372036854775808 := by rw [hke]; simpa using hv
          simp only [numF, if_neg hg, if_pos hv2]
          rw [hke] at hv2 ⊢
          simp [hv2]
      · have hne : ((((s.getD a 0).toNat : Nat) : Int) != 48) = true := by rw [h48]; simpa using hc0
        (repeat' (first | simp -implicitDefEqProofs +contextual (maxSteps := 9000000) only [kx, ↓ky, tq30, simprocAttr, ha, ha', e1, hl', e2, hd, hne, hw] | (with_reducible first | refine SB.c (fun _ => ?_) (fun _ => ?_) | refine REG.i ?_ | exact REG.j) | refine CK.d0 enters53 (rletter_ac _) ?_ | refine CK.d0 enters54 (rdigit_ac _) ?_ | with_reducible refine AndI ?_ | omega))
        refine loopV (ι := {k : Nat // a < k ∧ k ≤ s.length ∧ runF isD s k = runF isD s (a + 1) ∧ ∀ c ∈ cut s a k, isD c = true}) (fun i => ⟨(.pv (.str s) :: .pv (.int .i64 a) :: .junk :: .junk :: .ref 0 0 :: .junk :: .junk :: .junk :: .pv (.int .i64 i.1) :: .junk :: .junk :: .junk :: .junk :: .junk :: .junk :: .junk :: .junk :: .junk :: .junk :: .junk :: .junk :: .junk :: .junk :: .junk :: .junk :: .junk :: .junk :: .junk :: .junk :: .junk :: .junk :: .junk :: .junk :: .junk :: .junk :: .junk :: .junk :: .junk :: .junk :: .junk :: .junk :: .junk :: .junk :: .junk :: .junk :: .junk :: .junk :: .junk :: .junk :: .junk :: .junk :: .junk :: .junk :: .junk :: .junk :: .junk :: .junk :: .junk :: .junk :: .junk :: .junk :: .junk :: .junk :: .junk :: .junk :: .junk :: .junk :: .junk :: .junk :: .junk :: .junk :: .junk :: .junk :: .junk :: .junk :: .junk :: .junk :: .junk :: .junk :: .junk :: .junk :: .junk :: .junk :: .junk :: .junk :: .junk :: .junk :: .junk :: .junk :: .junk :: .junk :: .junk :: .junk :: .junk :: .junk :: .junk :: .junk :: .junk :: .junk :: .junk :: .junk :: .junk :: .junk :: .junk :: .junk :: .junk :: .junk :: .junk :: .junk :: .junk :: .junk :: .junk :: .junk :: .junk :: .junk :: .junk :: .junk :: .junk :: .junk :: .junk :: .junk :: .junk :: .junk :: .junk :: .junk :: .junk :: .junk :: .junk :: .junk :: .junk :: []), [some (.cells [.pv (.int .i64 0), .pv (.str []), .pv (.int .i64 0), .pv (.int .i64 0)])]⟩) (fun i => s.length - i.1) ⟨a + 1, by omega, by omega, rfl, by rw [cut_succ s a a ha (Nat.le_refl _), cut_self]; simpa using hd⟩ WFn ?_
        rintro ⟨k, hk1, hk, heq, hdig⟩
        have hwk : k < s.length → IntKind.i64.wrap ((k : Int) + 1) = ((k + 1 : Nat) : Int) := fun h => wrapS k (by omega)
        have hcut : ((s.take k).drop a) = cut s a k := rfl
        have cN := rnumber_ac (cut s a k) hdig (by rw [cut_len s a _ hk]; omega)
        by_cases hx : (decide ((k : Int) < s.length) && isD (s.getD k 0)) = true
        · obtain ⟨hlt, h2, h3⟩ := run_more isD s k hx
          have hlt' : (k : Int) < s.length := by omega
          rw [Bool.and_eq_true] at hx
          have e3 : digitF ((s.getD k 0).toNat : Int) = true := hx.2
          (repeat' (first | simp -implicitDefEqProofs +contextual (maxSteps := 9000000) only [kx, ↓ky, tq30, simprocAttr, hlt, hlt', e3, hwk hlt] | (with_reducible first | refine SB.c (fun _ => ?_) (fun _ => ?_) | refine REG.i ?_ | exact REG.j) | refine CK.d0 enters54 (rdigit_ac _) ?_ | with_reducible refine AndI ?_ | omega))
          exact ⟨⟨k + 1, by omega, by omega, by rw [← heq, h2], fun c hcm => by
            rw [cut_succ s a k hlt (by omega), List.mem_append, List.mem_singleton] at hcm
            rcases hcm with hcm | rfl
            · exact hdig c hcm
            · exact hx.2⟩, WFn, by simp; omega⟩
        · have hx' : (decide ((k : Int) < s.length) && digitF ((s.getD k 0).toNat : Int)) = false := (Bool.not_eq_true _).mp hx
          have hke : numEnd s a = k := by unfold numEnd; rw [if_neg hc0, ← heq]; exact run_exit isD s k hx'
          (repeat' (first | simp -implicitDefEqProofs +contextual (maxSteps := 9000000) only [kx, ↓ky, tq30, simprocAttr, hx', hcut] | (with_reducible first | refine SB.c (fun _ => ?_) (fun _ => ?_) | refine REG.i ?_ | exact REG.j) | refine CK.d0 enters54 (rdigit_ac _) ?_ | refine CK.d0 enters53 (rletter_ac _) ?_ | refine CK.d0 enters55 cN ?_ | with_reducible refine AndI ?_ | omega))
          · rename_i hc
            obtain ⟨_, _, h3⟩ := run_more isW s _ hc
            have hg : runF isW s (numEnd s a) > numEnd s a := by rw [hke]; exact h3
            simp [numF, hg, tk0]
          · rename_i hc hv
            have h3 := run_exit isW s _ hc
            have hg : ¬ runF isW s (numEnd s a) > numEnd s a := by rw [hke]; omega
            have hv' : ¬ valF (cut s a (numEnd s a)) < 9223372036854775808 := by rw [hke]; simpa using hv
            simp only [numF, if_neg hg, if_neg hv', tk0]
            simp
          · rename_i hc hv
            have h3 := run_exit isW s _ hc
            have hg : ¬ runF isW s (numEnd s a) > numEnd s a := by rw [hke]; omega
            have hv2 : valF (cut s a (numEnd s a)) < 9223372036854775808 := by rw [hke]; simpa using hv
            simp only [numF, if_neg hg, if_pos hv2]
            rw [hke] at hv2 ⊢
            simp [hv2]
    · have hd' : isD (s.getD a 0) = false := by simpa using hd
      have hsg := signF_eq (s.getD a 0) (nextB s a)
      have cS := rsingle_ac (s.getD a 0)
      have hcut1 : ((s.take (a + 1)).drop a) = cut s a (a + 1) := rfl
      have hcut2 : ((s.take (a + 1 + 1)).drop a) = cut s a (a + 2) := rfl
      have hw2 : a + 1 < s.length → IntKind.i64.wrap (((a + 1 : Nat) : Int) + 1) = ((a + 1 + 1 : Nat) : Int) := fun h => wrapS (a + 1) (by omega)
      have ho : oneF s a = if signF (s.getD a 0).toNat (nextB s a) = 0 then (tk0, (0 : Int), (1 : Int)) else ((⟨3, cut s a (a + (signF (s.getD a 0).toNat (nextB s a)).toNat), 0, (a : Int)⟩ : TkD), (a : Int) + signF (s.getD a 0).toNat (nextB s a), (0 : Int)) := by unfold oneF; rw [if_neg hl, if_neg hd]
      by_cases h1 : a + 1 < s.length
      · have h1' : ((a + 1 : Nat) : Int) < s.length := by omega
        have hnb : nextB s a = ((s.getD (a + 1) 0).toNat : Int) := by unfold nextB; rw [if_pos h1]
        rw [hnb] at hsg ho
        generalize hdb : dblF ((s.getD a 0).toNat : Int) ((s.getD (a + 1) 0).toNat : Int) = b at *
        have cD := rdouble_ac ((s.getD a 0).toNat : Int) ((s.getD (a + 1) 0).toNat : Int)
        rw [hdb] at cD
        generalize sngL.contains (s.getD a 0) = c at *
        rw [hsg] at ho
        rw [ho]
        cases b <;> cases c
        all_goals
          (repeat' (first | simp -implicitDefEqProofs +contextual (maxSteps := 9000000) only [kx, ↓ky, tq30, simprocAttr, ha, ha', e1, hl', e2, hd', hw, h1, h1', hw2 h1, hcut1, hcut2] | (with_reducible first | refine SB.c (fun _ => ?_) (fun _ => ?_) | refine REG.i ?_ | exact REG.j) | refine CK.d0 enters53 (rletter_ac _) ?_ | refine CK.d0 enters54 (rdigit_ac _) ?_ | refine CK.d0 enters56 cD ?_ | refine CK.d0 enters57 cS ?_ | with_reducible refine AndI ?_ | omega))
          try simp [tk0]
      · have h1' : ¬ ((a + 1 : Nat) : Int) < s.length := by omega
        have hnb : nextB s a = 0 := by unfold nextB; rw [if_neg h1]
        rw [hnb] at hsg ho
        have hdb : dblF ((s.getD a 0).toNat : Int) 0 = false := by simp [dblF]
        rw [hdb] at hsg
        generalize sngL.contains (s.getD a 0) = c at *
        rw [hsg] at ho
        rw [ho]
        cases c
        all_goals
          (repeat' (first | simp -implicitDefEqProofs +contextual (maxSteps := 9000000) only [kx, ↓ky, tq30, simprocAttr, ha, ha', e1, hl', e2, hd', hw, h1', hcut1] | (with_reducible first | refine SB.c (fun _ => ?_) (fun _ => ?_) | refine REG.i ?_ | exact REG.j) | refine CK.d0 enters53 (rletter_ac _) ?_ | refine CK.d0 enters54 (rdigit_ac _) ?_ | refine CK.d0 enters57 cS ?_ | with_reducible refine AndI ?_ | omega))
          try simp [tk0]
end Go.Proofs.YtopbicbgolcmpaaGreatDoor
