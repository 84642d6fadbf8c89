/- A part of the walk (Tryz_N3): its theorems have no condition beyond what they state. -/
import Derived.Test.YtfinhhblcdkpgaaGreatDoorN2
set_option linter.unusedSimpArgs false
set_option linter.unusedVariables false
set_option linter.defProp false
namespace Go.Proofs.YtfinhhblcdkpgaaGreatDoor
open Go Go.Abs Go.RowKit
abbrev rT (r : TkD × Int × Int) : AVal := .tup [.agg [.pv (.int .i64 r.1.kind), .pv (.str r.1.text), .pv (.int .i64 r.1.value), .pv (.int .i64 r.1.pos)], .pv (.int .i64 r.2.1), .pv (.int .i64 r.2.2)]
set_option maxRecDepth 10000 in
set_option maxHeartbeats 1000000 in
theorem number_ac (s : List UInt8) (a : Nat) (hs : s.length ≤ 4096) (ha : a < s.length) (hd : isD (s.getD a 0) = true) : AC Tryz.prog gl 180 [.pv (.str s), .pv (.int .i64 a)] [] (rT (numF s a)) [] := by
  have hw := wrapS a (by omega)
  have ha' : (a : Int) < s.length := by omega
  have h48 : ((((s.getD a 0).toNat : Nat) : Int) != 48) = true ↔ s.getD a 0 ≠ 48 := u8_ne (s.getD a 0) 48 (by omega)
  refine body0 (fun _ => 0) 1 Tryz.func180 rfl Tryz.ntmps180 (by rw [Tryz.results180]) (by simp) ?_
  (repeat' (first | simp -implicitDefEqProofs +contextual (maxSteps := 9000000) only [kx, ↓ky, tq180, simprocAttr, hw] | (with_reducible first | refine SB.c (fun _ => ?_) (fun _ => ?_) | refine REG.i ?_ | exact REG.j) | with_reducible refine AndI ?_ | omega))
  refine loopV (ι := {k : Nat // a < k ∧ k ≤ s.length ∧ (s.getD a 0 ≠ 48 → runF isD s k = runF isD s (a + 1)) ∧ (s.getD a 0 = 48 → k = a + 1) ∧ ∀ c ∈ cut s a k, isD c = true}) (fun i => ⟨(.pv (.str s) :: .pv (.int .i64 a) :: .junk :: .junk :: .ref 0 0 :: .junk :: .junk :: .pv (.int .i64 i.1) :: .junk :: .junk :: .junk :: .junk :: .junk :: .junk :: .junk :: .junk :: .junk :: .junk :: .junk :: .junk :: .junk :: .junk :: .junk :: .junk :: .junk :: .junk :: .junk :: .junk :: .junk :: .junk :: .junk :: .junk :: .junk :: .junk :: .junk :: .junk :: .junk :: .junk :: .junk :: .junk :: .junk :: .junk :: .junk :: .junk :: .junk :: .junk :: .junk :: .junk :: .junk :: .junk :: .junk :: []), [some (.cells [.pv (.int .i64 0), .pv (.str []), .pv (.int .i64 0), .pv (.int .i64 0)])]⟩) (fun i => s.length - i.1) ⟨a + 1, by omega, by omega, fun _ => rfl, fun _ => rfl, by rw [cut_succ s a a ha (Nat.le_refl _), cut_self]; simpa using hd⟩ WFn ?_
  rintro ⟨k, hk1, hk2, hr1, hr2, hdig⟩
  have hwk := wrapS k (by omega)
  have cW := word_ac s k (by omega) hk2
  have hst := runF_step isD s k
  have hen := runF_end isD s k
  have hcl := cut_len s a k hk2
  have hcut : ((s.take k).drop a) = cut s a k := rfl
  by_cases hv : valF (cut s a k) < 9223372036854775808
  · have cP := parseInt_ok (cut s a k) (cut_ne s a k hk1 hk2) hdig (by omega) hv
    (repeat' (first | simp -implicitDefEqProofs +contextual (maxSteps := 9000000) only [kx, ↓ky, tq180, simprocAttr, ha, ha', hwk, hcut] | (with_reducible first | refine SB.c (fun _ => ?_) (fun _ => ?_) | refine REG.i ?_ | exact REG.j) | refine CK.d0 enters165 (digit_ac _) ?_ | refine CK.d0 enters127 cW ?_ | refine CK.d0 enters121 cP ?_ | with_reducible refine AndI ?_ | omega))
    · rename_i hc
      simp only [Bool.and_eq_true, decide_eq_true_eq] at hc
      obtain ⟨⟨c1, c2⟩, c3⟩ := hc
      have hlt : k < s.length := by omega
      have c3' : isD (s.getD k 0) = true := c3
      exact ⟨⟨k + 1, by omega, by omega, fun h => by rw [← hr1 h, hst hlt, if_pos c3'], fun h => absurd h (h48.1 c1), fun c hcm => by
        rw [cut_succ s a k hlt (by omega), List.mem_append, List.mem_singleton] at hcm
        rcases hcm with hcm | rfl
        · exact hdig c hcm
        · exact c3'⟩, WFn, by simp; omega⟩
    · rename_i hc hg
      have hke := numEnd_exit s a k hr1 hr2 hc h48
      have hg' : runF isW s k > k := by omega
      simp [numF, hke, hg', tk0]
    · rename_i hc hg
      have hke := numEnd_exit s a k hr1 hr2 hc h48
      have hg' : ¬ runF isW s k > k := by omega
      simp [numF, hke, hg', hv, tk0]
  · have cP := parseInt_range (cut s a k) (cut_ne s a k hk1 hk2) hdig (by omega) hv
    (repeat' (first | simp -implicitDefEqProofs +contextual (maxSteps := 9000000) only [kx, ↓ky, tq180, simprocAttr, ha, ha', hwk, hcut] | (with_reducible first | refine SB.c (fun _ => ?_) (fun _ => ?_) | refine REG.i ?_ | exact REG.j) | refine CK.d0 enters165 (digit_ac _) ?_ | refine CK.d0 enters127 cW ?_ | refine CK.d0 enters121 cP ?_ | with_reducible refine AndI ?_ | omega))
    · rename_i hc
      simp only [Bool.and_eq_true, decide_eq_true_eq] at hc
      obtain ⟨⟨c1, c2⟩, c3⟩ := hc
      have hlt : k < s.length := by omega
      have c3' : isD (s.getD k 0) = true := c3
      exact ⟨⟨k + 1, by omega, by omega, fun h => by rw [← hr1 h, hst hlt, if_pos c3'], fun h => absurd h (h48.1 c1), fun c hcm => by
        rw [cut_succ s a k hlt (by omega), List.mem_append, List.mem_singleton] at hcm
        rcases hcm with hcm | rfl
        · exact hdig c hcm
        · exact c3'⟩, WFn, by simp; omega⟩
    · rename_i hc hg
      have hke := numEnd_exit s a k hr1 hr2 hc h48
      have hg' : runF isW s k > k := by omega
      simp [numF, hke, hg', tk0]
    · rename_i hc hg
      have hke := numEnd_exit s a k hr1 hr2 hc h48
      have hg' : ¬ runF isW s k > k := by omega
      simp [numF, hke, hg', hv, tk0]
set_option maxRecDepth 10000 in
set_option maxHeartbeats 1000000 in
theorem one_ac (s : List UInt8) (a : Nat) (hs : s.length ≤ 4096) (ha : a < s.length) : AC Tryz.prog gl 160 [.pv (.str s), .pv (.int .i64 a)] [] (rT (oneF s a)) [] := by
  have ha' : (a : Int) < s.length := by omega
  have cW := word_ac s a (by omega) (by omega)
  have h1 := runF_ge isW s a
  have h2 := runF_le isW s a (by omega)
  have hsub : IntKind.i64.wrap ((runF isW s a : Int) - a) = runF isW s a - a := wrap64 _ (by omega) (by omega)
  have cS := sign_ac s a hs ha
  have hs2 := signF_le (s.getD a 0).toNat (nextB s a)
  have hone := oneF_end s a ha
  have hwa : IntKind.i64.wrap ((a : Int) + signF (s.getD a 0).toNat (nextB s a)) = a + signF (s.getD a 0).toNat (nextB s a) := wrap64 _ (by omega) (by omega)
  have e1 : letterF ((s.getD a 0).toNat : Int) = isL (s.getD a 0) := rfl
  have e2 : digitF ((s.getD a 0).toNat : Int) = isD (s.getD a 0) := rfl
  refine body0 (fun _ => 0) 1 Tryz.func160 rfl Tryz.ntmps160 (by rw [Tryz.results160]) (by simp) ?_
  have hcutw : ((s.take (runF isW s a)).drop a) = cut s a (runF isW s a) := rfl
  by_cases hl : isL (s.getD a 0) = true
  · by_cases h16 : runF isW s a - a > 16
    · have h16' : (runF isW s a : Int) - a > 16 := by omega
      have ho : oneF s a = (tk0, 0, 5) := by unfold oneF; rw [if_pos hl, if_pos h16]
      rw [ho]
      (repeat' (first | simp -implicitDefEqProofs +contextual (maxSteps := 9000000) only [kx, ↓ky, tq160, simprocAttr, ha, ha', hsub, e1, hl, h16'] | (with_reducible first | refine SB.c (fun _ => ?_) (fun _ => ?_) | refine REG.i ?_ | exact REG.j) | refine CK.d0 enters126 (letter_ac _) ?_ | refine CK.d0 enters127 cW ?_ | with_reducible refine AndI ?_ | omega))
      simp [tk0]
    · have h16' : ¬ (runF isW s a : Int) - a > 16 := by omega
      have ho : oneF s a = ((⟨1, cut s a (runF isW s a), 0, (a : Int)⟩ : TkD), ((runF isW s a : Nat) : Int), (0 : Int)) := by unfold oneF; rw [if_pos hl, if_neg h16]
      rw [ho]
      (repeat' (first | simp -implicitDefEqProofs +contextual (maxSteps := 9000000) only [kx, ↓ky, tq160, simprocAttr, ha, ha', hsub, e1, hl, h16', hcutw] | (with_reducible first | refine SB.c (fun _ => ?_) (fun _ => ?_) | refine REG.i ?_ | exact REG.j) | refine CK.d0 enters126 (letter_ac _) ?_ | refine CK.d0 enters127 cW ?_ | with_reducible refine AndI ?_ | omega))
  · have hl' : isL (s.getD a 0) = false := by simpa using hl
    by_cases hd : isD (s.getD a 0) = true
    · have ho : oneF s a = numF s a := by unfold oneF; rw [if_neg hl, if_pos hd]
      have cN := number_ac s a hs ha hd
      rw [ho]
      (repeat' (first | simp -implicitDefEqProofs +contextual (maxSteps := 9000000) only [kx, ↓ky, tq160, simprocAttr, ha, ha', e1, hl', e2, hd] | (with_reducible first | refine SB.c (fun _ => ?_) (fun _ => ?_) | refine REG.i ?_ | exact REG.j) | refine CK.d0 enters126 (letter_ac _) ?_ | refine CK.d0 enters165 (digit_ac _) ?_ | refine CK.d0 enters180 cN ?_ | with_reducible refine AndI ?_ | omega))
    · have hd' : isD (s.getD a 0) = false := by simpa using hd
      generalize hsg : signF (s.getD a 0).toNat (nextB s a) = g at *
      by_cases h0 : g = 0
      · have ho : oneF s a = (tk0, 0, 1) := by unfold oneF; rw [if_neg hl, if_neg hd, hsg, if_pos h0]
        have h0' : (g == 0) = true := by simpa using h0
        rw [ho]
        (repeat' (first | simp -implicitDefEqProofs +contextual (maxSteps := 9000000) only [kx, ↓ky, tq160, simprocAttr, ha, ha', e1, hl', e2, hd', h0'] | (with_reducible first | refine SB.c (fun _ => ?_) (fun _ => ?_) | refine REG.i ?_ | exact REG.j) | refine CK.d0 enters126 (letter_ac _) ?_ | refine CK.d0 enters165 (digit_ac _) ?_ | refine CK.d0 enters181 cS ?_ | with_reducible refine AndI ?_ | omega))
        simp [tk0]
      · have ho : oneF s a = ((⟨3, cut s a (a + g.toNat), 0, (a : Int)⟩ : TkD), (a : Int) + g, (0 : Int)) := by unfold oneF; rw [if_neg hl, if_neg hd, hsg, if_neg h0]
        have h0' : (g == 0) = false := by simpa using h0
        obtain ⟨e, he1, he2, he3⟩ := hone (by rw [ho])
        rw [ho] at he1
        have hle : (a : Int) + g ≤ s.length := by simp only at he1; omega
        have hge : (a : Int) ≤ a + g := by omega
        have hge0 : (0 : Int) ≤ a + g := by omega
        have htn : ((a : Int) + g).toNat = a + g.toNat := by omega
        have hcutg : ((s.take (a + g.toNat)).drop a) = cut s a (a + g.toNat) := rfl
        rw [ho]
        (repeat' (first | simp -implicitDefEqProofs +contextual (maxSteps := 9000000) only [kx, ↓ky, tq160, simprocAttr, ha, ha', e1, hl', e2, hd', h0', hwa, hle, hge, hge0, htn, hcutg] | (with_reducible first | refine SB.c (fun _ => ?_) (fun _ => ?_) | refine REG.i ?_ | exact REG.j) | refine CK.d0 enters126 (letter_ac _) ?_ | refine CK.d0 enters165 (digit_ac _) ?_ | refine CK.d0 enters181 cS ?_ | with_reducible refine AndI ?_ | omega))
end Go.Proofs.YtfinhhblcdkpgaaGreatDoor
