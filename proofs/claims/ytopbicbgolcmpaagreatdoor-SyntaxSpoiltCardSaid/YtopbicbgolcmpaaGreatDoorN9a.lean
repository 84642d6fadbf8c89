/- A part of the walk (Tryz_N9a): its theorems have no condition beyond what they state. -/
import Derived.Test.YtopbicbgolcmpaaGreatDoorN8
import Derived.Test.YtopbicbgolcmpaaGreatDoorLib3
set_option linter.unusedSimpArgs false
set_option linter.unusedVariables false
set_option linter.defProp false
namespace Go.Proofs.YtopbicbgolcmpaaGreatDoor
open Go Go.Abs Go.RowKit
theorem wordsA : ([32, 118, 97, 114, 32, 97, 114, 114, 97, 121, 32, 111, 110, 32, 115, 116, 97, 114, 116, 32, 109, 101, 115, 115, 97, 103, 101, 32, 116, 105, 99, 107, 32, 105, 110, 112, 117, 116, 32, 105, 102, 32, 101] : List UInt8).append [108, 115, 101, 32, 119, 104, 105, 108, 101, 32, 115, 101, 110, 100, 32, 111, 117, 116, 112, 117, 116, 32, 115, 101, 108, 102, 32, 112, 114, 111, 99, 115, 32, 102, 114, 111, 109, 32, 118, 97, 108, 117, 101, 32] = wordsL := rfl
structure RbI (s : List UInt8) where
  k : Nat
  hk : k ≤ s.length
  hb : ∀ c ∈ s.take k, c ≠ 32
structure RwI (s : List UInt8) where
  k : Nat
  hk : k ≤ 88
  hm : ∀ i, i < k → i + (s.length + 2) ≤ 87 → hitW s i = false
theorem u8ne {c : UInt8} (h : c ≠ 32) : (((c.toNat : Nat) : Int) == 32) = false := by
  have : ¬ c.toNat = 32 := fun e => h (UInt8.toNat_inj.1 e)
  apply beqF; omega
theorem u8eq {c : UInt8} (h : c = 32) : (((c.toNat : Nat) : Int) == 32) = true := by subst h; rfl
set_option maxRecDepth 10000 in
set_option maxHeartbeats 4000000 in
theorem reserved1_ac (s : List UInt8) (hs : s.length ≤ 281474976710656) : AC Tryz.prog gl 63 [.pv (.str s)] [] (.pv (.bool (!(s.contains 32) && resF s))) [] := by
  refine body0 (fun _ => 0) 0 Tryz.func63 rfl Tryz.ntmps63 (by rw [Tryz.results63]) (by simp) ?_
  by_cases h0 : s = []
  · subst h0
    (repeat' (first | simp -implicitDefEqProofs +contextual (maxSteps := 9000000) only [kx, ↓ky, tq63, simprocAttr] | (with_reducible first | refine SB.c (fun _ => ?_) (fun _ => ?_) | refine REG.i ?_ | exact REG.j) | with_reducible refine AndI ?_ | omega))
    rfl
  have hl0 : 0 < s.length := List.length_pos_iff.2 h0
  have h0' : ((s.length : Int) == 0) = false := beqF (by omega)
  (repeat' (first | simp -implicitDefEqProofs +contextual (maxSteps := 9000000) only [kx, ↓ky, tq63, simprocAttr, h0'] | (with_reducible first | refine SB.c (fun _ => ?_) (fun _ => ?_) | refine REG.i ?_ | exact REG.j) | with_reducible refine AndI ?_ | omega))
  refine loopV (ι := RbI s) (fun i => ⟨(.pv (.str s) :: .junk :: .pv (.bool false) :: .pv (.int .i64 i.k) :: .junk :: .junk :: .junk :: .junk :: .junk :: .junk :: .junk :: .junk :: .junk :: .junk :: .junk :: .junk :: .junk :: .junk :: .junk :: .junk :: .junk :: .junk :: .junk :: .junk :: .junk :: .junk :: .junk :: .junk :: .junk :: .junk :: .junk :: .junk :: .junk :: .junk :: .junk :: .junk :: .junk :: []), []⟩) (fun i => s.length - i.k) ⟨0, by omega, by simp⟩ WFn ?_
  rintro ⟨k, hk, hb⟩
  by_cases hlt : k < s.length
  · have hlt' : (k : Int) < s.length := by omega
    have hge : s.getD k 0 = s[k] := by simp [List.getD, hlt]
    have hw : IntKind.i64.wrap ((k : Int) + 1) = ((k + 1 : Nat) : Int) := by rw [wrap64 _ (by omega) (by omega)]; rfl
    have hmem : s[k] ∈ s := List.getElem_mem hlt
    have htk := List.take_succ_eq_append_getElem hlt
    by_cases hc32 : s[k] = 32
    · have hcon : s.contains 32 = true := by simpa using (hc32 ▸ hmem)
      have heq := u8eq hc32
      rw [hcon]
      (repeat' (first | simp -implicitDefEqProofs +contextual (maxSteps := 9000000) only [kx, ↓ky, tq63, simprocAttr, hlt', hlt, hge, heq, Bool.false_and] | (with_reducible first | refine SB.c (fun _ => ?_) (fun _ => ?_) | refine REG.i ?_ | exact REG.j) | with_reducible refine AndI ?_ | omega))
    · have hne := u8ne hc32
      (repeat' (first | simp -implicitDefEqProofs +contextual (maxSteps := 9000000) only [kx, ↓ky, tq63, simprocAttr, hlt', hlt, hge, hne, hw] | (with_reducible first | refine SB.c (fun _ => ?_) (fun _ => ?_) | refine REG.i ?_ | exact REG.j) | with_reducible refine AndI ?_ | omega))
      exact ⟨⟨k + 1, by omega, by rw [htk]; intro c hc; rcases List.mem_append.1 hc with hc | hc; exact hb c hc; rw [List.mem_singleton.1 hc]; exact hc32⟩, WFn, by simp; omega⟩
  have hlt' : ¬ (k : Int) < s.length := by omega
  rw [List.take_of_length_le (by omega)] at hb
  have hcon : s.contains 32 = false := by
    cases h : s.contains 32 with
    | false => rfl
    | true => exact absurd rfl (hb 32 (by simpa using h))
  rw [hcon, Bool.not_false, Bool.true_and]
  have ha2 : s.length ≤ 4611686018427387902 := by omega
  (repeat' (first | simp -implicitDefEqProofs +contextual (maxSteps := 9000000) only [kx, ↓ky, tq63, simprocAttr, hlt'] | (with_reducible first | refine SB.c (fun _ => ?_) (fun _ => ?_) | refine REG.i ?_ | exact REG.j) | with_reducible refine AndI ?_ | omega))
  have hwl : (32 :: (s ++ [32])).length = s.length + 2 := by simp
  refine loopV (ι := RwI s) (fun i => ⟨(.junk :: .junk :: .pv (.bool false) :: .junk :: .pv (.str (32 :: (s ++ [32]))) :: .pv (.int .i64 i.k) :: .junk :: .junk :: .junk :: .junk :: .junk :: .junk :: .junk :: .junk :: .junk :: .junk :: .junk :: .junk :: .junk :: .junk :: .junk :: .junk :: .junk :: .junk :: .junk :: .junk :: .junk :: .junk :: .junk :: .junk :: .junk :: .junk :: .junk :: .junk :: .junk :: .junk :: .junk :: []), []⟩) (fun i => 88 - i.k) ⟨0, by omega, by intro i hi; omega⟩ WFn ?_
  rintro ⟨k, hk, hm⟩
  generalize hW : (32 :: (s ++ [32]) : List UInt8) = W at *
  have hw1 : IntKind.i64.wrap ((k : Int) + (W.length : Int)) = ((k + (s.length + 2) : Nat) : Int) := by rw [hwl, wrap64 _ (by omega) (by omega)]; omega
  by_cases hle : k + (s.length + 2) ≤ 87
  · have hle' : ((k + (s.length + 2) : Nat) : Int) ≤ 87 := by omega
    have hkk : (k : Int) ≤ ((k + (s.length + 2) : Nat) : Int) := by omega
    have hw : IntKind.i64.wrap ((k : Int) + 1) = ((k + 1 : Nat) : Int) := by rw [wrap64 _ (by omega) (by omega)]; rfl
    have hcast : ((87 : Nat) : Int) = 87 := rfl
    have hhit : ((wordsL.take (k + (s.length + 2))).drop k == W) = hitW s k := by rw [← hW]; rfl
    cases hh : hitW s k
    · rw [hh] at hhit
      (repeat' (first | simp -implicitDefEqProofs +contextual (maxSteps := 9000000) only [kx, ↓ky, tq63, simprocAttr, hw1, hle', hkk, wordsA, wordsL_len, hcast, hhit, hw] | (with_reducible first | refine SB.c (fun _ => ?_) (fun _ => ?_) | refine REG.i ?_ | exact REG.j) | with_reducible refine AndI ?_ | omega))
      exact ⟨⟨k + 1, by omega, fun i hi hi2 => by
        by_cases hik : i < k
        · exact hm i hik hi2
        · have : i = k := by omega
          subst this; exact hh⟩, WFn, by simp; omega⟩
    · rw [hh] at hhit
      have hr := resW_hit h0 hb hle hh
      rw [hr]
      (repeat' (first | simp -implicitDefEqProofs +contextual (maxSteps := 9000000) only [kx, ↓ky, tq63, simprocAttr, hw1, hle', hkk, wordsA, wordsL_len, hcast, hhit] | (with_reducible first | refine SB.c (fun _ => ?_) (fun _ => ?_) | refine REG.i ?_ | exact REG.j) | with_reducible refine AndI ?_ | omega))
  · have hle' : ¬ ((k + (s.length + 2) : Nat) : Int) ≤ 87 := by omega
    have hr := resW_miss (s := s) (fun i hi => hm i (by omega) hi)
    rw [hr]
    (repeat' (first | simp -implicitDefEqProofs +contextual (maxSteps := 9000000) only [kx, ↓ky, tq63, simprocAttr, hw1, hle'] | (with_reducible first | refine SB.c (fun _ => ?_) (fun _ => ?_) | refine REG.i ?_ | exact REG.j) | with_reducible refine AndI ?_ | omega))
end Go.Proofs.YtopbicbgolcmpaaGreatDoor
