/- A part of the walk (Tryz_N10): its theorems have no condition beyond what they state. -/
import Derived.Test.YtopbicbgolcmpaaGreatDoorN7
import Derived.Test.YtopbicbgolcmpaaGreatDoorLib3
import Derived.Lib.AppendIntMem
import Derived.Test.YtopbicbgolcmpaaGreatDoorP3
set_option linter.unusedSimpArgs false
set_option linter.unusedVariables false
set_option linter.defProp false
namespace Go.Proofs.YtopbicbgolcmpaaGreatDoor
open Go Go.Abs Go.RowKit
structure DcI (n : Nat) where
  m : Nat
  f : Nat
  acc : List UInt8
  hm : m < 10 ^ f
  hf : f ≤ 20
  hl : acc.length + f ≤ 20
  hb : m ≤ 9223372036854775807
  eq : dg f m ++ acc = dg 20 n
set_option maxRecDepth 10000 in
set_option maxHeartbeats 1000000 in
theorem decimal_ac (n : Int) (h1 : n ≤ 9223372036854775807) : AC Tryz.prog gl 25 [.pv (.int .i64 n)] [] (.pv (.str (decF n))) [] := by
  refine body0 (fun _ => 0) 0 Tryz.func25 rfl Tryz.ntmps25 (by rw [Tryz.results25]) (by simp) ?_
  by_cases h0 : n ≤ 0
  · have hd : decF n = [48] := by unfold decF; rw [if_pos h0]
    rw [hd]
    (repeat' (first | simp -implicitDefEqProofs +contextual (maxSteps := 9000000) only [kx, ↓ky, tq25, simprocAttr, h0] | (with_reducible first | refine SB.c (fun _ => ?_) (fun _ => ?_) | refine REG.i ?_ | exact REG.j) | with_reducible refine AndI ?_ | omega))
  have hd : decF n = dg 20 n.toNat := by unfold decF; rw [if_neg h0]
  rw [hd]
  (repeat' (first | simp -implicitDefEqProofs +contextual (maxSteps := 9000000) only [kx, ↓ky, tq25, simprocAttr, h0] | (with_reducible first | refine SB.c (fun _ => ?_) (fun _ => ?_) | refine REG.i ?_ | exact REG.j) | with_reducible refine AndI ?_ | omega))
  refine loopV (ι := DcI n.toNat) (fun i => ⟨[.pv (.int .i64 i.m), .junk, .junk, .pv (.str i.acc), .junk, .junk, .junk, .junk, .junk, .junk, .junk, .junk, .junk, .junk, .junk, .junk, .junk, .junk, .junk], []⟩) (fun i => i.m) ⟨n.toNat, 20, [], by omega, by omega, by simp, by omega, by simp⟩ (WFe (by simp [kwf, show ((n.toNat : Nat) : Int) = n by omega]) (by simp [kwf, show ((n.toNat : Nat) : Int) = n by omega])) ?_
  rintro ⟨m, f, acc, hm, hf, hl, hb, heq⟩
  by_cases hz : m = 0
  · subst hz
    rw [dg_zero, List.nil_append] at heq
    (repeat' (first | simp -implicitDefEqProofs +contextual (maxSteps := 9000000) only [kx, ↓ky, tq25, simprocAttr] | (with_reducible first | refine SB.c (fun _ => ?_) (fun _ => ?_) | refine REG.i ?_ | exact REG.j) | with_reducible refine AndI ?_ | omega))
    all_goals exact heq
  · have hp : (m : Int) > 0 := by omega
    have e1 : (m : Int).tmod 10 = ((m % 10 : Nat) : Int) := by rw [Int.tmod_eq_emod_of_nonneg (by omega)]; omega
    have e2 : (m : Int).tdiv 10 = ((m / 10 : Nat) : Int) := by rw [Int.tdiv_eq_ediv_of_nonneg (by omega)]; omega
    have hr : m % 10 < 10 := Nat.mod_lt _ (by omega)
    have e3 : IntKind.i64.wrap (48 + ((m % 10 : Nat) : Int)) = ((48 + m % 10 : Nat) : Int) := by rw [wrap64 _ (by omega) (by omega)]; omega
    have e4 : IntKind.u8.wrap ((48 + m % 10 : Nat) : Int) = ((48 + m % 10 : Nat) : Int) := IntWalk.u8_in _ ⟨by omega, by omega⟩
    have e5 : IntKind.i64.wrap ((m / 10 : Nat) : Int) = ((m / 10 : Nat) : Int) := wrap64 _ (by omega) (by omega)
    have e6 : strOf [((48 + m % 10 : Nat) : Int)] = [UInt8.ofNat (48 + m % 10)] := rfl
    obtain ⟨f', rfl⟩ : ∃ f', f = f' + 1 := by
      cases f with
      | zero => exact absurd (by simpa using hm) hz
      | succ f' => exact ⟨f', rfl⟩
    rw [dg_step _ _ hz, List.append_assoc] at heq
    (repeat' (first | simp -implicitDefEqProofs +contextual (maxSteps := 9000000) only [kx, ↓ky, tq25, simprocAttr, hp, e1, e2, e3, e4, e5, e6] | (with_reducible first | refine SB.c (fun _ => ?_) (fun _ => ?_) | refine REG.i ?_ | exact REG.j) | with_reducible refine AndI ?_ | omega))
    exact ⟨⟨m / 10, f', UInt8.ofNat (48 + m % 10) :: acc, by rw [Nat.pow_succ] at hm; omega, by omega, by simp; omega, by omega, heq⟩, WFn, by simp; omega⟩
end Go.Proofs.YtopbicbgolcmpaaGreatDoor
namespace Go.Proofs.YtopbicbgolcmpaaGreatDoor
open Go Go.Abs Go.RowKit
end Go.Proofs.YtopbicbgolcmpaaGreatDoor
namespace Go.Proofs.YtopbicbgolcmpaaGreatDoor
open Go Go.Abs Go.RowKit
end Go.Proofs.YtopbicbgolcmpaaGreatDoor
namespace Go.Proofs.YtopbicbgolcmpaaGreatDoor
open Go Go.Abs Go.RowKit
end Go.Proofs.YtopbicbgolcmpaaGreatDoor
namespace Go.Proofs.YtopbicbgolcmpaaGreatDoor
open Go Go.Abs Go.RowKit
theorem good_stm {s : Sm} (hg : goodSF s = true) : (1 ≤ s.kind ∧ s.kind ≤ 6) ∧ ((s.kind = 2 ∨ s.kind = 5) → goodEF s.place = true) ∧ goodEF s.value = true ∧ goodSFs s.body = true ∧ goodSFs s.els = true ∧ (s.kind ≠ 3 → s.els = []) := by
  rw [goodSF_eq] at hg
  simp only [Bool.and_eq_true, headSF, decide_eq_true_eq] at hg
  refine ⟨⟨hg.1.1.1.1.1.1.1.1, hg.1.1.1.1.1.1.1.2⟩, fun h => ?_, hg.2.1.1, hg.2.1.2, hg.2.2, fun h => ?_⟩
  · have hp := hg.1.1.1.2
    have hc : (s.kind == 2 || s.kind == 5) = true := by rcases h with h | h <;> simp [h]
    simpa only [hc, if_true] using hp
  · have he := hg.1.2
    have h3 : (s.kind != 3) = true := by simpa using h
    rw [h3] at he
    simp at he
    exact he
end Go.Proofs.YtopbicbgolcmpaaGreatDoor
