/- A part of the walk (Tryz_N5): its theorems have no condition beyond what they state. -/
import Derived.Test.YtopbicbgolcmpaaGreatDoorN4
set_option linter.unusedSimpArgs false
set_option linter.unusedVariables false
set_option linter.defProp false
namespace Go.Proofs.YtopbicbgolcmpaaGreatDoor
open Go Go.Abs Go.RowKit
set_option maxRecDepth 10000 in
theorem rletter_ac (n : Int) : AC Tryz.prog gl 53 [.pv (.int .u8 n)] [] (.pv (.bool (letterF n))) [] := by
  refine body0 (fun _ => 0) 0 Tryz.func53 rfl Tryz.ntmps53 (by rw [Tryz.results53]) (by simp) ?_
  simp -implicitDefEqProofs +contextual (maxSteps := 9000000) only [kx, ↓ky, tq53, simprocAttr]
  grind [letterF]
set_option maxRecDepth 10000 in
theorem rdigit_ac (n : Int) : AC Tryz.prog gl 54 [.pv (.int .u8 n)] [] (.pv (.bool (digitF n))) [] := by
  refine body0 (fun _ => 0) 0 Tryz.func54 rfl Tryz.ntmps54 (by rw [Tryz.results54]) (by simp) ?_
  simp -implicitDefEqProofs +contextual (maxSteps := 9000000) only [kx, ↓ky, tq54, simprocAttr]
  grind [digitF]
set_option maxRecDepth 10000 in
theorem rblank_ac (c : UInt8) : AC Tryz.prog gl 29 [.pv (.int .u8 c.toNat)] [] (.pv (.bool (isB c))) [] := by
  have h1 : ((c.toNat : Int) == 9) = (c == 9) := u8b c 9
  have h2 : ((c.toNat : Int) == 10) = (c == 10) := u8b c 10
  have h3 : ((c.toNat : Int) == 13) = (c == 13) := u8b c 13
  have h4 : ((c.toNat : Int) == 32) = (c == 32) := u8b c 32
  refine body0 (fun _ => 0) 0 Tryz.func29 rfl Tryz.ntmps29 (by rw [Tryz.results29]) (by simp) ?_
  simp -implicitDefEqProofs +contextual (maxSteps := 9000000) only [kx, ↓ky, tq29, simprocAttr, h1, h2, h3, h4]
  grind [isB]
set_option maxRecDepth 10000 in
theorem rdouble_ac (a b : Int) : AC Tryz.prog gl 56 [.pv (.int .u8 a), .pv (.int .u8 b)] [] (.pv (.bool (dblF a b))) [] := by
  refine body0 (fun _ => 0) 0 Tryz.func56 rfl Tryz.ntmps56 (by rw [Tryz.results56]) (by simp) ?_
  simp -implicitDefEqProofs +contextual (maxSteps := 9000000) only [kx, ↓ky, tq56, simprocAttr]
  grind [dblF]
set_option maxRecDepth 10000 in
theorem rsingle_ac (c : UInt8) : AC Tryz.prog gl 57 [.pv (.int .u8 c.toNat)] [] (.pv (.bool (sngL.contains c))) [] := by
  refine body0 (fun _ => 0) 0 Tryz.func57 rfl Tryz.ntmps57 (by rw [Tryz.results57]) (by simp) ?_
  simp -implicitDefEqProofs +contextual (maxSteps := 9000000) only [kx, ↓ky, tq57, simprocAttr]
  refine loopV (ι := {k : Nat // k ≤ 17 ∧ (sngL.drop k).contains c = sngL.contains c}) (fun i => ⟨[.pv (.int .u8 c.toNat), .junk, .junk, .pv (.int .i64 i.1), .junk, .junk, .junk, .junk, .junk, .junk, .junk, .junk], []⟩) (fun i => 17 - i.1) ⟨0, by omega, rfl⟩ WFn ?_
  rintro ⟨k, hk, heq⟩
  have hlen : sngL.length = 17 := rfl
  have hdef : ([40, 41, 123, 125, 91, 93, 44, 59, 61, 60, 62, 43, 45, 42, 47, 37, 33] : List UInt8) = sngL := rfl
  by_cases hlt : k < 17
  · have hlt' : (k : Int) < 17 := by omega
    have hltl : k < sngL.length := by omega
    have hw := wrapS k (by omega)
    have hd : (sngL.drop k).contains c = (c == sngL.getD k 0 || (sngL.drop (k + 1)).contains c) := by
      rw [List.drop_eq_getElem_cons hltl, List.contains_cons]; simp [List.getD, hltl]
    rw [hd] at heq
    have hcc : ((((sngL.getD k 0).toNat : Nat) : Int) == ((c.toNat : Nat) : Int)) = (c == sngL.getD k 0) := by
      rw [Bool.eq_iff_iff]; simp only [beq_iff_eq]
      constructor
      · intro h; exact UInt8.toNat.inj (by omega)
      · intro h; rw [h]
    (repeat' (first | simp -implicitDefEqProofs +contextual (maxSteps := 9000000) only [kx, ↓ky, tq57, simprocAttr, hlt', hdef, hltl, hlen, hw, hcc] | (with_reducible first | refine SB.c (fun _ => ?_) (fun _ => ?_) | refine REG.i ?_ | exact REG.j) | with_reducible refine AndI ?_ | omega))
    · grind
    · exact ⟨⟨k + 1, by omega, by grind⟩, WFn, by simp; omega⟩
  · have hlt' : ¬ (k : Int) < 17 := by omega
    (repeat' (first | simp -implicitDefEqProofs +contextual (maxSteps := 9000000) only [kx, ↓ky, tq57, simprocAttr, hlt', hdef, hlen] | (with_reducible first | refine SB.c (fun _ => ?_) (fun _ => ?_) | refine REG.i ?_ | exact REG.j) | with_reducible refine AndI ?_ | omega))
    rw [← heq, List.drop_eq_nil_of_le (by omega)]
    rfl
set_option maxRecDepth 10000 in
set_option maxHeartbeats 1000000 in
theorem rnumber_ac (l : List UInt8) (hd : ∀ c ∈ l, isD c = true) (hl : l.length ≤ 4096) : AC Tryz.prog gl 55 [.pv (.str l)] [] (.tup [.pv (.int .i64 (if valF l < 9223372036854775808 then (valF l : Int) else 0)), .pv (.bool (decide (valF l < 9223372036854775808)))]) [] := by
  refine body0 (fun _ => 0) 0 Tryz.func55 rfl Tryz.ntmps55 (by rw [Tryz.results55]) (by simp) ?_
  simp -implicitDefEqProofs +contextual (maxSteps := 9000000) only [kx, ↓ky, tq55, simprocAttr]
  refine loopV (ι := {q : Nat × Nat // q.1 ≤ l.length ∧ q.2 < 9223372036854775808 ∧ valA (l.drop q.1) q.2 = valF l}) (fun i => ⟨[.pv (.str l), .junk, .junk, .junk, .pv (.int .i64 i.1.2), .pv (.int .i64 i.1.1), .junk, .junk, .junk, .junk, .junk, .junk, .junk, .junk, .junk, .junk, .junk, .junk, .junk, .junk, .junk, .junk, .junk, .junk, .junk, .junk, .junk, .junk], []⟩) (fun i => l.length - i.1.1) ⟨(0, 0), by omega, by omega, rfl⟩ WFn ?_
  rintro ⟨⟨k, n⟩, hk, hn, heq⟩
  simp only at hk hn heq
  by_cases hlt : k < l.length
  · have hlt' : (k : Int) < l.length := by omega
    have hw := wrapS k (by omega)
    have hdk := digit_le (hd l[k] (List.getElem_mem hlt))
    rw [List.drop_eq_getElem_cons hlt, valA_cons] at heq
    have hg : l.getD k 0 = l[k] := by simp [List.getD, hlt]
    generalize l[k] = c at *
    have hge := valA_ge (l.drop (k + 1)) (n * 10 + (c.toNat - 48))
    obtain ⟨m, hm⟩ : ∃ m : Nat, c.toNat = m + 48 := ⟨c.toNat - 48, by omega⟩
    have hm9 : m ≤ 9 := by omega
    rw [hm] at heq hge
    simp only [Nat.add_sub_cancel] at heq hge
    have w1 : IntKind.u8.wrap (((c.toNat : Nat) : Int) - 48) = m := by rw [IntWalk.u8_in _ ⟨by omega, by omega⟩]; omega
    have w2 : IntKind.i64.wrap (m : Int) = m := wrap64 _ (by omega) (by omega)
    have w3 : IntKind.i64.wrap (9223372036854775807 - (m : Int)) = 9223372036854775807 - m := wrap64 _ (by omega) (by omega)
    have hdv : (9223372036854775807 - (m : Int)).tdiv 10 = (9223372036854775807 - (m : Int)) / 10 := Int.tdiv_eq_ediv_of_nonneg (by omega)
    have w4 : IntKind.i64.wrap ((9223372036854775807 - (m : Int)).tdiv 10) = (9223372036854775807 - (m : Int)) / 10 := by rw [hdv]; exact wrap64 _ (by omega) (by omega)
    by_cases hov : (n : Int) > (9223372036854775807 - (m : Int)) / 10
    · have hbig : ¬ valF l < 9223372036854775808 := by omega
      rw [if_neg hbig, decide_eq_false hbig]
      (repeat' (first | simp -implicitDefEqProofs +contextual (maxSteps := 9000000) only [kx, ↓ky, tq55, simprocAttr, hlt', hlt, hg, hw, w1, w2, w3, w4, hov] | (with_reducible first | refine SB.c (fun _ => ?_) (fun _ => ?_) | refine REG.i ?_ | exact REG.j) | with_reducible refine AndI ?_ | omega))
    · have w5 : IntKind.i64.wrap (10 * (n : Int)) = 10 * n := wrap64 _ (by omega) (by omega)
      have w6 : IntKind.i64.wrap (10 * (n : Int) + m) = ((n * 10 + m : Nat) : Int) := by rw [wrap64 _ (by omega) (by omega)]; omega
      (repeat' (first | simp -implicitDefEqProofs +contextual (maxSteps := 9000000) only [kx, ↓ky, tq55, simprocAttr, hlt', hlt, hg, hw, w1, w2, w3, w4, hov, w5, w6] | (with_reducible first | refine SB.c (fun _ => ?_) (fun _ => ?_) | refine REG.i ?_ | exact REG.j) | with_reducible refine AndI ?_ | omega))
      exact ⟨⟨(k + 1, n * 10 + m), by simp only; omega, by simp only; omega, heq⟩, WFn, by simp; omega⟩
  · have hlt' : ¬ (k : Int) < l.length := by omega
    rw [List.drop_eq_nil_of_le (by omega), valA] at heq
    have hv : valF l < 9223372036854775808 := by omega
    rw [if_pos hv, decide_eq_true hv]
    (repeat' (first | simp -implicitDefEqProofs +contextual (maxSteps := 9000000) only [kx, ↓ky, tq55, simprocAttr, hlt'] | (with_reducible first | refine SB.c (fun _ => ?_) (fun _ => ?_) | refine REG.i ?_ | exact REG.j) | with_reducible refine AndI ?_ | omega))
end Go.Proofs.YtopbicbgolcmpaaGreatDoor
