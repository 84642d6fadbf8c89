/- A part of the walk (Tryz_N2): its theorems have no condition beyond what they state. -/
import Derived.Test.YtfinhhblcdkpgaaGreatDoorT0
import Derived.Test.YtfinhhblcdkpgaaGreatDoorShelf
import Derived.Test.YtfinhhblcdkpgaaGreatDoorLib3
import Derived.Lib.AtoiErrMem
set_option linter.unusedSimpArgs false
set_option linter.unusedVariables false
set_option linter.defProp false
namespace Go.Proofs.YtfinhhblcdkpgaaGreatDoor
open Go Go.Abs Go.RowKit
theorem indexByte_ac (s : List UInt8) (c : Int) : AC Tryz.prog gl 179 [.pv (.str s), .pv (.int .u8 c)] [] (.pv (.int .i64 (Lib.indexByte s c.toNat.toUInt8))) [] := by
  refine AC.ofCalls (ps := [.str s, .int .u8 c]) fun w M vs hl hr hs hg hx => ?_
  match vs, hl with
  | [v0, v1], _ =>
    have e0 : v0 = _ := (hr 0 (by simp)).str_inv
    have e1 : v1 = _ := (hr 1 (by simp)).int_inv
    subst e0 e1
    refine (Tryz.strings_IndexByte ⟨s.toArray⟩ c w).mono ?_
    rintro e w' ⟨rfl, rfl⟩
    exact ⟨_, rfl, fun g D M' => .pv (.int _ _), Below.refl _ _⟩
theorem parseInt_ok (l : List UInt8) (h0 : l ≠ []) (hd : ∀ c ∈ l, isD c = true) (hl : l.length ≤ 4096) (hv : valF l < 9223372036854775808) : AC Tryz.prog gl 121 [.pv (.str l), .pv (.int .i64 10), .pv (.int .i64 64)] [] (.tup [.pv (.int .i64 (valF l)), .pv (.err true)]) [] := by
  refine AC.ofCalls (ps := [.str l, .int .i64 10, .int .i64 64]) fun w M vs hvl hr hs hg hx => ?_
  match vs, hvl with
  | [v0, v1, v2], _ =>
    have e0 : v0 = _ := (hr 0 (by simp)).str_inv
    have e1 : v1 = _ := (hr 1 (by simp)).int_inv
    have e2 : v2 = _ := (hr 2 (by simp)).int_inv
    subst e0 e1 e2
    refine (Tryz.strconv_ParseInt_10_at64_ok ⟨l.toArray⟩ (by simp [ByteArray.size]; omega) (valF l) (by have := parseInt_eq l h0 hd; rw [if_pos hv] at this; simpa using this) w).mono ?_
    rintro e w' ⟨rfl, hw⟩
    refine ⟨_, rfl, fun g D M' => V_tup2 (.pv (.int _ _)) (.pv .errn), ?_⟩
    rcases hw with rfl | ⟨t, rfl⟩
    · exact Below.refl _ _
    · exact Lib.bytesWorld_below w _ t
theorem parseInt_range (l : List UInt8) (h0 : l ≠ []) (hd : ∀ c ∈ l, isD c = true) (hl : l.length ≤ 4096) (hv : ¬ valF l < 9223372036854775808) : AC Tryz.prog gl 121 [.pv (.str l), .pv (.int .i64 10), .pv (.int .i64 64)] [] (.tup [.junk, .pv (.err false)]) [] := by
  refine AC.ofCalls (ps := [.str l, .int .i64 10, .int .i64 64]) fun w M vs hvl hr hs hg hx => ?_
  match vs, hvl with
  | [v0, v1, v2], _ =>
    have e0 : v0 = _ := (hr 0 (by simp)).str_inv
    have e1 : v1 = _ := (hr 1 (by simp)).int_inv
    have e2 : v2 = _ := (hr 2 (by simp)).int_inv
    subst e0 e1 e2
    obtain ⟨u, hu, hru⟩ := hg 11 [.err false] rfl 0 (by simp)
    have hiv : ∃ t v, u = .iface t v := by
      rcases hru.err_inv with ⟨h, _⟩ | ⟨_, t, v, h⟩
      · cases h
      · exact ⟨t, v, h⟩
    refine (Tryz.strconv_ParseInt_10_at64_range ⟨l.toArray⟩ (by simp [ByteArray.size]; omega) (by have := parseInt_eq l h0 hd; rw [if_neg hv] at this; simpa using this) u w (hs _ _ _ hu) (.inr hiv)).mono ?_
    rintro e w' ⟨N, rfl, _, _, hb⟩
    exact ⟨_, rfl, fun g D M' => V_tup2 (.junk _) (.pv (.erri _ _)), hb⟩
set_option maxRecDepth 10000 in
theorem letter_ac (n : Int) : AC Tryz.prog gl 126 [.pv (.int .u8 n)] [] (.pv (.bool (letterF n))) [] := by
  refine body0 (fun _ => 0) 0 Tryz.func126 rfl Tryz.ntmps126 (by rw [Tryz.results126]) (by simp) ?_
  simp -implicitDefEqProofs +contextual (maxSteps := 9000000) only [kx, ↓ky, tq126, simprocAttr]
  grind [letterF]
set_option maxRecDepth 10000 in
theorem digit_ac (n : Int) : AC Tryz.prog gl 165 [.pv (.int .u8 n)] [] (.pv (.bool (digitF n))) [] := by
  refine body0 (fun _ => 0) 0 Tryz.func165 rfl Tryz.ntmps165 (by rw [Tryz.results165]) (by simp) ?_
  simp -implicitDefEqProofs +contextual (maxSteps := 9000000) only [kx, ↓ky, tq165, simprocAttr]
  grind [digitF]
set_option maxRecDepth 10000 in
theorem word_ac (s : List UInt8) (a : Nat) (hs : s.length ≤ 1099511627776) (ha : a ≤ s.length) : AC Tryz.prog gl 127 [.pv (.str s), .pv (.int .i64 a)] [] (.pv (.int .i64 (runF isW s a))) [] := by
  refine body0 (fun _ => 0) 0 Tryz.func127 rfl Tryz.ntmps127 (by rw [Tryz.results127]) (by simp) ?_
  simp -implicitDefEqProofs +contextual (maxSteps := 9000000) only [kx, ↓ky, tq127, simprocAttr]
  refine loopV (ι := {k : Nat // k ≤ s.length ∧ runF isW s k = runF isW s a}) (fun i => ⟨[.pv (.str s), .pv (.int .i64 i.1), .junk, .junk, .pv (.int .i64 0), .junk, .junk, .junk, .junk, .junk, .junk, .junk, .junk, .junk, .junk, .junk, .junk, .junk, .junk, .junk, .junk, .junk, .junk, .junk], []⟩) (fun i => s.length - i.1) ⟨a, ha, rfl⟩ WFn ?_
  rintro ⟨k, hk, heq⟩
  have hst := runF_step isW s k
  have hen := runF_end isW s k
  have hw : k < s.length → IntKind.i64.wrap ((k : Int) + 1) = ((k + 1 : Nat) : Int) := fun h => wrapS k (by omega)
  (repeat' (first | simp -implicitDefEqProofs +contextual (maxSteps := 9000000) only [kx, ↓ky, tq127, simprocAttr] | (with_reducible first | refine SB.c (fun _ => ?_) (fun _ => ?_) | refine REG.i ?_ | exact REG.j) | refine CK.d0 enters126 (letter_ac _) ?_ | refine CK.d0 enters165 (digit_ac _) ?_ | with_reducible refine AndI ?_ | omega))
  · rename_i hc
    simp only [Bool.and_eq_true, decide_eq_true_eq] at hc
    have hlt : k < s.length := by omega
    have hW : isW (s.getD k 0) = true := hc.2
    rw [hst hlt, if_pos hW] at heq
    exact ⟨⟨k + 1, by omega, heq⟩, (WFe (by simp [kwf, hw hlt]) (by simp [kwf, hw hlt])), by simp; omega⟩
  · rename_i hc
    rw [← heq]
    by_cases hlt : k < s.length
    · have hW : isW (s.getD k 0) = false := by
        simp only [Bool.and_eq_false_iff, decide_eq_false_iff_not] at hc
        rcases hc with h | h
        · omega
        · exact h
      rw [hst hlt, hW]; simp
    · rw [hen (by omega)]
set_option maxRecDepth 10000 in
theorem comment_ac (s : List UInt8) (a : Nat) (hs : s.length ≤ 4096) (ha : a ≤ s.length) : AC Tryz.prog gl 159 [.pv (.str s), .pv (.int .i64 a)] [] (.pv (.int .i64 (runF notLF s a))) [] := by
  rw [← comment_eq s a ha]
  have hc := indexByte_ac (s.drop a) 10
  have hb := comment_eq s a ha
  have h1 := runF_le notLF s a ha
  have h2 := runF_ge notLF s a
  have htk : s.take s.length = s := List.take_length
  replace hc : AC Tryz.prog gl 179 [.pv (.str (s.drop a)), .pv (.int .u8 10)] [] (.pv (.int .i64 (Lib.indexByte (s.drop a) 10))) [] := hc
  generalize Lib.indexByte (s.drop a) 10 = x at *
  have hw : ¬ x < 0 → IntKind.i64.wrap ((a : Int) + x) = a + x := fun h => wrap64 _ (by omega) (by rw [if_neg h] at hb; omega)
  refine body0 (fun _ => 0) 0 Tryz.func159 rfl Tryz.ntmps159 (by rw [Tryz.results159]) (by simp) ?_
  (repeat' (first | simp -implicitDefEqProofs +contextual (maxSteps := 9000000) only [kx, ↓ky, tq159, simprocAttr, htk] | (with_reducible first | refine SB.c (fun _ => ?_) (fun _ => ?_) | refine REG.i ?_ | exact REG.j) | refine CK.d0 enters179 hc ?_ | with_reducible refine AndI ?_ | omega))
  all_goals grind
set_option maxRecDepth 10000 in
set_option maxHeartbeats 1000000 in
theorem sign_ac (s : List UInt8) (a : Nat) (hs : s.length ≤ 4096) (ha : a < s.length) : AC Tryz.prog gl 181 [.pv (.str s), .pv (.int .i64 a)] [] (.pv (.int .i64 (signF (s.getD a 0).toNat (nextB s a)))) [] := by
  have hw := wrapS a (by omega)
  have ha' : (a : Int) < s.length := by omega
  unfold nextB
  refine body0 (fun _ => 0) 0 Tryz.func181 rfl Tryz.ntmps181 (by rw [Tryz.results181]) (by simp) ?_
  by_cases h1 : a + 1 < s.length
  · have h1' : ((a + 1 : Nat) : Int) < s.length := by omega
    rw [if_pos h1]
    (repeat' (first | simp -implicitDefEqProofs +contextual (maxSteps := 9000000) only [kx, ↓ky, tq181, simprocAttr, ha, ha', hw, h1, h1'] | (with_reducible first | refine SB.c (fun _ => ?_) (fun _ => ?_) | refine REG.i ?_ | exact REG.j) | with_reducible refine AndI ?_ | omega))
    all_goals grind [signF]
  · have h1' : ¬ ((a + 1 : Nat) : Int) < s.length := by omega
    rw [if_neg h1]
    (repeat' (first | simp -implicitDefEqProofs +contextual (maxSteps := 9000000) only [kx, ↓ky, tq181, simprocAttr, ha, ha', hw, h1'] | (with_reducible first | refine SB.c (fun _ => ?_) (fun _ => ?_) | refine REG.i ?_ | exact REG.j) | with_reducible refine AndI ?_ | omega))
    all_goals grind [signF]
end Go.Proofs.YtfinhhblcdkpgaaGreatDoor
