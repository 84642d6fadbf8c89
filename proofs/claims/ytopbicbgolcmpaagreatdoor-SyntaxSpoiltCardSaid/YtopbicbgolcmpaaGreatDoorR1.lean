/- A part of the walk (Tryz_R1): its theorems have no condition beyond what they state. -/
import Derived.Test.YtopbicbgolcmpaaGreatDoorN9
import Derived.Test.YtopbicbgolcmpaaGreatDoorLib3
set_option linter.unusedSimpArgs false
set_option linter.unusedVariables false
set_option linter.defProp false
namespace Go.Proofs.YtopbicbgolcmpaaGreatDoor
open Go Go.Abs Go.RowKit
abbrev okC (l : List TkD) (n k : Nat) : AObj := .cells [.pv (.slice (l.map encTk)), .pv (.int .i64 k), .pv (.int .i64 n), .pv (.int .i64 0), .pv (.bool true)]
abbrev flC (l : List TkD) (n k : Nat) (b : Int) : AObj := .cells [.pv (.slice (l.map encTk)), .pv (.int .i64 k), .pv (.int .i64 n), .pv (.int .i64 b), .pv (.bool false)]
abbrev okO (l : List TkD) (n k : Nat) : List (Option AObj) := [some (okC l n k)]
abbrev flO (l : List TkD) (n k : Nat) (b : Int) : List (Option AObj) := [some (flC l n k b)]
theorem getTk2 (l : List TkD) (k : Nat) (h : k < l.length) : (l.map encTk).getD k [] = [.int .i64 (l.getD k tk0).kind, .str (l.getD k tk0).text, .int .i64 (l.getD k tk0).value, .int .i64 (l.getD k tk0).pos] := by
  simp [List.getD, h, encTk]
theorem wrapM2 (k : Nat) (h : k ≤ 1000000) : IntKind.i64.wrap (((k + 1 : Nat) : Int) - 1) = (k : Int) := by rw [wrap64 _ (by omega) (by omega)]; omega
set_option maxRecDepth 100000 in
set_option maxHeartbeats 2000000 in
theorem rsign_ac (l : List TkD) (n k : Nat) (s : List UInt8) (hT : AllOK l) (hs : signy s = true) : AC Tryz.prog gl 81 [.ref 0 0, .pv (.str s)] (okO l n k) (.pv (.bool (isT l k s))) (okO l n k) := by
  refine bodyO (fun _ => 0) 1 Tryz.func81 rfl Tryz.ntmps81 (by rw [Tryz.results81]) (by simp) (by simp) ?_
  by_cases h : k < l.length
  · have h' : (k : Int) < l.length := by omega
    have hg := getTk2 l k h
    have ht := sign_test hT h hs
    by_cases hk : (l.getD k tk0).kind = 3
    · have e : ((l.getD k tk0).kind == 3) = true := by simpa using hk
      rw [e, Bool.true_and] at ht
      rw [← ht]
      (repeat' (first | simp -implicitDefEqProofs +contextual (maxSteps := 9000000) only [kx, ↓ky, tq81, simprocAttr, h, h', hg, e] | (with_reducible first | refine SB.c (fun _ => ?_) (fun _ => ?_) | refine REG.i ?_ | exact REG.j) | with_reducible refine AndI ?_ | omega))
      (refine retQ.mk [0] ?_ ?_ <;> simp [kwr, tq81])
    · have e : ((l.getD k tk0).kind == 3) = false := by simpa using hk
      rw [e, Bool.false_and] at ht
      rw [← ht]
      (repeat' (first | simp -implicitDefEqProofs +contextual (maxSteps := 9000000) only [kx, ↓ky, tq81, simprocAttr, h, h', hg, e] | (with_reducible first | refine SB.c (fun _ => ?_) (fun _ => ?_) | refine REG.i ?_ | exact REG.j) | with_reducible refine AndI ?_ | omega))
      (refine retQ.mk [0] ?_ ?_ <;> simp [kwr, tq81])
  · have h' : ¬ (k : Int) < l.length := by omega
    rw [isT_no h (signy_ne hs)]
    (repeat' (first | simp -implicitDefEqProofs +contextual (maxSteps := 9000000) only [kx, ↓ky, tq81, simprocAttr, h, h'] | (with_reducible first | refine SB.c (fun _ => ?_) (fun _ => ?_) | refine REG.i ?_ | exact REG.j) | with_reducible refine AndI ?_ | omega))
    (refine retQ.mk [0] ?_ ?_ <;> simp [kwr, tq81])
set_option maxRecDepth 100000 in
set_option maxHeartbeats 2000000 in
theorem rsign_fl (l : List TkD) (n k : Nat) (b : Int) (s : List UInt8) : AC Tryz.prog gl 81 [.ref 0 0, .pv (.str s)] (flO l n k b) (.pv (.bool false)) (flO l n k b) := by
  refine bodyO (fun _ => 0) 1 Tryz.func81 rfl Tryz.ntmps81 (by rw [Tryz.results81]) (by simp) (by simp) ?_
  (repeat' (first | simp -implicitDefEqProofs +contextual (maxSteps := 9000000) only [kx, ↓ky, tq81, simprocAttr] | (with_reducible first | refine SB.c (fun _ => ?_) (fun _ => ?_) | refine REG.i ?_ | exact REG.j) | with_reducible refine AndI ?_ | omega))
  (refine retQ.mk [0] ?_ ?_ <;> simp [kwr, tq81])
set_option maxRecDepth 100000 in
set_option maxHeartbeats 2000000 in
theorem rword_ac (l : List TkD) (n k : Nat) (s : List UInt8) (hT : AllOK l) (hs : wordy s = true) : AC Tryz.prog gl 84 [.ref 0 0, .pv (.str s)] (okO l n k) (.pv (.bool (isT l k s))) (okO l n k) := by
  refine bodyO (fun _ => 0) 1 Tryz.func84 rfl Tryz.ntmps84 (by rw [Tryz.results84]) (by simp) (by simp) ?_
  by_cases h : k < l.length
  · have h' : (k : Int) < l.length := by omega
    have hg := getTk2 l k h
    have ht := word_test hT h hs
    by_cases hk : (l.getD k tk0).kind = 1
    · have e : ((l.getD k tk0).kind == 1) = true := by simpa using hk
      rw [e, Bool.true_and] at ht
      rw [← ht]
      (repeat' (first | simp -implicitDefEqProofs +contextual (maxSteps := 9000000) only [kx, ↓ky, tq84, simprocAttr, h, h', hg, e] | (with_reducible first | refine SB.c (fun _ => ?_) (fun _ => ?_) | refine REG.i ?_ | exact REG.j) | with_reducible refine AndI ?_ | omega))
      (refine retQ.mk [0] ?_ ?_ <;> simp [kwr, tq84])
    · have e : ((l.getD k tk0).kind == 1) = false := by simpa using hk
      rw [e, Bool.false_and] at ht
      rw [← ht]
      (repeat' (first | simp -implicitDefEqProofs +contextual (maxSteps := 9000000) only [kx, ↓ky, tq84, simprocAttr, h, h', hg, e] | (with_reducible first | refine SB.c (fun _ => ?_) (fun _ => ?_) | refine REG.i ?_ | exact REG.j) | with_reducible refine AndI ?_ | omega))
      (refine retQ.mk [0] ?_ ?_ <;> simp [kwr, tq84])
  · have h' : ¬ (k : Int) < l.length := by omega
    rw [isT_no h (wordy_ne hs)]
    (repeat' (first | simp -implicitDefEqProofs +contextual (maxSteps := 9000000) only [kx, ↓ky, tq84, simprocAttr, h, h'] | (with_reducible first | refine SB.c (fun _ => ?_) (fun _ => ?_) | refine REG.i ?_ | exact REG.j) | with_reducible refine AndI ?_ | omega))
    (refine retQ.mk [0] ?_ ?_ <;> simp [kwr, tq84])
set_option maxRecDepth 100000 in
set_option maxHeartbeats 2000000 in
theorem rword_fl (l : List TkD) (n k : Nat) (b : Int) (s : List UInt8) : AC Tryz.prog gl 84 [.ref 0 0, .pv (.str s)] (flO l n k b) (.pv (.bool false)) (flO l n k b) := by
  refine bodyO (fun _ => 0) 1 Tryz.func84 rfl Tryz.ntmps84 (by rw [Tryz.results84]) (by simp) (by simp) ?_
  (repeat' (first | simp -implicitDefEqProofs +contextual (maxSteps := 9000000) only [kx, ↓ky, tq84, simprocAttr] | (with_reducible first | refine SB.c (fun _ => ?_) (fun _ => ?_) | refine REG.i ?_ | exact REG.j) | with_reducible refine AndI ?_ | omega))
  (refine retQ.mk [0] ?_ ?_ <;> simp [kwr, tq84])
set_option maxRecDepth 100000 in
set_option maxHeartbeats 2000000 in
theorem rfail_ok (l : List TkD) (n k : Nat) : AC Tryz.prog gl 48 [.ref 0 0] (okO l n k) (.tup []) (flO l n k (placeF l n k)) := by
  unfold placeF
  refine bodyO (fun _ => 0) 1 Tryz.func48 rfl Tryz.ntmps48 (by rw [Tryz.results48]) (by simp) (by simp) ?_
  by_cases h : k < l.length
  · have h' : (k : Int) < l.length := by omega
    have hg := getTk2 l k h
    rw [if_pos h]
    (repeat' (first | simp -implicitDefEqProofs +contextual (maxSteps := 9000000) only [kx, ↓ky, tq48, simprocAttr, h, h', hg] | (with_reducible first | refine SB.c (fun _ => ?_) (fun _ => ?_) | refine REG.i ?_ | exact REG.j) | with_reducible refine AndI ?_ | omega))
    (refine retQ.mk [0] ?_ ?_ <;> simp [kwr, tq48])
  · have h' : ¬ (k : Int) < l.length := by omega
    rw [if_neg h]
    (repeat' (first | simp -implicitDefEqProofs +contextual (maxSteps := 9000000) only [kx, ↓ky, tq48, simprocAttr, h, h'] | (with_reducible first | refine SB.c (fun _ => ?_) (fun _ => ?_) | refine REG.i ?_ | exact REG.j) | with_reducible refine AndI ?_ | omega))
    (refine retQ.mk [0] ?_ ?_ <;> simp [kwr, tq48])
set_option maxRecDepth 100000 in
set_option maxHeartbeats 2000000 in
theorem rfail_fl (l : List TkD) (n k : Nat) (b : Int) : AC Tryz.prog gl 48 [.ref 0 0] (flO l n k b) (.tup []) (flO l n k b) := by
  refine bodyO (fun _ => 0) 1 Tryz.func48 rfl Tryz.ntmps48 (by rw [Tryz.results48]) (by simp) (by simp) ?_
  (repeat' (first | simp -implicitDefEqProofs +contextual (maxSteps := 9000000) only [kx, ↓ky, tq48, simprocAttr] | (with_reducible first | refine SB.c (fun _ => ?_) (fun _ => ?_) | refine REG.i ?_ | exact REG.j) | with_reducible refine AndI ?_ | omega))
  (refine retQ.mk [0] ?_ ?_ <;> simp [kwr, tq48])
set_option maxRecDepth 100000 in
set_option maxHeartbeats 2000000 in
theorem rtake_ok (l : List TkD) (n k k' : Nat) (s : List UInt8) (hT : AllOK l) (hs : signy s = true) (hk : k ≤ 1000000) (h : expF l s k = .ok () k') : AC Tryz.prog gl 82 [.ref 0 0, .pv (.str s)] (okO l n k) (.tup []) (okO l n k') := by
  unfold expF at h
  split at h
  · rename_i e
    cases h
    have c := rsign_ac l n k s hT hs
    rw [e] at c
    have hw := wrapS k (by omega)
    refine bodyO (fun _ => 0) 1 Tryz.func82 rfl Tryz.ntmps82 (by rw [Tryz.results82]) (by simp) (by simp) ?_
    (repeat' (first | simp -implicitDefEqProofs +contextual (maxSteps := 9000000) only [kx, ↓ky, tq82, simprocAttr, hw, kz] | (with_reducible first | refine SB.c (fun _ => ?_) (fun _ => ?_) | refine REG.i ?_ | exact REG.j) | refine CK.dx [0] [] enters81 c ?_ | with_reducible refine AndI ?_ | omega))
    (refine retQ.mk [0] ?_ ?_ <;> simp [kwr, tq82])
  · cases h
set_option maxRecDepth 100000 in
set_option maxHeartbeats 2000000 in
theorem rtake_bad (l : List TkD) (n k k' : Nat) (s : List UInt8) (hT : AllOK l) (hs : signy s = true) (h : expF l s k = .bad k') : AC Tryz.prog gl 82 [.ref 0 0, .pv (.str s)] (okO l n k) (.tup []) (flO l n k' (placeF l n k')) := by
  unfold expF at h
  split at h
  · cases h
  · rename_i e
    cases h
    have c := rsign_ac l n k s hT hs
    rw [show isT l k s = false by simpa using e] at c
    have cF := rfail_ok l n k
    refine bodyO (fun _ => 0) 1 Tryz.func82 rfl Tryz.ntmps82 (by rw [Tryz.results82]) (by simp) (by simp) ?_
    (repeat' (first | simp -implicitDefEqProofs +contextual (maxSteps := 9000000) only [kx, ↓ky, tq82, simprocAttr, kz] | (with_reducible first | refine SB.c (fun _ => ?_) (fun _ => ?_) | refine REG.i ?_ | exact REG.j) | refine CK.dx [0] [] enters81 c ?_ | refine CK.dx [0] [] enters48 cF ?_ | with_reducible refine AndI ?_ | omega))
    (refine retQ.mk [0] ?_ ?_ <;> simp [kwr, tq82])
set_option maxRecDepth 100000 in
set_option maxHeartbeats 2000000 in
theorem rtake_fl (l : List TkD) (n k : Nat) (b : Int) (s : List UInt8) : AC Tryz.prog gl 82 [.ref 0 0, .pv (.str s)] (flO l n k b) (.tup []) (flO l n k b) := by
  have c := rsign_fl l n k b s
  have cF := rfail_fl l n k b
  refine bodyO (fun _ => 0) 1 Tryz.func82 rfl Tryz.ntmps82 (by rw [Tryz.results82]) (by simp) (by simp) ?_
  (repeat' (first | simp -implicitDefEqProofs +contextual (maxSteps := 9000000) only [kx, ↓ky, tq82, simprocAttr, kz] | (with_reducible first | refine SB.c (fun _ => ?_) (fun _ => ?_) | refine REG.i ?_ | exact REG.j) | refine CK.dx [0] [] enters81 c ?_ | refine CK.dx [0] [] enters48 cF ?_ | with_reducible refine AndI ?_ | omega))
  (refine retQ.mk [0] ?_ ?_ <;> simp [kwr, tq82])
set_option maxRecDepth 100000 in
set_option maxHeartbeats 2000000 in
theorem rskip_t (l : List TkD) (n k : Nat) (s : List UInt8) (hT : AllOK l) (hs : wordy s = true) (hk : k ≤ 1000000) (h : isT l k s = true) : AC Tryz.prog gl 47 [.ref 0 0, .pv (.str s)] (okO l n k) (.pv (.bool true)) (okO l n (k + 1)) := by
  have c := rword_ac l n k s hT hs
  rw [h] at c
  have hw := wrapS k (by omega)
  refine bodyO (fun _ => 0) 1 Tryz.func47 rfl Tryz.ntmps47 (by rw [Tryz.results47]) (by simp) (by simp) ?_
  (repeat' (first | simp -implicitDefEqProofs +contextual (maxSteps := 9000000) only [kx, ↓ky, tq47, simprocAttr, hw, kz] | (with_reducible first | refine SB.c (fun _ => ?_) (fun _ => ?_) | refine REG.i ?_ | exact REG.j) | refine CK.dx [0] [] enters84 c ?_ | with_reducible refine AndI ?_ | omega))
  (refine retQ.mk [0] ?_ ?_ <;> simp [kwr, tq47])
set_option maxRecDepth 100000 in
set_option maxHeartbeats 2000000 in
theorem rskip_f (l : List TkD) (n k : Nat) (s : List UInt8) (hT : AllOK l) (hs : wordy s = true) (h : isT l k s = false) : AC Tryz.prog gl 47 [.ref 0 0, .pv (.str s)] (okO l n k) (.pv (.bool false)) (okO l n k) := by
  have c := rword_ac l n k s hT hs
  rw [h] at c
  refine bodyO (fun _ => 0) 1 Tryz.func47 rfl Tryz.ntmps47 (by rw [Tryz.results47]) (by simp) (by simp) ?_
  (repeat' (first | simp -implicitDefEqProofs +contextual (maxSteps := 9000000) only [kx, ↓ky, tq47, simprocAttr, kz] | (with_reducible first | refine SB.c (fun _ => ?_) (fun _ => ?_) | refine REG.i ?_ | exact REG.j) | refine CK.dx [0] [] enters84 c ?_ | with_reducible refine AndI ?_ | omega))
  (refine retQ.mk [0] ?_ ?_ <;> simp [kwr, tq47])
set_option maxRecDepth 100000 in
set_option maxHeartbeats 2000000 in
theorem rskip_fl (l : List TkD) (n k : Nat) (b : Int) (s : List UInt8) : AC Tryz.prog gl 47 [.ref 0 0, .pv (.str s)] (flO l n k b) (.pv (.bool false)) (flO l n k b) := by
  have c := rword_fl l n k b s
  refine bodyO (fun _ => 0) 1 Tryz.func47 rfl Tryz.ntmps47 (by rw [Tryz.results47]) (by simp) (by simp) ?_
  (repeat' (first | simp -implicitDefEqProofs +contextual (maxSteps := 9000000) only [kx, ↓ky, tq47, simprocAttr, kz] | (with_reducible first | refine SB.c (fun _ => ?_) (fun _ => ?_) | refine REG.i ?_ | exact REG.j) | refine CK.dx [0] [] enters84 c ?_ | with_reducible refine AndI ?_ | omega))
  (refine retQ.mk [0] ?_ ?_ <;> simp [kwr, tq47])
set_option maxRecDepth 100000 in
set_option maxHeartbeats 2000000 in
theorem rname_ok (l : List TkD) (n k k' : Nat) (nm : List UInt8) (h : pnmF l k = .ok nm k') (hl : l.length ≤ 1000000) : AC Tryz.prog gl 80 [.ref 0 0] (okO l n k) (.pv (.str nm)) (okO l n k') := by
  unfold pnmF at h
  split at h
  · rename_i hc
    obtain ⟨h1, h2, h3⟩ := hc
    cases h
    have cV := valid1_ac (l.getD k tk0).text
    rw [h3] at cV
    have hg := getTk2 l k h1
    rw [h2] at hg
    generalize (l.getD k tk0).text = tx at *
    have hk' : (k : Int) < l.length := by omega
    have hk2 : ¬ (k : Int) ≥ l.length := by omega
    have hw := wrapS k (by omega)
    have hm := wrapM2 k (by omega)
    refine bodyO (fun _ => 0) 1 Tryz.func80 rfl Tryz.ntmps80 (by rw [Tryz.results80]) (by simp) (by simp) ?_
    (repeat' (first | simp -implicitDefEqProofs +contextual (maxSteps := 9000000) only [kx, ↓ky, tq80, simprocAttr, h1, hk', hk2, hg, hw, hm] | (with_reducible first | refine SB.c (fun _ => ?_) (fun _ => ?_) | refine REG.i ?_ | exact REG.j) | refine CK.d0 enters37 cV ?_ | with_reducible refine AndI ?_ | omega))
    (refine retQ.mk [0] ?_ ?_ <;> simp [kwr, tq80])
  · cases h
set_option maxRecDepth 100000 in
set_option maxHeartbeats 2000000 in
theorem rname_bad (l : List TkD) (n k k' : Nat) (h : pnmF l k = .bad k') : AC Tryz.prog gl 80 [.ref 0 0] (okO l n k) (.pv (.str [])) (flO l n k' (placeF l n k')) := by
  unfold pnmF at h
  split at h
  · cases h
  · rename_i hc
    cases h
    have cF := rfail_ok l n k
    refine bodyO (fun _ => 0) 1 Tryz.func80 rfl Tryz.ntmps80 (by rw [Tryz.results80]) (by simp) (by simp) ?_
    by_cases h1 : k < l.length
    · have hk' : (k : Int) < l.length := by omega
      have hk2 : ¬ (k : Int) ≥ l.length := by omega
      have hg := getTk2 l k h1
      have cV := valid1_ac (l.getD k tk0).text
      by_cases h2 : (l.getD k tk0).kind = 1
      · have h3 : validF (l.getD k tk0).text = false := by
          cases hv : validF (l.getD k tk0).text with
          | false => rfl
          | true => exact absurd ⟨h1, h2, hv⟩ hc
        rw [h3] at cV
        rw [h2] at hg
        generalize (l.getD k tk0).text = tx at *
        (repeat' (first | simp -implicitDefEqProofs +contextual (maxSteps := 9000000) only [kx, ↓ky, tq80, simprocAttr, h1, hk', hk2, hg, kz] | (with_reducible first | refine SB.c (fun _ => ?_) (fun _ => ?_) | refine REG.i ?_ | exact REG.j) | refine CK.d0 enters37 cV ?_ | refine CK.dx [0] [] enters48 cF ?_ | with_reducible refine AndI ?_ | omega))
        (refine retQ.mk [0] ?_ ?_ <;> simp [kwr, tq80])
      · have h2' : ((l.getD k tk0).kind != 1) = true := by simpa using h2
        (repeat' (first | simp -implicitDefEqProofs +contextual (maxSteps := 9000000) only [kx, ↓ky, tq80, simprocAttr, h1, hk', hk2, hg, h2', kz] | (with_reducible first | refine SB.c (fun _ => ?_) (fun _ => ?_) | refine REG.i ?_ | exact REG.j) | refine CK.d0 enters37 cV ?_ | refine CK.dx [0] [] enters48 cF ?_ | with_reducible refine AndI ?_ | omega))
        (refine retQ.mk [0] ?_ ?_ <;> simp [kwr, tq80])
    · have hk2 : (k : Int) ≥ l.length := by omega
      (repeat' (first | simp -implicitDefEqProofs +contextual (maxSteps := 9000000) only [kx, ↓ky, tq80, simprocAttr, hk2, kz] | (with_reducible first | refine SB.c (fun _ => ?_) (fun _ => ?_) | refine REG.i ?_ | exact REG.j) | refine CK.dx [0] [] enters48 cF ?_ | with_reducible refine AndI ?_ | omega))
      (refine retQ.mk [0] ?_ ?_ <;> simp [kwr, tq80])
set_option maxRecDepth 100000 in
set_option maxHeartbeats 2000000 in
theorem rnum_ok (l : List TkD) (n k k' : Nat) (z v : Int) (h : nmF l z k = .ok v k') (hl : l.length ≤ 1000000) : AC Tryz.prog gl 83 [.ref 0 0, .pv (.int .i64 z)] (okO l n k) (.pv (.int .i64 v)) (okO l n k') := by
  unfold nmF at h
  split at h
  · rename_i hc
    obtain ⟨h1, h2, h3⟩ := hc
    cases h
    have hg := getTk2 l k h1
    rw [h2] at hg
    generalize (l.getD k tk0).value = tv at *
    have hlt : ¬ tv < z := by omega
    have hk' : (k : Int) < l.length := by omega
    have hk2 : ¬ (k : Int) ≥ l.length := by omega
    have hw := wrapS k (by omega)
    have hm := wrapM2 k (by omega)
    refine bodyO (fun _ => 0) 1 Tryz.func83 rfl Tryz.ntmps83 (by rw [Tryz.results83]) (by simp) (by simp) ?_
    (repeat' (first | simp -implicitDefEqProofs +contextual (maxSteps := 9000000) only [kx, ↓ky, tq83, simprocAttr, h1, hk', hk2, hg, hw, hm, hlt] | (with_reducible first | refine SB.c (fun _ => ?_) (fun _ => ?_) | refine REG.i ?_ | exact REG.j) | with_reducible refine AndI ?_ | omega))
    (refine retQ.mk [0] ?_ ?_ <;> simp [kwr, tq83])
  · cases h
set_option maxRecDepth 100000 in
set_option maxHeartbeats 2000000 in
theorem rnum_bad (l : List TkD) (n k k' : Nat) (z : Int) (h : nmF l z k = .bad k') : AC Tryz.prog gl 83 [.ref 0 0, .pv (.int .i64 z)] (okO l n k) (.pv (.int .i64 0)) (flO l n k' (placeF l n k')) := by
  unfold nmF at h
  split at h
  · cases h
  · rename_i hc
    cases h
    have cF := rfail_ok l n k
    refine bodyO (fun _ => 0) 1 Tryz.func83 rfl Tryz.ntmps83 (by rw [Tryz.results83]) (by simp) (by simp) ?_
    by_cases h1 : k < l.length
    · have hk' : (k : Int) < l.length := by omega
      have hk2 : ¬ (k : Int) ≥ l.length := by omega
      have hg := getTk2 l k h1
      by_cases h2 : (l.getD k tk0).kind = 2
      · have h3 : (l.getD k tk0).value < z := by
          rcases Int.lt_or_le (l.getD k tk0).value z with h | h
          · exact h
          · exact absurd ⟨h1, h2, h⟩ hc
        rw [h2] at hg
        (repeat' (first | simp -implicitDefEqProofs +contextual (maxSteps := 9000000) only [kx, ↓ky, tq83, simprocAttr, h1, hk', hk2, hg, h3, kz] | (with_reducible first | refine SB.c (fun _ => ?_) (fun _ => ?_) | refine REG.i ?_ | exact REG.j) | refine CK.dx [0] [] enters48 cF ?_ | with_reducible refine AndI ?_ | omega))
        (refine retQ.mk [0] ?_ ?_ <;> simp [kwr, tq83])
      · have h2' : ((l.getD k tk0).kind != 2) = true := by simpa using h2
        (repeat' (first | simp -implicitDefEqProofs +contextual (maxSteps := 9000000) only [kx, ↓ky, tq83, simprocAttr, h1, hk', hk2, hg, h2', kz] | (with_reducible first | refine SB.c (fun _ => ?_) (fun _ => ?_) | refine REG.i ?_ | exact REG.j) | refine CK.dx [0] [] enters48 cF ?_ | with_reducible refine AndI ?_ | omega))
        (refine retQ.mk [0] ?_ ?_ <;> simp [kwr, tq83])
    · have hk2 : (k : Int) ≥ l.length := by omega
      (repeat' (first | simp -implicitDefEqProofs +contextual (maxSteps := 9000000) only [kx, ↓ky, tq83, simprocAttr, hk2, kz] | (with_reducible first | refine SB.c (fun _ => ?_) (fun _ => ?_) | refine REG.i ?_ | exact REG.j) | refine CK.dx [0] [] enters48 cF ?_ | with_reducible refine AndI ?_ | omega))
      (refine retQ.mk [0] ?_ ?_ <;> simp [kwr, tq83])
set_option maxRecDepth 100000 in
set_option maxHeartbeats 2000000 in
theorem rnum_fl (l : List TkD) (n k : Nat) (b z : Int) : AC Tryz.prog gl 83 [.ref 0 0, .pv (.int .i64 z)] (flO l n k b) (.pv (.int .i64 0)) (flO l n k b) := by
  have cF := rfail_fl l n k b
  refine bodyO (fun _ => 0) 1 Tryz.func83 rfl Tryz.ntmps83 (by rw [Tryz.results83]) (by simp) (by simp) ?_
  (repeat' (first | simp -implicitDefEqProofs +contextual (maxSteps := 9000000) only [kx, ↓ky, tq83, simprocAttr, kz] | (with_reducible first | refine SB.c (fun _ => ?_) (fun _ => ?_) | refine REG.i ?_ | exact REG.j) | refine CK.dx [0] [] enters48 cF ?_ | with_reducible refine AndI ?_ | omega))
  (refine retQ.mk [0] ?_ ?_ <;> simp [kwr, tq83])
end Go.Proofs.YtopbicbgolcmpaaGreatDoor
