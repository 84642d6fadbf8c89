/- The reader of a script: the program of a process. No condition. -/
import Derived.Test.YtfinhhblcdkpgaaGreatDoorK15
import Derived.Test.YtfinhhblcdkpgaaGreatDoorK11
import Derived.Test.YtfinhhblcdkpgaaGreatDoorS3
import Derived.Test.YtfinhhblcdkpgaaGreatDoorLib4
set_option linter.unusedSimpArgs false
set_option linter.unusedVariables false
set_option linter.defProp false
namespace Go.Proofs.YtfinhhblcdkpgaaGreatDoor
open Go Go.Abs Go.RowKit
abbrev rdP (ls : List (List UInt8)) (torn : Bool) (k : Nat) (cs : List CdD) (p f : Int) (xs : List StD) : List (Option AObj) :=
  [some (.cells [.pv (.slice (ls.map encT)), .pv (.bool torn), .pv (.int .i64 k), .row 3 cs.length, .pv (.int .i64 p), .pv (.int .i64 f), .row 2 xs.length]), some .dead, some (.row 4 (xs.map encSt)), some (.row 5 (cs.map encCd))]
abbrev dead3 : List (Option AObj) := [some .dead, some .dead, some .dead]
def procR (ls : List (List UInt8)) (torn : Bool) (k : Nat) (cs : List CdD) (p f : Int) (xs : List StD) : AVal × List (Option AObj) :=
  if 5 ≤ cs.length then (.tup [.pv (.int .i64 k), .pv (.int .i64 4)], dead3)
  else match cutEnd (ls.drop k) [] with
    | none => (.tup [.pv (.int .i64 ((ls.length + 1 : Nat) : Int)), .pv (.int .i64 1)], dead3)
    | some (b, r) => if (bodyF b).2 ≠ 0 then (.tup [.pv (.int .i64 k), .pv (.int .i64 (bodyF b).2)], dead3)
      else (.tup [.pv (.int .i64 0), .pv (.int .i64 0)], rdP ls torn (ls.length - r.length) (cs ++ [(bodyF b).1]) p f xs)
theorem procR_many {ls : List (List UInt8)} {torn : Bool} {k : Nat} {cs : List CdD} {p f : Int} {xs : List StD} (h : 5 ≤ cs.length) : procR ls torn k cs p f xs = (.tup [.pv (.int .i64 k), .pv (.int .i64 4)], dead3) := by unfold procR; rw [if_pos h]
theorem procR_none {ls : List (List UInt8)} {torn : Bool} {k : Nat} {cs : List CdD} {p f : Int} {xs : List StD} (h : ¬ 5 ≤ cs.length) (hc : cutEnd (ls.drop k) [] = none) : procR ls torn k cs p f xs = (.tup [.pv (.int .i64 ((ls.length + 1 : Nat) : Int)), .pv (.int .i64 1)], dead3) := by
  unfold procR; rw [if_neg h, hc]
theorem procR_bad {ls : List (List UInt8)} {torn : Bool} {k : Nat} {cs : List CdD} {p f : Int} {xs : List StD} {b : List UInt8} {r : List (List UInt8)} (h : ¬ 5 ≤ cs.length) (hc : cutEnd (ls.drop k) [] = some (b, r)) (he : (bodyF b).2 ≠ 0) : procR ls torn k cs p f xs = (.tup [.pv (.int .i64 k), .pv (.int .i64 (bodyF b).2)], dead3) := by
  unfold procR; rw [if_neg h, hc]; dsimp only; rw [if_pos he]
theorem procR_ok {ls : List (List UInt8)} {torn : Bool} {k : Nat} {cs : List CdD} {p f : Int} {xs : List StD} {b : List UInt8} {r : List (List UInt8)} (h : ¬ 5 ≤ cs.length) (hc : cutEnd (ls.drop k) [] = some (b, r)) (he : (bodyF b).2 = 0) : procR ls torn k cs p f xs = (.tup [.pv (.int .i64 0), .pv (.int .i64 0)], rdP ls torn (ls.length - r.length) (cs ++ [(bodyF b).1]) p f xs) := by
  unfold procR; rw [if_neg h, hc]; dsimp only; rw [if_neg (by simpa using he)]
set_option maxRecDepth 100000 in
set_option maxHeartbeats 16000000 in
theorem process_ac (ls : List (List UInt8)) (torn : Bool) (k : Nat) (cs : List CdD) (p f : Int) (xs : List StD) (hk : k ≤ ls.length) (hl : ls.length ≤ 1000000) (hcs : cs.length ≤ 5) (hb : sumL (ls.drop k) ≤ 1000000) :
    AC Tryz.prog gl 62 [.ref 0 0] (rdO ls torn k cs p f xs) (procR ls torn k cs p f xs).1 (procR ls torn k cs p f xs).2 := by
  generalize hG : procR ls torn k cs p f xs = G
  by_cases h5 : 5 ≤ cs.length
  · have h5' : (cs.length : Int) ≥ 5 := by omega
    have := procR_many (ls := ls) (torn := torn) (k := k) (p := p) (f := f) (xs := xs) h5
    rw [hG] at this
    subst this
    refine bodyO (fun d => if d = 5 then 3 else if d = 8 then 7 else if d = 11 then 8 else 9) 10 Tryz.func62 rfl Tryz.ntmps62 (by rw [Tryz.results62]) (by simp) (by simp) ?_
    (repeat' (first | simp -implicitDefEqProofs +contextual (maxSteps := 9000000) only [kx, ↓ky, tq62, simprocAttr, h5'] | (with_reducible first | refine SB.c (fun _ => ?_) (fun _ => ?_) | refine REG.i ?_ | exact REG.j) | with_reducible refine AndI ?_ | omega))
    (refine retQ.mk [0, 1, 2] ?_ ?_ <;> simp [kwr, tq62])
  have h5' : ¬ (cs.length : Int) ≥ 5 := by omega
  refine bodyO (fun d => if d = 5 then 3 else if d = 8 then 7 else if d = 11 then 8 else 9) 10 Tryz.func62 rfl Tryz.ntmps62 (by rw [Tryz.results62]) (by simp) (by simp) ?_
  (repeat' (first | simp -implicitDefEqProofs +contextual (maxSteps := 9000000) only [kx, ↓ky, tq62, simprocAttr, h5'] | (with_reducible first | refine SB.c (fun _ => ?_) (fun _ => ?_) | refine REG.i ?_ | exact REG.j) | with_reducible refine AndI ?_ | omega))
  refine loopV (ι := PcI ls k) (fun i => ⟨(.ref 0 0 :: .junk :: .junk :: .junk :: .pv (.int .i64 k) :: .ref 3 0 :: .junk :: .junk :: .junk :: .junk :: .junk :: .junk :: .junk :: .junk :: .junk :: .junk :: .junk :: .junk :: .junk :: .junk :: .junk :: .junk :: .junk :: .junk :: .junk :: .junk :: .junk :: .junk :: .junk :: .junk :: .junk :: .junk :: .junk :: .junk :: .junk :: .junk :: .junk :: .junk :: .junk :: .junk :: .junk :: .junk :: .junk :: .junk :: .junk :: .junk :: .junk :: .junk :: .junk :: .junk :: .junk :: .junk :: .junk :: .junk :: .junk :: .junk :: .junk :: .junk :: .junk :: .junk :: .junk :: .junk :: .junk :: .junk :: .junk :: .junk :: .junk :: .junk :: .junk :: .junk :: .junk :: []), (rdO ls torn i.k cs p f xs) ++ [bH 4 i.b.length, bB i.b, none, none, none, none, none]⟩) (fun i => ls.length - i.k) ⟨k, [], hk, rfl, by simpa using hb⟩ WFn ?_
  intro i
  have cN := rdnext_ac ls torn i.k cs p f xs (by have := i.hk; omega) (by omega)
  by_cases hlt : i.k < ls.length
  · rw [decide_eq_true hlt] at cN
    have hbn := i.hb
    rw [i.line hlt, sumL_cons] at hbn
    by_cases he : ls.getD i.k [] = [101, 110, 100]
    · have hfin := i.fin hlt he
      rw [he] at cN
      have cS := bstr_ac i.b
      have cP := Parse_ac i.b
      have hsz := parF_sz i.b
      have hbf : bodyF i.b = if (parF i.b).2.2 ≠ 0 then (cd0, (parF i.b).2.2) else resolveF (parF i.b).1 := rfl
      have cR := resolve_ac (parF i.b).1 hsz
      have hlen : ls.length - (ls.drop (i.k + 1)).length = i.k + 1 := by simp; omega
      unfold rP at cP
      unfold pgA at cP cR
      unfold cdA at cR
      generalize parF i.b = pr at *
      by_cases hp0 : pr.2.2 = 0
      · rw [if_neg (by simpa using hp0)] at hbf
        have hp0' : (pr.2.2 != 0) = false := by simpa using hp0
        by_cases hr0 : (resolveF pr.1).2 = 0
        · have hr0' : ((resolveF pr.1).2 != 0) = false := by simpa using hr0
          have := procR_ok (torn := torn) (p := p) (f := f) (xs := xs) h5 hfin (by rw [hbf]; exact hr0)
          rw [hG, hbf, hlen] at this
          subst this
          generalize resolveF pr.1 = rr at *
          have hrm := roomL (cs.length + 1) 120 (by omega)
          (repeat' (first | simp -implicitDefEqProofs +contextual (maxSteps := 9000000) only [kx, ↓ky, tq62, simprocAttr, hp0', hr0', hrm, kz] | (with_reducible first | refine SB.c (fun _ => ?_) (fun _ => ?_) | refine REG.i ?_ | exact REG.j) | refine CK.dx [0, 1, 2] [] enters60 cN ?_ | refine CK.dx [3, 4] [] enters39 cS ?_ | refine CK.d0 enters90 cP ?_ | refine CK.d0 enters22 cR ?_ | with_reducible refine AndI ?_ | omega))
          (refine retQ.mk [0, 1, 2, 9] ?_ ?_ <;> simp [kwr, tq62, encCd])
        · have hr0' : ((resolveF pr.1).2 != 0) = true := by simpa using hr0
          have := procR_bad (torn := torn) (p := p) (f := f) (xs := xs) h5 hfin (by rw [hbf]; exact hr0)
          rw [hG, hbf] at this
          subst this
          generalize resolveF pr.1 = rr at *
          (repeat' (first | simp -implicitDefEqProofs +contextual (maxSteps := 9000000) only [kx, ↓ky, tq62, simprocAttr, hp0', hr0', kz] | (with_reducible first | refine SB.c (fun _ => ?_) (fun _ => ?_) | refine REG.i ?_ | exact REG.j) | refine CK.dx [0, 1, 2] [] enters60 cN ?_ | refine CK.dx [3, 4] [] enters39 cS ?_ | refine CK.d0 enters90 cP ?_ | refine CK.d0 enters22 cR ?_ | with_reducible refine AndI ?_ | omega))
          (refine retQ.mk [0, 1, 2] ?_ ?_ <;> simp [kwr, tq62])
      · have hp0' : (pr.2.2 != 0) = true := by simpa using hp0
        rw [if_pos (by simpa using hp0)] at hbf
        have := procR_bad (torn := torn) (p := p) (f := f) (xs := xs) h5 hfin (by rw [hbf]; exact hp0)
        rw [hG, hbf] at this
        subst this
        (repeat' (first | simp -implicitDefEqProofs +contextual (maxSteps := 9000000) only [kx, ↓ky, tq62, simprocAttr, hp0', kz] | (with_reducible first | refine SB.c (fun _ => ?_) (fun _ => ?_) | refine REG.i ?_ | exact REG.j) | refine CK.dx [0, 1, 2] [] enters60 cN ?_ | refine CK.dx [3, 4] [] enters39 cS ?_ | refine CK.d0 enters90 cP ?_ | with_reducible refine AndI ?_ | omega))
        (refine retQ.mk [0, 1, 2] ?_ ?_ <;> simp [kwr, tq62])
    · have he' : (ls.getD i.k [] == [101, 110, 100]) = false := by simpa using he
      have cW := bws_ac i.b (ls.getD i.k []) (by omega)
      have cB := bwb_ac (i.b ++ ls.getD i.k []) 10 (by rw [List.length_append]; omega)
      simp only [UInt8.reduceToNat, Int.cast_ofNat_Int] at cB
      have hn := PcI.next i hlt he
      have e1 : (i.next hlt he).k = i.k + 1 := rfl
      have e2 : (i.next hlt he).b = i.b ++ (ls.getD i.k [] ++ [10]) := rfl
      (repeat' (first | simp -implicitDefEqProofs +contextual (maxSteps := 9000000) only [kx, ↓ky, tq62, simprocAttr, he', kz] | (with_reducible first | refine SB.c (fun _ => ?_) (fun _ => ?_) | refine REG.i ?_ | exact REG.j) | refine CK.dx [0, 1, 2] [] enters60 cN ?_ | refine CK.dx [3, 4] [5] enters34 cW ?_ | refine CK.dx [3, 5] [6] enters89 cB ?_ | with_reducible refine AndI ?_ | omega))
      exact ⟨i.next hlt he, (WMe [0, 1, 2, 3, 6, 5, 5, 7, 8, 9] (by simp [kwt, e1, e2, List.append_assoc]) (by simp [kwt, e1, e2, List.append_assoc])), by show _ - (i.next hlt he).k < _; rw [e1]; omega⟩
  · rw [decide_eq_false hlt] at cN
    have hkl : i.k = ls.length := by have := i.hk; omega
    have := procR_none (torn := torn) (p := p) (f := f) (xs := xs) h5 (i.out hlt)
    rw [hG] at this
    subst this
    rw [hkl] at cN
    (repeat' (first | simp -implicitDefEqProofs +contextual (maxSteps := 9000000) only [kx, ↓ky, tq62, simprocAttr, hkl, kz] | (with_reducible first | refine SB.c (fun _ => ?_) (fun _ => ?_) | refine REG.i ?_ | exact REG.j) | refine CK.dx [0, 1, 2] [] enters60 cN ?_ | with_reducible refine AndI ?_ | omega))
    (refine retQ.mk [0, 1, 2] ?_ ?_ <;> simp [kwr, tq62])
end Go.Proofs.YtfinhhblcdkpgaaGreatDoor
