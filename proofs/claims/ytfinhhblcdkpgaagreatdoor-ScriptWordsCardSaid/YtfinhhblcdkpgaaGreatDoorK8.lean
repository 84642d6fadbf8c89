/- The next line ahead of the lists, and the first line of a script. No condition. -/
import Derived.Test.YtfinhhblcdkpgaaGreatDoorK7
import Derived.Test.YtfinhhblcdkpgaaGreatDoorLib4
set_option linter.unusedSimpArgs false
set_option linter.unusedVariables false
set_option linter.defProp false
namespace Go.Proofs.YtfinhhblcdkpgaaGreatDoor
open Go Go.Abs Go.RowKit
abbrev rdN (ls : List (List UInt8)) (torn : Bool) (k : Nat) (p f : Int) : List (Option AObj) :=
  [some (.cells [.pv (.slice (ls.map encT)), .pv (.bool torn), .pv (.int .i64 k), .snil, .pv (.int .i64 p), .pv (.int .i64 f), .snil])]
set_option maxRecDepth 100000 in
set_option maxHeartbeats 2000000 in
theorem rdnextN_ac (ls : List (List UInt8)) (torn : Bool) (p f : Int) (hl : ls.length ≤ 1000000000) :
    AC Tryz.prog gl 60 [.ref 0 0] (rdN ls torn 0 p f) (.tup [.pv (.str (ls.getD 0 [])), .pv (.bool (decide (0 < ls.length)))]) (rdN ls torn 1 p f) := by
  by_cases h : 0 < ls.length
  · have h1 : ¬ ((1 : Int) > ls.length) := by omega
    have h3 : IntKind.i64.wrap 1 = 1 := by decide
    have h4 : IntKind.i64.wrap 0 = 0 := by decide
    have hget := getD_map encT ls 0 h
    have hg2 : ls.getD 0 [] = ls[0] := by rw [List.getD_eq_getElem?_getD, List.getElem?_eq_getElem h]; rfl
    rw [decide_eq_true h, hg2]
    generalize ls[0] = x at *
    replace hget : (ls.map encT).getD 0 [] = [.str x] := hget
    refine bodyO (fun _ => 3) 4 Tryz.func60 rfl Tryz.ntmps60 (by rw [Tryz.results60]) (by simp) (by simp) ?_
    (repeat' (first | simp -implicitDefEqProofs +contextual (maxSteps := 9000000) only [kx, ↓ky, tq60, simprocAttr, h1, h3, h4, h, hget] | (with_reducible first | refine SB.c (fun _ => ?_) (fun _ => ?_) | refine REG.i ?_ | exact REG.j) | with_reducible refine AndI ?_ | omega))
    (refine retQ.mk [0] ?_ ?_ <;> simp [kwr, tq60])
  · have h1 : ((1 : Int) > ls.length) := by omega
    have h3 : IntKind.i64.wrap 1 = 1 := by decide
    have hg2 : ls.getD 0 [] = [] := by rw [List.getD_eq_getElem?_getD, List.getElem?_eq_none (by omega)]; rfl
    rw [decide_eq_false h, hg2]
    refine bodyO (fun _ => 3) 4 Tryz.func60 rfl Tryz.ntmps60 (by rw [Tryz.results60]) (by simp) (by simp) ?_
    (repeat' (first | simp -implicitDefEqProofs +contextual (maxSteps := 9000000) only [kx, ↓ky, tq60, simprocAttr, h1, h3] | (with_reducible first | refine SB.c (fun _ => ?_) (fun _ => ?_) | refine REG.i ?_ | exact REG.j) | with_reducible refine AndI ?_ | omega))
    (refine retQ.mk [0] ?_ ?_ <;> simp [kwr, tq60])
set_option maxRecDepth 100000 in
set_option maxHeartbeats 8000000 in
theorem firstN_ac (ls : List (List UInt8)) (torn : Bool) (k : Nat) (f : Int) (line : List UInt8) (hl : line.length ≤ 100000) :
    AC Tryz.prog gl 61 [.ref 0 0, .pv (.str line)] (rdN ls torn k 0 f) (.pv (.bool (firstF line f).2.2)) (rdN ls torn k (firstF line f).1 (firstF line f).2.1) := by
  have cP := split_ac line 32 (by omega)
  have hpc := split_le 32 line
  by_cases h3 : (splitF 32 line).length = 3
  · match hs : splitF 32 line, h3 with
    | [a, b, c], _ =>
      rw [firstF_3 line f a b c hs]
      rw [hs] at cP hpc
      have hc := hpc c (by simp)
      have cN := snum_ac c (by omega)
      by_cases ha : a = [112, 114, 111, 116, 111, 99, 111, 108]
      · rw [if_pos ha]
        subst ha
        refine bodyO (fun _ => 1) 2 Tryz.func61 rfl Tryz.ntmps61 (by rw [Tryz.results61]) (by simp) (by simp) ?_
        (repeat' (first | simp -implicitDefEqProofs +contextual (maxSteps := 9000000) only [kx, ↓ky, tq61, simprocAttr, bne_self_eq_false] | (with_reducible first | refine SB.c (fun _ => ?_) (fun _ => ?_) | refine REG.i ?_ | exact REG.j) | refine CK.d0 enters40 cP ?_ | with_reducible refine AndI ?_ | omega))
        refine loopV (ι := {k : Nat // 1 ≤ k ∧ k ≤ 9}) (fun i => ⟨(.ref 0 0 :: .junk :: .junk :: .junk :: .junk :: .pv (.slice [[.str [112, 114, 111, 116, 111, 99, 111, 108]], [.str b], [.str c]]) :: .pv (.int .i64 i.1) :: .junk :: .junk :: .junk :: .junk :: .junk :: .junk :: .junk :: .junk :: .junk :: .junk :: .junk :: .junk :: .junk :: .junk :: .junk :: .junk :: .junk :: .junk :: .junk :: .junk :: .junk :: .junk :: .junk :: .junk :: .junk :: .junk :: .junk :: .junk :: .junk :: .junk :: .junk :: .junk :: .junk :: .junk :: .junk :: .junk :: .junk :: .junk :: .junk :: .junk :: .junk :: .junk :: .junk :: .junk :: .junk :: .junk :: .junk :: .junk :: .junk :: .junk :: []), (rdN ls torn k (prIx b i.1) f) ++ [none]⟩) (fun i => 9 - i.1) ⟨1, by omega, by omega⟩ (WFe (by simp [kwf, prIx_one]) (by simp [kwf, prIx_one])) ?_
        rintro ⟨j, hj1, hj⟩
        by_cases hlt : j < 9
        · have hlt' : (j : Int) ≤ 8 := by omega
          have hcell := pr_cell j hlt
          simp only [prsT, List.map_cons, List.map_nil] at hcell
          have hw := wrapS j (by omega)
          by_cases he : prF j = b
          · have he' : (prF (j : Int) == b) = true := by simpa using he
            (repeat' (first | simp -implicitDefEqProofs +contextual (maxSteps := 9000000) only [kx, ↓ky, tq61, simprocAttr, hlt, hlt', hcell, he', Nat.mul_one, hw] | (with_reducible first | refine SB.c (fun _ => ?_) (fun _ => ?_) | refine REG.i ?_ | exact REG.j) | with_reducible refine AndI ?_ | omega))
            exact ⟨⟨j + 1, by omega, by omega⟩, (WFe (by simp [kwf, prIx_t b j hj1 he]) (by simp [kwf, prIx_t b j hj1 he])), by show 9 - (j + 1) < 9 - j; omega⟩
          · have he' : (prF (j : Int) == b) = false := by simpa using he
            (repeat' (first | simp -implicitDefEqProofs +contextual (maxSteps := 9000000) only [kx, ↓ky, tq61, simprocAttr, hlt, hlt', hcell, he', Nat.mul_one, hw] | (with_reducible first | refine SB.c (fun _ => ?_) (fun _ => ?_) | refine REG.i ?_ | exact REG.j) | with_reducible refine AndI ?_ | omega))
            exact ⟨⟨j + 1, by omega, by omega⟩, (WFe (by simp [kwf, prIx_f b j he]) (by simp [kwf, prIx_f b j he])), by show 9 - (j + 1) < 9 - j; omega⟩
        · have hlt' : ¬ (j : Int) ≤ 8 := by omega
          have hj9 : j = 9 := by omega
          subst hj9
          (repeat' (first | simp -implicitDefEqProofs +contextual (maxSteps := 9000000) only [kx, ↓ky, tq61, simprocAttr, hlt'] | (with_reducible first | refine SB.c (fun _ => ?_) (fun _ => ?_) | refine REG.i ?_ | exact REG.j) | refine CK.d0 enters88 cN ?_ | with_reducible refine AndI ?_ | omega))
          (refine retQ.mk [0] ?_ ?_ <;> simp [kwr, tq61])
      · rw [if_neg ha]
        have ha' : (a == [112, 114, 111, 116, 111, 99, 111, 108]) = false := by simpa using ha
        have ha2 : (a != [112, 114, 111, 116, 111, 99, 111, 108]) = true := by simpa using ha
        refine bodyO (fun _ => 1) 2 Tryz.func61 rfl Tryz.ntmps61 (by rw [Tryz.results61]) (by simp) (by simp) ?_
        (repeat' (first | simp -implicitDefEqProofs +contextual (maxSteps := 9000000) only [kx, ↓ky, tq61, simprocAttr, ha', ha2] | (with_reducible first | refine SB.c (fun _ => ?_) (fun _ => ?_) | refine REG.i ?_ | exact REG.j) | refine CK.d0 enters40 cP ?_ | with_reducible refine AndI ?_ | omega))
        (refine retQ.mk [0] ?_ ?_ <;> simp [kwr, tq61])
  · have h3' : (((splitF 32 line).length : Int) == 3) = false := by simpa using fun e => h3 (by omega)
    have h32 : (((splitF 32 line).length : Int) != 3) = true := by simpa using fun e => h3 (by omega)
    rw [firstF_ne line f h3]
    refine bodyO (fun _ => 1) 2 Tryz.func61 rfl Tryz.ntmps61 (by rw [Tryz.results61]) (by simp) (by simp) ?_
    (repeat' (first | simp -implicitDefEqProofs +contextual (maxSteps := 9000000) only [kx, ↓ky, tq61, simprocAttr, h3', h32] | (with_reducible first | refine SB.c (fun _ => ?_) (fun _ => ?_) | refine REG.i ?_ | exact REG.j) | refine CK.d0 enters40 cP ?_ | with_reducible refine AndI ?_ | omega))
    (refine retQ.mk [0] ?_ ?_ <;> simp [kwr, tq61])
end Go.Proofs.YtfinhhblcdkpgaaGreatDoor
