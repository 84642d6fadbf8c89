/- A part of the walk (Tryd_G3): its theorems have no condition beyond what they state. -/
import Derived.Test.YtlgilgaiibdgoaaDoorG1
import Derived.Test.YtlgilgaiibdgoaaDoorE4
import Derived.Test.YtlgilgaiibdgoaaDoorB6
import Derived.Test.YtlgilgaiibdgoaaDoorA4
import Derived.Test.YtlgilgaiibdgoaaDoorLib3
set_option linter.unusedSimpArgs false
set_option linter.unusedVariables false
set_option linter.defProp false
namespace Go.Proofs.YtlgilgaiibdgoaaDoor
open Go Go.Abs

set_option maxRecDepth 10000 in
set_option maxHeartbeats 4000000 in
theorem awake_ac : AC Tryd.prog gl 6 [] [] (.pv (.bool true)) [] := by
  have hres := resolve_ac pgAw (by simp [szP, pgAw, szSs])
  rw [resolve_aw] at hres
  have hres' := AC.sub (args := [.agg [.pv (.slice (pgAw.vars.map encVar)), .snil, .snil, .snil, .snil]]) hres (by simp [subL, sub, pgA, pgAw])
  have hlk := lookup_ac pgAw.vars [121] (by simp [pgAw])
  unfold lookA at hlk
  rw [lookup_aw] at hlk
  simp only [pgAw, encVar, List.map_cons, List.map_nil, cdA, enc1] at hres' hlk
  refine body0 (fun d => if d = 1 then 0 else 1) 2 Tryd.func6 rfl Tryd.ntmps6 (by rw [Tryd.results6]) (by simp) ?_
  (repeat' (first | simp -implicitDefEqProofs +contextual only [kx, ↓ky, tyS, tyX3, tyX9, tyX26, tyX29, tyX33, tyX35, tyX36, tyX42, Nat.reduceAdd, Nat.reduceMul, Nat.reduceSub, Nat.reduceLT, Nat.reduceLeDiff, Nat.reduceEqDiff, Nat.reduceBEq, Int.reduceAdd, Int.reduceSub, Int.reduceMul, Int.reduceLT, Int.reduceLE, Int.reduceToNat, Int.reduceBEq, Int.reduceBNe, Int.reduceNeg, Int.reduceGT, Nat.reduceGT, Int.reduceEq, reduceCtorEq, ↓reduceIte] | (with_reducible first | refine SB.d (fun _ => ?_) (fun _ => ?_) | refine SB.e (fun _ => ?_) (fun _ => ?_) | refine SB.n (fun _ => ?_) (fun _ => ?_) | refine SB.b (fun _ => ?_) (fun _ => ?_) | refine And.intro (REG.ok (by kernel_rfl)) ?_ | exact REG.ok (by kernel_rfl)) | refine CK.c0 enters10 (hres') rfl rfl ?_ | refine CK.cp enters10 (fun _ => hres') rfl rfl ?_ | refine CK.c0 enters13 (hlk) rfl rfl ?_ | refine CK.cp enters13 (fun _ => hlk) rfl rfl ?_ | (with_reducible refine And.intro ?_ ?_); (focus (intros; (try simp only [decide_eq_true_eq, decide_eq_false_iff_not, beq_iff_eq, bne_iff_ne, Bool.and_eq_true, Bool.or_eq_true] at *); omega))))

set_option maxRecDepth 10000 in
set_option maxHeartbeats 4000000 in
theorem cells_ac3 (cs : List UInt8) : AC Tryd.prog gl 4 [.pv (.slice (cs.map encB))] [] (.pv (.bool true)) [] := by
  have cN := new_ac cs 200
  have hxs : (cs.take 200).length ≤ 1000 := by rw [List.length_take]; omega
  generalize cs.take 200 = xs at *
  have cP := program_ac xs hxs 0 (by omega)
  have zP := programF_sz xs 0
  obtain ⟨u, v, w, hPF⟩ := programF_PF xs 0
  generalize programF xs 0 = P at *
  obtain ⟨p, a0⟩ := P
  have cR := resolve_ac p (by simp at zP; omega)
  rw [resolve_same, hPF.resolves] at cR
  have cAw := awake_ac
  have hszS : ∀ l, szSs (r3Ss p.vars l).1 = szSs l := r3Ss_sz p.vars
  simp only [Int.cast_ofNat_Int, cast0, cObj, pgA, cdA] at cN cP cR
  refine body0 (fun d => if d = 3 then 1 else if d = 4 then 2 else 3) 4 Tryd.func4 rfl Tryd.ntmps4 (by rw [Tryd.results4]) (by simp) ?_
  (repeat' (first | simp -implicitDefEqProofs +contextual only [kx, ↓ky, tyS, tyX3, tyX4, tyX9, tyX22, tyX24, tyX26, tyX27, tyX29, tyX33, tyX35, tyX36, tyX42, Nat.reduceAdd, Nat.reduceMul, Nat.reduceSub, Nat.reduceLT, Nat.reduceLeDiff, Nat.reduceEqDiff, Nat.reduceBEq, Int.reduceAdd, Int.reduceSub, Int.reduceMul, Int.reduceLT, Int.reduceLE, Int.reduceToNat, Int.reduceBEq, Int.reduceBNe, Int.reduceNeg, Int.reduceGT, Nat.reduceGT, Int.reduceEq, reduceCtorEq, ↓reduceIte, kz] | (with_reducible first | refine SB.d (fun _ => ?_) (fun _ => ?_) | refine SB.e (fun _ => ?_) (fun _ => ?_) | refine SB.n (fun _ => ?_) (fun _ => ?_) | refine SB.b (fun _ => ?_) (fun _ => ?_) | refine And.intro (REG.ok (by kernel_rfl)) ?_ | exact REG.ok (by kernel_rfl)) | refine CK.c0 enters6 (cAw) rfl rfl ?_ | refine CK.cp enters6 (fun _ => cAw) rfl rfl ?_ | refine CK.co [] [0] enters7 (cN) rfl rfl rfl rfl rfl (by decide) rfl (by simp) ?_ | refine CK.co [0] [] enters8 (cP) rfl rfl rfl rfl rfl (by decide) rfl (by simp) ?_ | refine CK.c0 enters10 (cR) rfl rfl ?_ | refine CK.cp enters10 (fun _ => cR) rfl rfl ?_ | (with_reducible refine And.intro ?_ ?_); (focus (intros; (try simp only [decide_eq_true_eq, decide_eq_false_iff_not, beq_iff_eq, bne_iff_ne, Bool.and_eq_true, Bool.or_eq_true] at *); omega))))
  have hvl : p.vars.length = 5 := by rw [hPF.vars]; rfl
  have hvf : ∀ k, k < 5 → VF p.vars (init3 p.vars) (p.vars.getD k ⟨[], 0, 0⟩) (nx v k) (nx v (k + 1)) (6 + v) := fun k hk => by rw [hPF.vars]; exact vars_fact u v w hPF.hv k hk
  have hil : ((init3 p.vars).length : Int) = 6 + v := by rw [hPF.vars]; exact vars_len u v w hPF.hv
  have hv := hPF.hv
  obtain ⟨g1, g2, g3, g4⟩ := hPF.gs
  have cW1 := within_ac (6 + v) 100000 (r3Ss p.vars p.start).1 (by rw [hszS]; unfold szP at zP; simp only at zP; omega) (by omega)
  have cW2 := within_ac (6 + v) 100000 (r3Ss p.vars p.message).1 (by rw [hszS]; unfold szP at zP; simp only at zP; omega) (by omega)
  have cW3 := within_ac (6 + v) 100000 (r3Ss p.vars p.tick).1 (by rw [hszS]; unfold szP at zP; simp only at zP; omega) (by omega)
  have cW4 := within_ac (6 + v) 100000 (r3Ss p.vars p.input).1 (by rw [hszS]; unfold szP at zP; simp only at zP; omega) (by omega)
  rw [g1.wit] at cW1
  rw [g2.wit] at cW2
  rw [g3.wit] at cW3
  rw [g4.wit] at cW4
  clear g1 g2 g3 g4 cN cP cR cAw
  have cL := fun x : VarD => lookup_ac p.vars x.name (by omega)
  generalize init3 p.vars = I at *
  generalize (r3Ss p.vars p.start).1 = r1 at *
  generalize (r3Ss p.vars p.message).1 = r2 at *
  generalize (r3Ss p.vars p.tick).1 = r3 at *
  generalize (r3Ss p.vars p.input).1 = r4 at *
  refine loopV (ι := {k : Nat // k ≤ 5}) (fun i => ⟨(.junk :: .junk :: .junk :: .ref 1 0 :: .ref 2 0 :: .junk :: .pv (.int .i64 (nx v i.1)) :: .junk :: .junk :: .junk :: .junk :: .junk :: .junk :: .junk :: .junk :: .junk :: .junk :: .junk :: .junk :: .junk :: .junk :: .junk :: .junk :: .junk :: .junk :: .junk :: .pv (.slice (p.vars.map encVar)) :: .pv (.int .i64 5) :: .pv (.int .i64 i.1) :: .junk :: .junk :: .junk :: .junk :: .junk :: .junk :: .junk :: .junk :: .junk :: .junk :: .junk :: .junk :: .junk :: .junk :: .junk :: .junk :: .junk :: .junk :: .junk :: .junk :: .junk :: .junk :: .junk :: .junk :: .junk :: .junk :: .junk :: .junk :: .junk :: .junk :: .junk :: .junk :: .junk :: .junk :: .junk :: .junk :: .junk :: .junk :: .junk :: .junk :: .junk :: .junk :: .junk :: .junk :: .junk :: .junk :: .junk :: .junk :: .junk :: .junk :: .junk :: .junk :: .junk :: .junk :: .junk :: .junk :: .junk :: .junk :: .junk :: .junk :: .junk :: .junk :: .junk :: .junk :: .junk :: .junk :: .junk :: .junk :: .junk :: .junk :: .junk :: .junk :: .junk :: .junk :: .junk :: .junk :: .junk :: .junk :: .junk :: .junk :: .junk :: .junk :: .junk :: .junk :: .junk :: .junk :: .junk :: .junk :: .junk :: .junk :: .junk :: .junk :: .junk :: .junk :: .junk :: .junk :: []), [some (.cells [.pv (.slice (xs.map encB)), .pv (.int .i64 a0)]), some (.cells [.pv (.slice (p.vars.map encVar)), .pv (.slice (p.start.map encSm)), .pv (.slice (p.message.map encSm)), .pv (.slice (p.tick.map encSm)), .pv (.slice (p.input.map encSm))]), some (.cells [.pv (.slice (I.map enc1)), .pv (.slice (r1.map encSm)), .pv (.slice (r2.map encSm)), .pv (.slice (r3.map encSm)), .pv (.slice (r4.map encSm))]), none]⟩) (fun i => 5 - i.1) ⟨0, by simp⟩ (Weak.forget rfl (pinsF (by simp) (by simp)) (by simp [wkSlots, wkObjs, ren, renL, renO, inScope, inScopeL, inScopeO, hasObj, St.obj, List.getD, hvl, nx]) (by simp [wkSlots, wkObjs, ren, renL, renO, inScope, inScopeL, inScopeO, hasObj, St.obj, List.getD, hvl, nx])) ?_
  rintro ⟨k, hk⟩
  by_cases hlt : k < 5
  · have hlt' : (k : Int) < 5 := by omega
    have hltv : k < p.vars.length := by omega
    have hget := getD_map encVar p.vars k hltv
    have hF := hvf k hlt
    have hx : p.vars.getD k ⟨[], 0, 0⟩ = p.vars[k] := by simp [List.getD, hltv]
    rw [hx] at hF
    have hL := cL p.vars[k]
    generalize p.vars[k] = x at *
    simp only [lookA, hF.look] at hL
    have hnx := hF.next
    have hpos := hF.pos
    have hle := hF.le
    have hsz := hF.size
    generalize hnb : nx v (k + 1) = b at *
    generalize nx v k = a at *
    have him : 1 ≤ imax x.size 1 := by unfold imax; split <;> omega
    have hwb : IntKind.i64.wrap (a + imax x.size 1) = b := by rw [wrap64 _ (by omega) (by omega)]; exact hnx
    have hbl : ¬ (b > 6 + v) := by omega
    have haI : a.toNat < I.length := by omega
    have hga := getDm enc1 I a.toNat 0 haI
    have hw := wrapS k (by omega)
    replace hget : (p.vars.map encVar).getD k [] = [.str x.name, .int .i64 x.size, .int .i64 x.init] := hget
    by_cases h0 : x.size = 0
    · have h0' : (x.size == 0) = true := by simpa using h0
      rw [hF.init h0] at hga
      replace hga : (I.map enc1).getD a.toNat [] = [.int .i64 x.init] := hga
      (repeat' (first | simp -implicitDefEqProofs +contextual only [kx, ↓ky, tyS, tyX3, tyX4, tyX9, tyX22, tyX24, tyX26, tyX27, tyX29, tyX33, tyX35, tyX36, tyX42, Nat.reduceAdd, Nat.reduceMul, Nat.reduceSub, Nat.reduceLT, Nat.reduceLeDiff, Nat.reduceEqDiff, Nat.reduceBEq, Int.reduceAdd, Int.reduceSub, Int.reduceMul, Int.reduceLT, Int.reduceLE, Int.reduceToNat, Int.reduceBEq, Int.reduceBNe, Int.reduceNeg, Int.reduceGT, Nat.reduceGT, Int.reduceEq, reduceCtorEq, ↓reduceIte, hlt', hltv, hget, hvl, hwb, hil, hbl, h0', hga, haI, hpos, bne_self_eq_false] | (with_reducible first | refine SB.d (fun _ => ?_) (fun _ => ?_) | refine SB.e (fun _ => ?_) (fun _ => ?_) | refine SB.n (fun _ => ?_) (fun _ => ?_) | refine SB.b (fun _ => ?_) (fun _ => ?_) | refine And.intro (REG.ok (by kernel_rfl)) ?_ | exact REG.ok (by kernel_rfl)) | refine CK.c0 enters13 (hL) rfl rfl ?_ | refine CK.cp enters13 (fun _ => hL) rfl rfl ?_ | (with_reducible refine And.intro ?_ ?_); (focus (intros; (try simp only [decide_eq_true_eq, decide_eq_false_iff_not, beq_iff_eq, bne_iff_ne, Bool.and_eq_true, Bool.or_eq_true] at *); omega))))
      refine loopV (ι := {j : Nat // (j : Int) ≤ x.size}) (fun i => ⟨(.junk :: .junk :: .junk :: .ref 1 0 :: .ref 2 0 :: .junk :: .pv (.int .i64 a) :: .junk :: .junk :: .pv (.int .i64 a) :: .pv (.int .i64 x.size) :: .junk :: .pv (.int .i64 i.1) :: .junk :: .junk :: .junk :: .junk :: .junk :: .junk :: .junk :: .junk :: .junk :: .junk :: .junk :: .junk :: .junk :: .pv (.slice (p.vars.map encVar)) :: .pv (.int .i64 5) :: .pv (.int .i64 k) :: .junk :: .junk :: .junk :: .junk :: .junk :: .junk :: .junk :: .junk :: .junk :: .junk :: .junk :: .junk :: .junk :: .junk :: .junk :: .junk :: .junk :: .junk :: .junk :: .junk :: .junk :: .junk :: .junk :: .junk :: .junk :: .junk :: .junk :: .junk :: .junk :: .junk :: .junk :: .junk :: .junk :: .junk :: .junk :: .junk :: .junk :: .junk :: .junk :: .junk :: .junk :: .junk :: .junk :: .junk :: .junk :: .junk :: .junk :: .junk :: .junk :: .junk :: .junk :: .junk :: .junk :: .junk :: .junk :: .junk :: .junk :: .junk :: .junk :: .junk :: .junk :: .junk :: .junk :: .junk :: .junk :: .junk :: .junk :: .junk :: .junk :: .junk :: .junk :: .junk :: .junk :: .junk :: .junk :: .junk :: .junk :: .junk :: .junk :: .junk :: .junk :: .junk :: .junk :: .junk :: .junk :: .junk :: .junk :: .junk :: .junk :: .junk :: .junk :: .junk :: .junk :: .junk :: .junk :: .junk :: []), [some (.cells [.pv (.slice (xs.map encB)), .pv (.int .i64 a0)]), some (.cells [.pv (.slice (p.vars.map encVar)), .pv (.slice (p.start.map encSm)), .pv (.slice (p.message.map encSm)), .pv (.slice (p.tick.map encSm)), .pv (.slice (p.input.map encSm))]), some (.cells [.pv (.slice (I.map enc1)), .pv (.slice (r1.map encSm)), .pv (.slice (r2.map encSm)), .pv (.slice (r3.map encSm)), .pv (.slice (r4.map encSm))]), none]⟩) (fun i => x.size.toNat - i.1) ⟨0, by simpa using hsz⟩ (Weak.forget rfl (pinsF (by simp) (by simp)) (by simp [wkSlots, wkObjs, ren, renL, renO, inScope, inScopeL, inScopeO, hasObj, St.obj, List.getD]) (by simp [wkSlots, wkObjs, ren, renL, renO, inScope, inScopeL, inScopeO, hasObj, St.obj, List.getD])) ?_
      rintro ⟨j, hj⟩
      by_cases hjl : (j : Int) < x.size
      · have him2 : imax x.size 1 = x.size := imax_one (by omega)
        have hwa : IntKind.i64.wrap (a + j) = a + j := wrap64 _ (by omega) (by omega)
        have hjI : (a + j).toNat < I.length := by omega
        have hgj := getDm enc1 I (a + j).toNat 0 hjI
        rw [hF.zero j hjl] at hgj
        replace hgj : (I.map enc1).getD (a + j).toNat [] = [.int .i64 0] := hgj
        have hjp : 0 ≤ a + j := by omega
        have hwj := wrapS j (by omega)
        (repeat' (first | simp -implicitDefEqProofs +contextual only [kx, ↓ky, tyS, tyX3, tyX4, tyX9, tyX22, tyX24, tyX26, tyX27, tyX29, tyX33, tyX35, tyX36, tyX42, Nat.reduceAdd, Nat.reduceMul, Nat.reduceSub, Nat.reduceLT, Nat.reduceLeDiff, Nat.reduceEqDiff, Nat.reduceBEq, Int.reduceAdd, Int.reduceSub, Int.reduceMul, Int.reduceLT, Int.reduceLE, Int.reduceToNat, Int.reduceBEq, Int.reduceBNe, Int.reduceNeg, Int.reduceGT, Nat.reduceGT, Int.reduceEq, reduceCtorEq, ↓reduceIte, hjl, hwa, hgj, hjI, hjp, hwj, bne_self_eq_false] | (with_reducible first | refine SB.d (fun _ => ?_) (fun _ => ?_) | refine SB.e (fun _ => ?_) (fun _ => ?_) | refine SB.n (fun _ => ?_) (fun _ => ?_) | refine SB.b (fun _ => ?_) (fun _ => ?_) | refine And.intro (REG.ok (by kernel_rfl)) ?_ | exact REG.ok (by kernel_rfl)) | (with_reducible refine And.intro ?_ ?_); (focus (intros; (try simp only [decide_eq_true_eq, decide_eq_false_iff_not, beq_iff_eq, bne_iff_ne, Bool.and_eq_true, Bool.or_eq_true] at *); omega))))
        exact ⟨⟨j + 1, by omega⟩, (Weak.forget rfl (pinsF (by simp) (by simp)) (by simp [wkSlots, wkObjs, ren, renL, renO, inScope, inScopeL, inScopeO, hasObj, St.obj, List.getD]) (by simp [wkSlots, wkObjs, ren, renL, renO, inScope, inScopeL, inScopeO, hasObj, St.obj, List.getD])), by simp; omega⟩
      · (repeat' (first | simp -implicitDefEqProofs +contextual only [kx, ↓ky, tyS, tyX3, tyX4, tyX9, tyX22, tyX24, tyX26, tyX27, tyX29, tyX33, tyX35, tyX36, tyX42, Nat.reduceAdd, Nat.reduceMul, Nat.reduceSub, Nat.reduceLT, Nat.reduceLeDiff, Nat.reduceEqDiff, Nat.reduceBEq, Int.reduceAdd, Int.reduceSub, Int.reduceMul, Int.reduceLT, Int.reduceLE, Int.reduceToNat, Int.reduceBEq, Int.reduceBNe, Int.reduceNeg, Int.reduceGT, Nat.reduceGT, Int.reduceEq, reduceCtorEq, ↓reduceIte, hjl, hwb, hw] | (with_reducible first | refine SB.d (fun _ => ?_) (fun _ => ?_) | refine SB.e (fun _ => ?_) (fun _ => ?_) | refine SB.n (fun _ => ?_) (fun _ => ?_) | refine SB.b (fun _ => ?_) (fun _ => ?_) | refine And.intro (REG.ok (by kernel_rfl)) ?_ | exact REG.ok (by kernel_rfl)) | (with_reducible refine And.intro ?_ ?_); (focus (intros; (try simp only [decide_eq_true_eq, decide_eq_false_iff_not, beq_iff_eq, bne_iff_ne, Bool.and_eq_true, Bool.or_eq_true] at *); omega))))
        exact ⟨⟨k + 1, by omega⟩, (Weak.forget rfl (pinsF (by simp) (by simp)) (by simp [wkSlots, wkObjs, ren, renL, renO, inScope, inScopeL, inScopeO, hasObj, St.obj, List.getD, hnb]) (by simp [wkSlots, wkObjs, ren, renL, renO, inScope, inScopeL, inScopeO, hasObj, St.obj, List.getD, hnb])), by simp; omega⟩
    · have h0' : (x.size == 0) = false := by simpa using h0
      (repeat' (first | simp -implicitDefEqProofs +contextual only [kx, ↓ky, tyS, tyX3, tyX4, tyX9, tyX22, tyX24, tyX26, tyX27, tyX29, tyX33, tyX35, tyX36, tyX42, Nat.reduceAdd, Nat.reduceMul, Nat.reduceSub, Nat.reduceLT, Nat.reduceLeDiff, Nat.reduceEqDiff, Nat.reduceBEq, Int.reduceAdd, Int.reduceSub, Int.reduceMul, Int.reduceLT, Int.reduceLE, Int.reduceToNat, Int.reduceBEq, Int.reduceBNe, Int.reduceNeg, Int.reduceGT, Nat.reduceGT, Int.reduceEq, reduceCtorEq, ↓reduceIte, hlt', hltv, hget, hvl, hwb, hil, hbl, h0', bne_self_eq_false] | (with_reducible first | refine SB.d (fun _ => ?_) (fun _ => ?_) | refine SB.e (fun _ => ?_) (fun _ => ?_) | refine SB.n (fun _ => ?_) (fun _ => ?_) | refine SB.b (fun _ => ?_) (fun _ => ?_) | refine And.intro (REG.ok (by kernel_rfl)) ?_ | exact REG.ok (by kernel_rfl)) | refine CK.c0 enters13 (hL) rfl rfl ?_ | refine CK.cp enters13 (fun _ => hL) rfl rfl ?_ | (with_reducible refine And.intro ?_ ?_); (focus (intros; (try simp only [decide_eq_true_eq, decide_eq_false_iff_not, beq_iff_eq, bne_iff_ne, Bool.and_eq_true, Bool.or_eq_true] at *); omega))))
      refine loopV (ι := {j : Nat // (j : Int) ≤ x.size}) (fun i => ⟨(.junk :: .junk :: .junk :: .ref 1 0 :: .ref 2 0 :: .junk :: .pv (.int .i64 a) :: .junk :: .junk :: .pv (.int .i64 a) :: .pv (.int .i64 x.size) :: .junk :: .pv (.int .i64 i.1) :: .junk :: .junk :: .junk :: .junk :: .junk :: .junk :: .junk :: .junk :: .junk :: .junk :: .junk :: .junk :: .junk :: .pv (.slice (p.vars.map encVar)) :: .pv (.int .i64 5) :: .pv (.int .i64 k) :: .junk :: .junk :: .junk :: .junk :: .junk :: .junk :: .junk :: .junk :: .junk :: .junk :: .junk :: .junk :: .junk :: .junk :: .junk :: .junk :: .junk :: .junk :: .junk :: .junk :: .junk :: .junk :: .junk :: .junk :: .junk :: .junk :: .junk :: .junk :: .junk :: .junk :: .junk :: .junk :: .junk :: .junk :: .junk :: .junk :: .junk :: .junk :: .junk :: .junk :: .junk :: .junk :: .junk :: .junk :: .junk :: .junk :: .junk :: .junk :: .junk :: .junk :: .junk :: .junk :: .junk :: .junk :: .junk :: .junk :: .junk :: .junk :: .junk :: .junk :: .junk :: .junk :: .junk :: .junk :: .junk :: .junk :: .junk :: .junk :: .junk :: .junk :: .junk :: .junk :: .junk :: .junk :: .junk :: .junk :: .junk :: .junk :: .junk :: .junk :: .junk :: .junk :: .junk :: .junk :: .junk :: .junk :: .junk :: .junk :: .junk :: .junk :: .junk :: .junk :: .junk :: .junk :: .junk :: .junk :: []), [some (.cells [.pv (.slice (xs.map encB)), .pv (.int .i64 a0)]), some (.cells [.pv (.slice (p.vars.map encVar)), .pv (.slice (p.start.map encSm)), .pv (.slice (p.message.map encSm)), .pv (.slice (p.tick.map encSm)), .pv (.slice (p.input.map encSm))]), some (.cells [.pv (.slice (I.map enc1)), .pv (.slice (r1.map encSm)), .pv (.slice (r2.map encSm)), .pv (.slice (r3.map encSm)), .pv (.slice (r4.map encSm))]), none]⟩) (fun i => x.size.toNat - i.1) ⟨0, by simpa using hsz⟩ (Weak.forget rfl (pinsF (by simp) (by simp)) (by simp [wkSlots, wkObjs, ren, renL, renO, inScope, inScopeL, inScopeO, hasObj, St.obj, List.getD]) (by simp [wkSlots, wkObjs, ren, renL, renO, inScope, inScopeL, inScopeO, hasObj, St.obj, List.getD])) ?_
      rintro ⟨j, hj⟩
      by_cases hjl : (j : Int) < x.size
      · have him2 : imax x.size 1 = x.size := imax_one (by omega)
        have hwa : IntKind.i64.wrap (a + j) = a + j := wrap64 _ (by omega) (by omega)
        have hjI : (a + j).toNat < I.length := by omega
        have hgj := getDm enc1 I (a + j).toNat 0 hjI
        rw [hF.zero j hjl] at hgj
        replace hgj : (I.map enc1).getD (a + j).toNat [] = [.int .i64 0] := hgj
        have hjp : 0 ≤ a + j := by omega
        have hwj := wrapS j (by omega)
        (repeat' (first | simp -implicitDefEqProofs +contextual only [kx, ↓ky, tyS, tyX3, tyX4, tyX9, tyX22, tyX24, tyX26, tyX27, tyX29, tyX33, tyX35, tyX36, tyX42, Nat.reduceAdd, Nat.reduceMul, Nat.reduceSub, Nat.reduceLT, Nat.reduceLeDiff, Nat.reduceEqDiff, Nat.reduceBEq, Int.reduceAdd, Int.reduceSub, Int.reduceMul, Int.reduceLT, Int.reduceLE, Int.reduceToNat, Int.reduceBEq, Int.reduceBNe, Int.reduceNeg, Int.reduceGT, Nat.reduceGT, Int.reduceEq, reduceCtorEq, ↓reduceIte, hjl, hwa, hgj, hjI, hjp, hwj, bne_self_eq_false] | (with_reducible first | refine SB.d (fun _ => ?_) (fun _ => ?_) | refine SB.e (fun _ => ?_) (fun _ => ?_) | refine SB.n (fun _ => ?_) (fun _ => ?_) | refine SB.b (fun _ => ?_) (fun _ => ?_) | refine And.intro (REG.ok (by kernel_rfl)) ?_ | exact REG.ok (by kernel_rfl)) | (with_reducible refine And.intro ?_ ?_); (focus (intros; (try simp only [decide_eq_true_eq, decide_eq_false_iff_not, beq_iff_eq, bne_iff_ne, Bool.and_eq_true, Bool.or_eq_true] at *); omega))))
        exact ⟨⟨j + 1, by omega⟩, (Weak.forget rfl (pinsF (by simp) (by simp)) (by simp [wkSlots, wkObjs, ren, renL, renO, inScope, inScopeL, inScopeO, hasObj, St.obj, List.getD]) (by simp [wkSlots, wkObjs, ren, renL, renO, inScope, inScopeL, inScopeO, hasObj, St.obj, List.getD])), by simp; omega⟩
      · (repeat' (first | simp -implicitDefEqProofs +contextual only [kx, ↓ky, tyS, tyX3, tyX4, tyX9, tyX22, tyX24, tyX26, tyX27, tyX29, tyX33, tyX35, tyX36, tyX42, Nat.reduceAdd, Nat.reduceMul, Nat.reduceSub, Nat.reduceLT, Nat.reduceLeDiff, Nat.reduceEqDiff, Nat.reduceBEq, Int.reduceAdd, Int.reduceSub, Int.reduceMul, Int.reduceLT, Int.reduceLE, Int.reduceToNat, Int.reduceBEq, Int.reduceBNe, Int.reduceNeg, Int.reduceGT, Nat.reduceGT, Int.reduceEq, reduceCtorEq, ↓reduceIte, hjl, hwb, hw] | (with_reducible first | refine SB.d (fun _ => ?_) (fun _ => ?_) | refine SB.e (fun _ => ?_) (fun _ => ?_) | refine SB.n (fun _ => ?_) (fun _ => ?_) | refine SB.b (fun _ => ?_) (fun _ => ?_) | refine And.intro (REG.ok (by kernel_rfl)) ?_ | exact REG.ok (by kernel_rfl)) | (with_reducible refine And.intro ?_ ?_); (focus (intros; (try simp only [decide_eq_true_eq, decide_eq_false_iff_not, beq_iff_eq, bne_iff_ne, Bool.and_eq_true, Bool.or_eq_true] at *); omega))))
        exact ⟨⟨k + 1, by omega⟩, (Weak.forget rfl (pinsF (by simp) (by simp)) (by simp [wkSlots, wkObjs, ren, renL, renO, inScope, inScopeL, inScopeO, hasObj, St.obj, List.getD, hnb]) (by simp [wkSlots, wkObjs, ren, renL, renO, inScope, inScopeL, inScopeO, hasObj, St.obj, List.getD, hnb])), by simp; omega⟩
  · have hlt' : ¬ (k : Int) < 5 := by omega
    have hk5 : k = 5 := by omega
    subst hk5
    have hn5 : nx v 5 = 6 + v := rfl
    (repeat' (first | simp -implicitDefEqProofs +contextual only [kx, ↓ky, tyS, tyX3, tyX4, tyX9, tyX22, tyX24, tyX26, tyX27, tyX29, tyX33, tyX35, tyX36, tyX42, Nat.reduceAdd, Nat.reduceMul, Nat.reduceSub, Nat.reduceLT, Nat.reduceLeDiff, Nat.reduceEqDiff, Nat.reduceBEq, Int.reduceAdd, Int.reduceSub, Int.reduceMul, Int.reduceLT, Int.reduceLE, Int.reduceToNat, Int.reduceBEq, Int.reduceBNe, Int.reduceNeg, Int.reduceGT, Nat.reduceGT, Int.reduceEq, reduceCtorEq, ↓reduceIte, hlt', hn5, hil] | (with_reducible first | refine SB.d (fun _ => ?_) (fun _ => ?_) | refine SB.e (fun _ => ?_) (fun _ => ?_) | refine SB.n (fun _ => ?_) (fun _ => ?_) | refine SB.b (fun _ => ?_) (fun _ => ?_) | refine And.intro (REG.ok (by kernel_rfl)) ?_ | exact REG.ok (by kernel_rfl)) | refine CK.c0 enters14 (cW1) rfl rfl ?_ | refine CK.cp enters14 (fun _ => cW1) rfl rfl ?_ | refine CK.c0 enters14 (cW2) rfl rfl ?_ | refine CK.cp enters14 (fun _ => cW2) rfl rfl ?_ | refine CK.c0 enters14 (cW3) rfl rfl ?_ | refine CK.cp enters14 (fun _ => cW3) rfl rfl ?_ | refine CK.c0 enters14 (cW4) rfl rfl ?_ | refine CK.cp enters14 (fun _ => cW4) rfl rfl ?_ | (with_reducible refine And.intro ?_ ?_); (focus (intros; (try simp only [decide_eq_true_eq, decide_eq_false_iff_not, beq_iff_eq, bne_iff_ne, Bool.and_eq_true, Bool.or_eq_true] at *); omega))))
end Go.Proofs.YtlgilgaiibdgoaaDoor
