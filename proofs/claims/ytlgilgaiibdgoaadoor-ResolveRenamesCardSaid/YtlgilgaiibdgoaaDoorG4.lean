/- A part of the walk (Tryd_G4): its theorems have no condition beyond what they state. -/
import Derived.Test.YtlgilgaiibdgoaaDoorG2
import Derived.Test.YtlgilgaiibdgoaaDoorG3
import Derived.Test.YtlgilgaiibdgoaaDoorC4
import Derived.Test.YtlgilgaiibdgoaaDoorLib3
set_option linter.unusedSimpArgs false
set_option linter.unusedVariables false
set_option linter.defProp false
namespace Go.Proofs.YtlgilgaiibdgoaaDoor
open Go Go.Abs
theorem vcS {site : Nat → Nat} {nobj pin : Nat} {σ : St} {Q : Exit → St → Prop} {c : Code} (h : VC Tryd.prog (envOf site nobj) pin c σ Q) : SW Tryd.prog (envOf site nobj) pin c σ Q := VC.to (envOK _ _) mixed c h
theorem loopS {site : Nat → Nat} {nobj pin : Nat} {σ : St} {Q : Exit → St → Prop} {ι : Type} {c : Code} {t : Tg (Code.loop c, Q)} (I : ι → St) (μ : ι → Nat) (i0 : ι) (h0 : Weak (envOf site nobj) pin σ (I i0))
    (round : ∀ i, SW Tryd.prog (envOf site nobj) pin c (I i) (thenQ (NX (envOf site nobj) pin I μ .mk (μ i)) Q)) : LW Tryd.prog (envOf site nobj) pin (.loop c) σ Q t := SW.loop I μ i0 h0 round

set_option maxRecDepth 10000 in
set_option maxHeartbeats 4000000 in
theorem renames_ac (cs : List UInt8) : AC Tryd.prog gl 5 [.pv (.slice (cs.map encB))] [] (.pv (.bool true)) [] := by
  have cN := new_ac cs 200
  have hxs : (cs.take 200).length ≤ 1000 := by rw [List.length_take]; omega
  generalize cs.take 200 = xs at *
  have cP := program_ac xs hxs 0 (by omega)
  have zP := programF_sz xs 0
  obtain ⟨u, v, w, hPF⟩ := programF_PF xs 0
  generalize programF xs 0 = P at *
  obtain ⟨p, a0⟩ := P
  have zP' := zP
  unfold szP at zP'
  simp only at zP' zP
  have hvl : p.vars.length = 5 := by rw [hPF.vars]; rfl
  have hnl : ∀ x, x ∈ p.vars → x.name.length ≤ 10 := by
    rw [hPF.vars]
    intro x hx
    simp only [varsF, List.mem_cons, List.not_mem_nil, or_false] at hx
    rcases hx with rfl | rfl | rfl | rfl | rfl <;> simp
  have cR := resolve_ac p (by omega)
  rw [resolve_same, hPF.resolves] at cR
  have zq : szP (pgN p) ≤ 1000000000 := by unfold szP pgN; simp only [rnSs_sz, List.length_map]; omega
  have cQ := resolve_ac (pgN p) zq
  rw [resolve_same, hPF.othR] at cQ
  obtain ⟨g1, g2, g3, g4⟩ := hPF.gs
  have cAw := awake_ac
  have hszS : ∀ l, szSs (r3Ss p.vars l).1 = szSs l := r3Ss_sz p.vars
  have m1 := rename_ac 100000 p.start (by omega) (by omega) g1.nm
  have m2 := rename_ac 100000 p.message (by omega) (by omega) g2.nm
  have m3 := rename_ac 100000 p.tick (by omega) (by omega) g3.nm
  have m4 := rename_ac 100000 p.input (by omega) (by omega) g4.nm
  have n1 := rename_ac 100000 (r3Ss p.vars p.start).1 (by rw [hszS]; omega) (by omega) g1.nm2
  have n2 := rename_ac 100000 (r3Ss p.vars p.message).1 (by rw [hszS]; omega) (by omega) g2.nm2
  have n3 := rename_ac 100000 (r3Ss p.vars p.tick).1 (by rw [hszS]; omega) (by omega) g3.nm2
  have n4 := rename_ac 100000 (r3Ss p.vars p.input).1 (by rw [hszS]; omega) (by omega) g4.nm2
  have e1 := sameS_ac (rnSs (r3Ss p.vars p.start).1) (by rw [rnSs_sz, hszS]; omega)
  have e2 := sameS_ac (rnSs (r3Ss p.vars p.message).1) (by rw [rnSs_sz, hszS]; omega)
  have e3 := sameS_ac (rnSs (r3Ss p.vars p.tick).1) (by rw [rnSs_sz, hszS]; omega)
  have e4 := sameS_ac (rnSs (r3Ss p.vars p.input).1) (by rw [rnSs_sz, hszS]; omega)
  have hil : ((init3 p.vars).length : Int) = 6 + v := by rw [hPF.vars]; exact vars_len u v w hPF.hv
  have hv := hPF.hv
  have e0 := sameInts_ac (init3 p.vars) (by omega)
  clear g1 g2 g3 g4 hPF hszS
  simp only [Int.cast_ofNat_Int, cast0, cObj, pgA, cdA, pgN] at cN cP cR cQ
  generalize init3 p.vars = I at *
  generalize rnSs (r3Ss p.vars p.start).1 = s1 at *
  generalize rnSs (r3Ss p.vars p.message).1 = s2 at *
  generalize rnSs (r3Ss p.vars p.tick).1 = s3 at *
  generalize rnSs (r3Ss p.vars p.input).1 = s4 at *
  generalize (r3Ss p.vars p.start).1 = r1 at *
  generalize (r3Ss p.vars p.message).1 = r2 at *
  generalize (r3Ss p.vars p.tick).1 = r3 at *
  generalize (r3Ss p.vars p.input).1 = r4 at *
  generalize rnSs p.start = q1 at *
  generalize rnSs p.message = q2 at *
  generalize rnSs p.tick = q3 at *
  generalize rnSs p.input = q4 at *
  refine body0 (fun d => if d = 3 then 1 else if d = 4 then 2 else if d = 6 then 3 else if d = 44 then 5 else if d = 7 then 6 else if d = 9 then 7 else 99) 8 Tryd.func5 rfl Tryd.ntmps5 (by rw [Tryd.results5]) (by simp) ?_
  (repeat' (first | simp -implicitDefEqProofs +contextual only [kx, ↓ky, tyS, tyX3, tyX4, tyX9, tyX22, tyX24, tyX26, tyX27, tyX29, tyX33, tyX35, tyX36, tyX42, Nat.reduceAdd, Nat.reduceMul, Nat.reduceSub, Nat.reduceLT, Nat.reduceLeDiff, Nat.reduceEqDiff, Nat.reduceBEq, Int.reduceAdd, Int.reduceSub, Int.reduceMul, Int.reduceLT, Int.reduceLE, Int.reduceToNat, Int.reduceBEq, Int.reduceBNe, Int.reduceNeg, Int.reduceGT, Nat.reduceGT, Int.reduceEq, reduceCtorEq, ↓reduceIte, kz] | (with_reducible first | refine SB.d (fun _ => ?_) (fun _ => ?_) | refine SB.e (fun _ => ?_) (fun _ => ?_) | refine SB.n (fun _ => ?_) (fun _ => ?_) | refine SB.b (fun _ => ?_) (fun _ => ?_) | refine And.intro (REG.ok (by kernel_rfl)) ?_ | exact REG.ok (by kernel_rfl)) | refine CK.c0 enters6 (cAw) rfl rfl ?_ | refine CK.cp enters6 (fun _ => cAw) rfl rfl ?_ | refine CK.co [] [0] enters7 (cN) rfl rfl rfl rfl rfl (by decide) rfl (by simp) ?_ | refine CK.co [0] [] enters8 (cP) rfl rfl rfl rfl rfl (by decide) rfl (by simp) ?_ | refine CK.c0 enters15 (m1) rfl rfl ?_ | refine CK.cp enters15 (fun _ => m1) rfl rfl ?_ | refine CK.c0 enters15 (m2) rfl rfl ?_ | refine CK.cp enters15 (fun _ => m2) rfl rfl ?_ | refine CK.c0 enters15 (m3) rfl rfl ?_ | refine CK.cp enters15 (fun _ => m3) rfl rfl ?_ | refine CK.c0 enters15 (m4) rfl rfl ?_ | refine CK.cp enters15 (fun _ => m4) rfl rfl ?_ | (with_reducible refine And.intro ?_ ?_); (focus (intros; (try simp only [decide_eq_true_eq, decide_eq_false_iff_not, beq_iff_eq, bne_iff_ne, Bool.and_eq_true, Bool.or_eq_true] at *); omega))))
  refine LW.weak (Weak.nilRowC 2 0 4 3 rfl rfl rfl (by decide)) ?_
  simp only [List.set_cons_zero, List.set_cons_succ]
  refine loopS (ι := {k : Nat // k ≤ 5}) (fun i => ⟨(.junk :: .junk :: .junk :: .ref 1 0 :: .ref 2 0 :: .junk :: .junk :: .junk :: .junk :: .junk :: .junk :: .junk :: .junk :: .junk :: .junk :: .junk :: .junk :: .junk :: .junk :: .junk :: .junk :: .junk :: .junk :: .junk :: .junk :: .junk :: .junk :: .junk :: .junk :: .junk :: .pv (.slice (p.vars.map encVar)) :: .pv (.int .i64 5) :: .pv (.int .i64 i.1) :: .junk :: .junk :: .junk :: .junk :: .junk :: .junk :: .junk :: .junk :: .junk :: .junk :: .junk :: .junk :: .junk :: .junk :: .junk :: .junk :: .junk :: .junk :: .junk :: .junk :: .junk :: .junk :: .junk :: .junk :: .junk :: .junk :: .junk :: .junk :: .junk :: .junk :: .junk :: .junk :: .junk :: .junk :: .junk :: .junk :: .junk :: .junk :: .junk :: .junk :: .junk :: .junk :: .junk :: .junk :: .junk :: .junk :: .junk :: .junk :: .junk :: .junk :: .junk :: .junk :: .junk :: .junk :: .junk :: .junk :: .junk :: .junk :: .junk :: .junk :: .junk :: .junk :: .junk :: .junk :: .junk :: .junk :: .junk :: .junk :: .junk :: []), [none, some (.cells [.pv (.slice (p.vars.map encVar)), .pv (.slice (p.start.map encSm)), .pv (.slice (p.message.map encSm)), .pv (.slice (p.tick.map encSm)), .pv (.slice (p.input.map encSm))]), some (.cells [.row 4 i.1, .pv (.slice (q1.map encSm)), .pv (.slice (q2.map encSm)), .pv (.slice (q3.map encSm)), .pv (.slice (q4.map encSm))]), none, some (.row 3 (((p.vars.take i.1).map vN).map encVar)), none, none, none]⟩) (fun i => 5 - i.1) ⟨0, by simp⟩ (Weak.forget rfl (pinsF (by simp) (by simp)) (by simp [wkSlots, wkObjs, ren, renL, renO, inScope, inScopeL, inScopeO, hasObj, St.obj, List.getD, hvl]) (by simp [wkSlots, wkObjs, ren, renL, renO, inScope, inScopeL, inScopeO, hasObj, St.obj, List.getD, hvl])) ?_
  rintro ⟨k, hk⟩
  by_cases hlt : k < 5
  · have hlt' : (k : Int) < 5 := by omega
    have hltv : k < p.vars.length := by omega
    have hget := getD_map encVar p.vars k hltv
    have hsn := mapTake vN p.vars k hltv
    have hrl := mapTakeLen vN p.vars k (by omega)
    have hxn := hnl p.vars[k] (List.getElem_mem hltv)
    generalize (p.vars.take k).map vN = r at *
    generalize p.vars[k] = x at *
    replace hget : (p.vars.map encVar).getD k [] = [.str x.name, .int .i64 x.size, .int .i64 x.init] := hget
    have hye : encVar (vN x) = [.str (110 :: 95 :: x.name), .int .i64 x.size, .int .i64 x.init] := rfl
    have hw := wrapS k (by omega)
    have hrm := roomL (k + 1) 32 (by omega)
    refine vcS ?_
    (repeat' (first | simp -implicitDefEqProofs +contextual only [kx, ↓ky, tyS, tyX3, tyX4, tyX9, tyX22, tyX24, tyX26, tyX27, tyX29, tyX33, tyX35, tyX36, tyX42, Nat.reduceAdd, Nat.reduceMul, Nat.reduceSub, Nat.reduceLT, Nat.reduceLeDiff, Nat.reduceEqDiff, Nat.reduceBEq, Int.reduceAdd, Int.reduceSub, Int.reduceMul, Int.reduceLT, Int.reduceLE, Int.reduceToNat, Int.reduceBEq, Int.reduceBNe, Int.reduceNeg, Int.reduceGT, Nat.reduceGT, Int.reduceEq, reduceCtorEq, ↓reduceIte, hlt', hltv, hget, hvl, hw, hrl, hrm] | (with_reducible first | refine SB.d (fun _ => ?_) (fun _ => ?_) | refine SB.e (fun _ => ?_) (fun _ => ?_) | refine SB.n (fun _ => ?_) (fun _ => ?_) | refine SB.b (fun _ => ?_) (fun _ => ?_) | refine And.intro (REG.ok (by kernel_rfl)) ?_ | exact REG.ok (by kernel_rfl)) | (with_reducible refine And.intro ?_ ?_); (focus (intros; (try simp only [decide_eq_true_eq, decide_eq_false_iff_not, beq_iff_eq, bne_iff_ne, Bool.and_eq_true, Bool.or_eq_true] at *); omega))))
    exact ⟨⟨k + 1, by omega⟩, (Weak.wk [0, 1, 2, 3, 5, 4, 6, 7] rfl rfl (by decide) (pinsT (by first | decide | (simp only [List.length_cons, List.length_nil]; decide)) (by simp) (by simp)) (by simp [wkSlots, wkObjs, ren, renL, renO, inScope, inScopeL, inScopeO, hasObj, St.obj, List.getD, tau, hsn, hye]) (by simp [wkSlots, wkObjs, ren, renL, renO, inScope, inScopeL, inScopeO, hasObj, St.obj, List.getD, tau, hsn, hye])), by simp; omega⟩
  · have hlt' : ¬ (k : Int) < 5 := by omega
    have hk5 : k = 5 := by omega
    subst hk5
    have htk : p.vars.take 5 = p.vars := by rw [← hvl]; exact List.take_length
    refine SW.weak (Weak.freeze 4 rfl) ?_
    simp only [St.frz, frzL, frz, frzO, List.map_cons, List.map_nil, List.set_cons_zero, List.set_cons_succ, List.length_map, List.take_length, htk, hvl, if_true]
    refine vcS ?_
    (repeat' (first | simp -implicitDefEqProofs +contextual only [kx, ↓ky, tyS, tyX3, tyX4, tyX9, tyX22, tyX24, tyX26, tyX27, tyX29, tyX33, tyX35, tyX36, tyX42, Nat.reduceAdd, Nat.reduceMul, Nat.reduceSub, Nat.reduceLT, Nat.reduceLeDiff, Nat.reduceEqDiff, Nat.reduceBEq, Int.reduceAdd, Int.reduceSub, Int.reduceMul, Int.reduceLT, Int.reduceLE, Int.reduceToNat, Int.reduceBEq, Int.reduceBNe, Int.reduceNeg, Int.reduceGT, Nat.reduceGT, Int.reduceEq, reduceCtorEq, ↓reduceIte, hlt'] | (with_reducible first | refine SB.d (fun _ => ?_) (fun _ => ?_) | refine SB.e (fun _ => ?_) (fun _ => ?_) | refine SB.n (fun _ => ?_) (fun _ => ?_) | refine SB.b (fun _ => ?_) (fun _ => ?_) | refine And.intro (REG.ok (by kernel_rfl)) ?_ | exact REG.ok (by kernel_rfl)) | refine CK.c0 enters10 (cR) rfl rfl ?_ | refine CK.cp enters10 (fun _ => cR) rfl rfl ?_ | refine CK.c0 enters10 (cQ) rfl rfl ?_ | refine CK.cp enters10 (fun _ => cQ) rfl rfl ?_ | refine CK.c0 enters16 (e0) rfl rfl ?_ | refine CK.cp enters16 (fun _ => e0) rfl rfl ?_ | refine CK.c0 enters15 (n1) rfl rfl ?_ | refine CK.cp enters15 (fun _ => n1) rfl rfl ?_ | refine CK.c0 enters15 (n2) rfl rfl ?_ | refine CK.cp enters15 (fun _ => n2) rfl rfl ?_ | refine CK.c0 enters15 (n3) rfl rfl ?_ | refine CK.cp enters15 (fun _ => n3) rfl rfl ?_ | refine CK.c0 enters15 (n4) rfl rfl ?_ | refine CK.cp enters15 (fun _ => n4) rfl rfl ?_ | refine CK.c0 enters17 (e1) rfl rfl ?_ | refine CK.cp enters17 (fun _ => e1) rfl rfl ?_ | refine CK.c0 enters17 (e2) rfl rfl ?_ | refine CK.cp enters17 (fun _ => e2) rfl rfl ?_ | refine CK.c0 enters17 (e3) rfl rfl ?_ | refine CK.cp enters17 (fun _ => e3) rfl rfl ?_ | refine CK.c0 enters17 (e4) rfl rfl ?_ | refine CK.cp enters17 (fun _ => e4) rfl rfl ?_ | (with_reducible refine And.intro ?_ ?_); (focus (intros; (try simp only [decide_eq_true_eq, decide_eq_false_iff_not, beq_iff_eq, bne_iff_ne, Bool.and_eq_true, Bool.or_eq_true] at *); omega))))
end Go.Proofs.YtlgilgaiibdgoaaDoor
