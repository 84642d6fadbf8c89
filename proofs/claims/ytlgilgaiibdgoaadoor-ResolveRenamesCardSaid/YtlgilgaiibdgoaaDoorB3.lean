/- A part of the walk (Tryd_B3): its theorems have no condition beyond what they state. -/
import Derived.Test.YtlgilgaiibdgoaaDoorA1
import Derived.Test.YtlgilgaiibdgoaaDoorLib2
set_option linter.unusedSimpArgs false
set_option linter.unusedVariables false
set_option linter.defProp false
namespace Go.Proofs.YtlgilgaiibdgoaaDoor
open Go Go.Abs

abbrev rObj (f : Fl) : Option AObj := some (.cells [.map 1, .pv (.bool f.1), .pv (.bool f.2)])
abbrev mObj (pl : List Pl) : Option AObj := some (.map .string (pl.map encPl))

set_option maxRecDepth 10000 in
set_option maxHeartbeats 4000000 in
theorem find_ac (pl : List Pl) (n : List UInt8) (arr : Bool) (f : Fl) : AC Tryd.prog gl 45 [.ref 0 0, .pv (.str n), .pv (.bool arr)] [rObj f, mObj pl]
    (.tup [.pv (.int .i64 (findF pl n arr f).1.1), .pv (.int .i64 (findF pl n arr f).1.2)]) [rObj (findF pl n arr f).2, mObj pl] := by
  have hm := mfind_enc n pl
  (refine body_ac (fun d => 2) 3 Tryd.func45 rfl Tryd.ntmps45 (by rw [Tryd.results45]) (by simp) (by simp) (fun Q hQ => ?_); simp only [List.length_cons, List.length_nil, Nat.reduceAdd, Nat.reduceSub, List.replicate, List.cons_append, List.nil_append]; have hc : True := trivial; have hb : True := trivial)
  cases h : plFind n pl with
  | none =>
    simp only [h, Option.map_none] at hm
    have hq : findF pl n arr f = ((0, 0), (true, f.2)) := by simp [findF, h]
    simp only [hq] at hQ
    (repeat (first | (with_reducible (first | refine SW.seqK fun _ _ => ?_ | refine SW.block ?_ | refine SW.rg (envOK _ _) (fun _ _ => ?_) | refine SW.rdm (envOK _ _) mixed (fun _ _ _ => ?_) | refine SW.condC ?_ | refine SW.skip ?_ | refine SW.exit ?_ | refine TQn ?_ | refine TQe ?_ | refine BQn ?_ | refine BQs ?_ | refine BQx (by decide) ?_)) | ((first | with_reducible (first | refine W0id ?_ | refine WGid ?_ | refine W1id ?_ | refine XGid ?_ | refine SCid ?_ | refine WEid ?_ | refine XEid ?_) | refine EQid ?_ | refine LEid ?_); simp -implicitDefEqProofs only [kv1, kv2, kv3, kv4, kv5, kv6, kv7, kv8, kv9, kv10, kv11, tyS, tyX3, tyX4, tyX62, tyX64, tyX68, compL, gres, isCall, aop, aeval, absConst, absCell, atgt, abound, St.app, St.slot, St.obj, AVal.cells, AVal.isCell, AVal.toP, abin, amax, amin, afold, splice, afill, arows, toPs, srcRows, inScopeL, inScope, Nat.reduceAdd, Nat.reduceMul, Nat.reduceSub, Nat.reduceLT, Nat.reduceLeDiff, Nat.reduceEqDiff, Nat.reduceBEq, Int.reduceAdd, Int.reduceSub, Int.reduceMul, Int.reduceLT, Int.reduceLE, Int.reduceToNat, Int.reduceBEq, Int.reduceBNe, Int.reduceNeg, Int.reduceGT, Nat.reduceGT, Int.reduceEq, reduceCtorEq, ↓reduceIte, hm, mval, Option.getD_none, Option.isSome_none, keyOk, hb]) | with_reducible (first | refine on (by assumption) ?_ | refine onK (by assumption) ?_) | refine onD (by assumption) (by kernel_rfl) ?_ | ((with_reducible refine And.intro ?_ ?_); (focus (omega)))))
    (refine SW.ret ?_; refine hQ _ _ ⟨.inl rfl, _, [0, 1, 2], rfl, ?_, ?_, (by first | decide | (simp only [List.length_cons, List.length_nil]; decide)), (by decide), (by simp)⟩ <;> simp [wkSlots, wkObjs, ren, renL, renO, inScope, inScopeL, inScopeO, hasObj, St.obj, List.getD, tau, pack, St.slot, ty3, ty4, ty62, ty64, ty68])
  | some q =>
    simp only [h, Option.map_some] at hm
    by_cases h2 : arr = decide (q.2 > 0)
    · have hq : findF pl n arr f = (q, f) := by simp [findF, h, h2]
      have h3 : (arr == decide (q.2 > 0)) = true := by simpa using h2
      simp only [hq] at hQ
      (repeat (first | (with_reducible (first | refine SW.seqK fun _ _ => ?_ | refine SW.block ?_ | refine SW.rg (envOK _ _) (fun _ _ => ?_) | refine SW.rdm (envOK _ _) mixed (fun _ _ _ => ?_) | refine SW.condC ?_ | refine SW.skip ?_ | refine SW.exit ?_ | refine TQn ?_ | refine TQe ?_ | refine BQn ?_ | refine BQs ?_ | refine BQx (by decide) ?_)) | ((first | with_reducible (first | refine W0id ?_ | refine WGid ?_ | refine W1id ?_ | refine XGid ?_ | refine SCid ?_ | refine WEid ?_ | refine XEid ?_) | refine EQid ?_ | refine LEid ?_); simp -implicitDefEqProofs only [kv1, kv2, kv3, kv4, kv5, kv6, kv7, kv8, kv9, kv10, kv11, tyS, tyX3, tyX4, tyX62, tyX64, tyX68, compL, gres, isCall, aop, aeval, absConst, absCell, atgt, abound, St.app, St.slot, St.obj, AVal.cells, AVal.isCell, AVal.toP, abin, amax, amin, afold, splice, afill, arows, toPs, srcRows, inScopeL, inScope, Nat.reduceAdd, Nat.reduceMul, Nat.reduceSub, Nat.reduceLT, Nat.reduceLeDiff, Nat.reduceEqDiff, Nat.reduceBEq, Int.reduceAdd, Int.reduceSub, Int.reduceMul, Int.reduceLT, Int.reduceLE, Int.reduceToNat, Int.reduceBEq, Int.reduceBNe, Int.reduceNeg, Int.reduceGT, Nat.reduceGT, Int.reduceEq, reduceCtorEq, ↓reduceIte, hm, mval, Option.getD_some, Option.isSome_some, keyOk, h3, hb]) | with_reducible (first | refine on (by assumption) ?_ | refine onK (by assumption) ?_) | refine onD (by assumption) (by kernel_rfl) ?_ | ((with_reducible refine And.intro ?_ ?_); (focus (omega)))))
      (refine SW.ret ?_; refine hQ _ _ ⟨.inl rfl, _, [0, 1, 2], rfl, ?_, ?_, (by first | decide | (simp only [List.length_cons, List.length_nil]; decide)), (by decide), (by simp)⟩ <;> simp [wkSlots, wkObjs, ren, renL, renO, inScope, inScopeL, inScopeO, hasObj, St.obj, List.getD, tau, pack, St.slot, ty3, ty4, ty62, ty64, ty68])
    · have hq : findF pl n arr f = (q, (f.1, true)) := by
        have : (arr != decide (q.2 > 0)) = true := by simpa using h2
        simp only [findF, h, this, Bool.or_true]
      have h3 : (arr == decide (q.2 > 0)) = false := by simpa using h2
      simp only [hq] at hQ
      (repeat (first | (with_reducible (first | refine SW.seqK fun _ _ => ?_ | refine SW.block ?_ | refine SW.rg (envOK _ _) (fun _ _ => ?_) | refine SW.rdm (envOK _ _) mixed (fun _ _ _ => ?_) | refine SW.condC ?_ | refine SW.skip ?_ | refine SW.exit ?_ | refine TQn ?_ | refine TQe ?_ | refine BQn ?_ | refine BQs ?_ | refine BQx (by decide) ?_)) | ((first | with_reducible (first | refine W0id ?_ | refine WGid ?_ | refine W1id ?_ | refine XGid ?_ | refine SCid ?_ | refine WEid ?_ | refine XEid ?_) | refine EQid ?_ | refine LEid ?_); simp -implicitDefEqProofs only [kv1, kv2, kv3, kv4, kv5, kv6, kv7, kv8, kv9, kv10, kv11, tyS, tyX3, tyX4, tyX62, tyX64, tyX68, compL, gres, isCall, aop, aeval, absConst, absCell, atgt, abound, St.app, St.slot, St.obj, AVal.cells, AVal.isCell, AVal.toP, abin, amax, amin, afold, splice, afill, arows, toPs, srcRows, inScopeL, inScope, Nat.reduceAdd, Nat.reduceMul, Nat.reduceSub, Nat.reduceLT, Nat.reduceLeDiff, Nat.reduceEqDiff, Nat.reduceBEq, Int.reduceAdd, Int.reduceSub, Int.reduceMul, Int.reduceLT, Int.reduceLE, Int.reduceToNat, Int.reduceBEq, Int.reduceBNe, Int.reduceNeg, Int.reduceGT, Nat.reduceGT, Int.reduceEq, reduceCtorEq, ↓reduceIte, hm, mval, Option.getD_some, Option.isSome_some, keyOk, h3, hb]) | with_reducible (first | refine on (by assumption) ?_ | refine onK (by assumption) ?_) | refine onD (by assumption) (by kernel_rfl) ?_ | ((with_reducible refine And.intro ?_ ?_); (focus (omega)))))
      (refine SW.ret ?_; refine hQ _ _ ⟨.inl rfl, _, [0, 1, 2], rfl, ?_, ?_, (by first | decide | (simp only [List.length_cons, List.length_nil]; decide)), (by decide), (by simp)⟩ <;> simp [wkSlots, wkObjs, ren, renL, renO, inScope, inScopeL, inScopeO, hasObj, St.obj, List.getD, tau, pack, St.slot, ty3, ty4, ty62, ty64, ty68])
end Go.Proofs.YtlgilgaiibdgoaaDoor
