/- A part of the walk (Tryd_N16): its theorems have no condition beyond what they state. -/
import Derived.Test.YtfldnpkacelniaaDoorN15
import Derived.Test.YtfldnpkacelniaaDoorLib3
set_option linter.unusedSimpArgs false
set_option linter.unusedVariables false
set_option linter.defProp false
namespace Go.Proofs.YtfldnpkacelniaaDoor
open Go Go.Abs Go.RowKit
theorem bodyO {f : FuncId} {fn : Func} {code : Code} (site : Nat → Nat) (nobj : Nat) (hf : Tryd.prog.funcs[f]? = some fn) (hb : fn.body = some code) {n : Nat} (hn : fn.ntmps = n) {rs : List ResultVar} (hrs : fn.results.toList = rs) {args : List AVal} {objs : List (Option AObj)} {res : AVal} {objs' : List (Option AObj)}
    (hargs : args.length ≤ n) (hobjs : objs.length ≤ nobj)
    (h : VC Tryd.prog (envOf site nobj) objs.length code ⟨args ++ List.replicate (n - args.length) .junk, objs ++ List.replicate (nobj - objs.length) none⟩ (retQ (envOf site nobj) objs.length rs res objs')) :
    AC Tryd.prog gl f args objs res objs' := by
  subst hn hrs
  exact AC.of_body (env := envOf site nobj) (envOK _ _) hf hb hargs hobjs (VC.to (envOK _ _) mixed code h)
abbrev cdO (cs : List UInt8) (k : Nat) : List (Option AObj) := [some (.cells [.pv (.slice (cs.map encB)), .pv (.int .i64 k)])]
set_option maxRecDepth 100000 in
set_option maxHeartbeats 1000000 in
theorem left_ac (cs : List UInt8) (k : Nat) : AC Tryd.prog gl 36 [.ref 0 0] (cdO cs k) (.pv (.bool (decide ((k : Int) < cs.length)))) (cdO cs k) := by
  refine bodyO (fun _ => 0) 1 Tryd.func36 rfl Tryd.ntmps36 (by rw [Tryd.results36]) (by simp) (by simp) ?_
  (repeat' (first | simp -implicitDefEqProofs +contextual (maxSteps := 9000000) only [kx, ↓ky, tyS, tyX3, tyX36, tyX49, Nat.reduceAdd, Nat.reduceMul, Nat.reduceSub, Nat.reduceLT, Nat.reduceLeDiff, Nat.reduceEqDiff, Nat.reduceBEq, Int.reduceAdd, Int.reduceSub, Int.reduceMul, Int.reduceLT, Int.reduceLE, Int.reduceToNat, Int.reduceBEq, Int.reduceBNe, Int.reduceNeg, Int.reduceGT, Nat.reduceGT, Int.reduceEq, reduceCtorEq, ↓reduceIte] | (with_reducible first | refine SB.d (fun _ => ?_) (fun _ => ?_) | refine SB.e (fun _ => ?_) (fun _ => ?_) | refine SB.n (fun _ => ?_) (fun _ => ?_) | refine SB.b (fun _ => ?_) (fun _ => ?_) | refine And.intro (REG.ok (by kernel_rfl)) ?_ | exact REG.ok (by kernel_rfl)) | (with_reducible refine And.intro ?_ ?_); (focus (intros; (try simp only [decide_eq_true_eq, decide_eq_false_iff_not, beq_iff_eq, bne_iff_ne, Bool.and_eq_true, Bool.or_eq_true] at *); omega)) | omega))
  (refine ⟨.inl rfl, _, [0], rfl, ?_, ?_, (by first | decide | (simp only [List.length_cons, List.length_nil]; decide)), (by decide), (by simp)⟩ <;> simp [wkSlots, wkObjs, ren, renL, renO, inScope, inScopeL, inScopeO, hasObj, St.obj, List.getD, tau, pack, St.slot, ty3, ty36, ty49])
set_option maxRecDepth 100000 in
set_option maxHeartbeats 1000000 in
theorem next_in (cs : List UInt8) (k : Nat) (n : Nat) (hk : k < cs.length) (hn : 0 < n) (hn2 : n ≤ 256) (hc : cs.length ≤ 1000000) : AC Tryd.prog gl 24 [.ref 0 0, .pv (.int .i64 n)] (cdO cs k) (.pv (.int .i64 (((cs.getD k 0).toNat % n : Nat) : Int))) (cdO cs (k + 1)) := by
  have hl := left_ac cs k
  have hk' : (k : Int) < cs.length := by omega
  rw [decide_eq_true hk'] at hl
  have hw := wrapS k (by omega)
  have hs : IntKind.i64.wrap (((k + 1 : Nat) : Int) - 1) = (k : Int) := by rw [wrap64 _ (by omega) (by omega)]; omega
  have hget : (cs.map encB).getD k [] = [.int .u8 ((cs.getD k 0).toNat : Int)] := by simp [List.getD, hk, encB]
  have hlt : (cs.getD k 0).toNat < 256 := (cs.getD k 0).toNat_lt
  generalize (cs.getD k 0).toNat = c at *
  have e1 : IntKind.i64.wrap (c : Int) = c := wrap64 _ (by omega) (by omega)
  have e2 : ((c : Int)).tmod n = ((c % n : Nat) : Int) := by rw [Int.tmod_eq_emod_of_nonneg (by omega)]; simp
  have hlt2 : c % n < n := Nat.mod_lt _ hn
  have e3 : IntKind.i64.wrap ((c % n : Nat) : Int) = ((c % n : Nat) : Int) := wrap64 _ (by omega) (by omega)
  have e4 : ¬ (n : Int) = 0 := by omega
  refine bodyO (fun _ => 0) 1 Tryd.func24 rfl Tryd.ntmps24 (by rw [Tryd.results24]) (by simp) (by simp) ?_
  (repeat' (first | simp -implicitDefEqProofs +contextual (maxSteps := 9000000) only [kx, ↓ky, tyS, tyX3, tyX4, tyX5, tyX36, tyX37, tyX49, Nat.reduceAdd, Nat.reduceMul, Nat.reduceSub, Nat.reduceLT, Nat.reduceLeDiff, Nat.reduceEqDiff, Nat.reduceBEq, Int.reduceAdd, Int.reduceSub, Int.reduceMul, Int.reduceLT, Int.reduceLE, Int.reduceToNat, Int.reduceBEq, Int.reduceBNe, Int.reduceNeg, Int.reduceGT, Nat.reduceGT, Int.reduceEq, reduceCtorEq, ↓reduceIte, hk, hk', hw, hs, hget, e1, e2, e3, e4, kz] | (with_reducible first | refine SB.d (fun _ => ?_) (fun _ => ?_) | refine SB.e (fun _ => ?_) (fun _ => ?_) | refine SB.n (fun _ => ?_) (fun _ => ?_) | refine SB.b (fun _ => ?_) (fun _ => ?_) | refine And.intro (REG.ok (by kernel_rfl)) ?_ | exact REG.ok (by kernel_rfl)) | refine CK.co [0] [] enters36 (hl) rfl rfl rfl rfl rfl (by decide) rfl (by simp) ?_ | (with_reducible refine And.intro ?_ ?_); (focus (intros; (try simp only [decide_eq_true_eq, decide_eq_false_iff_not, beq_iff_eq, bne_iff_ne, Bool.and_eq_true, Bool.or_eq_true] at *); omega)) | omega))
  (refine ⟨.inl rfl, _, [0], rfl, ?_, ?_, (by first | decide | (simp only [List.length_cons, List.length_nil]; decide)), (by decide), (by simp)⟩ <;> simp [wkSlots, wkObjs, ren, renL, renO, inScope, inScopeL, inScopeO, hasObj, St.obj, List.getD, tau, pack, St.slot, ty3, ty4, ty5, ty36, ty37, ty49])
set_option maxRecDepth 100000 in
set_option maxHeartbeats 1000000 in
theorem next_out (cs : List UInt8) (k : Nat) (n : Nat) (hk : ¬ k < cs.length) : AC Tryd.prog gl 24 [.ref 0 0, .pv (.int .i64 n)] (cdO cs k) (.pv (.int .i64 0)) (cdO cs k) := by
  have hl := left_ac cs k
  have hk' : ¬ (k : Int) < cs.length := by omega
  rw [decide_eq_false hk'] at hl
  refine bodyO (fun _ => 0) 1 Tryd.func24 rfl Tryd.ntmps24 (by rw [Tryd.results24]) (by simp) (by simp) ?_
  (repeat' (first | simp -implicitDefEqProofs +contextual (maxSteps := 9000000) only [kx, ↓ky, tyS, tyX3, tyX4, tyX5, tyX36, tyX37, tyX49, Nat.reduceAdd, Nat.reduceMul, Nat.reduceSub, Nat.reduceLT, Nat.reduceLeDiff, Nat.reduceEqDiff, Nat.reduceBEq, Int.reduceAdd, Int.reduceSub, Int.reduceMul, Int.reduceLT, Int.reduceLE, Int.reduceToNat, Int.reduceBEq, Int.reduceBNe, Int.reduceNeg, Int.reduceGT, Nat.reduceGT, Int.reduceEq, reduceCtorEq, ↓reduceIte, hk, hk', kz] | (with_reducible first | refine SB.d (fun _ => ?_) (fun _ => ?_) | refine SB.e (fun _ => ?_) (fun _ => ?_) | refine SB.n (fun _ => ?_) (fun _ => ?_) | refine SB.b (fun _ => ?_) (fun _ => ?_) | refine And.intro (REG.ok (by kernel_rfl)) ?_ | exact REG.ok (by kernel_rfl)) | refine CK.co [0] [] enters36 (hl) rfl rfl rfl rfl rfl (by decide) rfl (by simp) ?_ | (with_reducible refine And.intro ?_ ?_); (focus (intros; (try simp only [decide_eq_true_eq, decide_eq_false_iff_not, beq_iff_eq, bne_iff_ne, Bool.and_eq_true, Bool.or_eq_true] at *); omega)) | omega))
  (refine ⟨.inl rfl, _, [0], rfl, ?_, ?_, (by first | decide | (simp only [List.length_cons, List.length_nil]; decide)), (by decide), (by simp)⟩ <;> simp [wkSlots, wkObjs, ren, renL, renO, inScope, inScopeL, inScopeO, hasObj, St.obj, List.getD, tau, pack, St.slot, ty3, ty4, ty5, ty36, ty37, ty49])
set_option maxRecDepth 100000 in
set_option maxHeartbeats 1000000 in
theorem new_ac (cs : List UInt8) (n : Nat) (hn : n ≤ 1000000) : AC Tryd.prog gl 23 [.pv (.slice (cs.map encB)), .pv (.int .i64 n)] [] (.ref 0 0) (cdO (cs.take n) 0) := by
  refine bodyO (fun _ => 0) 1 Tryd.func23 rfl Tryd.ntmps23 (by rw [Tryd.results23]) (by simp) (by simp) ?_
  by_cases h : cs.length > n
  · have h' : (cs.length : Int) > n := by omega
    have h2 : (n : Int) ≤ cs.length := by omega
    have e : (cs.map encB).take n = (cs.take n).map encB := by rw [List.map_take]
    (repeat' (first | simp -implicitDefEqProofs +contextual (maxSteps := 9000000) only [kx, ↓ky, tyS, tyX3, tyX36, tyX49, Nat.reduceAdd, Nat.reduceMul, Nat.reduceSub, Nat.reduceLT, Nat.reduceLeDiff, Nat.reduceEqDiff, Nat.reduceBEq, Int.reduceAdd, Int.reduceSub, Int.reduceMul, Int.reduceLT, Int.reduceLE, Int.reduceToNat, Int.reduceBEq, Int.reduceBNe, Int.reduceNeg, Int.reduceGT, Nat.reduceGT, Int.reduceEq, reduceCtorEq, ↓reduceIte, h', h2, e] | (with_reducible first | refine SB.d (fun _ => ?_) (fun _ => ?_) | refine SB.e (fun _ => ?_) (fun _ => ?_) | refine SB.n (fun _ => ?_) (fun _ => ?_) | refine SB.b (fun _ => ?_) (fun _ => ?_) | refine And.intro (REG.ok (by kernel_rfl)) ?_ | exact REG.ok (by kernel_rfl)) | (with_reducible refine And.intro ?_ ?_); (focus (intros; (try simp only [decide_eq_true_eq, decide_eq_false_iff_not, beq_iff_eq, bne_iff_ne, Bool.and_eq_true, Bool.or_eq_true] at *); omega)) | omega))
    (refine ⟨.inl rfl, _, [0], rfl, ?_, ?_, (by first | decide | (simp only [List.length_cons, List.length_nil]; decide)), (by decide), (by simp)⟩ <;> simp [wkSlots, wkObjs, ren, renL, renO, inScope, inScopeL, inScopeO, hasObj, St.obj, List.getD, tau, pack, St.slot, ty3, ty36, ty49])
  · have h' : ¬ (cs.length : Int) > n := by omega
    have e : cs.take n = cs := List.take_of_length_le (by omega)
    rw [e]
    (repeat' (first | simp -implicitDefEqProofs +contextual (maxSteps := 9000000) only [kx, ↓ky, tyS, tyX3, tyX36, tyX49, Nat.reduceAdd, Nat.reduceMul, Nat.reduceSub, Nat.reduceLT, Nat.reduceLeDiff, Nat.reduceEqDiff, Nat.reduceBEq, Int.reduceAdd, Int.reduceSub, Int.reduceMul, Int.reduceLT, Int.reduceLE, Int.reduceToNat, Int.reduceBEq, Int.reduceBNe, Int.reduceNeg, Int.reduceGT, Nat.reduceGT, Int.reduceEq, reduceCtorEq, ↓reduceIte, h'] | (with_reducible first | refine SB.d (fun _ => ?_) (fun _ => ?_) | refine SB.e (fun _ => ?_) (fun _ => ?_) | refine SB.n (fun _ => ?_) (fun _ => ?_) | refine SB.b (fun _ => ?_) (fun _ => ?_) | refine And.intro (REG.ok (by kernel_rfl)) ?_ | exact REG.ok (by kernel_rfl)) | (with_reducible refine And.intro ?_ ?_); (focus (intros; (try simp only [decide_eq_true_eq, decide_eq_false_iff_not, beq_iff_eq, bne_iff_ne, Bool.and_eq_true, Bool.or_eq_true] at *); omega)) | omega))
    (refine ⟨.inl rfl, _, [0], rfl, ?_, ?_, (by first | decide | (simp only [List.length_cons, List.length_nil]; decide)), (by decide), (by simp)⟩ <;> simp [wkSlots, wkObjs, ren, renL, renO, inScope, inScopeL, inScopeO, hasObj, St.obj, List.getD, tau, pack, St.slot, ty3, ty36, ty49])
end Go.Proofs.YtfldnpkacelniaaDoor
