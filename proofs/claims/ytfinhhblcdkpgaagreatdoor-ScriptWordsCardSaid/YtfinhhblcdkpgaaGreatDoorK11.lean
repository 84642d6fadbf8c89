/- A part of the walk (Tryz_K11): its theorems have no condition beyond what they state. -/
import Derived.Test.YtfinhhblcdkpgaaGreatDoorS5
import Derived.Test.YtfinhhblcdkpgaaGreatDoorK10
set_option linter.unusedSimpArgs false
set_option linter.unusedVariables false
set_option linter.defProp false
namespace Go.Proofs.YtfinhhblcdkpgaaGreatDoor
open Go Go.Abs
def stK11a (d : Nat) : Nat := if d = 1 then 0 else if d = 2 then 1 else if d = 27 then 2 else if d = 7 then 3 else if d = 8 then 4 else if d = 12 then 3 else if d = 77 then 6 else if d = 84 then 6 else if d = 89 then 7 else if d = 15 then 8 else 0
theorem stK11ae : stK11a 1 = 0 ∧ stK11a 2 = 1 ∧ stK11a 27 = 2 ∧ stK11a 7 = 3 ∧ stK11a 8 = 4 ∧ stK11a 12 = 3 ∧ stK11a 77 = 6 ∧ stK11a 84 = 6 ∧ stK11a 89 = 7 ∧ stK11a 15 = 8 := by decide
structure DpI (l : List VarD) where
  k : Nat
  es : List Pl
  hk : k ≤ l.length
  eq : dupP es (l.drop k) = dupP [] l
structure FlI (es0 : List Pl) (l : List VarD) where
  k : Nat
  es : List Pl
  xs : List Int
  hk : k ≤ l.length
  hx : xs.length ≤ 32
  eq : fillP es xs (l.drop k) = fillP es0 [] l
structure InI (xs : List Int) (init n : Int) where
  j : Nat
  ys : List Int
  hj : (j : Int) ≤ n - 1
  hy : ys = xs ++ [init] ++ List.replicate j 0
theorem mx_r1 (a b : Int) : b ≤ mx a b := by unfold mx imax; split <;> omega
set_option maxRecDepth 100000 in
set_option maxHeartbeats 8000000 in
theorem resolve_ac (p : PgD) (hp : szP p ≤ 1000000000) :
    AC Tryz.prog gl 22 [pgA p] [] (.tup [cdA (resolveF p).1, .pv (.int .i64 (resolveF p).2)]) [] := by
  have hck := check_ac p hp
  have hp' := hp
  unfold szP at hp'
  have hvl : p.vars.length ≤ 1000000000 := by omega
  have hr0 : resolveF p = if checkF goodSFs p ≠ 0 then (cd0, checkF goodSFs p)
  else if p.vars.length > 16 then (cd0, 4)
  else match dupP [] p.vars with
    | none => (cd0, 2)
    | some es => match fillP es [] p.vars with
      | none => (cd0, 4)
      | some q => finR q.2 (rs4 q.1 p) := rfl
  generalize resolveF p = res at *
  generalize checkF goodSFs p = ck at *
  unfold pgA at *
  refine body0 (stK11a) 9 Tryz.func22 rfl Tryz.ntmps22 (by rw [Tryz.results22]) (by simp) ?_
  by_cases h1 : ck = 0
  rotate_left
  · have h1' : (ck != 0) = true := by simpa using h1
    rw [if_pos h1] at hr0
    subst hr0
    (repeat' (first | simp -implicitDefEqProofs +contextual (maxSteps := 9000000) only [kx, ↓ky, tq22, simprocAttr, h1', cdA, cd0, stK11ae] | (with_reducible first | refine SB.c (fun _ => ?_) (fun _ => ?_) | refine REG.i ?_ | exact REG.j) | refine CK.d0 enters42 hck ?_ | with_reducible refine AndI ?_ | omega))
  have h1' : (ck != 0) = false := by simpa using h1
  rw [if_neg (by simpa using h1)] at hr0
  by_cases h2 : (p.vars.length : Int) > 16
  · rw [if_pos (by omega)] at hr0
    subst hr0
    (repeat' (first | simp -implicitDefEqProofs +contextual (maxSteps := 9000000) only [kx, ↓ky, tq22, simprocAttr, h1', h2, cdA, cd0, stK11ae] | (with_reducible first | refine SB.c (fun _ => ?_) (fun _ => ?_) | refine REG.i ?_ | exact REG.j) | refine CK.d0 enters42 hck ?_ | with_reducible refine AndI ?_ | omega))
  rw [if_neg (by omega)] at hr0
  (repeat' (first | simp -implicitDefEqProofs +contextual (maxSteps := 9000000) only [kx, ↓ky, tq22, simprocAttr, h1', h2, stK11ae] | (with_reducible first | refine SB.c (fun _ => ?_) (fun _ => ?_) | refine REG.i ?_ | exact REG.j) | refine CK.d0 enters42 hck ?_ | with_reducible refine AndI ?_ | omega))
  refine loopV (ι := DpI p.vars) (fun i => ⟨(.junk :: .ref 0 0 :: .ref 1 0 :: .pv (.int .i64 0) :: .junk :: .map 2 :: .junk :: .junk :: .junk :: .junk :: .junk :: .junk :: .junk :: .junk :: .junk :: .junk :: .junk :: .junk :: .junk :: .junk :: .junk :: .junk :: .junk :: .junk :: .junk :: .junk :: .junk :: .junk :: .junk :: .pv (.slice (p.vars.map encVar)) :: .pv (.int .i64 p.vars.length) :: .pv (.int .i64 i.k) :: .junk :: .junk :: .junk :: .junk :: .junk :: .junk :: .junk :: .junk :: .junk :: .junk :: .junk :: .junk :: .junk :: .junk :: .junk :: .junk :: .junk :: .junk :: .junk :: .junk :: .junk :: .junk :: .junk :: .junk :: .junk :: .junk :: .junk :: .junk :: .junk :: .junk :: .junk :: .junk :: .junk :: .junk :: .junk :: .junk :: .junk :: .junk :: .junk :: .junk :: .junk :: .junk :: .junk :: .junk :: .junk :: .junk :: .junk :: .junk :: .junk :: .junk :: .junk :: .junk :: .junk :: .junk :: .junk :: .junk :: .junk :: .junk :: .junk :: .junk :: .junk :: .junk :: .junk :: .junk :: .junk :: .junk :: .junk :: .junk :: .junk :: .junk :: .junk :: .junk :: .junk :: .junk :: .junk :: .junk :: .junk :: .junk :: .junk :: .junk :: .junk :: .junk :: .junk :: .junk :: .junk :: .junk :: .junk :: .junk :: .junk :: []), [some (.cells [.pv (.slice (p.vars.map encVar)), .pv (.slice (p.start.map encSm)), .pv (.slice (p.message.map encSm)), .pv (.slice (p.tick.map encSm)), .pv (.slice (p.input.map encSm))]), some (.cells [.snil, .snil, .snil, .snil, .snil]), some (.map .string (i.es.map encPl)), none, none, none, none, none, none]⟩) (fun i => p.vars.length - i.k) ⟨0, [], by simp, by simp⟩ WFn ?_
  rintro ⟨k, es, hk, heq⟩
  by_cases hlt : k < p.vars.length
  · have hlt' : (k : Int) < p.vars.length := by omega
    have hget := getD_map encVar p.vars k hlt
    rw [List.drop_eq_getElem_cons hlt, dupP] at heq
    generalize p.vars[k] = x at *
    have hm := mfind_enc x.name es
    have hms := mset_enc x.name 0 0 es
    have hw : IntKind.i64.wrap ((k : Int) + 1) = ((k + 1 : Nat) : Int) := by rw [wrap64 _ (by omega) (by omega)]; rfl
    cases h3 : plFind x.name es with
    | none =>
      rw [h3, Option.map_none] at hm
      (repeat' (first | simp -implicitDefEqProofs +contextual (maxSteps := 9000000) only [kx, ↓ky, tq22, simprocAttr, hlt', hlt, hget, encVar, hm, mval, Option.getD_none, Option.getD_some, Option.isSome_none, Option.isSome_some, keyOk, toMV, hw, stK11ae] | (with_reducible first | refine SB.c (fun _ => ?_) (fun _ => ?_) | refine REG.i ?_ | exact REG.j) | with_reducible refine AndI ?_ | omega))
      rw [h3, Option.isSome_none, if_neg (by simp)] at heq
      exact ⟨⟨k + 1, _, by omega, heq⟩, (WFe (by simp [kwf, hms]) (by simp [kwf, hms])), by simp; omega⟩
    | some q =>
      rw [h3, Option.map_some] at hm
      rw [h3, Option.isSome_some, if_pos rfl] at heq
      rw [← heq] at hr0
      subst hr0
      (repeat' (first | simp -implicitDefEqProofs +contextual (maxSteps := 9000000) only [kx, ↓ky, tq22, simprocAttr, hlt', hlt, hget, encVar, hm, mval, Option.getD_none, Option.getD_some, Option.isSome_none, Option.isSome_some, keyOk, toMV, cdA, cd0, stK11ae] | (with_reducible first | refine SB.c (fun _ => ?_) (fun _ => ?_) | refine REG.i ?_ | exact REG.j) | with_reducible refine AndI ?_ | omega))
  have hlt' : ¬ (k : Int) < p.vars.length := by omega
  rw [List.drop_eq_nil_of_le (by omega), dupP] at heq
  rw [← heq] at hr0
  dsimp only at hr0
  (repeat' (first | simp -implicitDefEqProofs +contextual (maxSteps := 9000000) only [kx, ↓ky, tq22, simprocAttr, hlt', stK11ae] | (with_reducible first | refine SB.c (fun _ => ?_) (fun _ => ?_) | refine REG.i ?_ | exact REG.j) | with_reducible refine AndI ?_ | omega))
  (refine LW.weak (Weak.nilRow 10 5 1 rfl rfl (by decide)) ?_; simp only [List.set_cons_zero, List.set_cons_succ])
  refine loopV (ι := FlI es p.vars) (fun i => ⟨(.junk :: .ref 0 0 :: .ref 1 0 :: .pv (.int .i64 0) :: .junk :: .map 2 :: .junk :: .junk :: .junk :: .junk :: .row 5 i.xs.length :: .junk :: .junk :: .junk :: .junk :: .junk :: .junk :: .junk :: .junk :: .junk :: .junk :: .junk :: .junk :: .junk :: .junk :: .junk :: .junk :: .junk :: .junk :: .junk :: .junk :: .junk :: .junk :: .junk :: .junk :: .junk :: .junk :: .junk :: .junk :: .junk :: .junk :: .junk :: .junk :: .junk :: .junk :: .junk :: .junk :: .junk :: .junk :: .junk :: .pv (.slice (p.vars.map encVar)) :: .pv (.int .i64 p.vars.length) :: .pv (.int .i64 i.k) :: .junk :: .junk :: .junk :: .junk :: .junk :: .junk :: .junk :: .junk :: .junk :: .junk :: .junk :: .junk :: .junk :: .junk :: .junk :: .junk :: .junk :: .junk :: .junk :: .junk :: .junk :: .junk :: .junk :: .junk :: .junk :: .junk :: .junk :: .junk :: .junk :: .junk :: .junk :: .junk :: .junk :: .junk :: .junk :: .junk :: .junk :: .junk :: .junk :: .junk :: .junk :: .junk :: .junk :: .junk :: .junk :: .junk :: .junk :: .junk :: .junk :: .junk :: .junk :: .junk :: .junk :: .junk :: .junk :: .junk :: .junk :: .junk :: .junk :: .junk :: .junk :: .junk :: .junk :: .junk :: .junk :: .junk :: .junk :: .junk :: []), [some (.cells [.pv (.slice (p.vars.map encVar)), .pv (.slice (p.start.map encSm)), .pv (.slice (p.message.map encSm)), .pv (.slice (p.tick.map encSm)), .pv (.slice (p.input.map encSm))]), some (.cells [.snil, .snil, .snil, .snil, .snil]), some (.map .string (i.es.map encPl)), none, none, some (.row 1 (i.xs.map enc1)), none, none, none]⟩) (fun i => p.vars.length - i.k) ⟨0, es, [], by simp, by simp, by simp⟩ WFn ?_
  rintro ⟨k', es', xs, hk', hx, heq'⟩
  by_cases hlq : k' < p.vars.length
  · have hlq' : (k' : Int) < p.vars.length := by omega
    have hget := getD_map encVar p.vars k' hlq
    rw [List.drop_eq_getElem_cons hlq, fillP] at heq'
    generalize p.vars[k'] = x at *
    have hw : IntKind.i64.wrap ((k' : Int) + 1) = ((k' + 1 : Nat) : Int) := by rw [wrap64 _ (by omega) (by omega)]; rfl
    have hw1 : IntKind.i64.wrap (32 - (xs.length : Int)) = 32 - (xs.length : Int) := wrap64 _ (by omega) (by omega)
    by_cases h3 : mx x.size 1 > 32 - (xs.length : Int)
    · rw [if_pos h3] at heq'
      rw [← heq'] at hr0
      subst hr0
      (repeat' (first | simp -implicitDefEqProofs +contextual (maxSteps := 9000000) only [kx, ↓ky, tq22, simprocAttr, hlq', hlq, hget, encVar, hw1, h3, cdA, cd0, stK11ae] | (with_reducible first | refine SB.c (fun _ => ?_) (fun _ => ?_) | refine REG.i ?_ | exact REG.j) | with_reducible refine AndI ?_ | omega))
    · rw [if_neg h3] at heq'
      have hm := mx_r1 x.size 1
      have hms := mset_enc x.name xs.length x.size es'
      have hw2 : IntKind.i64.wrap (mx x.size 1 - 1) = mx x.size 1 - 1 := wrap64 _ (by omega) (by omega)
      have hrm := roomL (xs.length + 1) 8 (by omega)
      (repeat' (first | simp -implicitDefEqProofs +contextual (maxSteps := 9000000) only [kx, ↓ky, tq22, simprocAttr, hlq', hlq, hget, encVar, hw1, h3, hw2, mval, Option.getD_none, Option.getD_some, Option.isSome_none, Option.isSome_some, keyOk, toMV, hrm, stK11ae] | (with_reducible first | refine SB.c (fun _ => ?_) (fun _ => ?_) | refine REG.i ?_ | exact REG.j) | with_reducible refine AndI ?_ | omega))
      refine loopV (ι := InI xs x.init (mx x.size 1)) (fun i => ⟨(.junk :: .ref 0 0 :: .ref 1 0 :: .pv (.int .i64 0) :: .junk :: .map 2 :: .junk :: .junk :: .junk :: .junk :: .row 5 i.ys.length :: .junk :: .junk :: .junk :: .junk :: .junk :: .junk :: .junk :: .junk :: .junk :: .junk :: .junk :: .junk :: .junk :: .junk :: .junk :: .junk :: .junk :: .junk :: .junk :: .junk :: .junk :: .junk :: .junk :: .junk :: .junk :: .junk :: .junk :: .junk :: .junk :: .junk :: .junk :: .junk :: .junk :: .junk :: .junk :: .junk :: .junk :: .junk :: .junk :: .pv (.slice (p.vars.map encVar)) :: .pv (.int .i64 p.vars.length) :: .pv (.int .i64 k') :: .junk :: .junk :: .junk :: .junk :: .junk :: .junk :: .junk :: .junk :: .junk :: .junk :: .junk :: .junk :: .junk :: .junk :: .junk :: .junk :: .junk :: .junk :: .junk :: .junk :: .junk :: .junk :: .junk :: .junk :: .junk :: .junk :: .pv (.int .i64 (mx x.size 1 - 1)) :: .pv (.int .i64 i.j) :: .junk :: .junk :: .junk :: .junk :: .junk :: .junk :: .junk :: .junk :: .junk :: .junk :: .junk :: .junk :: .junk :: .junk :: .junk :: .junk :: .junk :: .junk :: .junk :: .junk :: .junk :: .junk :: .junk :: .junk :: .junk :: .junk :: .junk :: .junk :: .junk :: .junk :: .junk :: .junk :: .junk :: .junk :: .junk :: .junk :: .junk :: .junk :: .junk :: .junk :: []), [some (.cells [.pv (.slice (p.vars.map encVar)), .pv (.slice (p.start.map encSm)), .pv (.slice (p.message.map encSm)), .pv (.slice (p.tick.map encSm)), .pv (.slice (p.input.map encSm))]), some (.cells [.snil, .snil, .snil, .snil, .snil]), some (.map .string ((plSet x.name xs.length x.size es').map encPl)), none, none, some (.row 1 (i.ys.map enc1)), none, none, none]⟩) (fun i => (mx x.size 1).toNat - i.j) ⟨0, xs ++ [x.init], by omega, by simp⟩ (WTe [0, 1, 2, 3, 4, 6, 5, 7, 8] (by simp [kwt, hms, enc1]) (by simp [kwt, hms, enc1])) ?_
      rintro ⟨j, ys, hj, hy⟩
      have hyl : ys.length = xs.length + 1 + j := by rw [hy]; simp; omega
      by_cases hjl : (j : Int) < mx x.size 1 - 1
      · have hrm2 := roomL (ys.length + 1) 8 (by omega)
        have hw3 : IntKind.i64.wrap ((j : Int) + 1) = ((j + 1 : Nat) : Int) := by rw [wrap64 _ (by omega) (by omega)]; rfl
        (repeat' (first | simp -implicitDefEqProofs +contextual (maxSteps := 9000000) only [kx, ↓ky, tq22, simprocAttr, hjl, hrm2, hw3, stK11ae] | (with_reducible first | refine SB.c (fun _ => ?_) (fun _ => ?_) | refine REG.i ?_ | exact REG.j) | with_reducible refine AndI ?_ | omega))
        exact ⟨⟨j + 1, ys ++ [0], by omega, by rw [hy, List.replicate_succ']; simp⟩, (WTe [0, 1, 2, 3, 4, 6, 5, 7, 8] (by simp [kwt, enc1]) (by simp [kwt, enc1])), by simp; omega⟩
      · (repeat' (first | simp -implicitDefEqProofs +contextual (maxSteps := 9000000) only [kx, ↓ky, tq22, simprocAttr, hjl, hw, stK11ae] | (with_reducible first | refine SB.c (fun _ => ?_) (fun _ => ?_) | refine REG.i ?_ | exact REG.j) | with_reducible refine AndI ?_ | omega))
        have hje : (mx x.size 1).toNat - 1 = j := by omega
        rw [hje, ← hy] at heq'
        exact ⟨⟨k' + 1, _, ys, by omega, by omega, heq'⟩, WFn, by simp; omega⟩
  · have hlq' : ¬ (k' : Int) < p.vars.length := by omega
    rw [List.drop_eq_nil_of_le (by omega), fillP] at heq'
    rw [← heq'] at hr0
    dsimp only at hr0
    have cA := zlist_ac es' p.start (false, false) (by omega)
    have cB := zlist_ac es' p.message (rsSs es' p.start (false, false)).2 (by omega)
    have cC := zlist_ac es' p.tick (rsSs es' p.message (rsSs es' p.start (false, false)).2).2 (by omega)
    have cD := zlist_ac es' p.input (rsSs es' p.tick (rsSs es' p.message (rsSs es' p.start (false, false)).2).2).2 (by omega)
    unfold rs4 at hr0
    dsimp only at hr0
    generalize rsSs es' p.start (false, false) = a1 at hr0 cA cB cC cD
    generalize rsSs es' p.message a1.2 = a2 at hr0 cA cB cC cD
    generalize rsSs es' p.tick a2.2 = a3 at hr0 cA cB cC cD
    generalize rsSs es' p.input a3.2 = a4 at hr0 cA cB cC cD
    unfold finR at hr0
    dsimp only at hr0
    cases h5 : a4.2.1 with
    | true =>
      rw [h5, if_pos rfl] at hr0
      subst hr0
      (repeat' (first | simp -implicitDefEqProofs +contextual (maxSteps := 9000000) only [kx, ↓ky, tq22, simprocAttr, hlq', h5, cdA, cd0, kz, stK11ae] | (with_reducible first | refine SB.c (fun _ => ?_) (fun _ => ?_) | refine REG.i ?_ | exact REG.j) | refine CK.dx [7, 2] [] enters43 cA ?_ | refine CK.dx [7, 2] [] enters43 cB ?_ | refine CK.dx [7, 2] [] enters43 cC ?_ | refine CK.dx [7, 2] [] enters43 cD ?_ | with_reducible refine AndI ?_ | omega))
    | false =>
      rw [h5, if_neg (by simp)] at hr0
      cases h6 : a4.2.2 with
      | true =>
        rw [h6, if_pos rfl] at hr0
        subst hr0
        (repeat' (first | simp -implicitDefEqProofs +contextual (maxSteps := 9000000) only [kx, ↓ky, tq22, simprocAttr, hlq', h5, h6, cdA, cd0, kz, stK11ae] | (with_reducible first | refine SB.c (fun _ => ?_) (fun _ => ?_) | refine REG.i ?_ | exact REG.j) | refine CK.dx [7, 2] [] enters43 cA ?_ | refine CK.dx [7, 2] [] enters43 cB ?_ | refine CK.dx [7, 2] [] enters43 cC ?_ | refine CK.dx [7, 2] [] enters43 cD ?_ | with_reducible refine AndI ?_ | omega))
      | false =>
        rw [h6, if_neg (by simp)] at hr0
        subst hr0
        (repeat' (first | simp -implicitDefEqProofs +contextual (maxSteps := 9000000) only [kx, ↓ky, tq22, simprocAttr, hlq', h5, h6, cdA, kz, stK11ae] | (with_reducible first | refine SB.c (fun _ => ?_) (fun _ => ?_) | refine REG.i ?_ | exact REG.j) | refine CK.dx [7, 2] [] enters43 cA ?_ | refine CK.dx [7, 2] [] enters43 cB ?_ | refine CK.dx [7, 2] [] enters43 cC ?_ | refine CK.dx [7, 2] [] enters43 cD ?_ | with_reducible refine AndI ?_ | omega))
end Go.Proofs.YtfinhhblcdkpgaaGreatDoor
