/- A part of the walk (Tryz_X1): its theorems have no condition beyond what they state. -/
import Derived.Test.YtopbicbgolcmpaaGreatDoorW7
import Derived.Test.YtopbicbgolcmpaaGreatDoorM2
import Derived.Test.YtopbicbgolcmpaaGreatDoorN14
import Derived.Test.YtopbicbgolcmpaaGreatDoorN18
import Derived.Test.YtopbicbgolcmpaaGreatDoorLib4
set_option linter.unusedSimpArgs false
set_option linter.unusedVariables false
set_option linter.defProp false
namespace Go.Proofs.YtopbicbgolcmpaaGreatDoor
open Go Go.Abs Go.RowKit
def othT : List TkD := [⟨3, [59], 0, 0⟩, ⟨3, [40], 0, 0⟩, ⟨3, [125], 0, 0⟩, ⟨1, [120], 0, 0⟩, ⟨2, [], 0, 0⟩, ⟨1, [111, 110], 0, 0⟩, ⟨3, [45], 0, 0⟩, ⟨1, [101, 108, 115, 101], 0, 0⟩, ⟨3, [91], 0, 0⟩, ⟨1, [118, 97, 114], 0, 0⟩, ⟨3, [61, 61], 0, 0⟩, ⟨1, [115, 116, 97, 114, 116], 0, 0⟩]
def othR : List (List PVal) := [[.int .i64 3, .str [59], .int .i64 0, .int .i64 0], [.int .i64 3, .str [40], .int .i64 0, .int .i64 0], [.int .i64 3, .str [125], .int .i64 0, .int .i64 0], [.int .i64 1, .str [120], .int .i64 0, .int .i64 0], [.int .i64 2, .str [], .int .i64 0, .int .i64 0], [.int .i64 1, .str [111, 110], .int .i64 0, .int .i64 0], [.int .i64 3, .str [45], .int .i64 0, .int .i64 0], [.int .i64 1, .str [101, 108, 115, 101], .int .i64 0, .int .i64 0], [.int .i64 3, .str [91], .int .i64 0, .int .i64 0], [.int .i64 1, .str [118, 97, 114], .int .i64 0, .int .i64 0], [.int .i64 3, .str [61, 61], .int .i64 0, .int .i64 0], [.int .i64 1, .str [115, 116, 97, 114, 116], .int .i64 0, .int .i64 0]]
theorem othR_eq : othR = othT.map encTk := rfl
theorem othR_len : othR.length = 12 := rfl
def PrT (t : TkD) : Prop := t.value ≤ 9223372036854775807 ∧ (wordT t).length ≤ 5000
theorem oth_pr : ∀ t ∈ othT, PrT t := by
  intro t ht
  simp only [othT, List.mem_cons, List.not_mem_nil, or_false] at ht
  rcases ht with rfl | rfl | rfl | rfl | rfl | rfl | rfl | rfl | rfl | rfl | rfl | rfl <;> exact ⟨by decide, by decide⟩
theorem encTk_all (l : List TkD) : ((l.map encTk).all fun y => y.length == 4) = true := by
  rw [List.all_map]
  refine List.all_eq_true.2 fun x _ => ?_
  simp [encTk]
structure EI where
  i : Nat
  l : List TkD
  hi : i ≤ 7
  hl : l.length ≤ 5000 + i
  hp : ∀ t ∈ l, PrT t
theorem tk_set (l : List TkD) (k : Nat) (t : TkD) (hk : k < l.length) : rowSet (l.map encTk) k 0 [.int .i64 t.kind, .str t.text, .int .i64 t.value, .int .i64 t.pos] = (l.set k t).map encTk := by
  unfold rowSet
  rw [List.map_set]
  simp [List.getD, hk, encTk]
theorem tk_len0 (l : List TkD) (h : 0 < l.length) : ((l.map encTk).getD 0 []).length = 4 := by
  match l, h with
  | t :: r, _ => rfl
theorem scan_pr (s : List UInt8) (hs : s.length ≤ 4096) : (scan s).1.length ≤ 5000 ∧ ∀ t ∈ (scan s).1, PrT t := by
  by_cases h0 : (scan s).2.2 = 0
  · obtain ⟨_, l, h1, h2⟩ := scan_sc s h0
    rw [h2]
    have := h1.len
    refine ⟨by simp only; omega, fun t ht => ?_⟩
    have := h1.vals t ht
    exact ⟨this.1, by omega⟩
  · obtain ⟨h1, h2, h3⟩ := scan_err s h0
    rw [h1]
    exact ⟨by simp, fun t ht => by cases ht⟩
set_option maxRecDepth 100000 in
set_option maxHeartbeats 16000000 in
theorem spoilt_law (cs us : List UInt8) : AC Tryz.prog gl 4 [.pv (.slice (cs.map encB)), .pv (.slice (us.map encB))] [] (.pv (.bool true)) [] := by
  have cA := awake_ac
  have cN := new_ac cs 200 (by omega)
  have hxs : (cs.take 200).length ≤ 1000 := by simp only [List.length_take]; omega
  generalize cs.take 200 = xs at *
  have cP := program_ac xs hxs 0 (by omega)
  have z := programF_sz xs 0
  have g := programF_rg xs 0
  generalize programF xs 0 = r at *
  obtain ⟨p, a⟩ := r
  simp only at cP z g
  have cF := format2_ac p (by omega) g
  have hfl : (fmtF p).1.length ≤ 4096 := by
    unfold fmtF
    split
    · simp
    · split
      · simp
      · simp only; omega
  unfold pgA at cP cF
  generalize hf : fmtF p = f at *
  obtain ⟨s, e⟩ := f
  simp only at cF hfl
  have cS := rscan_ac s
  obtain ⟨hl1, hl2⟩ := scan_pr s hfl
  unfold rS at cS
  generalize scan s = sc at *
  obtain ⟨l, n0, e0⟩ := sc
  simp only at cS hl1 hl2
  have hdef : ([[.int .i64 3, .str [59], .int .i64 0, .int .i64 0], [.int .i64 3, .str [40], .int .i64 0, .int .i64 0], [.int .i64 3, .str [125], .int .i64 0, .int .i64 0], [.int .i64 1, .str [120], .int .i64 0, .int .i64 0], [.int .i64 2, .str [], .int .i64 0, .int .i64 0], [.int .i64 1, .str [111, 110], .int .i64 0, .int .i64 0], [.int .i64 3, .str [45], .int .i64 0, .int .i64 0], [.int .i64 1, .str [101, 108, 115, 101], .int .i64 0, .int .i64 0], [.int .i64 3, .str [91], .int .i64 0, .int .i64 0], [.int .i64 1, .str [118, 97, 114], .int .i64 0, .int .i64 0], [.int .i64 3, .str [61, 61], .int .i64 0, .int .i64 0], [.int .i64 1, .str [115, 116, 97, 114, 116], .int .i64 0, .int .i64 0]] : List (List PVal)) = othR := rfl
  have hall := encTk_all
  have hr0 := roomL l.length 40 (by omega)
  have holn := othR_len
  refine body0 (fun d => if d = 5 then 0 else if d = 40 then 1 else if d = 130 then 2 else if d = 135 then 3 else if d = 87 then 2 else if d = 102 then 3 else if d = 106 then 4 else if d = 15 then 5 else 6) 7 Tryz.func4 rfl Tryz.ntmps4 (by rw [Tryz.results4]) (by simp) ?_
  by_cases he : e = 0
  rotate_left
  · have he' : (e != 0) = true := by simpa using he
    (repeat' (first | simp -implicitDefEqProofs +contextual (maxSteps := 9000000) only [kx, ↓ky, tq4, simprocAttr, he, he', kz] | (with_reducible first | refine SB.c (fun _ => ?_) (fun _ => ?_) | refine REG.i ?_ | exact REG.j) | refine CK.d0 enters6 cA ?_ | refine CK.dx [] [0] enters10 cN ?_ | refine CK.dx [0] [] enters12 cP ?_ | refine CK.d0 enters11 cF ?_ | with_reducible refine AndI ?_ | omega))
  · subst he
    (repeat' (first | simp -implicitDefEqProofs +contextual (maxSteps := 9000000) only [kx, ↓ky, tq4, simprocAttr, hdef, hall, hr0, kz] | (with_reducible first | refine SB.c (fun _ => ?_) (fun _ => ?_) | refine REG.i ?_ | exact REG.j) | refine CK.d0 enters6 cA ?_ | refine CK.dx [] [0] enters10 cN ?_ | refine CK.dx [0] [] enters12 cP ?_ | refine CK.d0 enters11 cF ?_ | refine CK.d0 enters13 cS ?_ | with_reducible refine AndI ?_ | omega))
    refine loopS (ι := EI) (fun i => ⟨(.junk :: .pv (.slice (us.map encB)) :: .junk :: .junk :: .junk :: .junk :: .junk :: .junk :: .row 1 i.l.length :: .junk :: .junk :: .pv (.slice othR) :: .pv (.int .i64 i.i) :: .junk :: .junk :: .junk :: .junk :: .junk :: .junk :: .junk :: .junk :: .junk :: .junk :: .junk :: .junk :: .junk :: .junk :: .junk :: .junk :: .junk :: .junk :: .junk :: .junk :: .junk :: .junk :: .junk :: .junk :: .junk :: .junk :: .junk :: .junk :: .junk :: .junk :: .junk :: .junk :: .junk :: .junk :: .junk :: .junk :: .junk :: .junk :: .junk :: .junk :: .junk :: .junk :: .junk :: .junk :: .junk :: .junk :: .junk :: .junk :: .junk :: .junk :: .junk :: .junk :: .junk :: .junk :: .junk :: .junk :: .junk :: .junk :: .junk :: .junk :: .junk :: .junk :: .junk :: .junk :: .junk :: .junk :: .junk :: .junk :: .junk :: .junk :: .junk :: .junk :: .junk :: .junk :: .junk :: .junk :: .junk :: .junk :: .junk :: .junk :: .junk :: .junk :: .junk :: .junk :: .junk :: .junk :: .junk :: .junk :: .junk :: .junk :: .junk :: .junk :: .junk :: .junk :: .junk :: .junk :: .junk :: .junk :: .junk :: .junk :: .junk :: .junk :: .junk :: .junk :: .junk :: .junk :: .junk :: .junk :: .junk :: .junk :: .junk :: .junk :: .junk :: .junk :: .junk :: .junk :: .junk :: .junk :: .junk :: .junk :: .junk :: .junk :: .junk :: .junk :: .junk :: .junk :: .junk :: .junk :: .junk :: .junk :: .junk :: .junk :: .junk :: .junk :: .junk :: .junk :: .junk :: .junk :: .junk :: .junk :: .junk :: .junk :: .junk :: .junk :: .junk :: .junk :: .junk :: .junk :: .junk :: .junk :: []), [none, some (.row 4 (i.l.map encTk)), none, none, none, none, none]⟩) (fun i => 8 - i.i) ⟨0, l, by omega, by omega, hl2⟩ WFn ?_
    clear hr0 hl1 hl2 cS cF cP cN cA hf
    rintro ⟨i, l, hi, hl, hp⟩
    have hw1 := wrapS i (by omega)
    have hw2 : IntKind.i64.wrap ((i : Int) + 2) = ((i + 2 : Nat) : Int) := by rw [wrap64 _ (by omega) (by omega)]; omega
    have cPr := rprint_ac l (by omega) (fun t ht => (hp t ht).1) (by
      have h1 := print_len l 5000 (fun t ht => (hp t ht).2)
      have h2 : (5000 + 1) * l.length ≤ (5000 + 1) * 5008 := Nat.mul_le_mul_left _ (by omega)
      omega)
    generalize printF l = tx at *
    have d1 := Parse_ac tx
    have d2 := rParse_ac tx
    have d3 := sameP_ac (parF tx).1 (parF_sz tx)
    unfold rP at d1 d2
    unfold pgA at d1 d2 d3
    generalize parF tx = rr at *
    by_cases c1 : i + 1 < us.length
    rotate_left
    · have c1' : ¬ ((i + 1 : Nat) : Int) < us.length := by omega
      clear hall holn hdef
      (refine SW.weak (Weak.freeze 1 rfl) ?_; simp only [St.frz, frzL, frz, frzO, List.map_cons, List.map_nil, List.set_cons_zero, List.set_cons_succ, List.length_map, List.length_append, List.length_cons, List.length_nil, if_true, if_false, ↓reduceIte, Nat.reduceEqDiff, eq_self, reduceCtorEq, Nat.succ_ne_self])
      refine toV ?_
      (repeat' (first | simp -implicitDefEqProofs +contextual (maxSteps := 9000000) only [kx, ↓ky, tq4, simprocAttr, hw1, c1'] | (with_reducible first | refine SB.c (fun _ => ?_) (fun _ => ?_) | refine REG.i ?_ | exact REG.j) | refine CK.d0 enters14 cPr ?_ | refine CK.d0 enters7 d1 ?_ | refine CK.d0 enters8 d2 ?_ | refine CK.d0 enters9 d3 ?_ | with_reducible refine AndI ?_ | omega))
    have c1' : ((i + 1 : Nat) : Int) < us.length := by omega
    by_cases c2 : i < 6
    rotate_left
    · have c2' : ¬ (i : Int) < 6 := by omega
      clear hall holn hdef
      (refine SW.weak (Weak.freeze 1 rfl) ?_; simp only [St.frz, frzL, frz, frzO, List.map_cons, List.map_nil, List.set_cons_zero, List.set_cons_succ, List.length_map, List.length_append, List.length_cons, List.length_nil, if_true, if_false, ↓reduceIte, Nat.reduceEqDiff, eq_self, reduceCtorEq, Nat.succ_ne_self])
      refine toV ?_
      (repeat' (first | simp -implicitDefEqProofs +contextual (maxSteps := 9000000) only [kx, ↓ky, tq4, simprocAttr, hw1, c1', c2'] | (with_reducible first | refine SB.c (fun _ => ?_) (fun _ => ?_) | refine REG.i ?_ | exact REG.j) | refine CK.d0 enters14 cPr ?_ | refine CK.d0 enters7 d1 ?_ | refine CK.d0 enters8 d2 ?_ | refine CK.d0 enters9 d3 ?_ | with_reducible refine AndI ?_ | omega))
    have c2' : (i : Int) < 6 := by omega
    by_cases c3 : 0 < l.length
    rotate_left
    · have c3' : ¬ (l.length : Int) > 0 := by omega
      clear hall holn hdef
      (refine SW.weak (Weak.freeze 1 rfl) ?_; simp only [St.frz, frzL, frz, frzO, List.map_cons, List.map_nil, List.set_cons_zero, List.set_cons_succ, List.length_map, List.length_append, List.length_cons, List.length_nil, if_true, if_false, ↓reduceIte, Nat.reduceEqDiff, eq_self, reduceCtorEq, Nat.succ_ne_self])
      refine toV ?_
      (repeat' (first | simp -implicitDefEqProofs +contextual (maxSteps := 9000000) only [kx, ↓ky, tq4, simprocAttr, hw1, c1', c2', c3'] | (with_reducible first | refine SB.c (fun _ => ?_) (fun _ => ?_) | refine REG.i ?_ | exact REG.j) | refine CK.d0 enters14 cPr ?_ | refine CK.d0 enters7 d1 ?_ | refine CK.d0 enters8 d2 ?_ | refine CK.d0 enters9 d3 ?_ | with_reducible refine AndI ?_ | omega))
    have c3' : (l.length : Int) > 0 := by omega
    clear cPr d1 d2 d3
    have hgx : (us.map encB).getD i [] = [.int .u8 ((us.getD i 0).toNat : Int)] := by simp [List.getD, show i < us.length by omega, encB]
    have hgy : (us.map encB).getD (i + 1) [] = [.int .u8 ((us.getD (i + 1) 0).toNat : Int)] := by simp [List.getD, c1, encB]
    have hx := (us.getD i 0).toNat_lt
    have hy := (us.getD (i + 1) 0).toNat_lt
    generalize (us.getD i 0).toNat = x at *
    generalize (us.getD (i + 1) 0).toNat = y at *
    have hx64 : IntKind.i64.wrap (x : Int) = x := wrap64 _ (by omega) (by omega)
    have e4 : ¬ (l.length : Int) = 0 := by omega
    obtain ⟨k, hk⟩ := Int.eq_ofNat_of_zero_le (Int.tmod_nonneg (l.length : Int) (show 0 ≤ (x : Int) by omega))
    have hkl : k < l.length := by
      have := Int.tmod_lt_of_pos (x : Int) (show 0 < (l.length : Int) by omega)
      omega
    obtain ⟨q, hq⟩ := Int.eq_ofNat_of_zero_le (Int.tdiv_nonneg (show 0 ≤ (y : Int) by omega) (show 0 ≤ (3 : Int) by omega))
    have hq85 : q ≤ 85 := by
      have := Int.tdiv_eq_ediv_of_nonneg (show 0 ≤ (y : Int) by omega) (b := 3)
      omega
    have hq8 : IntKind.u8.wrap (q : Int) = q := IntWalk.u8_in _ ⟨by omega, by omega⟩
    have hq64 : IntKind.i64.wrap (q : Int) = q := wrap64 _ (by omega) (by omega)
    obtain ⟨j, hj⟩ := Int.eq_ofNat_of_zero_le (Int.tmod_nonneg (12 : Int) (show 0 ≤ (q : Int) by omega))
    have hj12 : j < 12 := by
      have := Int.tmod_lt_of_pos (q : Int) (show 0 < (12 : Int) by omega)
      omega
    have hT : ∃ T ∈ othT, othR.getD j [] = [.int .i64 T.kind, .str T.text, .int .i64 T.value, .int .i64 T.pos] := by
      have h12 : j < othT.length := hj12
      refine ⟨othT[j], List.getElem_mem h12, ?_⟩
      rw [othR_eq]
      simp [List.getD, h12, encTk]
    obtain ⟨T, hTm, hTg⟩ := hT
    have hTp := oth_pr T hTm
    have hm0 := Int.tmod_nonneg (3 : Int) (show 0 ≤ (y : Int) by omega)
    have hm3 := Int.tmod_lt_of_pos (y : Int) (show 0 < (3 : Int) by omega)
    have hkl' : (k : Int) < l.length := by omega
    have hk1 : IntKind.i64.wrap ((k : Int) + 1) = ((k + 1 : Nat) : Int) := wrapS k (by omega)
    rcases (show (y : Int).tmod 3 = 0 ∨ (y : Int).tmod 3 = 1 ∨ (y : Int).tmod 3 = 2 by omega) with hm | hm | hm
    · have hset := tk_set l k T hkl
      refine toV ?_
      (repeat' (first | simp -implicitDefEqProofs +contextual (maxSteps := 9000000) only [kx, ↓ky, tq4, simprocAttr, hw1, hw2, c1', c2', c3', hgx, hgy, hx64, e4, hk, hq, hq8, hq64, hj, hTg, hm, hkl, hj12, holn, hset] | (with_reducible first | refine SB.c (fun _ => ?_) (fun _ => ?_) | refine REG.i ?_ | exact REG.j) | with_reducible refine AndI ?_ | omega))
      exact ⟨⟨i + 2, l.set k T, by omega, by simp only [List.length_set]; omega, fun t ht => by
        rcases List.mem_or_eq_of_mem_set ht with h | h
        · exact hp t h
        · exact h ▸ hTp⟩, (WFe (by simp [kwf, hset, List.length_set]) (by simp [kwf, hset, List.length_set])), by show 8 - (i + 2) < 8 - i; omega⟩
    · have h0 := tk_len0 l c3
      have ha1 : min k l.length = k := by omega
      have ha2 : (k : Int) ≤ l.length := by omega
      have ha3 : ((k + 1 : Nat) : Int) ≤ l.length := by omega
      have hr1 := roomL k 40 (by omega)
      have hr2 := roomL (k + (l.length - (k + 1))) 40 (by omega)
      (refine SW.weak (Weak.freeze 1 rfl) ?_; simp only [St.frz, frzL, frz, frzO, List.map_cons, List.map_nil, List.set_cons_zero, List.set_cons_succ, List.length_map, List.length_append, List.length_cons, List.length_nil, if_true, if_false, ↓reduceIte, Nat.reduceEqDiff, eq_self, reduceCtorEq, Nat.succ_ne_self])
      refine toV ?_
      (repeat' (first | simp -implicitDefEqProofs +contextual (maxSteps := 9000000) only [kx, ↓ky, tq4, simprocAttr, hw1, hw2, c1', c2', c3', hgx, hgy, hx64, e4, hk, hk1, hm, hkl, holn, h0, ha1, ha2, ha3, hr1, hr2, hall, ← List.map_take, ← List.map_drop, List.drop_zero, List.length_take, List.length_drop, Nat.min_self] | (with_reducible first | refine SB.c (fun _ => ?_) (fun _ => ?_) | refine REG.i ?_ | exact REG.j) | with_reducible refine AndI ?_ | omega))
      exact ⟨⟨i + 2, l.take k ++ l.drop (k + 1), by omega, by simp only [List.length_append, List.length_take, List.length_drop]; omega, fun t ht => by
        rcases List.mem_append.1 ht with h | h
        · exact hp t (List.mem_of_mem_take h)
        · exact hp t (List.mem_of_mem_drop h)⟩, (WTe [0, 3, 2, 1, 4, 5, 6] (by simp [kwt, List.map_append, List.length_append, List.length_take, List.length_drop, ha1]) (by simp [kwt, List.map_append, List.length_append, List.length_take, List.length_drop, ha1])), by show 8 - (i + 2) < 8 - i; omega⟩
    · have h0 := tk_len0 l c3
      have ha1 : min k l.length = k := by omega
      have ha2 : (k : Int) ≤ l.length := by omega
      have hr1 := roomL k 40 (by omega)
      have hr2 := roomL (k + 1) 40 (by omega)
      have hr3 := roomL (k + 1 + (l.length - k)) 40 (by omega)
      have h6 : k + 1 + (l.length - k) = k + (l.length - k + 1) := by omega
      have h5 : ((l.take k).map encTk ++ [[PVal.int .i64 T.kind, .str T.text, .int .i64 T.value, .int .i64 T.pos]]).length = k + 1 := by simp only [List.length_append, List.length_map, List.length_take, List.length_cons, List.length_nil]; omega
      (refine SW.weak (Weak.freeze 1 rfl) ?_; simp only [St.frz, frzL, frz, frzO, List.map_cons, List.map_nil, List.set_cons_zero, List.set_cons_succ, List.length_map, List.length_append, List.length_cons, List.length_nil, if_true, if_false, ↓reduceIte, Nat.reduceEqDiff, eq_self, reduceCtorEq, Nat.succ_ne_self])
      refine toV ?_
      (repeat' (first | simp -implicitDefEqProofs +contextual (maxSteps := 9000000) only [kx, ↓ky, tq4, simprocAttr, hw1, hw2, c1', c2', c3', hgx, hgy, hx64, e4, hk, hq, hq8, hq64, hj, hTg, hm, hkl, hj12, holn, h0, ha1, ha2, hr1, hr2, hr3, h5, hall, ← List.map_take, ← List.map_drop, List.drop_zero, List.length_take, List.length_drop, Nat.min_self] | (with_reducible first | refine SB.c (fun _ => ?_) (fun _ => ?_) | refine REG.i ?_ | exact REG.j) | with_reducible refine AndI ?_ | omega))
      exact ⟨⟨i + 2, l.take k ++ [T] ++ l.drop k, by omega, by simp only [List.length_append, List.length_take, List.length_drop, List.length_cons, List.length_nil]; omega, fun t ht => by
        rcases List.mem_append.1 ht with h | h
        · rcases List.mem_append.1 h with h | h
          · exact hp t (List.mem_of_mem_take h)
          · rw [List.mem_singleton.1 h]; exact hTp
        · exact hp t (List.mem_of_mem_drop h)⟩, (WTe [0, 4, 2, 3, 1, 5, 6] (by simp [kwt, List.map_append, List.length_append, List.length_take, List.length_drop, ha1, encTk, h6]) (by simp [kwt, List.map_append, List.length_append, List.length_take, List.length_drop, ha1, encTk, h6])), by show 8 - (i + 2) < 8 - i; omega⟩
end Go.Proofs.YtopbicbgolcmpaaGreatDoor
