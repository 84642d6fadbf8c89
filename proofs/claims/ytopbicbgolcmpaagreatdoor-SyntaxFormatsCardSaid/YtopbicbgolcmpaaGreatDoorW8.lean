/- A part of the walk (Tryz_W8): its theorems have no condition beyond what they state. -/
import Derived.Test.YtopbicbgolcmpaaGreatDoorM2
import Derived.Test.YtopbicbgolcmpaaGreatDoorW7
import Derived.Test.YtopbicbgolcmpaaGreatDoorLib3
import Derived.Test.YtopbicbgolcmpaaGreatDoorLib4
set_option linter.unusedSimpArgs false
set_option linter.unusedVariables false
set_option linter.defProp false
namespace Go.Proofs.YtopbicbgolcmpaaGreatDoor
open Go Go.Abs Go.RowKit
theorem expr1_ac (xs : List UInt8) (hxs : xs.length ≤ 1000) (a : Nat) (ha : a ≤ xs.length) : AC Tryz.prog gl 32 [.ref 0 0, .pv (.int .i64 1)] (cdO xs a) (exA (exprF xs 1 a).1) (cdO xs (exprF xs 1 a).2) := expr_ac xs hxs 1 (by omega) a ha
theorem expr2_ac (xs : List UInt8) (hxs : xs.length ≤ 1000) (a : Nat) (ha : a ≤ xs.length) : AC Tryz.prog gl 32 [.ref 0 0, .pv (.int .i64 2)] (cdO xs a) (exA (exprF xs 2 a).1) (cdO xs (exprF xs 2 a).2) := expr_ac xs hxs 2 (by omega) a ha
theorem stmts1_ac (xs : List UInt8) (hxs : xs.length ≤ 1000) (a : Nat) (ha : a ≤ xs.length) : AC Tryz.prog gl 28 [.ref 0 0, .pv (.int .i64 1), .pv (.int .i64 1)] (cdO xs a) (.pv (.slice ((stmtsF xs 1 1 a).1.map encSm))) (cdO xs (stmtsF xs 1 1 a).2) := stmts_ac xs hxs 1 (by omega) 1 a (by omega) (by omega) ha
theorem exprF_sz1 (xs : List UInt8) (a : Nat) : szE (exprF xs 1 a).1 ≤ 1000 := by
  have h := exprF_sz xs 1 a
  have e : eB 1 ≤ 400 := by decide
  omega
theorem exprF_sz2 (xs : List UInt8) (a : Nat) : szE (exprF xs 2 a).1 ≤ 1000 := by
  have h := exprF_sz xs 2 a
  have e : eB 2 ≤ 400 := by decide
  omega
theorem all_encSm (l : List Sm) : ((l.map encSm).all fun y => y.length == 18) = true := by
  rw [List.all_map]
  refine List.all_eq_true.2 fun x _ => ?_
  simp [encSm_length]
theorem all_encVar (l : List VarD) : ((l.map encVar).all fun y => y.length == 3) = true := by
  rw [List.all_map]
  refine List.all_eq_true.2 fun x _ => ?_
  simp [encVar]
theorem stmts1_sz (xs : List UInt8) (a : Nat) : szSs (stmtsF xs 1 1 a).1 ≤ 100000 := by
  have h : szSs (stmtsF xs 1 1 a).1 ≤ 1 * sB 2 := stmtsF_sz xs 1 1 a
  have e : sB 2 ≤ 50000 := by decide
  omega
theorem toPs_map : ∀ l : List PVal, toPs (l.map .pv) = some l
  | [] => rfl
  | p :: r => by simp [toPs, AVal.toP, toPs_map r]
theorem nextE (xs : List UInt8) (hxs : xs.length ≤ 1000) (n : Int) (h0 : 0 < n) (hn : n ≤ 200) (a : Nat) (ha : a ≤ xs.length) : ∃ (v : Nat) (a' : Nat), a' ≤ xs.length ∧ (v : Int) < n ∧ AC Tryz.prog gl 27 [.ref 0 0, .pv (.int .i64 n)] (cdO xs a) (.pv (.int .i64 v)) (cdO xs a') := by
  have h := nxt_lt xs a n h0
  refine ⟨(nxt xs a n).1.toNat, (nxt xs a n).2, nxt_le _ _ _ ha, by omega, ?_⟩
  rw [Int.toNat_of_nonneg h.1]
  exact cnx_ac xs a n h0 (by omega) (by omega)
theorem nameE (xs : List UInt8) (hxs : xs.length ≤ 1000) (a : Nat) (ha : a ≤ xs.length) : ∃ (v : List UInt8) (a' : Nat), a' ≤ xs.length ∧ AC Tryz.prog gl 31 [.ref 0 0] (cdO xs a) (.pv (.str v)) (cdO xs a') :=
  ⟨_, _, nameF_le xs a ha, name_ac xs hxs a ha⟩
theorem intE (xs : List UInt8) (hxs : xs.length ≤ 1000) (a : Nat) (ha : a ≤ xs.length) : ∃ (v : Int) (a' : Nat), a' ≤ xs.length ∧ rg64 v = true ∧ AC Tryz.prog gl 33 [.ref 0 0] (cdO xs a) (.pv (.int .i64 v)) (cdO xs a') :=
  ⟨_, _, intF_le xs a ha, intF_rg64 xs a, int_ac xs hxs a ha⟩
theorem expr1E (xs : List UInt8) (hxs : xs.length ≤ 1000) (a : Nat) (ha : a ≤ xs.length) : ∃ (v : Ex) (a' : Nat), a' ≤ xs.length ∧ rgE v = true ∧ szE v ≤ 1000 ∧ AC Tryz.prog gl 32 [.ref 0 0, .pv (.int .i64 1)] (cdO xs a) (exA v) (cdO xs a') :=
  ⟨_, _, exprF_le xs 1 a ha, exprF_rg xs 1 a, exprF_sz1 xs a, expr1_ac xs hxs a ha⟩
theorem expr2E (xs : List UInt8) (hxs : xs.length ≤ 1000) (a : Nat) (ha : a ≤ xs.length) : ∃ (v : Ex) (a' : Nat), a' ≤ xs.length ∧ rgE v = true ∧ szE v ≤ 1000 ∧ AC Tryz.prog gl 32 [.ref 0 0, .pv (.int .i64 2)] (cdO xs a) (exA v) (cdO xs a') :=
  ⟨_, _, exprF_le xs 2 a ha, exprF_rg xs 2 a, exprF_sz2 xs a, expr2_ac xs hxs a ha⟩
theorem stmts1E (xs : List UInt8) (hxs : xs.length ≤ 1000) (a : Nat) (ha : a ≤ xs.length) : ∃ (v : List Sm) (a' : Nat), a' ≤ xs.length ∧ rgSs v = true ∧ szSs v ≤ 100000 ∧ AC Tryz.prog gl 28 [.ref 0 0, .pv (.int .i64 1), .pv (.int .i64 1)] (cdO xs a) (.pv (.slice (v.map encSm))) (cdO xs a') :=
  ⟨_, _, stmtsF_le xs 1 1 a ha, stmtsF_rg xs 1 1 a, stmts1_sz xs a, stmts1_ac xs hxs a ha⟩
set_option maxRecDepth 100000 in
set_option maxHeartbeats 32000000 in
theorem bad_ac (xs : List UInt8) (hxs : xs.length ≤ 1000) (a : Nat) (ha : a ≤ xs.length) (p : PgD) (hp : szP p ≤ 100000) (hr : rgP p = true) :
    ∃ (p' : PgD) (a' : Nat), a' ≤ xs.length ∧ szP p' ≤ 1000000 ∧ rgP p' = true ∧ AC Tryz.prog gl 15 [.ref 0 0, pgA p] (cdO xs a) (pgA p') (cdO xs a') := by
  have hL : ∃ r : Nat × Nat, deepL xs 20 0 a = r ∧ r.1 ≤ 20 ∧ r.2 ≤ xs.length := ⟨_, rfl, deepL_1 xs 20 0 a (by omega), deepL_2 xs 20 0 a ha⟩
  obtain ⟨⟨nD, aD⟩, hD, hD1, hD2⟩ := hL
  replace hD1 : nD ≤ 20 := hD1
  replace hD2 : aD ≤ xs.length := hD2
  have dR := deepE_rg nD
  have dS := deepE_sz nD
  obtain ⟨q1, a1, l1, b1, c1⟩ := nextE xs hxs 9 (by omega) (by omega) aD hD2
  obtain ⟨m1, a2, l2, c2⟩ := nameE xs hxs a1 l1
  obtain ⟨e1, a3, l3, r1, s1, c3⟩ := expr2E xs hxs a2 l2
  obtain ⟨e2, a4, l4, r2, s2, c4⟩ := expr1E xs hxs a3 l3
  obtain ⟨q2, a5, l5, b2, c5⟩ := nextE xs hxs 25 (by omega) (by omega) a4 l4
  obtain ⟨e3, a6, l6, r3, s3, c6⟩ := expr1E xs hxs a5 l5
  obtain ⟨st, a7, l7, r4, s4, c7⟩ := stmts1E xs hxs a6 l6
  obtain ⟨q3, a8, l8, b3, c8⟩ := nextE xs hxs 2 (by omega) (by omega) a7 l7
  obtain ⟨e4, a9, l9, r5, s5, c9⟩ := expr1E xs hxs a8 l8
  obtain ⟨q4, a10, l10, b4, c10⟩ := nextE xs hxs 2 (by omega) (by omega) a9 l9
  obtain ⟨e5, a11, l11, r6, s6, c11⟩ := expr1E xs hxs a10 l10
  obtain ⟨i1, a12, l12, r7, c12⟩ := intE xs hxs a11 l11
  obtain ⟨e6, a13, l13, r8, s8, c13⟩ := expr1E xs hxs a12 l12
  obtain ⟨e7, a14, l14, r9, s9, c14⟩ := expr1E xs hxs a13 l13
  obtain ⟨q5, a15, l15, b5, c15⟩ := nextE xs hxs 3 (by omega) (by omega) a14 l14
  obtain ⟨e8, a16, l16, r10, s10, c16⟩ := expr1E xs hxs a15 l15
  obtain ⟨m2, a17, l17, c17⟩ := nameE xs hxs a16 l16
  obtain ⟨e9, a18, l18, r11, s11, c18⟩ := expr1E xs hxs a17 l17
  obtain ⟨e10, a19, l19, r12, s12, c19⟩ := expr1E xs hxs a18 l18
  obtain ⟨k, a20, l20, b6, c20⟩ := nextE xs hxs 12 (by omega) (by omega) a19 l19
  have hx : ∀ z : Nat × Nat, z = (nD, aD) → z.1 = nD ∧ z.2 = aD := fun z h => by subst h; exact ⟨rfl, rfl⟩
  have hal : p.vars.length ≤ 100000 := by unfold szP at hp; omega
  have htk : p.tick.length ≤ 100000 := by have := szSs_len p.tick; unfold szP at hp; omega
  have hA1 := all_encSm p.tick
  have hA2 := all_encVar p.vars
  have w1 : IntKind.i64.wrap ((q1 : Int) - 1) = (q1 : Int) - 1 := wrap64 _ (by omega) (by omega)
  have w2 : IntKind.i64.wrap ((q2 : Int) - 1) = (q2 : Int) - 1 := wrap64 _ (by omega) (by omega)
  have hr1 := roomL (p.tick.length) 232 (by omega)
  have hr2 := roomL (p.tick.length + 1) 232 (by omega)
  have hr3 := roomL (p.vars.length) 32 (by omega)
  have hr4 := roomL (p.vars.length + 1) 32 (by omega)
  unfold rgP at hr
  simp only [Bool.and_eq_true] at hr
  obtain ⟨⟨⟨⟨hrv, g1⟩, g2⟩, g3⟩, g4⟩ := hr
  unfold szP at hp
  have hST : k < 9 → ∃ (S : Sm) (R : List PVal), encSm S = R ∧ R.length = 18 ∧ rgS S = true ∧ szS S ≤ 200000 ∧ ∀ i, i = nD → ([[PVal.int .i64 ((q1 : Int) - 1), PVal.str m1, PVal.int .i64 0, PVal.int .i64 0, PVal.int .i64 0, PVal.int .i64 0, PVal.str [], PVal.int .i64 0, PVal.int .i64 0, PVal.slice [], PVal.int .i64 e1.op, PVal.int .i64 e1.value, PVal.str e1.name, PVal.int .i64 e1.slot, PVal.int .i64 e1.size, PVal.slice (List.map encEx e1.args), PVal.slice [], PVal.slice []], [PVal.int .i64 5, PVal.str [], PVal.int .i64 0, PVal.int .i64 0, PVal.int .i64 e2.op, PVal.int .i64 e2.value, PVal.str e2.name, PVal.int .i64 e2.slot, PVal.int .i64 e2.size, PVal.slice (List.map encEx e2.args), PVal.int .i64 ((q2 : Int) - 1), PVal.int .i64 0, PVal.str [], PVal.int .i64 0, PVal.int .i64 0, PVal.slice [], PVal.slice [], PVal.slice []], [PVal.int .i64 1, PVal.str [120], PVal.int .i64 0, PVal.int .i64 0, PVal.int .i64 0, PVal.int .i64 0, PVal.str [], PVal.int .i64 0, PVal.int .i64 0, PVal.slice [], PVal.int .i64 (deepE i).op, PVal.int .i64 (deepE i).value, PVal.str (deepE i).name, PVal.int .i64 (deepE i).slot, PVal.int .i64 (deepE i).size, PVal.slice (List.map encEx (deepE i).args), PVal.slice [], PVal.slice []], [PVal.int .i64 4, PVal.str [], PVal.int .i64 0, PVal.int .i64 0, PVal.int .i64 0, PVal.int .i64 0, PVal.str [], PVal.int .i64 0, PVal.int .i64 0, PVal.slice [], PVal.int .i64 e3.op, PVal.int .i64 e3.value, PVal.str e3.name, PVal.int .i64 e3.slot, PVal.int .i64 e3.size, PVal.slice (List.map encEx e3.args), PVal.slice [], PVal.slice (List.map encSm st)], [PVal.int .i64 1, PVal.str [120], PVal.int .i64 (q3 : Int), PVal.int .i64 0, PVal.int .i64 0, PVal.int .i64 0, PVal.str [], PVal.int .i64 0, PVal.int .i64 0, PVal.slice [], PVal.int .i64 e4.op, PVal.int .i64 e4.value, PVal.str e4.name, PVal.int .i64 e4.slot, PVal.int .i64 e4.size, PVal.slice (List.map encEx e4.args), PVal.slice [], PVal.slice []], [PVal.int .i64 6, PVal.str [], PVal.int .i64 0, PVal.int .i64 0, PVal.int .i64 (q4 : Int), PVal.int .i64 0, PVal.str [], PVal.int .i64 0, PVal.int .i64 0, PVal.slice [], PVal.int .i64 e5.op, PVal.int .i64 e5.value, PVal.str e5.name, PVal.int .i64 e5.slot, PVal.int .i64 e5.size, PVal.slice (List.map encEx e5.args), PVal.slice [], PVal.slice []], [PVal.int .i64 6, PVal.str [], PVal.int .i64 0, PVal.int .i64 0, PVal.int .i64 0, PVal.int .i64 0, PVal.str [], PVal.int .i64 0, PVal.int .i64 0, PVal.slice [], PVal.int .i64 1, PVal.int .i64 i1, PVal.str [], PVal.int .i64 0, PVal.int .i64 0, PVal.slice [], PVal.slice [], PVal.slice []], [PVal.int .i64 6, PVal.str [], PVal.int .i64 0, PVal.int .i64 0, PVal.int .i64 0, PVal.int .i64 0, PVal.str [], PVal.int .i64 0, PVal.int .i64 0, PVal.slice [], PVal.int .i64 8, PVal.int .i64 0, PVal.str [], PVal.int .i64 0, PVal.int .i64 0, PVal.slice (List.take q5 [[PVal.int .i64 e6.op, PVal.int .i64 e6.value, PVal.str e6.name, PVal.int .i64 e6.slot, PVal.int .i64 e6.size, PVal.slice (List.map encEx e6.args)], [PVal.int .i64 e7.op, PVal.int .i64 e7.value, PVal.str e7.name, PVal.int .i64 e7.slot, PVal.int .i64 e7.size, PVal.slice (List.map encEx e7.args)]]), PVal.slice [], PVal.slice []], [PVal.int .i64 3, PVal.str [], PVal.int .i64 0, PVal.int .i64 0, PVal.int .i64 0, PVal.int .i64 0, PVal.str [], PVal.int .i64 0, PVal.int .i64 0, PVal.slice [], PVal.int .i64 e8.op, PVal.int .i64 e8.value, PVal.str e8.name, PVal.int .i64 e8.slot, PVal.int .i64 e8.size, PVal.slice (List.map encEx e8.args), PVal.slice [[PVal.int .i64 2, PVal.str m2, PVal.int .i64 0, PVal.int .i64 0, PVal.int .i64 e9.op, PVal.int .i64 e9.value, PVal.str e9.name, PVal.int .i64 e9.slot, PVal.int .i64 e9.size, PVal.slice (List.map encEx e9.args), PVal.int .i64 e10.op, PVal.int .i64 e10.value, PVal.str e10.name, PVal.int .i64 e10.slot, PVal.int .i64 e10.size, PVal.slice (List.map encEx e10.args), PVal.slice [], PVal.slice []]], PVal.slice []]] : List (List PVal)).getD k [] = R := fun hk => by
    obtain ⟨D, hDe⟩ : ∃ D, D = deepE nD := ⟨_, rfl⟩
    rw [← hDe] at dR dS
    have hE : ([[PVal.int .i64 ((q1 : Int) - 1), PVal.str m1, PVal.int .i64 0, PVal.int .i64 0, PVal.int .i64 0, PVal.int .i64 0, PVal.str [], PVal.int .i64 0, PVal.int .i64 0, PVal.slice [], PVal.int .i64 e1.op, PVal.int .i64 e1.value, PVal.str e1.name, PVal.int .i64 e1.slot, PVal.int .i64 e1.size, PVal.slice (List.map encEx e1.args), PVal.slice [], PVal.slice []], [PVal.int .i64 5, PVal.str [], PVal.int .i64 0, PVal.int .i64 0, PVal.int .i64 e2.op, PVal.int .i64 e2.value, PVal.str e2.name, PVal.int .i64 e2.slot, PVal.int .i64 e2.size, PVal.slice (List.map encEx e2.args), PVal.int .i64 ((q2 : Int) - 1), PVal.int .i64 0, PVal.str [], PVal.int .i64 0, PVal.int .i64 0, PVal.slice [], PVal.slice [], PVal.slice []], [PVal.int .i64 1, PVal.str [120], PVal.int .i64 0, PVal.int .i64 0, PVal.int .i64 0, PVal.int .i64 0, PVal.str [], PVal.int .i64 0, PVal.int .i64 0, PVal.slice [], PVal.int .i64 D.op, PVal.int .i64 D.value, PVal.str D.name, PVal.int .i64 D.slot, PVal.int .i64 D.size, PVal.slice (List.map encEx D.args), PVal.slice [], PVal.slice []], [PVal.int .i64 4, PVal.str [], PVal.int .i64 0, PVal.int .i64 0, PVal.int .i64 0, PVal.int .i64 0, PVal.str [], PVal.int .i64 0, PVal.int .i64 0, PVal.slice [], PVal.int .i64 e3.op, PVal.int .i64 e3.value, PVal.str e3.name, PVal.int .i64 e3.slot, PVal.int .i64 e3.size, PVal.slice (List.map encEx e3.args), PVal.slice [], PVal.slice (List.map encSm st)], [PVal.int .i64 1, PVal.str [120], PVal.int .i64 (q3 : Int), PVal.int .i64 0, PVal.int .i64 0, PVal.int .i64 0, PVal.str [], PVal.int .i64 0, PVal.int .i64 0, PVal.slice [], PVal.int .i64 e4.op, PVal.int .i64 e4.value, PVal.str e4.name, PVal.int .i64 e4.slot, PVal.int .i64 e4.size, PVal.slice (List.map encEx e4.args), PVal.slice [], PVal.slice []], [PVal.int .i64 6, PVal.str [], PVal.int .i64 0, PVal.int .i64 0, PVal.int .i64 (q4 : Int), PVal.int .i64 0, PVal.str [], PVal.int .i64 0, PVal.int .i64 0, PVal.slice [], PVal.int .i64 e5.op, PVal.int .i64 e5.value, PVal.str e5.name, PVal.int .i64 e5.slot, PVal.int .i64 e5.size, PVal.slice (List.map encEx e5.args), PVal.slice [], PVal.slice []], [PVal.int .i64 6, PVal.str [], PVal.int .i64 0, PVal.int .i64 0, PVal.int .i64 0, PVal.int .i64 0, PVal.str [], PVal.int .i64 0, PVal.int .i64 0, PVal.slice [], PVal.int .i64 1, PVal.int .i64 i1, PVal.str [], PVal.int .i64 0, PVal.int .i64 0, PVal.slice [], PVal.slice [], PVal.slice []], [PVal.int .i64 6, PVal.str [], PVal.int .i64 0, PVal.int .i64 0, PVal.int .i64 0, PVal.int .i64 0, PVal.str [], PVal.int .i64 0, PVal.int .i64 0, PVal.slice [], PVal.int .i64 8, PVal.int .i64 0, PVal.str [], PVal.int .i64 0, PVal.int .i64 0, PVal.slice (List.take q5 [[PVal.int .i64 e6.op, PVal.int .i64 e6.value, PVal.str e6.name, PVal.int .i64 e6.slot, PVal.int .i64 e6.size, PVal.slice (List.map encEx e6.args)], [PVal.int .i64 e7.op, PVal.int .i64 e7.value, PVal.str e7.name, PVal.int .i64 e7.slot, PVal.int .i64 e7.size, PVal.slice (List.map encEx e7.args)]]), PVal.slice [], PVal.slice []], [PVal.int .i64 3, PVal.str [], PVal.int .i64 0, PVal.int .i64 0, PVal.int .i64 0, PVal.int .i64 0, PVal.str [], PVal.int .i64 0, PVal.int .i64 0, PVal.slice [], PVal.int .i64 e8.op, PVal.int .i64 e8.value, PVal.str e8.name, PVal.int .i64 e8.slot, PVal.int .i64 e8.size, PVal.slice (List.map encEx e8.args), PVal.slice [[PVal.int .i64 2, PVal.str m2, PVal.int .i64 0, PVal.int .i64 0, PVal.int .i64 e9.op, PVal.int .i64 e9.value, PVal.str e9.name, PVal.int .i64 e9.slot, PVal.int .i64 e9.size, PVal.slice (List.map encEx e9.args), PVal.int .i64 e10.op, PVal.int .i64 e10.value, PVal.str e10.name, PVal.int .i64 e10.slot, PVal.int .i64 e10.size, PVal.slice (List.map encEx e10.args), PVal.slice [], PVal.slice []]], PVal.slice []]] : List (List PVal)) = ([smL (q1 - 1) m1 ex0 e1 [] [], smL 5 [] e2 (exL (q2 - 1) 0 [] []) [] [], smL 1 [120] ex0 D [] [], smL 4 [] ex0 e3 [] st, .mk 1 [120] q3 0 ex0 e4 [] [], smL 6 [] (exL q4 0 [] []) e5 [] [], smL 6 [] ex0 (exL 1 i1 [] []) [] [], smL 6 [] ex0 (exL 8 0 [] ([e6, e7].take q5)) [] [], smL 3 [] ex0 e8 [smL 2 m2 e9 e10 [] []] []] : List Sm).map encSm := by
      simp only [List.map_cons, List.map_nil, encSm_eq, smL, Sm.kind_mk, Sm.name_mk, Sm.slot_mk, Sm.size_mk, Sm.place_mk, Sm.value_mk, Sm.body_mk, Sm.els_mk, Ex.op_mk, Ex.value_mk, Ex.name_mk, Ex.slot_mk, Ex.size_mk, Ex.args_mk, ex0, exL, List.map_take, encEx_eq e6, encEx_eq e7]
    have hz : szSs ([smL (q1 - 1) m1 ex0 e1 [] [], smL 5 [] e2 (exL (q2 - 1) 0 [] []) [] [], smL 1 [120] ex0 D [] [], smL 4 [] ex0 e3 [] st, .mk 1 [120] q3 0 ex0 e4 [] [], smL 6 [] (exL q4 0 [] []) e5 [] [], smL 6 [] ex0 (exL 1 i1 [] []) [] [], smL 6 [] ex0 (exL 8 0 [] ([e6, e7].take q5)) [] [], smL 3 [] ex0 e8 [smL 2 m2 e9 e10 [] []] []] : List Sm) ≤ 150000 := by
      have h5 : szEs ([e6, e7].take q5) ≤ 2000 := by
        rcases (show q5 = 0 ∨ q5 = 1 ∨ q5 = 2 by omega) with rfl | rfl | rfl <;> simp [szEs] <;> omega
      simp only [szSs, szS, smL, ex0, exL, szE, szEs]
      omega
    have hv : rgSs ([smL (q1 - 1) m1 ex0 e1 [] [], smL 5 [] e2 (exL (q2 - 1) 0 [] []) [] [], smL 1 [120] ex0 D [] [], smL 4 [] ex0 e3 [] st, .mk 1 [120] q3 0 ex0 e4 [] [], smL 6 [] (exL q4 0 [] []) e5 [] [], smL 6 [] ex0 (exL 1 i1 [] []) [] [], smL 6 [] ex0 (exL 8 0 [] ([e6, e7].take q5)) [] [], smL 3 [] ex0 e8 [smL 2 m2 e9 e10 [] []] []] : List Sm) = true := by
      have h5 : rgEs ([e6, e7].take q5) = true := by
        rcases (show q5 = 0 ∨ q5 = 1 ∨ q5 = 2 by omega) with rfl | rfl | rfl <;> simp [rgEs, r8, r9]
      have hrs : rgS (Sm.mk 1 [120] q3 0 ex0 e4 [] []) = (rgE ex0 && rgE e4 && rgSs [] && rgSs []) := rfl
      simp only [rgSs, rgS_L, rgE_L, rgE_0, hrs, rg_0, r1, r2, r3, r4, r5, r6, r7, r10, r11, r12, dR, h5, rgEs_0, Bool.and_true, Bool.true_and]
    have hmem : ([smL (q1 - 1) m1 ex0 e1 [] [], smL 5 [] e2 (exL (q2 - 1) 0 [] []) [] [], smL 1 [120] ex0 D [] [], smL 4 [] ex0 e3 [] st, .mk 1 [120] q3 0 ex0 e4 [] [], smL 6 [] (exL q4 0 [] []) e5 [] [], smL 6 [] ex0 (exL 1 i1 [] []) [] [], smL 6 [] ex0 (exL 8 0 [] ([e6, e7].take q5)) [] [], smL 3 [] ex0 e8 [smL 2 m2 e9 e10 [] []] []] : List Sm).getD k (smL 0 [] ex0 ex0 [] []) ∈ ([smL (q1 - 1) m1 ex0 e1 [] [], smL 5 [] e2 (exL (q2 - 1) 0 [] []) [] [], smL 1 [120] ex0 D [] [], smL 4 [] ex0 e3 [] st, .mk 1 [120] q3 0 ex0 e4 [] [], smL 6 [] (exL q4 0 [] []) e5 [] [], smL 6 [] ex0 (exL 1 i1 [] []) [] [], smL 6 [] ex0 (exL 8 0 [] ([e6, e7].take q5)) [] [], smL 3 [] ex0 e8 [smL 2 m2 e9 e10 [] []] []] : List Sm) := by
      have hkl : k < ([smL (q1 - 1) m1 ex0 e1 [] [], smL 5 [] e2 (exL (q2 - 1) 0 [] []) [] [], smL 1 [120] ex0 D [] [], smL 4 [] ex0 e3 [] st, .mk 1 [120] q3 0 ex0 e4 [] [], smL 6 [] (exL q4 0 [] []) e5 [] [], smL 6 [] ex0 (exL 1 i1 [] []) [] [], smL 6 [] ex0 (exL 8 0 [] ([e6, e7].take q5)) [] [], smL 3 [] ex0 e8 [smL 2 m2 e9 e10 [] []] []] : List Sm).length := by simpa using hk
      rw [List.getD, List.getElem?_eq_getElem hkl]
      exact List.getElem_mem _
    refine ⟨_, _, rfl, encSm_length _, rgSs_mem hv hmem, Nat.le_trans (szSs_mem _ _ hmem) (by omega), fun i hi => ?_⟩
    rw [hi, ← hDe, hE]
    exact getDm encSm _ k _ (by simpa using hk)
  by_cases hk : k < 9
  · obtain ⟨S, R, hR, hRl, hS1, hS2, hg⟩ := hST hk
    refine ⟨⟨p.vars, p.start, p.message, p.tick ++ [S], p.input⟩, a20, l20, ?_, ?_, ?_⟩
    · unfold szP
      simp only [szSs_app, szSs]
      omega
    · unfold rgP
      simp only [rgSs_app, hrv, g1, g2, g3, g4, hS1, rgSs, Bool.and_true]
    · replace hg := hg _ rfl
      have hk1 : (k : Int) < 9 := by omega
      have hRt : R.take 18 = R := List.take_of_length_le (by omega)
      have hRp : toPs (R.map .pv) = some R := toPs_map R
      clear hST r1 r2 r3 r4 r5 r6 r7 r8 r9 r10 r11 r12 s1 s2 s3 s4 s5 s6 s8 s9 s10 s11 s12 dR dS hrv g1 g2 g3 g4 hp hS1 hS2
      unfold pgA
      refine bodyW (fun d => if d = 3 then 1 else if d = 4 then 2 else if d = 5 then 3 else if d = 86 then 4 else if d = 99 then 4 else if d = 115 then 4 else 5) 6 Tryz.func15 rfl Tryz.ntmps15 (by rw [Tryz.results15]) (by simp) (by simp) ?_
      (repeat' (first | simp -implicitDefEqProofs +contextual (maxSteps := 9000000) only [kx, ↓ky, tq15, simprocAttr, kA, exA] | (with_reducible first | refine SB.c (fun _ => ?_) (fun _ => ?_) | refine REG.i ?_ | exact REG.j) | with_reducible refine AndI ?_ | omega))
      refine loopV (ι := {q : Nat × Nat // q.2 ≤ xs.length ∧ q.1 ≤ 17 ∧ deepL xs (20 - q.1) q.1 q.2 = (nD, aD)}) (fun i => ⟨(.ref 0 0 :: .junk :: .junk :: .ref 1 0 :: .ref 2 0 :: .ref 3 0 :: .pv (.int .i64 i.1.1) :: .junk :: .junk :: .junk :: .junk :: .junk :: .junk :: .junk :: .junk :: .junk :: .junk :: .junk :: .junk :: .junk :: .junk :: .junk :: .junk :: .junk :: .junk :: .junk :: .junk :: .junk :: .junk :: .junk :: .junk :: .junk :: .junk :: .junk :: .junk :: .junk :: .junk :: .junk :: .junk :: .junk :: .junk :: .junk :: .junk :: .junk :: .junk :: .junk :: .junk :: .junk :: .junk :: .junk :: .junk :: .junk :: .junk :: .junk :: .junk :: .junk :: .junk :: .junk :: .junk :: .junk :: .junk :: .junk :: .junk :: .junk :: .junk :: .junk :: .junk :: .junk :: .junk :: .junk :: .junk :: .junk :: .junk :: .junk :: .junk :: .junk :: .junk :: .junk :: .junk :: .junk :: .junk :: .junk :: .junk :: .junk :: .junk :: .junk :: .junk :: .junk :: .junk :: .junk :: .junk :: .junk :: .junk :: .junk :: .junk :: .junk :: .junk :: .junk :: .junk :: .junk :: .junk :: .junk :: .junk :: .junk :: .junk :: .junk :: .junk :: .junk :: .junk :: .junk :: .junk :: .junk :: .junk :: .junk :: .junk :: .junk :: .junk :: .junk :: .junk :: .junk :: .junk :: .junk :: .junk :: []), [some (.cells [.pv (.slice (xs.map encB)), .pv (.int .i64 i.1.2)]), some (.cells [.pv (.slice (p.vars.map encVar)), .pv (.slice (p.start.map encSm)), .pv (.slice (p.message.map encSm)), .pv (.slice (p.tick.map encSm)), .pv (.slice (p.input.map encSm))]), some (.cells [.snil, .snil, .snil, .snil, .snil]), some (.cells [.pv (.int .i64 (deepE i.1.1).op), .pv (.int .i64 (deepE i.1.1).value), .pv (.str (deepE i.1.1).name), .pv (.int .i64 (deepE i.1.1).slot), .pv (.int .i64 (deepE i.1.1).size), argA (deepE i.1.1).args]), none, none]⟩) (fun i => 20 - i.1.1) ⟨(0, a), ha, by omega, hD⟩ (WFe (by simp [kwf, deepE, exL, Ex.op_mk, Ex.value_mk, Ex.name_mk, Ex.slot_mk, Ex.size_mk, Ex.args_mk, arg_nil, arg_cons]) (by simp [kwf, deepE, exL, Ex.op_mk, Ex.value_mk, Ex.name_mk, Ex.slot_mk, Ex.size_mk, Ex.args_mk, arg_nil, arg_cons])) ?_
      rintro ⟨⟨i, b⟩, hb, hi, hdl⟩
      replace hb : b ≤ xs.length := hb
      replace hi : i ≤ 17 := hi
      replace hdl : deepL xs (20 - i) i b = (nD, aD) := hdl
      rw [show deepL xs (20 - i) i b = if (i : Int) < 12 + (nxt xs b 6).1 then deepL xs (20 - (i + 1)) (i + 1) (nxt xs b 6).2 else (i, (nxt xs b 6).2) by rw [show 20 - i = (20 - (i + 1)) + 1 by omega]; rfl] at hdl
      have cL := cnx_ac xs b 6 (by omega) (by omega) (by omega)
      have hm := nxt_lt xs b 6 (by omega)
      have lL := nxt_le xs b 6 hb
      generalize nxt xs b 6 = q at *
      have hw12 : IntKind.i64.wrap (12 + q.1) = 12 + q.1 := wrap64 _ (by omega) (by omega)
      have hwi := wrapS i (by omega)
      have hde := encEx_eq (deepE i)
      by_cases hlt : (i : Int) < 12 + q.1
      · rw [if_pos hlt] at hdl
        (repeat' (first | simp -implicitDefEqProofs +contextual (maxSteps := 9000000) only [kx, ↓ky, tq15, simprocAttr, kA, exA, hlt, hw12, hwi, kz] | (with_reducible first | refine SB.c (fun _ => ?_) (fun _ => ?_) | refine REG.i ?_ | exact REG.j) | refine CK.dx [0] [] enters27 cL ?_ | with_reducible refine AndI ?_ | omega))
        exact ⟨⟨(i + 1, q.2), lL, by show i + 1 ≤ 17; omega, hdl⟩, (WFe (by simp [kwf, deepE, exL, Ex.op_mk, Ex.value_mk, Ex.name_mk, Ex.slot_mk, Ex.size_mk, Ex.args_mk, arg_nil, arg_cons, hde, List.map_cons, List.map_nil]) (by simp [kwf, deepE, exL, Ex.op_mk, Ex.value_mk, Ex.name_mk, Ex.slot_mk, Ex.size_mk, Ex.args_mk, arg_nil, arg_cons, hde, List.map_cons, List.map_nil])), by show 20 - (i + 1) < 20 - i; omega⟩
      · rw [if_neg hlt] at hdl
        obtain ⟨h1, h2⟩ := hx _ hdl
        replace h1 : i = nD := h1
        replace h2 : q.2 = aD := h2
        rw [h2] at cL
        rw [h1] at hlt hwi hi
        clear hde hdl
        subst h1
        (repeat' (first | simp -implicitDefEqProofs +contextual (maxSteps := 9000000) only [kx, ↓ky, tq15, simprocAttr, kA, exA, hlt, hw12, w1, w2, hr1, hr2, hA1, hk, hk1, hg, hRl, hRt, hRp, List.append_nil, kz] | (with_reducible first | refine SB.c (fun _ => ?_) (fun _ => ?_) | refine REG.i ?_ | exact REG.j) | refine CK.dx [0] [] enters27 cL ?_ | refine CK.dx [0] [] enters27 c1 ?_ | refine CK.dx [0] [] enters31 c2 ?_ | refine CK.dx [0] [] enters32 c3 ?_ | refine CK.dx [0] [] enters32 c4 ?_ | refine CK.dx [0] [] enters27 c5 ?_ | refine CK.dx [0] [] enters32 c6 ?_ | refine CK.dx [0] [] enters28 c7 ?_ | refine CK.dx [0] [] enters27 c8 ?_ | refine CK.dx [0] [] enters32 c9 ?_ | refine CK.dx [0] [] enters27 c10 ?_ | refine CK.dx [0] [] enters32 c11 ?_ | refine CK.dx [0] [] enters33 c12 ?_ | refine CK.dx [0] [] enters32 c13 ?_ | refine CK.dx [0] [] enters32 c14 ?_ | refine CK.dx [0] [] enters27 c15 ?_ | refine CK.dx [0] [] enters32 c16 ?_ | refine CK.dx [0] [] enters31 c17 ?_ | refine CK.dx [0] [] enters32 c18 ?_ | refine CK.dx [0] [] enters32 c19 ?_ | refine CK.dx [0] [] enters27 c20 ?_ | with_reducible refine AndI ?_ | omega))
        refine ⟨_, Weak.freeze 5 rfl, ?_⟩
        simp only [St.frz, frzL, frz, frzO, List.map_cons, List.map_nil, List.set_cons_zero, List.set_cons_succ, List.length_map, if_true, if_false, ↓reduceIte, Nat.reduceEqDiff, eq_self, reduceCtorEq, Nat.succ_ne_self]
        (refine retQ.mk [0] ?_ ?_ <;> simp [kwr, tq15, List.map_append, List.map_cons, List.map_nil, hR])
  · clear hST r1 r2 r3 r4 r5 r6 r8 r9 r10 r11 r12 s1 s2 s3 s4 s5 s6 s8 s9 s10 s11 s12 dR dS
    by_cases hk9 : k = 9
    · obtain ⟨v1, b1, y1, d1⟩ := nameE xs hxs a20 l20
      obtain ⟨v2, b2, y2, z2, d2⟩ := intE xs hxs b1 y1
      obtain ⟨v3, b3, y3, z3, d3⟩ := intE xs hxs b2 y2
      refine ⟨⟨p.vars ++ [⟨v1, v2, v3⟩], p.start, p.message, p.tick, p.input⟩, b3, y3, ?_, ?_, ?_⟩
      · unfold szP
        simp only [List.length_append, List.length_cons, List.length_nil]
        omega
      · unfold rgP
        simp only [List.all_append, List.all_cons, List.all_nil, rgV, hrv, g1, g2, g3, g4, z2, z3, Bool.and_true]
      · clear hrv g1 g2 g3 g4 hp
        subst hk9
        unfold pgA
        refine bodyW (fun d => if d = 3 then 1 else if d = 4 then 2 else if d = 5 then 3 else if d = 86 then 4 else if d = 99 then 4 else if d = 115 then 4 else 5) 6 Tryz.func15 rfl Tryz.ntmps15 (by rw [Tryz.results15]) (by simp) (by simp) ?_
        (repeat' (first | simp -implicitDefEqProofs +contextual (maxSteps := 9000000) only [kx, ↓ky, tq15, simprocAttr, kA, exA] | (with_reducible first | refine SB.c (fun _ => ?_) (fun _ => ?_) | refine REG.i ?_ | exact REG.j) | with_reducible refine AndI ?_ | omega))
        refine loopV (ι := {q : Nat × Nat // q.2 ≤ xs.length ∧ q.1 ≤ 17 ∧ deepL xs (20 - q.1) q.1 q.2 = (nD, aD)}) (fun i => ⟨(.ref 0 0 :: .junk :: .junk :: .ref 1 0 :: .ref 2 0 :: .ref 3 0 :: .pv (.int .i64 i.1.1) :: .junk :: .junk :: .junk :: .junk :: .junk :: .junk :: .junk :: .junk :: .junk :: .junk :: .junk :: .junk :: .junk :: .junk :: .junk :: .junk :: .junk :: .junk :: .junk :: .junk :: .junk :: .junk :: .junk :: .junk :: .junk :: .junk :: .junk :: .junk :: .junk :: .junk :: .junk :: .junk :: .junk :: .junk :: .junk :: .junk :: .junk :: .junk :: .junk :: .junk :: .junk :: .junk :: .junk :: .junk :: .junk :: .junk :: .junk :: .junk :: .junk :: .junk :: .junk :: .junk :: .junk :: .junk :: .junk :: .junk :: .junk :: .junk :: .junk :: .junk :: .junk :: .junk :: .junk :: .junk :: .junk :: .junk :: .junk :: .junk :: .junk :: .junk :: .junk :: .junk :: .junk :: .junk :: .junk :: .junk :: .junk :: .junk :: .junk :: .junk :: .junk :: .junk :: .junk :: .junk :: .junk :: .junk :: .junk :: .junk :: .junk :: .junk :: .junk :: .junk :: .junk :: .junk :: .junk :: .junk :: .junk :: .junk :: .junk :: .junk :: .junk :: .junk :: .junk :: .junk :: .junk :: .junk :: .junk :: .junk :: .junk :: .junk :: .junk :: .junk :: .junk :: .junk :: .junk :: .junk :: []), [some (.cells [.pv (.slice (xs.map encB)), .pv (.int .i64 i.1.2)]), some (.cells [.pv (.slice (p.vars.map encVar)), .pv (.slice (p.start.map encSm)), .pv (.slice (p.message.map encSm)), .pv (.slice (p.tick.map encSm)), .pv (.slice (p.input.map encSm))]), some (.cells [.snil, .snil, .snil, .snil, .snil]), some (.cells [.pv (.int .i64 (deepE i.1.1).op), .pv (.int .i64 (deepE i.1.1).value), .pv (.str (deepE i.1.1).name), .pv (.int .i64 (deepE i.1.1).slot), .pv (.int .i64 (deepE i.1.1).size), argA (deepE i.1.1).args]), none, none]⟩) (fun i => 20 - i.1.1) ⟨(0, a), ha, by omega, hD⟩ (WFe (by simp [kwf, deepE, exL, Ex.op_mk, Ex.value_mk, Ex.name_mk, Ex.slot_mk, Ex.size_mk, Ex.args_mk, arg_nil, arg_cons]) (by simp [kwf, deepE, exL, Ex.op_mk, Ex.value_mk, Ex.name_mk, Ex.slot_mk, Ex.size_mk, Ex.args_mk, arg_nil, arg_cons])) ?_
        rintro ⟨⟨i, b⟩, hb, hi, hdl⟩
        replace hb : b ≤ xs.length := hb
        replace hi : i ≤ 17 := hi
        replace hdl : deepL xs (20 - i) i b = (nD, aD) := hdl
        rw [show deepL xs (20 - i) i b = if (i : Int) < 12 + (nxt xs b 6).1 then deepL xs (20 - (i + 1)) (i + 1) (nxt xs b 6).2 else (i, (nxt xs b 6).2) by rw [show 20 - i = (20 - (i + 1)) + 1 by omega]; rfl] at hdl
        have cL := cnx_ac xs b 6 (by omega) (by omega) (by omega)
        have hm := nxt_lt xs b 6 (by omega)
        have lL := nxt_le xs b 6 hb
        generalize nxt xs b 6 = q at *
        have hw12 : IntKind.i64.wrap (12 + q.1) = 12 + q.1 := wrap64 _ (by omega) (by omega)
        have hwi := wrapS i (by omega)
        have hde := encEx_eq (deepE i)
        by_cases hlt : (i : Int) < 12 + q.1
        · rw [if_pos hlt] at hdl
          (repeat' (first | simp -implicitDefEqProofs +contextual (maxSteps := 9000000) only [kx, ↓ky, tq15, simprocAttr, kA, exA, hlt, hw12, hwi, kz] | (with_reducible first | refine SB.c (fun _ => ?_) (fun _ => ?_) | refine REG.i ?_ | exact REG.j) | refine CK.dx [0] [] enters27 cL ?_ | with_reducible refine AndI ?_ | omega))
          exact ⟨⟨(i + 1, q.2), lL, by show i + 1 ≤ 17; omega, hdl⟩, (WFe (by simp [kwf, deepE, exL, Ex.op_mk, Ex.value_mk, Ex.name_mk, Ex.slot_mk, Ex.size_mk, Ex.args_mk, arg_nil, arg_cons, hde, List.map_cons, List.map_nil]) (by simp [kwf, deepE, exL, Ex.op_mk, Ex.value_mk, Ex.name_mk, Ex.slot_mk, Ex.size_mk, Ex.args_mk, arg_nil, arg_cons, hde, List.map_cons, List.map_nil])), by show 20 - (i + 1) < 20 - i; omega⟩
        · rw [if_neg hlt] at hdl
          obtain ⟨h1, h2⟩ := hx _ hdl
          replace h1 : i = nD := h1
          replace h2 : q.2 = aD := h2
          rw [h2] at cL
          rw [h1] at hlt hwi hi
          clear hde hdl
          subst h1
          (repeat' (first | simp -implicitDefEqProofs +contextual (maxSteps := 9000000) only [kx, ↓ky, tq15, simprocAttr, kA, exA, hlt, hw12, w1, w2, hr3, hr4, hA2, kz] | (with_reducible first | refine SB.c (fun _ => ?_) (fun _ => ?_) | refine REG.i ?_ | exact REG.j) | refine CK.dx [0] [] enters27 cL ?_ | refine CK.dx [0] [] enters27 c1 ?_ | refine CK.dx [0] [] enters31 c2 ?_ | refine CK.dx [0] [] enters32 c3 ?_ | refine CK.dx [0] [] enters32 c4 ?_ | refine CK.dx [0] [] enters27 c5 ?_ | refine CK.dx [0] [] enters32 c6 ?_ | refine CK.dx [0] [] enters28 c7 ?_ | refine CK.dx [0] [] enters27 c8 ?_ | refine CK.dx [0] [] enters32 c9 ?_ | refine CK.dx [0] [] enters27 c10 ?_ | refine CK.dx [0] [] enters32 c11 ?_ | refine CK.dx [0] [] enters33 c12 ?_ | refine CK.dx [0] [] enters32 c13 ?_ | refine CK.dx [0] [] enters32 c14 ?_ | refine CK.dx [0] [] enters27 c15 ?_ | refine CK.dx [0] [] enters32 c16 ?_ | refine CK.dx [0] [] enters31 c17 ?_ | refine CK.dx [0] [] enters32 c18 ?_ | refine CK.dx [0] [] enters32 c19 ?_ | refine CK.dx [0] [] enters27 c20 ?_ | refine CK.dx [0] [] enters31 d1 ?_ | refine CK.dx [0] [] enters33 d2 ?_ | refine CK.dx [0] [] enters33 d3 ?_ | with_reducible refine AndI ?_ | omega))
          refine ⟨_, Weak.freeze 5 rfl, ?_⟩
          simp only [St.frz, frzL, frz, frzO, List.map_cons, List.map_nil, List.set_cons_zero, List.set_cons_succ, List.length_map, if_true, if_false, ↓reduceIte, Nat.reduceEqDiff, eq_self, reduceCtorEq, Nat.succ_ne_self]
          (refine retQ.mk [0] ?_ ?_ <;> simp [kwr, tq15, List.map_append, List.map_cons, List.map_nil, encVar])
    · by_cases hk10 : k = 10
      · obtain ⟨v1, b1, y1, z1, d1⟩ := intE xs hxs a20 l20
        refine ⟨⟨p.vars ++ [⟨[119], 0, v1⟩], p.start, p.message, p.tick, p.input⟩, b1, y1, ?_, ?_, ?_⟩
        · unfold szP
          simp only [List.length_append, List.length_cons, List.length_nil]
          omega
        · unfold rgP
          simp only [List.all_append, List.all_cons, List.all_nil, rgV, hrv, g1, g2, g3, g4, z1, rg_0, Bool.and_true]
        · clear hrv g1 g2 g3 g4 hp
          subst hk10
          unfold pgA
          refine bodyW (fun d => if d = 3 then 1 else if d = 4 then 2 else if d = 5 then 3 else if d = 86 then 4 else if d = 99 then 4 else if d = 115 then 4 else 5) 6 Tryz.func15 rfl Tryz.ntmps15 (by rw [Tryz.results15]) (by simp) (by simp) ?_
          (repeat' (first | simp -implicitDefEqProofs +contextual (maxSteps := 9000000) only [kx, ↓ky, tq15, simprocAttr, kA, exA] | (with_reducible first | refine SB.c (fun _ => ?_) (fun _ => ?_) | refine REG.i ?_ | exact REG.j) | with_reducible refine AndI ?_ | omega))
          refine loopV (ι := {q : Nat × Nat // q.2 ≤ xs.length ∧ q.1 ≤ 17 ∧ deepL xs (20 - q.1) q.1 q.2 = (nD, aD)}) (fun i => ⟨(.ref 0 0 :: .junk :: .junk :: .ref 1 0 :: .ref 2 0 :: .ref 3 0 :: .pv (.int .i64 i.1.1) :: .junk :: .junk :: .junk :: .junk :: .junk :: .junk :: .junk :: .junk :: .junk :: .junk :: .junk :: .junk :: .junk :: .junk :: .junk :: .junk :: .junk :: .junk :: .junk :: .junk :: .junk :: .junk :: .junk :: .junk :: .junk :: .junk :: .junk :: .junk :: .junk :: .junk :: .junk :: .junk :: .junk :: .junk :: .junk :: .junk :: .junk :: .junk :: .junk :: .junk :: .junk :: .junk :: .junk :: .junk :: .junk :: .junk :: .junk :: .junk :: .junk :: .junk :: .junk :: .junk :: .junk :: .junk :: .junk :: .junk :: .junk :: .junk :: .junk :: .junk :: .junk :: .junk :: .junk :: .junk :: .junk :: .junk :: .junk :: .junk :: .junk :: .junk :: .junk :: .junk :: .junk :: .junk :: .junk :: .junk :: .junk :: .junk :: .junk :: .junk :: .junk :: .junk :: .junk :: .junk :: .junk :: .junk :: .junk :: .junk :: .junk :: .junk :: .junk :: .junk :: .junk :: .junk :: .junk :: .junk :: .junk :: .junk :: .junk :: .junk :: .junk :: .junk :: .junk :: .junk :: .junk :: .junk :: .junk :: .junk :: .junk :: .junk :: .junk :: .junk :: .junk :: .junk :: .junk :: .junk :: []), [some (.cells [.pv (.slice (xs.map encB)), .pv (.int .i64 i.1.2)]), some (.cells [.pv (.slice (p.vars.map encVar)), .pv (.slice (p.start.map encSm)), .pv (.slice (p.message.map encSm)), .pv (.slice (p.tick.map encSm)), .pv (.slice (p.input.map encSm))]), some (.cells [.snil, .snil, .snil, .snil, .snil]), some (.cells [.pv (.int .i64 (deepE i.1.1).op), .pv (.int .i64 (deepE i.1.1).value), .pv (.str (deepE i.1.1).name), .pv (.int .i64 (deepE i.1.1).slot), .pv (.int .i64 (deepE i.1.1).size), argA (deepE i.1.1).args]), none, none]⟩) (fun i => 20 - i.1.1) ⟨(0, a), ha, by omega, hD⟩ (WFe (by simp [kwf, deepE, exL, Ex.op_mk, Ex.value_mk, Ex.name_mk, Ex.slot_mk, Ex.size_mk, Ex.args_mk, arg_nil, arg_cons]) (by simp [kwf, deepE, exL, Ex.op_mk, Ex.value_mk, Ex.name_mk, Ex.slot_mk, Ex.size_mk, Ex.args_mk, arg_nil, arg_cons])) ?_
          rintro ⟨⟨i, b⟩, hb, hi, hdl⟩
          replace hb : b ≤ xs.length := hb
          replace hi : i ≤ 17 := hi
          replace hdl : deepL xs (20 - i) i b = (nD, aD) := hdl
          rw [show deepL xs (20 - i) i b = if (i : Int) < 12 + (nxt xs b 6).1 then deepL xs (20 - (i + 1)) (i + 1) (nxt xs b 6).2 else (i, (nxt xs b 6).2) by rw [show 20 - i = (20 - (i + 1)) + 1 by omega]; rfl] at hdl
          have cL := cnx_ac xs b 6 (by omega) (by omega) (by omega)
          have hm := nxt_lt xs b 6 (by omega)
          have lL := nxt_le xs b 6 hb
          generalize nxt xs b 6 = q at *
          have hw12 : IntKind.i64.wrap (12 + q.1) = 12 + q.1 := wrap64 _ (by omega) (by omega)
          have hwi := wrapS i (by omega)
          have hde := encEx_eq (deepE i)
          by_cases hlt : (i : Int) < 12 + q.1
          · rw [if_pos hlt] at hdl
            (repeat' (first | simp -implicitDefEqProofs +contextual (maxSteps := 9000000) only [kx, ↓ky, tq15, simprocAttr, kA, exA, hlt, hw12, hwi, kz] | (with_reducible first | refine SB.c (fun _ => ?_) (fun _ => ?_) | refine REG.i ?_ | exact REG.j) | refine CK.dx [0] [] enters27 cL ?_ | with_reducible refine AndI ?_ | omega))
            exact ⟨⟨(i + 1, q.2), lL, by show i + 1 ≤ 17; omega, hdl⟩, (WFe (by simp [kwf, deepE, exL, Ex.op_mk, Ex.value_mk, Ex.name_mk, Ex.slot_mk, Ex.size_mk, Ex.args_mk, arg_nil, arg_cons, hde, List.map_cons, List.map_nil]) (by simp [kwf, deepE, exL, Ex.op_mk, Ex.value_mk, Ex.name_mk, Ex.slot_mk, Ex.size_mk, Ex.args_mk, arg_nil, arg_cons, hde, List.map_cons, List.map_nil])), by show 20 - (i + 1) < 20 - i; omega⟩
          · rw [if_neg hlt] at hdl
            obtain ⟨h1, h2⟩ := hx _ hdl
            replace h1 : i = nD := h1
            replace h2 : q.2 = aD := h2
            rw [h2] at cL
            rw [h1] at hlt hwi hi
            clear hde hdl
            subst h1
            (repeat' (first | simp -implicitDefEqProofs +contextual (maxSteps := 9000000) only [kx, ↓ky, tq15, simprocAttr, kA, exA, hlt, hw12, w1, w2, hr3, hr4, hA2, kz] | (with_reducible first | refine SB.c (fun _ => ?_) (fun _ => ?_) | refine REG.i ?_ | exact REG.j) | refine CK.dx [0] [] enters27 cL ?_ | refine CK.dx [0] [] enters27 c1 ?_ | refine CK.dx [0] [] enters31 c2 ?_ | refine CK.dx [0] [] enters32 c3 ?_ | refine CK.dx [0] [] enters32 c4 ?_ | refine CK.dx [0] [] enters27 c5 ?_ | refine CK.dx [0] [] enters32 c6 ?_ | refine CK.dx [0] [] enters28 c7 ?_ | refine CK.dx [0] [] enters27 c8 ?_ | refine CK.dx [0] [] enters32 c9 ?_ | refine CK.dx [0] [] enters27 c10 ?_ | refine CK.dx [0] [] enters32 c11 ?_ | refine CK.dx [0] [] enters33 c12 ?_ | refine CK.dx [0] [] enters32 c13 ?_ | refine CK.dx [0] [] enters32 c14 ?_ | refine CK.dx [0] [] enters27 c15 ?_ | refine CK.dx [0] [] enters32 c16 ?_ | refine CK.dx [0] [] enters31 c17 ?_ | refine CK.dx [0] [] enters32 c18 ?_ | refine CK.dx [0] [] enters32 c19 ?_ | refine CK.dx [0] [] enters27 c20 ?_ | refine CK.dx [0] [] enters33 d1 ?_ | with_reducible refine AndI ?_ | omega))
            refine ⟨_, Weak.freeze 5 rfl, ?_⟩
            simp only [St.frz, frzL, frz, frzO, List.map_cons, List.map_nil, List.set_cons_zero, List.set_cons_succ, List.length_map, if_true, if_false, ↓reduceIte, Nat.reduceEqDiff, eq_self, reduceCtorEq, Nat.succ_ne_self]
            (refine retQ.mk [0] ?_ ?_ <;> simp [kwr, tq15, List.map_append, List.map_cons, List.map_nil, encVar])
      · have hk11 : k = 11 := by omega
        refine ⟨p, a20, l20, by unfold szP; omega, by unfold rgP; simp only [hrv, g1, g2, g3, g4, Bool.and_true], ?_⟩
        clear hrv g1 g2 g3 g4 hp
        subst hk11
        unfold pgA
        refine bodyW (fun d => if d = 3 then 1 else if d = 4 then 2 else if d = 5 then 3 else if d = 86 then 4 else if d = 99 then 4 else if d = 115 then 4 else 5) 6 Tryz.func15 rfl Tryz.ntmps15 (by rw [Tryz.results15]) (by simp) (by simp) ?_
        (repeat' (first | simp -implicitDefEqProofs +contextual (maxSteps := 9000000) only [kx, ↓ky, tq15, simprocAttr, kA, exA] | (with_reducible first | refine SB.c (fun _ => ?_) (fun _ => ?_) | refine REG.i ?_ | exact REG.j) | with_reducible refine AndI ?_ | omega))
        refine loopV (ι := {q : Nat × Nat // q.2 ≤ xs.length ∧ q.1 ≤ 17 ∧ deepL xs (20 - q.1) q.1 q.2 = (nD, aD)}) (fun i => ⟨(.ref 0 0 :: .junk :: .junk :: .ref 1 0 :: .ref 2 0 :: .ref 3 0 :: .pv (.int .i64 i.1.1) :: .junk :: .junk :: .junk :: .junk :: .junk :: .junk :: .junk :: .junk :: .junk :: .junk :: .junk :: .junk :: .junk :: .junk :: .junk :: .junk :: .junk :: .junk :: .junk :: .junk :: .junk :: .junk :: .junk :: .junk :: .junk :: .junk :: .junk :: .junk :: .junk :: .junk :: .junk :: .junk :: .junk :: .junk :: .junk :: .junk :: .junk :: .junk :: .junk :: .junk :: .junk :: .junk :: .junk :: .junk :: .junk :: .junk :: .junk :: .junk :: .junk :: .junk :: .junk :: .junk :: .junk :: .junk :: .junk :: .junk :: .junk :: .junk :: .junk :: .junk :: .junk :: .junk :: .junk :: .junk :: .junk :: .junk :: .junk :: .junk :: .junk :: .junk :: .junk :: .junk :: .junk :: .junk :: .junk :: .junk :: .junk :: .junk :: .junk :: .junk :: .junk :: .junk :: .junk :: .junk :: .junk :: .junk :: .junk :: .junk :: .junk :: .junk :: .junk :: .junk :: .junk :: .junk :: .junk :: .junk :: .junk :: .junk :: .junk :: .junk :: .junk :: .junk :: .junk :: .junk :: .junk :: .junk :: .junk :: .junk :: .junk :: .junk :: .junk :: .junk :: .junk :: .junk :: .junk :: .junk :: []), [some (.cells [.pv (.slice (xs.map encB)), .pv (.int .i64 i.1.2)]), some (.cells [.pv (.slice (p.vars.map encVar)), .pv (.slice (p.start.map encSm)), .pv (.slice (p.message.map encSm)), .pv (.slice (p.tick.map encSm)), .pv (.slice (p.input.map encSm))]), some (.cells [.snil, .snil, .snil, .snil, .snil]), some (.cells [.pv (.int .i64 (deepE i.1.1).op), .pv (.int .i64 (deepE i.1.1).value), .pv (.str (deepE i.1.1).name), .pv (.int .i64 (deepE i.1.1).slot), .pv (.int .i64 (deepE i.1.1).size), argA (deepE i.1.1).args]), none, none]⟩) (fun i => 20 - i.1.1) ⟨(0, a), ha, by omega, hD⟩ (WFe (by simp [kwf, deepE, exL, Ex.op_mk, Ex.value_mk, Ex.name_mk, Ex.slot_mk, Ex.size_mk, Ex.args_mk, arg_nil, arg_cons]) (by simp [kwf, deepE, exL, Ex.op_mk, Ex.value_mk, Ex.name_mk, Ex.slot_mk, Ex.size_mk, Ex.args_mk, arg_nil, arg_cons])) ?_
        rintro ⟨⟨i, b⟩, hb, hi, hdl⟩
        replace hb : b ≤ xs.length := hb
        replace hi : i ≤ 17 := hi
        replace hdl : deepL xs (20 - i) i b = (nD, aD) := hdl
        rw [show deepL xs (20 - i) i b = if (i : Int) < 12 + (nxt xs b 6).1 then deepL xs (20 - (i + 1)) (i + 1) (nxt xs b 6).2 else (i, (nxt xs b 6).2) by rw [show 20 - i = (20 - (i + 1)) + 1 by omega]; rfl] at hdl
        have cL := cnx_ac xs b 6 (by omega) (by omega) (by omega)
        have hm := nxt_lt xs b 6 (by omega)
        have lL := nxt_le xs b 6 hb
        generalize nxt xs b 6 = q at *
        have hw12 : IntKind.i64.wrap (12 + q.1) = 12 + q.1 := wrap64 _ (by omega) (by omega)
        have hwi := wrapS i (by omega)
        have hde := encEx_eq (deepE i)
        by_cases hlt : (i : Int) < 12 + q.1
        · rw [if_pos hlt] at hdl
          (repeat' (first | simp -implicitDefEqProofs +contextual (maxSteps := 9000000) only [kx, ↓ky, tq15, simprocAttr, kA, exA, hlt, hw12, hwi, kz] | (with_reducible first | refine SB.c (fun _ => ?_) (fun _ => ?_) | refine REG.i ?_ | exact REG.j) | refine CK.dx [0] [] enters27 cL ?_ | with_reducible refine AndI ?_ | omega))
          exact ⟨⟨(i + 1, q.2), lL, by show i + 1 ≤ 17; omega, hdl⟩, (WFe (by simp [kwf, deepE, exL, Ex.op_mk, Ex.value_mk, Ex.name_mk, Ex.slot_mk, Ex.size_mk, Ex.args_mk, arg_nil, arg_cons, hde, List.map_cons, List.map_nil]) (by simp [kwf, deepE, exL, Ex.op_mk, Ex.value_mk, Ex.name_mk, Ex.slot_mk, Ex.size_mk, Ex.args_mk, arg_nil, arg_cons, hde, List.map_cons, List.map_nil])), by show 20 - (i + 1) < 20 - i; omega⟩
        · rw [if_neg hlt] at hdl
          obtain ⟨h1, h2⟩ := hx _ hdl
          replace h1 : i = nD := h1
          replace h2 : q.2 = aD := h2
          rw [h2] at cL
          rw [h1] at hlt hwi hi
          clear hde hdl
          subst h1
          (repeat' (first | simp -implicitDefEqProofs +contextual (maxSteps := 9000000) only [kx, ↓ky, tq15, simprocAttr, kA, exA, hlt, hw12, w1, w2, kz] | (with_reducible first | refine SB.c (fun _ => ?_) (fun _ => ?_) | refine REG.i ?_ | exact REG.j) | refine CK.dx [0] [] enters27 cL ?_ | refine CK.dx [0] [] enters27 c1 ?_ | refine CK.dx [0] [] enters31 c2 ?_ | refine CK.dx [0] [] enters32 c3 ?_ | refine CK.dx [0] [] enters32 c4 ?_ | refine CK.dx [0] [] enters27 c5 ?_ | refine CK.dx [0] [] enters32 c6 ?_ | refine CK.dx [0] [] enters28 c7 ?_ | refine CK.dx [0] [] enters27 c8 ?_ | refine CK.dx [0] [] enters32 c9 ?_ | refine CK.dx [0] [] enters27 c10 ?_ | refine CK.dx [0] [] enters32 c11 ?_ | refine CK.dx [0] [] enters33 c12 ?_ | refine CK.dx [0] [] enters32 c13 ?_ | refine CK.dx [0] [] enters32 c14 ?_ | refine CK.dx [0] [] enters27 c15 ?_ | refine CK.dx [0] [] enters32 c16 ?_ | refine CK.dx [0] [] enters31 c17 ?_ | refine CK.dx [0] [] enters32 c18 ?_ | refine CK.dx [0] [] enters32 c19 ?_ | refine CK.dx [0] [] enters27 c20 ?_ | with_reducible refine AndI ?_ | omega))
          refine ⟨_, Weak.nz, ?_⟩
          simp only [St.nz, nzL, nzOs, nzO, nz]
          (refine retQ.mk [0] ?_ ?_ <;> simp [kwr, tq15])
end Go.Proofs.YtopbicbgolcmpaaGreatDoor
