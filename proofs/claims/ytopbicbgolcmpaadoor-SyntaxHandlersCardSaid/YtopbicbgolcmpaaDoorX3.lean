/- A part of the walk (Tryd_X3): its theorems have no condition beyond what they state. -/
import Derived.Test.YtopbicbgolcmpaaDoorW5
import Derived.Test.YtopbicbgolcmpaaDoorM2
import Derived.Test.YtopbicbgolcmpaaDoorS3
import Derived.Test.YtopbicbgolcmpaaDoorS2
import Derived.Test.YtopbicbgolcmpaaDoorLib4
set_option linter.unusedSimpArgs false
set_option linter.unusedVariables false
set_option linter.defProp false
namespace Go.Proofs.YtopbicbgolcmpaaDoor
open Go Go.Abs Go.RowKit
def hT (q : Nat × List Sm) : List UInt8 := hdT (hw q.1) q.2
def rowT (b0 b1 b2 b3 : List Sm) : List (List PVal) := [[.str (hT (0, b0))], [.str (hT (1, b1))], [.str (hT (2, b2))], [.str (hT (3, b3))]]
theorem swap_parts (i k : Nat) (hi : i < 4) (hk : k < 4) (b0 b1 b2 b3 : List Sm) (g0 : ∀ s ∈ b0, GdS s) (g1 : ∀ s ∈ b1, GdS s) (g2 : ∀ s ∈ b2, GdS s) (g3 : ∀ s ∈ b3, GdS s) :
    ∃ (q0 q1 q2 q3 : Nat × List Sm) (ti tk : List UInt8) (q : Nat × List Sm), (([q0, q1, q2, q3].map Prod.fst).Nodup ∧ (∀ q ∈ [q0, q1, q2, q3], q.1 < 4 ∧ (∀ s ∈ q.2, GdS s) ∧ (q.2 = b0 ∨ q.2 = b1 ∨ q.2 = b2 ∨ q.2 = b3)) ∧ foldP ⟨[], [], [], [], []⟩ [q0, q1, q2, q3] = ⟨[], b0, b1, b2, b3⟩) ∧
      (rowT b0 b1 b2 b3).getD i [] = [.str ti] ∧ (rowT b0 b1 b2 b3).getD k [] = [.str tk] ∧
      rowSet (rowSet (rowT b0 b1 b2 b3) i 0 [.str tk]) k 0 [.str ti] = [[.str (hT q0)], [.str (hT q1)], [.str (hT q2)], [.str (hT q3)]] ∧
      q ∈ [q0, q1, q2, q3] ∧ ([[.str (hT q0)], [.str (hT q1)], [.str (hT q2)], [.str (hT q3)]] : List (List PVal)).getD i [] = [.str (hT q)] := by
  have hi' : i = 0 ∨ i = 1 ∨ i = 2 ∨ i = 3 := by omega
  have hk' : k = 0 ∨ k = 1 ∨ k = 2 ∨ k = 3 := by omega
  have key : ∀ l : List (Nat × List Sm), (∀ q ∈ l, q = (0, b0) ∨ q = (1, b1) ∨ q = (2, b2) ∨ q = (3, b3)) → ∀ q ∈ l, q.1 < 4 ∧ (∀ s ∈ q.2, GdS s) ∧ (q.2 = b0 ∨ q.2 = b1 ∨ q.2 = b2 ∨ q.2 = b3) := by
    intro l h q hq
    rcases h q hq with rfl | rfl | rfl | rfl
    · exact ⟨show (0 : Nat) < 4 by omega, g0, .inl rfl⟩
    · exact ⟨show (1 : Nat) < 4 by omega, g1, .inr (.inl rfl)⟩
    · exact ⟨show (2 : Nat) < 4 by omega, g2, .inr (.inr (.inl rfl))⟩
    · exact ⟨show (3 : Nat) < 4 by omega, g3, .inr (.inr (.inr rfl))⟩
  rcases hi' with rfl | rfl | rfl | rfl <;> rcases hk' with rfl | rfl | rfl | rfl
  · exact ⟨(0, b0), (1, b1), (2, b2), (3, b3), hT (0, b0), hT (0, b0), (0, b0), ⟨show ([0, 1, 2, 3] : List Nat).Nodup by decide, key _ (by intro q hq; simp only [List.mem_cons, List.not_mem_nil, or_false] at hq; rcases hq with rfl | rfl | rfl | rfl <;> simp), by cases b0 <;> cases b1 <;> cases b2 <;> cases b3 <;> rfl⟩, rfl, rfl, rfl, by simp, rfl⟩
  · exact ⟨(1, b1), (0, b0), (2, b2), (3, b3), hT (0, b0), hT (1, b1), (1, b1), ⟨show ([1, 0, 2, 3] : List Nat).Nodup by decide, key _ (by intro q hq; simp only [List.mem_cons, List.not_mem_nil, or_false] at hq; rcases hq with rfl | rfl | rfl | rfl <;> simp), by cases b0 <;> cases b1 <;> cases b2 <;> cases b3 <;> rfl⟩, rfl, rfl, rfl, by simp, rfl⟩
  · exact ⟨(2, b2), (1, b1), (0, b0), (3, b3), hT (0, b0), hT (2, b2), (2, b2), ⟨show ([2, 1, 0, 3] : List Nat).Nodup by decide, key _ (by intro q hq; simp only [List.mem_cons, List.not_mem_nil, or_false] at hq; rcases hq with rfl | rfl | rfl | rfl <;> simp), by cases b0 <;> cases b1 <;> cases b2 <;> cases b3 <;> rfl⟩, rfl, rfl, rfl, by simp, rfl⟩
  · exact ⟨(3, b3), (1, b1), (2, b2), (0, b0), hT (0, b0), hT (3, b3), (3, b3), ⟨show ([3, 1, 2, 0] : List Nat).Nodup by decide, key _ (by intro q hq; simp only [List.mem_cons, List.not_mem_nil, or_false] at hq; rcases hq with rfl | rfl | rfl | rfl <;> simp), by cases b0 <;> cases b1 <;> cases b2 <;> cases b3 <;> rfl⟩, rfl, rfl, rfl, by simp, rfl⟩
  · exact ⟨(1, b1), (0, b0), (2, b2), (3, b3), hT (1, b1), hT (0, b0), (0, b0), ⟨show ([1, 0, 2, 3] : List Nat).Nodup by decide, key _ (by intro q hq; simp only [List.mem_cons, List.not_mem_nil, or_false] at hq; rcases hq with rfl | rfl | rfl | rfl <;> simp), by cases b0 <;> cases b1 <;> cases b2 <;> cases b3 <;> rfl⟩, rfl, rfl, rfl, by simp, rfl⟩
  · exact ⟨(0, b0), (1, b1), (2, b2), (3, b3), hT (1, b1), hT (1, b1), (1, b1), ⟨show ([0, 1, 2, 3] : List Nat).Nodup by decide, key _ (by intro q hq; simp only [List.mem_cons, List.not_mem_nil, or_false] at hq; rcases hq with rfl | rfl | rfl | rfl <;> simp), by cases b0 <;> cases b1 <;> cases b2 <;> cases b3 <;> rfl⟩, rfl, rfl, rfl, by simp, rfl⟩
  · exact ⟨(0, b0), (2, b2), (1, b1), (3, b3), hT (1, b1), hT (2, b2), (2, b2), ⟨show ([0, 2, 1, 3] : List Nat).Nodup by decide, key _ (by intro q hq; simp only [List.mem_cons, List.not_mem_nil, or_false] at hq; rcases hq with rfl | rfl | rfl | rfl <;> simp), by cases b0 <;> cases b1 <;> cases b2 <;> cases b3 <;> rfl⟩, rfl, rfl, rfl, by simp, rfl⟩
  · exact ⟨(0, b0), (3, b3), (2, b2), (1, b1), hT (1, b1), hT (3, b3), (3, b3), ⟨show ([0, 3, 2, 1] : List Nat).Nodup by decide, key _ (by intro q hq; simp only [List.mem_cons, List.not_mem_nil, or_false] at hq; rcases hq with rfl | rfl | rfl | rfl <;> simp), by cases b0 <;> cases b1 <;> cases b2 <;> cases b3 <;> rfl⟩, rfl, rfl, rfl, by simp, rfl⟩
  · exact ⟨(2, b2), (1, b1), (0, b0), (3, b3), hT (2, b2), hT (0, b0), (0, b0), ⟨show ([2, 1, 0, 3] : List Nat).Nodup by decide, key _ (by intro q hq; simp only [List.mem_cons, List.not_mem_nil, or_false] at hq; rcases hq with rfl | rfl | rfl | rfl <;> simp), by cases b0 <;> cases b1 <;> cases b2 <;> cases b3 <;> rfl⟩, rfl, rfl, rfl, by simp, rfl⟩
  · exact ⟨(0, b0), (2, b2), (1, b1), (3, b3), hT (2, b2), hT (1, b1), (1, b1), ⟨show ([0, 2, 1, 3] : List Nat).Nodup by decide, key _ (by intro q hq; simp only [List.mem_cons, List.not_mem_nil, or_false] at hq; rcases hq with rfl | rfl | rfl | rfl <;> simp), by cases b0 <;> cases b1 <;> cases b2 <;> cases b3 <;> rfl⟩, rfl, rfl, rfl, by simp, rfl⟩
  · exact ⟨(0, b0), (1, b1), (2, b2), (3, b3), hT (2, b2), hT (2, b2), (2, b2), ⟨show ([0, 1, 2, 3] : List Nat).Nodup by decide, key _ (by intro q hq; simp only [List.mem_cons, List.not_mem_nil, or_false] at hq; rcases hq with rfl | rfl | rfl | rfl <;> simp), by cases b0 <;> cases b1 <;> cases b2 <;> cases b3 <;> rfl⟩, rfl, rfl, rfl, by simp, rfl⟩
  · exact ⟨(0, b0), (1, b1), (3, b3), (2, b2), hT (2, b2), hT (3, b3), (3, b3), ⟨show ([0, 1, 3, 2] : List Nat).Nodup by decide, key _ (by intro q hq; simp only [List.mem_cons, List.not_mem_nil, or_false] at hq; rcases hq with rfl | rfl | rfl | rfl <;> simp), by cases b0 <;> cases b1 <;> cases b2 <;> cases b3 <;> rfl⟩, rfl, rfl, rfl, by simp, rfl⟩
  · exact ⟨(3, b3), (1, b1), (2, b2), (0, b0), hT (3, b3), hT (0, b0), (0, b0), ⟨show ([3, 1, 2, 0] : List Nat).Nodup by decide, key _ (by intro q hq; simp only [List.mem_cons, List.not_mem_nil, or_false] at hq; rcases hq with rfl | rfl | rfl | rfl <;> simp), by cases b0 <;> cases b1 <;> cases b2 <;> cases b3 <;> rfl⟩, rfl, rfl, rfl, by simp, rfl⟩
  · exact ⟨(0, b0), (3, b3), (2, b2), (1, b1), hT (3, b3), hT (1, b1), (1, b1), ⟨show ([0, 3, 2, 1] : List Nat).Nodup by decide, key _ (by intro q hq; simp only [List.mem_cons, List.not_mem_nil, or_false] at hq; rcases hq with rfl | rfl | rfl | rfl <;> simp), by cases b0 <;> cases b1 <;> cases b2 <;> cases b3 <;> rfl⟩, rfl, rfl, rfl, by simp, rfl⟩
  · exact ⟨(0, b0), (1, b1), (3, b3), (2, b2), hT (3, b3), hT (2, b2), (2, b2), ⟨show ([0, 1, 3, 2] : List Nat).Nodup by decide, key _ (by intro q hq; simp only [List.mem_cons, List.not_mem_nil, or_false] at hq; rcases hq with rfl | rfl | rfl | rfl <;> simp), by cases b0 <;> cases b1 <;> cases b2 <;> cases b3 <;> rfl⟩, rfl, rfl, rfl, by simp, rfl⟩
  · exact ⟨(0, b0), (1, b1), (2, b2), (3, b3), hT (3, b3), hT (3, b3), (3, b3), ⟨show ([0, 1, 2, 3] : List Nat).Nodup by decide, key _ (by intro q hq; simp only [List.mem_cons, List.not_mem_nil, or_false] at hq; rcases hq with rfl | rfl | rfl | rfl <;> simp), by cases b0 <;> cases b1 <;> cases b2 <;> cases b3 <;> rfl⟩, rfl, rfl, rfl, by simp, rfl⟩
theorem one_part (j : Nat) (hj : j < 4) (b : List Sm) (hg : goodSFs b = true) (hd : depSs 0 b ≤ 7) (hr : rgSs b = true) (hz : szSs b ≤ 100000) (hl : (lsT 1 b).length ≤ 600) :
    szP (setH ⟨[], [], [], [], []⟩ j b) ≤ 1000000 ∧ rgP (setH ⟨[], [], [], [], []⟩ j b) = true ∧ fmtF (setH ⟨[], [], [], [], []⟩ j b) = (hT (j, b), 0) := by
  have h0 : depSs 0 [] ≤ 16 := by simp [depSs]
  have hh : (hdT (hw j) b).length ≤ 4096 := by
    have := hdT_fl (nm := hw j) (l := b) (by unfold hw; repeat' split
                                             all_goals decide)
    omega
  have hjj : j = 0 ∨ j = 1 ∨ j = 2 ∨ j = 3 := by omega
  have hn : ∀ nm, hdT nm [] = [] := fun nm => rfl
  rcases hjj with rfl | rfl | rfl | rfl
  all_goals
    refine ⟨by simp [setH, szP, szSs]; omega, by simp [setH, rgP, rgSs, hr], ?_⟩
    unfold fmtF
    rw [check_of (by simp [setH, depSs] <;> omega) (by simp [setH, depSs] <;> omega) (by simp [setH, depSs] <;> omega) (by simp [setH, depSs] <;> omega) (by simp [setH]) (by simp [setH, goodSFs, hg]) (by simp [setH, goodSFs, hg]) (by simp [setH, goodSFs, hg]) (by simp [setH, goodSFs, hg])]
    rw [if_neg (by simp)]
    simp only [setH, pgT, vsT, hn, hT, hw, List.map_nil, List.flatten_nil, List.nil_append, List.append_nil, if_true, if_false, ↓reduceIte, Nat.reduceEqDiff] at hh ⊢
    simp [hw] at hh ⊢
    omega
set_option maxRecDepth 100000 in
set_option maxHeartbeats 32000000 in
theorem handlers_law (cs : List UInt8) (a b : Nat) (ha : a < 256) (hb : b < 256) : AC Tryd.prog gl 6 [.pv (.slice (cs.map encB)), .pv (.int .u8 a), .pv (.int .u8 b)] [] (.pv (.bool true)) [] := by
  have cA := awake_ac
  have cN := new_ac cs 120 (by omega)
  have hxs : (cs.take 120).length ≤ 1000 := by simp only [List.length_take]; omega
  generalize cs.take 120 = xs at *
  have one : ∀ n, n ≤ xs.length → ∃ (v : List Sm) (n' : Nat), n' ≤ xs.length ∧ goodSFs v = true ∧ depSs 0 v ≤ 7 ∧ rgSs v = true ∧ szSs v ≤ 100000 ∧ (lsT 1 v).length ≤ 600 ∧
      AC Tryd.prog gl 14 [.ref 0 0, .pv (.int .i64 2), .pv (.int .i64 2)] (cdO xs n) (.pv (.slice (v.map encSm))) (cdO xs n') := fun n hn =>
    ⟨(stmtsF xs 2 2 n).1, (stmtsF xs 2 2 n).2, stmtsF_le xs 2 2 n hn, (stmtsF_good xs 2 n).1, (stmtsF_good xs 2 n).2, stmtsF_rg xs 2 2 n, by
      have h : szSs (stmtsF xs 2 2 n).1 ≤ 2 * sB 3 := stmtsF_sz xs 2 2 n
      have e : sB 3 ≤ 50000 := by decide
      omega, by have := stmtsF_fl2 xs 2 n; exact this, stmts_ac xs hxs 2 (by omega) 2 n (by omega) (by omega) hn⟩
  obtain ⟨b0, n1, l1, g0, d0, r0, z0, f0, c1⟩ := one 0 (by omega)
  obtain ⟨b1, n2, l2, g1, d1, r1, z1, f1, c2⟩ := one n1 l1
  obtain ⟨b2, n3, l3, g2, d2, r2, z2, f2, c3⟩ := one n2 l2
  obtain ⟨b3, n4, l4, g3, d3, r3, z3, f3, c4⟩ := one n3 l3
  obtain ⟨s0, v0, t0⟩ := one_part 0 (by omega) b0 g0 d0 r0 z0 f0
  obtain ⟨s1, v1, t1⟩ := one_part 1 (by omega) b1 g1 d1 r1 z1 f1
  obtain ⟨s2, v2, t2⟩ := one_part 2 (by omega) b2 g2 d2 r2 z2 f2
  obtain ⟨s3, v3, t3⟩ := one_part 3 (by omega) b3 g3 d3 r3 z3 f3
  have cSame := sameP_ac ⟨[], b0, b1, b2, b3⟩ (by simp [szP]; omega)
  unfold pgA at cSame
  simp only [List.map_nil] at cSame
  have q0 : ∀ s ∈ b0, GdS s := fun s hs => goodSF_GS _ s (Nat.le_refl _) (goodSFs_mem g0 hs) (rgSs_mem r0 hs)
  have q1 : ∀ s ∈ b1, GdS s := fun s hs => goodSF_GS _ s (Nat.le_refl _) (goodSFs_mem g1 hs) (rgSs_mem r1 hs)
  have q2 : ∀ s ∈ b2, GdS s := fun s hs => goodSF_GS _ s (Nat.le_refl _) (goodSFs_mem g2 hs) (rgSs_mem r2 hs)
  have q3 : ∀ s ∈ b3, GdS s := fun s hs => goodSF_GS _ s (Nat.le_refl _) (goodSFs_mem g3 hs) (rgSs_mem r3 hs)
  have wa : IntKind.i64.wrap (a : Int) = a := wrap64 _ (by omega) (by omega)
  have wb : IntKind.i64.wrap (b : Int) = b := wrap64 _ (by omega) (by omega)
  obtain ⟨i, hi⟩ := Int.eq_ofNat_of_zero_le (Int.tmod_nonneg (4 : Int) (show 0 ≤ (a : Int) by omega))
  have hi4 : i < 4 := by have := Int.tmod_lt_of_pos (a : Int) (show 0 < (4 : Int) by omega); omega
  obtain ⟨k, hk⟩ := Int.eq_ofNat_of_zero_le (Int.tmod_nonneg (4 : Int) (show 0 ≤ (b : Int) by omega))
  have hk4 : k < 4 := by have := Int.tmod_lt_of_pos (b : Int) (show 0 < (4 : Int) by omega); omega
  refine body0 (fun d => if d = 26 then 0 else if d = 8 then 3 else if d = 64 then 2 else if d = 11 then 4 else if d = 17 then 5 else 6) 7 Tryd.func6 rfl Tryd.ntmps6 (by rw [Tryd.results6]) (by simp) ?_
  (repeat' (first | simp -implicitDefEqProofs +contextual (maxSteps := 9000000) only [kx, ↓ky, tq6, simprocAttr, kz] | (with_reducible first | refine SB.c (fun _ => ?_) (fun _ => ?_) | refine REG.i ?_ | exact REG.j) | refine CK.d0 enters7 cA ?_ | refine CK.dx [] [0] enters11 cN ?_ | refine CK.dx [0] [] enters14 c1 ?_ | refine CK.dx [0] [] enters14 c2 ?_ | refine CK.dx [0] [] enters14 c3 ?_ | refine CK.dx [0] [] enters14 c4 ?_ | with_reducible refine AndI ?_ | omega))
  (refine LW.weak (Weak.nilRow 9 1 1 rfl rfl (by decide)) ?_; simp only [List.set_cons_zero, List.set_cons_succ])
  refine LW.weak Weak.nz ?_
  simp only [St.nz, nzL, nzOs, nzO, nz]
  refine loopV (ι := {k : Nat // k ≤ 4}) (fun i => ⟨(.junk :: .pv (.int .u8 a) :: .pv (.int .u8 b) :: .junk :: .junk :: .junk :: .junk :: .junk :: .ref 3 0 :: .row 1 i.1 :: .junk :: .junk :: .junk :: .junk :: .junk :: .junk :: .junk :: .junk :: .junk :: .junk :: .junk :: .junk :: .junk :: .junk :: .junk :: .junk :: .junk :: .junk :: .junk :: .junk :: .junk :: .junk :: .junk :: .junk :: .junk :: .junk :: .junk :: .junk :: .junk :: .junk :: .junk :: .junk :: .junk :: .junk :: .junk :: .junk :: .junk :: .junk :: .pv (.slice [[.slice [], .slice (b0.map encSm), .slice [], .slice [], .slice []], [.slice [], .slice [], .slice (b1.map encSm), .slice [], .slice []], [.slice [], .slice [], .slice [], .slice (b2.map encSm), .slice []], [.slice [], .slice [], .slice [], .slice [], .slice (b3.map encSm)]]) :: .pv (.int .i64 4) :: .pv (.int .i64 i.1) :: .junk :: .junk :: .junk :: .junk :: .junk :: .junk :: .junk :: .junk :: .junk :: .junk :: .junk :: .junk :: .junk :: .junk :: .junk :: .junk :: .junk :: .junk :: .junk :: .junk :: .junk :: .junk :: .junk :: .junk :: .junk :: .junk :: .junk :: .junk :: .junk :: .junk :: .junk :: .junk :: .junk :: .junk :: .junk :: .junk :: .junk :: .junk :: .junk :: .junk :: .junk :: .junk :: .junk :: .junk :: .junk :: .junk :: .junk :: .junk :: .junk :: .junk :: .junk :: .junk :: .junk :: .junk :: .junk :: .junk :: .junk :: .junk :: .junk :: .junk :: .junk :: .junk :: .junk :: .junk :: .junk :: .junk :: .junk :: .junk :: .junk :: .junk :: .junk :: .junk :: .junk :: .junk :: .junk :: .junk :: .junk :: .junk :: .junk :: .junk :: .junk :: .junk :: .junk :: .junk :: .junk :: .junk :: .junk :: .junk :: .junk :: .junk :: .junk :: .junk :: .junk :: .junk :: .junk :: .junk :: .junk :: .junk :: .junk :: .junk :: .junk :: .junk :: .junk :: []), [none, some (.row 1 ((rowT b0 b1 b2 b3).take i.1)), none, some (.cells [.pv (.slice []), .pv (.slice (b0.map encSm)), .pv (.slice (b1.map encSm)), .pv (.slice (b2.map encSm)), .pv (.slice (b3.map encSm))]), none, none, none]⟩) (fun i => 4 - i.1) ⟨0, by omega⟩ WFn ?_
  clear cA cN c1 c2 c3 c4 one
  rintro ⟨m, hm⟩
  by_cases hlt : m < 4
  · have hlt' : (m : Int) < 4 := by omega
    have hw := wrapS m (by omega)
    have hG : ∃ (q : PgD) (t : List UInt8), szP q ≤ 1000000 ∧ rgP q = true ∧ fmtF q = (t, 0) ∧ ([[.slice [], .slice (b0.map encSm), .slice [], .slice [], .slice []], [.slice [], .slice [], .slice (b1.map encSm), .slice [], .slice []], [.slice [], .slice [], .slice [], .slice (b2.map encSm), .slice []], [.slice [], .slice [], .slice [], .slice [], .slice (b3.map encSm)]] : List (List PVal)).getD m [] = [.slice (q.vars.map encVar), .slice (q.start.map encSm), .slice (q.message.map encSm), .slice (q.tick.map encSm), .slice (q.input.map encSm)] ∧ (rowT b0 b1 b2 b3).take m ++ [[.str t]] = (rowT b0 b1 b2 b3).take (m + 1) := by
      rcases (show m = 0 ∨ m = 1 ∨ m = 2 ∨ m = 3 by omega) with rfl | rfl | rfl | rfl
      · exact ⟨_, _, s0, v0, t0, rfl, rfl⟩
      · exact ⟨_, _, s1, v1, t1, rfl, rfl⟩
      · exact ⟨_, _, s2, v2, t2, rfl, rfl⟩
      · exact ⟨_, _, s3, v3, t3, rfl, rfl⟩
    obtain ⟨q, t, u1, u2, u3, u4, u5⟩ := hG
    have cF := format_ac q u1 u2
    rw [u3] at cF
    unfold pgA at cF
    simp only at cF
    have hl1 : ((rowT b0 b1 b2 b3).take m).length = m := by simp [rowT]; omega
    have hl2 : ((rowT b0 b1 b2 b3).take (m + 1)).length = m + 1 := by simp [rowT]; omega
    have hr := roomL (m + 1) 16 (by omega)
    clear cSame
    (repeat' (first | simp -implicitDefEqProofs +contextual (maxSteps := 9000000) only [kx, ↓ky, tq6, simprocAttr, hlt, hlt', hw, u4, u5, hl1, hl2, hr] | (with_reducible first | refine SB.c (fun _ => ?_) (fun _ => ?_) | refine REG.i ?_ | exact REG.j) | refine CK.d0 enters13 cF ?_ | with_reducible refine AndI ?_ | omega))
    exact ⟨⟨m + 1, by omega⟩, (WTe [0, 2, 1, 3, 4, 5, 6] (by simp [kwt, u5, hl1, hl2]) (by simp [kwt, u5, hl1, hl2])), by show 4 - (m + 1) < 4 - m; omega⟩
  · have h4 : m = 4 := by omega
    subst h4
    have hta : (rowT b0 b1 b2 b3).take 4 = rowT b0 b1 b2 b3 := rfl
    obtain ⟨p0, p1, p2, p3, ti, tk, q, ⟨e1, e2, e3⟩, e4, e5, e6, e7, e8⟩ := swap_parts i k hi4 hk4 b0 b1 b2 b3 q0 q1 q2 q3
    have hlen : (rowT b0 b1 b2 b3).length = 4 := rfl
    have hl2 : (rowSet (rowT b0 b1 b2 b3) i 0 [.str tk]).length = 4 := by simp [rowSet, rowT]
    have hgd : ∀ q ∈ [p0, p1, p2, p3], q.1 < 4 ∧ ∀ s ∈ q.2, GdS s := fun q hq => ⟨(e2 q hq).1, (e2 q hq).2.1⟩
    have hle : ∀ q ∈ [p0, p1, p2, p3], (hT q).length ≤ 620 := by
      intro q hq
      have hls : (lsT 1 q.2).length ≤ 600 := by
        rcases (e2 q hq).2.2 with h | h | h | h <;> rw [h] <;> assumption
      have := hdT_fl (nm := hw q.1) (l := q.2) (by unfold hw; repeat' split
                                                   all_goals decide)
      unfold hT
      omega
    have hdp : depP (foldP ⟨[], [], [], [], []⟩ [p0, p1, p2, p3]) ≤ 16 := by
      rw [e3]; exact depP_le (by show depSs 0 b0 ≤ 16; omega) (by show depSs 0 b1 ≤ 16; omega) (by show depSs 0 b2 ≤ 16; omega) (by show depSs 0 b3 ≤ 16; omega)
    have hT4 : hT p0 ++ hT p1 ++ hT p2 ++ hT p3 = hsT [p0, p1, p2, p3] := by simp [hsT, hT]
    have hTl : (hsT [p0, p1, p2, p3]).length ≤ 2480 := by
      rw [← hT4]
      have := hle p0 (by simp)
      have := hle p1 (by simp)
      have := hle p2 (by simp)
      have := hle p3 (by simp)
      simp only [List.length_append]
      omega
    have hra := read_all (vs := []) (hs := [p0, p1, p2, p3]) (fun v hv => by cases hv) hgd e1 (by simp only [vsT, List.map_nil, List.flatten_nil, List.nil_append]; omega) hdp
    rw [e3] at hra
    simp only [vsT, List.map_nil, List.flatten_nil, List.nil_append] at hra
    have cP := Parse_ac (hsT [p0, p1, p2, p3])
    rw [hra] at cP
    unfold rP pgA at cP
    simp only [List.map_nil] at cP
    have hql := hle q e7
    have hxd : q.2.length ≠ 0 → parF (hsT [p0, p1, p2, p3] ++ hT q) = (pgZ, ((hsT [p0, p1, p2, p3]).length : Int) + 3, 1) := fun hne => by
      obtain ⟨j, bb⟩ := q
      have hql' : (hdT (hw j) bb).length ≤ 620 := hql
      exact read_dup hgd e1 e7 hne (by simp only [List.length_append]; omega)
    have cD := Parse_ac (hsT [p0, p1, p2, p3] ++ hT q)
    have hq0 : q.2.length = 0 → hT q = [] := fun h => by unfold hT hdT; rw [if_pos h]
    have hq1 : q.2.length ≠ 0 → hT q ≠ [] := fun h => by unfold hT hdT; rw [if_neg h]; simp
    rw [hta]
    have k0 := hle p0 (by simp)
    have k1 := hle p1 (by simp)
    have k2 := hle p2 (by simp)
    have k3 := hle p3 (by simp)
    clear hra hdp hle hgd e1 e2 e3 hta t0 t1 t2 t3
    generalize hsT [p0, p1, p2, p3] = T at *
    generalize rowT b0 b1 b2 b3 = R at *
    generalize hT p0 = w0 at *
    generalize hT p1 = w1 at *
    generalize hT p2 = w2 at *
    generalize hT p3 = w3 at *
    have hw3 : IntKind.i64.wrap ((T.length : Int) + 3) = (T.length : Int) + 3 := wrap64 _ (by omega) (by omega)
    have hpi : pcell R i 0 = .str ti := by unfold pcell; rw [e4]; rfl
    have hpk : pcell R k 0 = .str tk := by unfold pcell; rw [e5]; rfl
    have hpu : pcell [[.str w0], [.str w1], [.str w2], [.str w3]] i 0 = .str (hT q) := by unfold pcell; rw [e8]; rfl
    have x0 : pcell [[.str w0], [.str w1], [.str w2], [.str w3]] 0 0 = .str w0 := rfl
    have x1 : pcell [[.str w0], [.str w1], [.str w2], [.str w3]] 1 0 = .str w1 := rfl
    have x2 : pcell [[.str w0], [.str w1], [.str w2], [.str w3]] 2 0 = .str w2 := rfl
    have x3 : pcell [[.str w0], [.str w1], [.str w2], [.str w3]] 3 0 = .str w3 := rfl
    have y1 : w0.length + w1.length ≤ 4611686018427387904 := by omega
    have y2 : (w0 ++ w1).length + w2.length ≤ 4611686018427387904 := by simp only [List.length_append]; omega
    have y3 : (w0 ++ w1 ++ w2).length + w3.length ≤ 4611686018427387904 := by simp only [List.length_append]; omega
    have y4 : T.length + (hT q).length ≤ 4611686018427387904 := by omega
    have hi4' : (i : Int) < 4 := by omega
    have hk4' : (k : Int) < 4 := by omega
    by_cases hq : q.2.length = 0
    · have hqq := hq0 hq
      rw [hqq] at hpu cD y4
      rw [List.length_nil] at y4
      rw [List.append_nil] at cD
      clear cD hxd hq0 hq1 e7
      (repeat' (first | simp -implicitDefEqProofs +contextual (maxSteps := 9000000) only [kx, ↓ky, tq6, simprocAttr, wa, wb, hi, hk, hi4, hk4, hlen, hpi, hpk, e6, hpu, x0, x1, x2, x3, y1, y2, y3, y4, hl2, hT4, hw3, List.append_nil] | (with_reducible first | refine SB.c (fun _ => ?_) (fun _ => ?_) | refine REG.i ?_ | exact REG.j) | refine CK.d0 enters8 cP ?_ | refine CK.d0 enters9 cSame ?_ | with_reducible refine AndI ?_ | omega))
    · have hqq := hq1 hq
      rw [hxd hq] at cD
      unfold rP pgA pgZ at cD
      simp only [List.map_nil] at cD
      have hb1 : (hT q == []) = false := by simpa using hqq
      have hb2 : (hT q != []) = true := by simpa using hqq
      clear hxd hq0 hq1 e7
      generalize hT q = wq at *
      (repeat' (first | simp -implicitDefEqProofs +contextual (maxSteps := 9000000) only [kx, ↓ky, tq6, simprocAttr, wa, wb, hi, hk, hi4, hk4, hlen, hpi, hpk, e6, hpu, x0, x1, x2, x3, y1, y2, y3, y4, hl2, hT4, hw3, hb1, hb2] | (with_reducible first | refine SB.c (fun _ => ?_) (fun _ => ?_) | refine REG.i ?_ | exact REG.j) | refine CK.d0 enters8 cP ?_ | refine CK.d0 enters8 cD ?_ | refine CK.d0 enters9 cSame ?_ | with_reducible refine AndI ?_ | omega))
end Go.Proofs.YtopbicbgolcmpaaDoor
