/- A part of the walk (Tryd_W3): its theorems have no condition beyond what they state. -/
import Derived.Test.YtopbicbgolcmpaaDoorW2
set_option linter.unusedSimpArgs false
set_option linter.unusedVariables false
set_option linter.defProp false
namespace Go.Proofs.YtopbicbgolcmpaaDoor
open Go Go.Abs Go.RowKit
set_option maxRecDepth 100000 in
set_option maxHeartbeats 4000000 in
theorem indent_ac (n : Nat) (t : List UInt8) (hn : n ≤ 100000000) (hb : t.length ≤ 100000000000000) : AC Tryd.prog gl 62 [.ref 0 0, .pv (.int .i64 n)] (wrO t) (.tup []) (wrQ (t ++ indT n)) := by
  refine bodyO (fun _ => 3) 4 Tryd.func62 rfl Tryd.ntmps62 (by rw [Tryd.results62]) (by simp) (by simp) ?_
  (repeat' (first | simp -implicitDefEqProofs +contextual (maxSteps := 9000000) only [kx, ↓ky, tq62, simprocAttr] | (with_reducible first | refine SB.c (fun _ => ?_) (fun _ => ?_) | refine REG.i ?_ | exact REG.j) | with_reducible refine AndI ?_ | omega))
  refine loopV (ι := {k : Nat // k ≤ n}) (fun i => ⟨[.ref 0 0, .junk, .junk, .junk, .pv (.int .i64 n), .pv (.int .i64 i.1), .junk, .junk, .junk, .junk, .junk], [some (.cells [.row 2 (t ++ indT i.1).length]), some .dead, some (.row 1 ((t ++ indT i.1).map bRow)), none]⟩) (fun i => n - i.1) ⟨0, by omega⟩ (WMe [0, 1, 1, 3] (by simp [kwt, indT]) (by simp [kwt, indT])) ?_
  rintro ⟨k, hk⟩
  by_cases hlt : k < n
  · have hlt' : (k : Int) < n := by omega
    have hw := wrapS k (by omega)
    have hlk : (indT k).length = 2 * k := by simp [indT]
    have c := put1 [32, 32] (t ++ indT k) (by simp only [List.length_append, hlk, List.length_cons, List.length_nil]; omega)
    have hu : t ++ indT (k + 1) = (t ++ indT k) ++ [32, 32] := by
      rw [List.append_assoc]
      congr 1
      unfold indT
      rw [show 2 * (k + 1) = 2 * k + 2 by omega, ← List.replicate_append_replicate]
      rfl
    rw [← hu] at c
    (repeat' (first | simp -implicitDefEqProofs +contextual (maxSteps := 9000000) only [kx, ↓ky, tq62, simprocAttr, hlt', hw, kz] | (with_reducible first | refine SB.c (fun _ => ?_) (fun _ => ?_) | refine REG.i ?_ | exact REG.j) | refine CK.dx [0, 2] [3] enters33 c ?_ | with_reducible refine AndI ?_ | omega))
    exact ⟨⟨k + 1, by omega⟩, (WTe [0, 1, 3, 2] (by simp [kwt]) (by simp [kwt])), by show n - (k + 1) < n - k; omega⟩
  · have hlt' : ¬ (k : Int) < n := by omega
    have hke : k = n := by omega
    subst hke
    (repeat' (first | simp -implicitDefEqProofs +contextual (maxSteps := 9000000) only [kx, ↓ky, tq62, simprocAttr, hlt'] | (with_reducible first | refine SB.c (fun _ => ?_) (fun _ => ?_) | refine REG.i ?_ | exact REG.j) | with_reducible refine AndI ?_ | omega))
    (refine retQ.mk [0, 1, 2] ?_ ?_ <;> simp [kwr, tq62])
def LW3 (n : Nat) (l : List Sm) : Prop := ∀ t : List UInt8, t.length + (lsT n l).length ≤ 100000000000000 → AC Tryd.prog gl 52 [.ref 0 0, .pv (.slice (l.map encSm)), .pv (.int .i64 n)] (wrO t) (.tup []) (wrQ (t ++ lsT n l))
def SW3 (n : Nat) (s : Sm) : Prop := ∀ t : List UInt8, t.length + (stT n s).length ≤ 100000000000000 → AC Tryd.prog gl 63 [.ref 0 0, .pv (.ptr (encSm s)), .pv (.int .i64 n)] (wrO t) (.tup []) (wrQ (t ++ stT n s))
set_option maxRecDepth 100000 in
set_option maxHeartbeats 4000000 in
theorem wlist_of (n : Nat) (hn : n ≤ 100000000) (l : List Sm) (hl : l.length ≤ 1000000000) (hS : ∀ s ∈ l, SW3 n s) : LW3 n l := by
  intro t hb
  refine bodyO (fun _ => 3) 5 Tryd.func52 rfl Tryd.ntmps52 (by rw [Tryd.results52]) (by simp) (by simp) ?_
  (repeat' (first | simp -implicitDefEqProofs +contextual (maxSteps := 9000000) only [kx, ↓ky, tq52, simprocAttr] | (with_reducible first | refine SB.c (fun _ => ?_) (fun _ => ?_) | refine REG.i ?_ | exact REG.j) | with_reducible refine AndI ?_ | omega))
  refine loopV (ι := {q : Nat × List UInt8 // q.1 ≤ l.length ∧ q.2 ++ lsT n (l.drop q.1) = t ++ lsT n l}) (fun i => ⟨[.ref 0 0, .pv (.slice (l.map encSm)), .pv (.int .i64 n), .junk, .junk, .junk, .junk, .junk, .pv (.int .i64 l.length), .pv (.int .i64 i.1.1), .junk, .junk, .junk, .junk, .junk, .junk, .junk, .junk, .junk, .junk, .junk, .junk], [some (.cells [.row 2 i.1.2.length]), some .dead, some (.row 1 (i.1.2.map bRow)), none, none]⟩) (fun i => l.length - i.1.1) ⟨(0, t), by simp⟩ (WMe [0, 1, 1, 3, 4] (by simp [kwt]) (by simp [kwt])) ?_
  rintro ⟨⟨k, u⟩, hk, hu⟩
  replace hk : k ≤ l.length := hk
  replace hu : u ++ lsT n (l.drop k) = t ++ lsT n l := hu
  by_cases hlt : k < l.length
  · have hlt' : (k : Int) < l.length := by omega
    have hget := getD_map encSm l k hlt
    have hc := hS l[k] (List.getElem_mem hlt)
    rw [List.drop_eq_getElem_cons hlt, lsT] at hu
    have hlen := congrArg List.length hu
    simp only [List.length_append] at hlen
    generalize l[k] = x at *
    have hx := encSm_length x
    have hw := wrapS k (by omega)
    have c1 := indent_ac n u hn (by omega)
    have c2 := hc (u ++ indT n) (by simp only [List.length_append]; omega)
    (repeat' (first | simp -implicitDefEqProofs +contextual (maxSteps := 9000000) only [kx, ↓ky, tq52, simprocAttr, hlt', hlt, hget, hx, hw, kz] | (with_reducible first | refine SB.c (fun _ => ?_) (fun _ => ?_) | refine REG.i ?_ | exact REG.j) | refine CK.dx [0, 2] [3] enters62 c1 ?_ | refine CK.dx [0, 3] [4] enters63 c2 ?_ | with_reducible refine AndI ?_ | omega))
    exact ⟨⟨(k + 1, u ++ indT n ++ stT n x), by show k + 1 ≤ l.length; omega, by show u ++ indT n ++ stT n x ++ lsT n (l.drop (k + 1)) = t ++ lsT n l; rw [← hu]; simp⟩, (WTe [0, 1, 4, 2, 3] (by simp [kwt]) (by simp [kwt])), by show l.length - (k + 1) < l.length - k; omega⟩
  · have hlt' : ¬ (k : Int) < l.length := by omega
    rw [List.drop_eq_nil_of_le (by omega), lsT, List.append_nil] at hu
    subst hu
    (repeat' (first | simp -implicitDefEqProofs +contextual (maxSteps := 9000000) only [kx, ↓ky, tq52, simprocAttr, hlt'] | (with_reducible first | refine SB.c (fun _ => ?_) (fun _ => ?_) | refine REG.i ?_ | exact REG.j) | with_reducible refine AndI ?_ | omega))
    (refine retQ.mk [0, 1, 2] ?_ ?_ <;> simp [kwr, tq52])
theorem good_stm {s : Sm} (hg : goodSF s = true) : (1 ≤ s.kind ∧ s.kind ≤ 6) ∧ ((s.kind = 2 ∨ s.kind = 5) → goodEF s.place = true) ∧ goodEF s.value = true ∧ goodSFs s.body = true ∧ goodSFs s.els = true ∧ (s.kind ≠ 3 → s.els = []) := by
  rw [goodSF_eq] at hg
  simp only [Bool.and_eq_true, headSF, decide_eq_true_eq] at hg
  refine ⟨⟨hg.1.1.1.1.1.1.1.1, hg.1.1.1.1.1.1.1.2⟩, fun h => ?_, hg.2.1.1, hg.2.1.2, hg.2.2, fun h => ?_⟩
  · have hp := hg.1.1.1.2
    have hc : (s.kind == 2 || s.kind == 5) = true := by rcases h with h | h <;> simp [h]
    simpa only [hc, if_true] using hp
  · have he := hg.1.2
    have h3 : (s.kind != 3) = true := by simpa using h
    rw [h3] at he
    simp at he
    exact he
set_option maxRecDepth 100000 in
set_option maxHeartbeats 8000000 in
theorem wnest_ac (n : Nat) (hn : n ≤ 10000000) (s : Sm) (hg : goodSF s = true) (hr : rgS s = true) (hz : szS s ≤ 1000000) (hB : LW3 (n + 1) s.body) (hE : LW3 (n + 1) s.els) (hk : s.kind = 3 ∨ s.kind = 4) (t : List UInt8) (hb : t.length + (stT n s).length ≤ 100000000000000) :
    AC Tryd.prog gl 73 [.ref 0 0, .pv (.ptr (encSm s)), .pv (.int .i64 n)] (wrO t) (.tup []) (wrQ (t ++ stT n s)) := by
  obtain ⟨g1, g2, g3, g4, g5, g6⟩ := good_stm hg
  rw [rgS_eq] at hr
  simp only [Bool.and_eq_true] at hr
  have hsz := szS_eq s
  have hw : IntKind.i64.wrap ((n : Int) + 1) = ((n + 1 : Nat) : Int) := wrapS n (by omega)
  have hlV := fmE_len s.value g3
  rw [stT_eq] at hb ⊢
  have hli : (indT n).length = 2 * n := by simp [indT]
  have hse := encSm_eq s
  rw [hse]
  by_cases he : s.els.length > 0
  · have hk3 : s.kind = 3 := by
      rcases hk with h | h
      · exact h
      · exfalso; have := g6 (by omega); rw [this] at he; simp at he
    have he' : ((s.els.length : Nat) : Int) > 0 := by omega
    have ev : fmS s.kind s.name (fmE s.place) (fmE s.value) (lsT (n + 1) s.body) (lsT (n + 1) s.els) (decide (s.els.length > 0)) n = [105, 102, 32] ++ fmE s.value ++ [32, 123, 10] ++ lsT (n + 1) s.body ++ indT n ++ ([125, 32, 101, 108, 115, 101, 32, 123, 10] ++ lsT (n + 1) s.els ++ indT n) ++ [125, 10] := by
      rw [hk3, decide_eq_true he]; rfl
    rw [ev] at hb ⊢
    simp only [List.length_append, List.length_cons, List.length_nil, hli] at hb
    have c1 := put1 [105, 102, 32] t (by simp only [List.length_append, List.length_cons, List.length_nil]; omega)
    have c2 := wexpr_ac _ s.value (Nat.le_refl _) g3 hr.1.1.2 (t ++ [105, 102, 32]) (by simp only [List.length_append, List.length_cons, List.length_nil]; omega)
    have c3 := put1 [32, 123, 10] (t ++ [105, 102, 32] ++ fmE s.value) (by simp only [List.length_append, List.length_cons, List.length_nil]; omega)
    have c4 := hB (t ++ [105, 102, 32] ++ fmE s.value ++ [32, 123, 10]) (by simp only [List.length_append, List.length_cons, List.length_nil]; omega)
    have c5 := indent_ac n (t ++ [105, 102, 32] ++ fmE s.value ++ [32, 123, 10] ++ lsT (n + 1) s.body) (by omega) (by simp only [List.length_append, List.length_cons, List.length_nil]; omega)
    have c6 := put1 [125, 32, 101, 108, 115, 101, 32, 123, 10] (t ++ [105, 102, 32] ++ fmE s.value ++ [32, 123, 10] ++ lsT (n + 1) s.body ++ indT n) (by simp only [List.length_append, List.length_cons, List.length_nil, hli]; omega)
    have c7 := hE (t ++ [105, 102, 32] ++ fmE s.value ++ [32, 123, 10] ++ lsT (n + 1) s.body ++ indT n ++ [125, 32, 101, 108, 115, 101, 32, 123, 10]) (by simp only [List.length_append, List.length_cons, List.length_nil, hli]; omega)
    have c8 := indent_ac n (t ++ [105, 102, 32] ++ fmE s.value ++ [32, 123, 10] ++ lsT (n + 1) s.body ++ indT n ++ [125, 32, 101, 108, 115, 101, 32, 123, 10] ++ lsT (n + 1) s.els) (by omega) (by simp only [List.length_append, List.length_cons, List.length_nil, hli]; omega)
    have c9 := put1 [125, 10] (t ++ [105, 102, 32] ++ fmE s.value ++ [32, 123, 10] ++ lsT (n + 1) s.body ++ indT n ++ [125, 32, 101, 108, 115, 101, 32, 123, 10] ++ lsT (n + 1) s.els ++ indT n) (by simp only [List.length_append, List.length_cons, List.length_nil, hli]; omega)
    rw [encEx_eq] at c2
    have ef : t ++ [105, 102, 32] ++ fmE s.value ++ [32, 123, 10] ++ lsT (n + 1) s.body ++ indT n ++ [125, 32, 101, 108, 115, 101, 32, 123, 10] ++ lsT (n + 1) s.els ++ indT n ++ [125, 10] = t ++ ([105, 102, 32] ++ fmE s.value ++ [32, 123, 10] ++ lsT (n + 1) s.body ++ indT n ++ ([125, 32, 101, 108, 115, 101, 32, 123, 10] ++ lsT (n + 1) s.els ++ indT n) ++ [125, 10]) := by simp only [List.append_assoc]
    rw [ef] at c9
    refine bodyO (fun _ => 2) 11 Tryd.func73 rfl Tryd.ntmps73 (by rw [Tryd.results73]) (by simp) (by simp) ?_
    (repeat' (first | simp -implicitDefEqProofs +contextual (maxSteps := 9000000) only [kx, ↓ky, tq73, simprocAttr, hk3, hw, he', kz] | (with_reducible first | refine SB.c (fun _ => ?_) (fun _ => ?_) | refine REG.i ?_ | exact REG.j) | refine CK.dx [0, 1] [2] enters33 c1 ?_ | refine CK.dx [0, 2] [3] enters74 c2 ?_ | refine CK.dx [0, 3] [4] enters33 c3 ?_ | refine CK.dx [0, 4] [5] enters52 c4 ?_ | refine CK.dx [0, 5] [6] enters62 c5 ?_ | refine CK.dx [0, 6] [7] enters33 c6 ?_ | refine CK.dx [0, 7] [8] enters52 c7 ?_ | refine CK.dx [0, 8] [9] enters62 c8 ?_ | refine CK.dx [0, 9] [10] enters33 c9 ?_ | with_reducible refine AndI ?_ | omega))
    (refine retQ.mk [0, 1, 10] ?_ ?_ <;> simp [kwr, tq73])
  · have he' : ¬ ((s.els.length : Nat) : Int) > 0 := by omega
    rcases hk with hk | hk
    · have ev : fmS s.kind s.name (fmE s.place) (fmE s.value) (lsT (n + 1) s.body) (lsT (n + 1) s.els) (decide (s.els.length > 0)) n = [105, 102, 32] ++ fmE s.value ++ [32, 123, 10] ++ lsT (n + 1) s.body ++ indT n ++ [] ++ [125, 10] := by
        rw [hk, decide_eq_false he]; rfl
      rw [ev, List.append_nil] at hb ⊢
      simp only [List.length_append, List.length_cons, List.length_nil, hli] at hb
      have c1 := put1 [105, 102, 32] t (by simp only [List.length_append, List.length_cons, List.length_nil]; omega)
      have c2 := wexpr_ac _ s.value (Nat.le_refl _) g3 hr.1.1.2 (t ++ [105, 102, 32]) (by simp only [List.length_append, List.length_cons, List.length_nil]; omega)
      have c3 := put1 [32, 123, 10] (t ++ [105, 102, 32] ++ fmE s.value) (by simp only [List.length_append, List.length_cons, List.length_nil]; omega)
      have c4 := hB (t ++ [105, 102, 32] ++ fmE s.value ++ [32, 123, 10]) (by simp only [List.length_append, List.length_cons, List.length_nil]; omega)
      have c5 := indent_ac n (t ++ [105, 102, 32] ++ fmE s.value ++ [32, 123, 10] ++ lsT (n + 1) s.body) (by omega) (by simp only [List.length_append, List.length_cons, List.length_nil]; omega)
      have c9 := put1 [125, 10] (t ++ [105, 102, 32] ++ fmE s.value ++ [32, 123, 10] ++ lsT (n + 1) s.body ++ indT n) (by simp only [List.length_append, List.length_cons, List.length_nil, hli]; omega)
      rw [encEx_eq] at c2
      have ef : t ++ [105, 102, 32] ++ fmE s.value ++ [32, 123, 10] ++ lsT (n + 1) s.body ++ indT n ++ [125, 10] = t ++ ([105, 102, 32] ++ fmE s.value ++ [32, 123, 10] ++ lsT (n + 1) s.body ++ indT n ++ [125, 10]) := by simp only [List.append_assoc]
      rw [ef] at c9
      refine bodyO (fun _ => 2) 11 Tryd.func73 rfl Tryd.ntmps73 (by rw [Tryd.results73]) (by simp) (by simp) ?_
      (repeat' (first | simp -implicitDefEqProofs +contextual (maxSteps := 9000000) only [kx, ↓ky, tq73, simprocAttr, hk, hw, he', kz] | (with_reducible first | refine SB.c (fun _ => ?_) (fun _ => ?_) | refine REG.i ?_ | exact REG.j) | refine CK.dx [0, 1] [2] enters33 c1 ?_ | refine CK.dx [0, 2] [3] enters74 c2 ?_ | refine CK.dx [0, 3] [4] enters33 c3 ?_ | refine CK.dx [0, 4] [5] enters52 c4 ?_ | refine CK.dx [0, 5] [6] enters62 c5 ?_ | refine CK.dx [0, 6] [7] enters33 c9 ?_ | with_reducible refine AndI ?_ | omega))
      (refine retQ.mk [0, 1, 7] ?_ ?_ <;> simp [kwr, tq73])
    · have ev : fmS s.kind s.name (fmE s.place) (fmE s.value) (lsT (n + 1) s.body) (lsT (n + 1) s.els) (decide (s.els.length > 0)) n = [119, 104, 105, 108, 101, 32] ++ fmE s.value ++ [32, 123, 10] ++ lsT (n + 1) s.body ++ indT n ++ [] ++ [125, 10] := by
        rw [hk, decide_eq_false he]; rfl
      rw [ev, List.append_nil] at hb ⊢
      simp only [List.length_append, List.length_cons, List.length_nil, hli] at hb
      have c1 := put1 [119, 104, 105, 108, 101, 32] t (by simp only [List.length_append, List.length_cons, List.length_nil]; omega)
      have c2 := wexpr_ac _ s.value (Nat.le_refl _) g3 hr.1.1.2 (t ++ [119, 104, 105, 108, 101, 32]) (by simp only [List.length_append, List.length_cons, List.length_nil]; omega)
      have c3 := put1 [32, 123, 10] (t ++ [119, 104, 105, 108, 101, 32] ++ fmE s.value) (by simp only [List.length_append, List.length_cons, List.length_nil]; omega)
      have c4 := hB (t ++ [119, 104, 105, 108, 101, 32] ++ fmE s.value ++ [32, 123, 10]) (by simp only [List.length_append, List.length_cons, List.length_nil]; omega)
      have c5 := indent_ac n (t ++ [119, 104, 105, 108, 101, 32] ++ fmE s.value ++ [32, 123, 10] ++ lsT (n + 1) s.body) (by omega) (by simp only [List.length_append, List.length_cons, List.length_nil]; omega)
      have c9 := put1 [125, 10] (t ++ [119, 104, 105, 108, 101, 32] ++ fmE s.value ++ [32, 123, 10] ++ lsT (n + 1) s.body ++ indT n) (by simp only [List.length_append, List.length_cons, List.length_nil, hli]; omega)
      rw [encEx_eq] at c2
      have ef : t ++ [119, 104, 105, 108, 101, 32] ++ fmE s.value ++ [32, 123, 10] ++ lsT (n + 1) s.body ++ indT n ++ [125, 10] = t ++ ([119, 104, 105, 108, 101, 32] ++ fmE s.value ++ [32, 123, 10] ++ lsT (n + 1) s.body ++ indT n ++ [125, 10]) := by simp only [List.append_assoc]
      rw [ef] at c9
      refine bodyO (fun _ => 2) 11 Tryd.func73 rfl Tryd.ntmps73 (by rw [Tryd.results73]) (by simp) (by simp) ?_
      (repeat' (first | simp -implicitDefEqProofs +contextual (maxSteps := 9000000) only [kx, ↓ky, tq73, simprocAttr, hk, hw, he', kz] | (with_reducible first | refine SB.c (fun _ => ?_) (fun _ => ?_) | refine REG.i ?_ | exact REG.j) | refine CK.dx [0, 1] [2] enters33 c1 ?_ | refine CK.dx [0, 2] [3] enters74 c2 ?_ | refine CK.dx [0, 3] [4] enters33 c3 ?_ | refine CK.dx [0, 4] [5] enters52 c4 ?_ | refine CK.dx [0, 5] [6] enters62 c5 ?_ | refine CK.dx [0, 6] [7] enters33 c9 ?_ | with_reducible refine AndI ?_ | omega))
      (refine retQ.mk [0, 1, 7] ?_ ?_ <;> simp [kwr, tq73])
set_option maxRecDepth 100000 in
set_option maxHeartbeats 8000000 in
theorem wstmt_of (n : Nat) (hn : n ≤ 10000000) (s : Sm) (hg : goodSF s = true) (hr : rgS s = true) (hz : szS s ≤ 1000000) (hB : LW3 (n + 1) s.body) (hE : LW3 (n + 1) s.els) : SW3 n s := by
  intro t hb
  have hN := wnest_ac n hn s hg hr hz hB hE
  obtain ⟨g1, g2, g3, g4, g5, g6⟩ := good_stm hg
  rw [rgS_eq] at hr
  simp only [Bool.and_eq_true] at hr
  have hse := encSm_eq s
  have hk : s.kind = 1 ∨ s.kind = 2 ∨ (s.kind = 3 ∨ s.kind = 4) ∨ s.kind = 5 ∨ s.kind = 6 := by omega
  rcases hk with hk | hk | hk | hk | hk
  · have ev : stT n s = s.name ++ [32, 61, 32] ++ fmE s.value ++ [59, 10] := by rw [stT_eq, hk]; rfl
    rw [ev] at hb ⊢
    rw [hse]
    simp only [List.length_append, List.length_cons, List.length_nil] at hb
    have c0 := put2 s.name [32, 61, 32] (t) (by simp only [List.length_append, List.length_cons, List.length_nil]; omega)
    have c1 := wexpr_ac _ s.value (Nat.le_refl _) g3 hr.1.1.2 (t ++ (s.name ++ [32, 61, 32])) (by simp only [List.length_append, List.length_cons, List.length_nil]; omega)
    rw [encEx_eq] at c1
    have c2 := put1 [59, 10] (t ++ (s.name ++ [32, 61, 32]) ++ fmE s.value) (by simp only [List.length_append, List.length_cons, List.length_nil]; omega)
    have ef : t ++ (s.name ++ [32, 61, 32]) ++ fmE s.value ++ [59, 10] = t ++ (s.name ++ [32, 61, 32] ++ fmE s.value ++ [59, 10]) := by simp only [List.append_assoc]
    rw [ef] at c2
    refine bodyO (fun _ => 2) 7 Tryd.func63 rfl Tryd.ntmps63 (by rw [Tryd.results63]) (by simp) (by simp) ?_
    (repeat' (first | simp -implicitDefEqProofs +contextual (maxSteps := 9000000) only [kx, ↓ky, tq63, simprocAttr, hk, kz] | (with_reducible first | refine SB.c (fun _ => ?_) (fun _ => ?_) | refine REG.i ?_ | exact REG.j) | refine CK.dx [0, 1] [2] enters33 c0 ?_ | refine CK.dx [0, 2] [3] enters74 c1 ?_ | refine CK.dx [0, 3] [4] enters33 c2 ?_ | with_reducible refine AndI ?_ | omega))
    (refine retQ.mk [0, 1, 4] ?_ ?_ <;> simp [kwr, tq63])
  · have ev : stT n s = s.name ++ [91] ++ fmE s.place ++ [93, 32, 61, 32] ++ fmE s.value ++ [59, 10] := by rw [stT_eq, hk]; rfl
    rw [ev] at hb ⊢
    rw [hse]
    simp only [List.length_append, List.length_cons, List.length_nil] at hb
    have c0 := put2 s.name [91] (t) (by simp only [List.length_append, List.length_cons, List.length_nil]; omega)
    have c1 := wexpr_ac _ s.place (Nat.le_refl _) (g2 (by omega)) hr.1.1.1 (t ++ (s.name ++ [91])) (by simp only [List.length_append, List.length_cons, List.length_nil]; omega)
    rw [encEx_eq] at c1
    have c2 := put1 [93, 32, 61, 32] (t ++ (s.name ++ [91]) ++ fmE s.place) (by simp only [List.length_append, List.length_cons, List.length_nil]; omega)
    have c3 := wexpr_ac _ s.value (Nat.le_refl _) g3 hr.1.1.2 (t ++ (s.name ++ [91]) ++ fmE s.place ++ [93, 32, 61, 32]) (by simp only [List.length_append, List.length_cons, List.length_nil]; omega)
    rw [encEx_eq] at c3
    have c4 := put1 [59, 10] (t ++ (s.name ++ [91]) ++ fmE s.place ++ [93, 32, 61, 32] ++ fmE s.value) (by simp only [List.length_append, List.length_cons, List.length_nil]; omega)
    have ef : t ++ (s.name ++ [91]) ++ fmE s.place ++ [93, 32, 61, 32] ++ fmE s.value ++ [59, 10] = t ++ (s.name ++ [91] ++ fmE s.place ++ [93, 32, 61, 32] ++ fmE s.value ++ [59, 10]) := by simp only [List.append_assoc]
    rw [ef] at c4
    refine bodyO (fun _ => 2) 7 Tryd.func63 rfl Tryd.ntmps63 (by rw [Tryd.results63]) (by simp) (by simp) ?_
    (repeat' (first | simp -implicitDefEqProofs +contextual (maxSteps := 9000000) only [kx, ↓ky, tq63, simprocAttr, hk, kz] | (with_reducible first | refine SB.c (fun _ => ?_) (fun _ => ?_) | refine REG.i ?_ | exact REG.j) | refine CK.dx [0, 1] [2] enters33 c0 ?_ | refine CK.dx [0, 2] [3] enters74 c1 ?_ | refine CK.dx [0, 3] [4] enters33 c2 ?_ | refine CK.dx [0, 4] [5] enters74 c3 ?_ | refine CK.dx [0, 5] [6] enters33 c4 ?_ | with_reducible refine AndI ?_ | omega))
    (refine retQ.mk [0, 1, 6] ?_ ?_ <;> simp [kwr, tq63])
  · have c := hN hk t hb
    rw [hse] at c ⊢
    rcases hk with hk | hk
    all_goals (
      rw [hk] at c
      refine bodyO (fun _ => 2) 7 Tryd.func63 rfl Tryd.ntmps63 (by rw [Tryd.results63]) (by simp) (by simp) ?_
      (repeat' (first | simp -implicitDefEqProofs +contextual (maxSteps := 9000000) only [kx, ↓ky, tq63, simprocAttr, hk, kz] | (with_reducible first | refine SB.c (fun _ => ?_) (fun _ => ?_) | refine REG.i ?_ | exact REG.j) | refine CK.dx [0, 1] [2] enters73 c ?_ | with_reducible refine AndI ?_ | omega))
      (refine retQ.mk [0, 1, 2] ?_ ?_ <;> simp [kwr, tq63]))
  · have ev : stT n s = [115, 101, 110, 100, 32] ++ fmE s.place ++ [44, 32] ++ fmE s.value ++ [59, 10] := by rw [stT_eq, hk]; rfl
    rw [ev] at hb ⊢
    rw [hse]
    simp only [List.length_append, List.length_cons, List.length_nil] at hb
    have c0 := put1 [115, 101, 110, 100, 32] (t) (by simp only [List.length_append, List.length_cons, List.length_nil]; omega)
    have c1 := wexpr_ac _ s.place (Nat.le_refl _) (g2 (by omega)) hr.1.1.1 (t ++ [115, 101, 110, 100, 32]) (by simp only [List.length_append, List.length_cons, List.length_nil]; omega)
    rw [encEx_eq] at c1
    have c2 := put1 [44, 32] (t ++ [115, 101, 110, 100, 32] ++ fmE s.place) (by simp only [List.length_append, List.length_cons, List.length_nil]; omega)
    have c3 := wexpr_ac _ s.value (Nat.le_refl _) g3 hr.1.1.2 (t ++ [115, 101, 110, 100, 32] ++ fmE s.place ++ [44, 32]) (by simp only [List.length_append, List.length_cons, List.length_nil]; omega)
    rw [encEx_eq] at c3
    have c4 := put1 [59, 10] (t ++ [115, 101, 110, 100, 32] ++ fmE s.place ++ [44, 32] ++ fmE s.value) (by simp only [List.length_append, List.length_cons, List.length_nil]; omega)
    have ef : t ++ [115, 101, 110, 100, 32] ++ fmE s.place ++ [44, 32] ++ fmE s.value ++ [59, 10] = t ++ ([115, 101, 110, 100, 32] ++ fmE s.place ++ [44, 32] ++ fmE s.value ++ [59, 10]) := by simp only [List.append_assoc]
    rw [ef] at c4
    refine bodyO (fun _ => 2) 7 Tryd.func63 rfl Tryd.ntmps63 (by rw [Tryd.results63]) (by simp) (by simp) ?_
    (repeat' (first | simp -implicitDefEqProofs +contextual (maxSteps := 9000000) only [kx, ↓ky, tq63, simprocAttr, hk, kz] | (with_reducible first | refine SB.c (fun _ => ?_) (fun _ => ?_) | refine REG.i ?_ | exact REG.j) | refine CK.dx [0, 1] [2] enters33 c0 ?_ | refine CK.dx [0, 2] [3] enters74 c1 ?_ | refine CK.dx [0, 3] [4] enters33 c2 ?_ | refine CK.dx [0, 4] [5] enters74 c3 ?_ | refine CK.dx [0, 5] [6] enters33 c4 ?_ | with_reducible refine AndI ?_ | omega))
    (refine retQ.mk [0, 1, 6] ?_ ?_ <;> simp [kwr, tq63])
  · have ev : stT n s = [111, 117, 116, 112, 117, 116, 32] ++ fmE s.value ++ [59, 10] := by rw [stT_eq, hk]; rfl
    rw [ev] at hb ⊢
    rw [hse]
    simp only [List.length_append, List.length_cons, List.length_nil] at hb
    have c0 := put1 [111, 117, 116, 112, 117, 116, 32] (t) (by simp only [List.length_append, List.length_cons, List.length_nil]; omega)
    have c1 := wexpr_ac _ s.value (Nat.le_refl _) g3 hr.1.1.2 (t ++ [111, 117, 116, 112, 117, 116, 32]) (by simp only [List.length_append, List.length_cons, List.length_nil]; omega)
    rw [encEx_eq] at c1
    have c2 := put1 [59, 10] (t ++ [111, 117, 116, 112, 117, 116, 32] ++ fmE s.value) (by simp only [List.length_append, List.length_cons, List.length_nil]; omega)
    have ef : t ++ [111, 117, 116, 112, 117, 116, 32] ++ fmE s.value ++ [59, 10] = t ++ ([111, 117, 116, 112, 117, 116, 32] ++ fmE s.value ++ [59, 10]) := by simp only [List.append_assoc]
    rw [ef] at c2
    refine bodyO (fun _ => 2) 7 Tryd.func63 rfl Tryd.ntmps63 (by rw [Tryd.results63]) (by simp) (by simp) ?_
    (repeat' (first | simp -implicitDefEqProofs +contextual (maxSteps := 9000000) only [kx, ↓ky, tq63, simprocAttr, hk, kz] | (with_reducible first | refine SB.c (fun _ => ?_) (fun _ => ?_) | refine REG.i ?_ | exact REG.j) | refine CK.dx [0, 1] [2] enters33 c0 ?_ | refine CK.dx [0, 2] [3] enters74 c1 ?_ | refine CK.dx [0, 3] [4] enters33 c2 ?_ | with_reducible refine AndI ?_ | omega))
    (refine retQ.mk [0, 1, 4] ?_ ?_ <;> simp [kwr, tq63])
theorem wlist_both (m : Nat) : m ≤ 1000000 → ∀ (n : Nat) (l : List Sm), szSs l ≤ m → n + m ≤ 10000000 → goodSFs l = true → rgSs l = true → LW3 n l := by
  induction m with
  | zero => intro hm n l hl hn hg hr; exact wlist_of n (by omega) l (by have := szSs_len l; omega) (fun s hs => by have := szSs_mem l s hs; have := szS_pos s; omega)
  | succ m ih =>
    intro hm n l hl hn hg hr
    refine wlist_of n (by omega) l (by have := szSs_len l; omega) (fun s hs => ?_)
    have h1 := szSs_mem l s hs
    have h2 := szS_eq s
    have h3 := szE_pos s.place
    have hgs := goodSFs_mem hg hs
    have hrs := rgSs_mem hr hs
    obtain ⟨_, _, _, g4, g5, _⟩ := good_stm hgs
    have hr2 := hrs
    rw [rgS_eq] at hr2
    simp only [Bool.and_eq_true] at hr2
    exact wstmt_of n (by omega) s hgs hrs (by omega) (ih (by omega) (n + 1) s.body (by omega) (by omega) g4 hr2.1.2) (ih (by omega) (n + 1) s.els (by omega) (by omega) g5 hr2.2)
theorem wlist_ac (l : List Sm) (hl : szSs l ≤ 1000000) (hg : goodSFs l = true) (hr : rgSs l = true) (t : List UInt8) (hb : t.length + (lsT 1 l).length ≤ 100000000000000) : AC Tryd.prog gl 52 [.ref 0 0, .pv (.slice (l.map encSm)), .pv (.int .i64 1)] (wrO t) (.tup []) (wrQ (t ++ lsT 1 l)) :=
  wlist_both _ hl 1 l (Nat.le_refl _) (by omega) hg hr t hb
end Go.Proofs.YtopbicbgolcmpaaDoor
