/- A sound walk of the program by abstract states, part 4: its theorems have no condition beyond what they state. -/
import Derived.Test.YtopbicbgolcmpaaGreatDoorLib3
import Derived.Test.YtopbicbgolcmpaaGreatDoorLib2
import Derived.ChangeSame
import Derived.ChangeStays
import Derived.WideKeyArgs
import Derived.Deep.Slices
import Derived.ProofKit
import Derived.WalkKit
import Derived.OpenShut
import Derived.ChangeMaps5
import Derived.ChangeSlices
set_option linter.unusedSimpArgs false
set_option linter.unusedVariables false
set_option linter.defProp false
namespace Go.Abs
open Go
section
variable {l : List TkD}
theorem szE_K (op : Int) : szE (exK op) = 1 := by simp [exK, szE, szEs]
theorem szE_C (v : Int) : szE (exC v) = 1 := by simp [exC, szE, szEs]
theorem szE_N (nm : List UInt8) : szE (exN nm) = 1 := by simp [exN, szE, szEs]
theorem szE_I (nm : List UInt8) (e : Ex) : szE (exI nm e) = 1 + szE e := by simp [exI, szE, szEs]
theorem szE_U (op : Int) (e : Ex) : szE (exU op e) = 1 + szE e := by simp [exU, szE, szEs]
theorem szE_B (op : Int) (a b : Ex) : szE (exB op a b) = 1 + szE a + szE b := by simp [exB, szE, szEs]; omega
theorem expF_ok {s : List UInt8} {k k' : Nat} {u : Unit} (h : expF l s k = .ok u k') : k' = k + 1 := by
  unfold expF at h; split at h <;> cases h; rfl
theorem pnmF_ok {k k' : Nat} {nm : List UInt8} (h : pnmF l k = .ok nm k') : k' = k + 1 := by
  unfold pnmF at h; split at h <;> cases h; rfl
theorem nmF_ok {z : Int} {k k' : Nat} {v : Int} (h : nmF l z k = .ok v k') : k' = k + 1 := by
  unfold nmF at h; split at h <;> cases h; rfl
def Nt.pre : Nt → Nat
  | .loop _ e => szE e
  | _ => 0
theorem exF_sz : ∀ (n : Nat) (nt : Nt) (k : Nat) (e : Ex) (k' : Nat), exF l n nt k = .ok e k' → szE e + k ≤ k' + nt.pre
  | 0, nt, k, e, k', h => by cases h
  | n + 1, .bin lv, k, e, k', h => by
    rw [exF_bin] at h
    split at h
    · exact exF_sz n .un k e k' h
    · obtain ⟨e1, k1, h1, h2⟩ := PR.bind_ok h
      have := exF_sz n _ _ _ _ h1
      have := exF_sz n _ _ _ _ h2
      simp only [Nt.pre] at *
      omega
  | n + 1, .loop lv e0, k, e, k', h => by
    rw [exF_loop] at h
    split at h
    · cases h; simp only [Nt.pre]; omega
    · obtain ⟨e1, k1, h1, h2⟩ := PR.bind_ok h
      have := exF_sz n _ _ _ _ h1
      have := exF_sz n _ _ _ _ h2
      simp only [Nt.pre, szE_B] at *
      omega
  | n + 1, .un, k, e, k', h => by
    rw [exF_un] at h
    split at h
    · obtain ⟨e1, k1, h1, h2⟩ := PR.bind_ok h
      have := exF_sz n _ _ _ _ h1
      cases h2
      simp only [Nt.pre, szE_U] at *
      omega
    split at h
    · obtain ⟨e1, k1, h1, h2⟩ := PR.bind_ok h
      have := exF_sz n _ _ _ _ h1
      cases h2
      simp only [Nt.pre, szE_U] at *
      omega
    · exact exF_sz n .prim k e k' h
  | n + 1, .prim, k, e, k', h => by
    rw [exF_prim] at h
    split at h
    · obtain ⟨v, k1, h1, h2⟩ := PR.bind_ok h
      have := nmF_ok h1
      cases h2
      simp only [Nt.pre, szE_C] at *
      omega
    split at h
    · cases h; simp only [Nt.pre, szE_K] at *; omega
    split at h
    · cases h; simp only [Nt.pre, szE_K] at *; omega
    split at h
    · cases h; simp only [Nt.pre, szE_K] at *; omega
    split at h
    · cases h; simp only [Nt.pre, szE_K] at *; omega
    split at h
    · obtain ⟨e1, k1, h1, h2⟩ := PR.bind_ok h
      have := exF_sz n _ _ _ _ h1
      obtain ⟨u, k2, h3, h4⟩ := PR.bind_ok h2
      have := expF_ok h3
      cases h4
      simp only [Nt.pre] at *
      omega
    · obtain ⟨nm, k1, h1, h2⟩ := PR.bind_ok h
      have := pnmF_ok h1
      split at h2
      · obtain ⟨e1, k2, h3, h4⟩ := PR.bind_ok h2
        have := exF_sz n _ _ _ _ h3
        obtain ⟨u, k3, h5, h6⟩ := PR.bind_ok h4
        have := expF_ok h5
        cases h6
        simp only [Nt.pre, szE_I] at *
        omega
      · cases h2
        simp only [Nt.pre, szE_N] at *
        omega
theorem pexF_sz {k k' : Nat} {e : Ex} (h : pexF l k = .ok e k') : szE e + k ≤ k' := by
  have := exF_sz _ _ _ _ _ h
  simpa [Nt.pre] using this
theorem szSs_app : ∀ a b : List Sm, szSs (a ++ b) = szSs a + szSs b
  | [], b => by simp [szSs]
  | s :: r, b => by simp only [List.cons_append, szSs, szSs_app r b]; omega
theorem szS_E (kind : Int) (nm : List UInt8) (p v : Ex) (b c : List Sm) : szSs [smE kind nm p v b c] = 1 + szE p + szE v + szSs b + szSs c := by simp [smE, szSs, szS]
theorem szS_1 (kind : Int) (nm : List UInt8) (p v : Ex) (b c : List Sm) : szS (smE kind nm p v b c) = 1 + szE p + szE v + szSs b + szSs c := by simp [smE, szS]
def Ns.pre : Ns → Nat
  | .stmts acc => szSs acc
  | _ => 0
theorem smF_sz : ∀ (n : Nat) (nt : Ns) (k : Nat) (b : List Sm) (k' : Nat), smF l n nt k = .ok b k' → szSs b + 2 * k ≤ 2 * k' + nt.pre
  | 0, nt, k, e, k', h => by cases h
  | n + 1, .block, k, b, k', h => by
    rw [smF_block] at h
    obtain ⟨u, k1, h1, h2⟩ := PR.bind_ok h
    have := expF_ok h1
    have := smF_sz n _ _ _ _ h2
    simp only [Ns.pre, szSs] at *
    omega
  | n + 1, .stmts acc, k, b, k', h => by
    rw [smF_stmts] at h
    split at h
    · cases h; simp only [Ns.pre]; omega
    · obtain ⟨s, k1, h1, h2⟩ := PR.bind_ok h
      have := smF_sz n _ _ _ _ h1
      have := smF_sz n _ _ _ _ h2
      simp only [Ns.pre, szSs_app] at *
      omega
  | n + 1, .stmt, k, b, k', h => by
    rw [smF_stmt] at h
    have z0 : szE exZ = 1 := szE_K 0
    have valu : ∀ {g : Ex → List Sm} {k4 c : Nat}, (∀ e, szSs (g e) = c + szE e) → ((pexF l k4).bind fun e k5 => (expF l [59] k5).bind fun _ k6 => PR.ok (g e) k6) = .ok b k' → szSs b + k4 + 1 ≤ k' + c := fun hg h => by
      obtain ⟨e, k5, h1, h2⟩ := PR.bind_ok h
      have := pexF_sz h1
      obtain ⟨u, k6, h3, h4⟩ := PR.bind_ok h2
      have := expF_ok h3
      cases h4
      rw [hg]
      omega
    split at h
    · obtain ⟨e, k1, h1, h2⟩ := PR.bind_ok h
      have := pexF_sz h1
      obtain ⟨b1, k2, h3, h4⟩ := PR.bind_ok h2
      have := smF_sz n _ _ _ _ h3
      have := szE_pos e
      split at h4
      · obtain ⟨c, k3, h5, h6⟩ := PR.bind_ok h4
        have := smF_sz n _ _ _ _ h5
        cases h6
        simp only [Ns.pre, szSs, szS_1, z0] at *
        omega
      · cases h4
        simp only [Ns.pre, szSs, szS_1, z0] at *
        omega
    split at h
    · obtain ⟨e, k1, h1, h2⟩ := PR.bind_ok h
      have := pexF_sz h1
      obtain ⟨b1, k2, h3, h4⟩ := PR.bind_ok h2
      have := smF_sz n _ _ _ _ h3
      have := szE_pos e
      cases h4
      simp only [Ns.pre, szSs, szS_1, z0] at *
      omega
    split at h
    · obtain ⟨p, k1, h1, h2⟩ := PR.bind_ok h
      have := pexF_sz h1
      obtain ⟨u, k2, h3, h4⟩ := PR.bind_ok h2
      have := expF_ok h3
      have := valu (c := 1 + szE p) (fun e => by rw [szS_E]; simp only [szSs]; omega) h4
      simp only [Ns.pre]
      omega
    split at h
    · have := valu (g := fun e => [smE 6 [] exZ e [] []]) (c := 2) (fun e => by rw [szS_E, z0]; simp [szSs]) h
      simp only [Ns.pre]
      omega
    · obtain ⟨nm, k1, h1, h2⟩ := PR.bind_ok h
      have := pnmF_ok h1
      split at h2
      · obtain ⟨p, k2, h3, h4⟩ := PR.bind_ok h2
        have := pexF_sz h3
        obtain ⟨u, k3, h5, h6⟩ := PR.bind_ok h4
        have := expF_ok h5
        obtain ⟨u2, k4, h7, h8⟩ := PR.bind_ok h6
        have := expF_ok h7
        have := valu (c := 1 + szE p) (fun e => by rw [szS_E]; simp only [szSs]; omega) h8
        simp only [Ns.pre]
        omega
      · obtain ⟨u, k3, h5, h6⟩ := PR.bind_ok h2
        have := expF_ok h5
        have := valu (g := fun e => [smE 1 nm exZ e [] []]) (c := 2) (fun e => by rw [szS_E, z0]; simp [szSs]) h6
        simp only [Ns.pre]
        omega
theorem blockF_sz {k k' : Nat} {b : List Sm} (h : blockF l k = .ok b k') : szSs b + 2 * k ≤ 2 * k' := by
  have := smF_sz _ _ _ _ _ h
  simpa [Ns.pre] using this
theorem pdcF_sz : ∀ (n : Nat) (acc : List VarD) (k : Nat) (vs : List VarD) (k' : Nat), pdcF l n acc k = .ok vs k' → k ≤ l.length → vs.length + k ≤ k' + acc.length
  | 0, _, _, _, _, h, _ => by cases h
  | n + 1, acc, k, vs, k', h, hk => by
    rw [pdcF_eq] at h
    split at h
    · rename_i h0
      have := isT_lt h0 (by simp)
      obtain ⟨nm, k1, h1, h2⟩ := PR.bind_ok h
      have := pnmF_ok h1
      obtain ⟨v, k2, h3, h4⟩ := PR.bind_ok h2
      have q : k1 ≤ k2 ∧ k2 ≤ l.length := by
        have := pnmF_past (l := l) (k := k + 1) (by omega)
        rw [h1] at this
        have := initF_on (l := l) (k := k1) this.2
        rw [h3] at this
        exact this
      obtain ⟨u, k3, h5, h6⟩ := PR.bind_ok h4
      have := expF_ok h5
      have q3 : k3 ≤ l.length := by
        have := expF_past (l := l) (s := [59]) q.2 (by simp)
        rw [h5] at this
        exact this.2
      have := pdcF_sz n _ _ _ _ h6 q3
      simp only [List.length_append, List.length_cons, List.length_nil] at this
      omega
    split at h
    · rename_i h0
      have := isT_lt h0 (by simp)
      obtain ⟨nm, k1, h1, h2⟩ := PR.bind_ok h
      have := pnmF_ok h1
      obtain ⟨u, k2, h3, h4⟩ := PR.bind_ok h2
      have := expF_ok h3
      obtain ⟨v, k3, h5, h6⟩ := PR.bind_ok h4
      have := nmF_ok h5
      obtain ⟨u2, k4, h7, h8⟩ := PR.bind_ok h6
      have := expF_ok h7
      obtain ⟨u3, k5, h9, h10⟩ := PR.bind_ok h8
      have := expF_ok h9
      have q3 : k5 ≤ l.length := by
        have a1 := pnmF_past (l := l) (k := k + 1) (by omega)
        rw [h1] at a1
        have a2 := expF_past (l := l) (s := [91]) a1.2 (by simp)
        rw [h3] at a2
        have a3 := nmF_past (l := l) (z := 1) a2.2
        rw [h5] at a3
        have a4 := expF_past (l := l) (s := [93]) a3.2 (by simp)
        rw [h7] at a4
        have a5 := expF_past (l := l) (s := [59]) a4.2 (by simp)
        rw [h9] at a5
        exact a5.2
      have := pdcF_sz n _ _ _ _ h10 q3
      simp only [List.length_append, List.length_cons, List.length_nil] at this
      omega
    · cases h
      omega
def PgD.fits (p : PgD) (z : Seen) : Prop := (z.s = false → p.start = []) ∧ (z.m = false → p.message = []) ∧ (z.t = false → p.tick = []) ∧ (z.i = false → p.input = [])
theorem hanF_sz : ∀ (n : Nat) (p : PgD) (z : Seen) (k : Nat) (q : PgD) (k' : Nat), hanF l n p z k = .ok q k' → k ≤ l.length → p.fits z → szP q + 2 * k ≤ 2 * k' + szP p ∧ k' ≤ l.length
  | 0, _, _, _, _, _, h, _, _ => by cases h
  | n + 1, p, z, k, q, k', h, hk, hz => by
    rw [hanF_step] at h
    split at h
    · obtain ⟨⟨q1, z1⟩, k2, h1, h2⟩ := PR.bind_ok h
      have hp := hanS_past l p z k hk
      rw [h1] at hp
      unfold hanS at h1
      obtain ⟨u, k1, h3, h4⟩ := PR.bind_ok h1
      have := expF_ok h3
      unfold hanB at h4
      obtain ⟨f1, f2, f3, f4⟩ := hz
      have key : szP q1 + 2 * k ≤ 2 * k2 + szP p ∧ q1.fits z1 := by
        split at h4
        · rename_i hc
          obtain ⟨b, k3, h5, h6⟩ := PR.bind_ok h4
          have := blockF_sz h5
          cases h6
          have : p.start = [] := f1 (by simp at hc; exact hc.1)
          exact ⟨by simp only [szP, this, szSs]; omega, fun h => (by cases h), f2, f3, f4⟩
        split at h4
        · rename_i hc
          obtain ⟨b, k3, h5, h6⟩ := PR.bind_ok h4
          have := blockF_sz h5
          cases h6
          have : p.message = [] := f2 (by simp at hc; exact hc.1)
          exact ⟨by simp only [szP, this, szSs]; omega, f1, fun h => (by cases h), f3, f4⟩
        split at h4
        · rename_i hc
          obtain ⟨b, k3, h5, h6⟩ := PR.bind_ok h4
          have := blockF_sz h5
          cases h6
          have : p.tick = [] := f3 (by simp at hc; exact hc.1)
          exact ⟨by simp only [szP, this, szSs]; omega, f1, f2, fun h => (by cases h), f4⟩
        split at h4
        · rename_i hc
          obtain ⟨b, k3, h5, h6⟩ := PR.bind_ok h4
          have := blockF_sz h5
          cases h6
          have : p.input = [] := f4 (by simp at hc; exact hc.1)
          exact ⟨by simp only [szP, this, szSs]; omega, f1, f2, f3, fun h => (by cases h)⟩
        · cases h4
      have := hanF_sz n q1 z1 k2 q k' h2 hp.2 key.2
      omega
    · cases h
      omega
theorem progF_sz {p : PgD} {k : Nat} (h : progF l = .ok p k) : szP p ≤ 2 * l.length := by
  unfold progF at h
  obtain ⟨vs, k1, h1, h2⟩ := PR.bind_ok h
  have a1 := pdcF_sz _ _ _ _ _ h1 (by omega)
  have a2 := pdcF_on (l := l) (l.length + 1) [] 0 (by omega)
  rw [h1] at a2
  have a3 := hanF_sz _ _ _ _ _ _ h2 a2.2 ⟨fun _ => rfl, fun _ => rfl, fun _ => rfl, fun _ => rfl⟩
  simp only [szP, szSs, List.length_nil] at a1 a3 ⊢
  omega
theorem allOK_of {s : List UInt8} {k : Nat} (h : Sc s k l) : AllOK l := fun i hi => by
  have e : l.getD i tk0 = l[i] := by simp [List.getD, hi]
  rw [e]
  have hg := (h.vals l[i] (List.getElem_mem hi)).2.2.2
  generalize l[i] = t at hg
  obtain ⟨hne, hk⟩ := hg
  have hd : ∀ w : List UInt8, w ≠ [] → ∃ c r, w = c :: r ∧ w.getD 0 0 = c := fun w hw => by
    cases w with
    | nil => exact absurd rfl hw
    | cons c r => exact ⟨c, r, rfl, rfl⟩
  rcases hk with ⟨a1, a2, _, a4, _⟩ | ⟨a1, a2, a3, _, _⟩ | ⟨a1, a2, _, a4, _⟩
  · refine ⟨.inl a1, fun _ => ?_, fun h => by omega, fun h => by omega⟩
    rw [← a2] at a4 hne
    obtain ⟨c, r, e1, e2⟩ := hd _ hne
    exact ⟨c, r, e1, by rw [← e2]; exact a4⟩
  · exact ⟨.inr (.inl a1), fun h => by omega, fun _ => ⟨a2, by rw [a3]; omega⟩, fun h => by omega⟩
  · refine ⟨.inr (.inr a1), fun h => by omega, fun h => by omega, fun _ => ?_⟩
    rw [← a2] at a4 hne
    obtain ⟨c, r, e1, e2⟩ := hd _ hne
    exact ⟨c, r, e1, by rw [← e2]; exact a4⟩
theorem vals_of {s : List UInt8} {k : Nat} (h : Sc s k l) : ∀ i, (l.getD i tk0).value ≤ 9223372036854775807 := fun i => by
  by_cases hi : i < l.length
  · have e : l.getD i tk0 = l[i] := by simp [List.getD, hi]
    rw [e]
    exact (h.vals l[i] (List.getElem_mem hi)).1
  · have e : l.getD i tk0 = tk0 := by simp [List.getD, Nat.le_of_not_lt hi]
    rw [e]; decide
end
end Go.Abs
namespace Go.Abs
open Go
def pgZ : PgD := ⟨[], [], [], [], []⟩
def parF (s : List UInt8) : PgD × Int × Int :=
  if (scan s).2.2 ≠ 0 then (pgZ, (scan s).2.1, (scan s).2.2)
  else match progF (scan s).1 with
    | .ok p _ => if depP p > 16 then (pgZ, 0, 6) else (p, 0, 0)
    | .bad k => (pgZ, placeF (scan s).1 s.length k, 1)
    | .out => (pgZ, 0, 0)
theorem parF_sz (s : List UInt8) : szP (parF s).1 ≤ 1000000000 := by
  have h0 : szP pgZ ≤ 1000000000 := by decide
  unfold parF
  split
  · exact h0
  · rename_i h
    obtain ⟨hs, l, hSc, e⟩ := scan_sc s (by simpa using h)
    rw [e]
    have := hSc.len
    split
    · rename_i p k hr
      have := progF_sz hr
      split
      · exact h0
      · simp only at *; omega
    · exact h0
    · exact h0
end Go.Abs
namespace Go.Abs
open Go
theorem rg_nxt (xs : List UInt8) (a : Nat) (n c : Int) (h : 0 < n) (hn : n ≤ 1000) (hc : -1000 ≤ c) (hc' : c ≤ 1000) : rg64 (c + (nxt xs a n).1) = true := by
  have := nxt_lt xs a n h
  simp only [rg64, Bool.and_eq_true, decide_eq_true_eq]
  omega
theorem rg_nx (xs : List UInt8) (a : Nat) (n : Int) (h : 0 < n) (hn : n ≤ 1000) : rg64 (nxt xs a n).1 = true := by
  have := nxt_lt xs a n h
  simp only [rg64, Bool.and_eq_true, decide_eq_true_eq]
  omega
theorem rg_0 : rg64 0 = true := by decide
theorem rgE_L (op v : Int) (nm : List UInt8) (l : List Ex) : rgE (exL op v nm l) = (rg64 v && rgEs l) := rfl
theorem rgEs_0 : rgEs [] = true := rfl
theorem rgEs_1 (e : Ex) : rgEs [e] = rgE e := by simp [rgEs]
theorem rgEs_2 (a b : Ex) : rgEs [a, b] = (rgE a && rgE b) := by simp [rgEs]
theorem exprStep_rg (xs : List UInt8) (rec : Nat → Ex × Nat) (small : Bool) (a : Nat) (hr : ∀ a, rgE (rec a).1 = true) : rgE (exprStep xs rec small a).1 = true := by
  unfold exprStep
  repeat' split
  all_goals simp only [rgE_L, rgEs_0, rgEs_1, rgEs_2, rg_0, hr, Bool.and_true, Bool.true_and]
  all_goals first | exact rg_nx _ _ _ (by omega) (by omega) | exact rg_nxt _ _ _ _ (by omega) (by omega) (by omega) (by omega)
theorem exprF_rg (xs : List UInt8) : ∀ (d a : Nat), rgE (exprF xs d a).1 = true
  | 0, a => exprStep_rg xs _ _ a (fun a => rfl)
  | d + 1, a => exprStep_rg xs _ _ a (fun a => exprF_rg xs d a)
theorem rgS_L (kind : Int) (nm : List UInt8) (p v : Ex) (b e : List Sm) : rgS (smL kind nm p v b e) = (rgE p && rgE v && rgSs b && rgSs e) := rfl
theorem rgSs_0 : rgSs [] = true := rfl
theorem rgE_0 : rgE ex0 = true := rfl
theorem stmtStep_rg (xs : List UInt8) (rec : Int → Nat → List Sm × Nat) (small : Bool) (a : Nat) (hr : ∀ m a, rgSs (rec m a).1 = true) : rgS (stmtStep xs rec small a).1 = true := by
  unfold stmtStep
  dsimp only
  repeat' split
  all_goals simp only [rgS_L, rgSs_0, rgE_0, exprF_rg, hr, Bool.and_true, Bool.true_and]
theorem stmtsLoop_rg (xs : List UInt8) (rec : Int → Nat → List Sm × Nat) (small : Bool) (hr : ∀ m a, rgSs (rec m a).1 = true) : ∀ (n a : Nat), rgSs (stmtsLoop xs rec small n a).1 = true
  | 0, a => rfl
  | n + 1, a => by simp only [stmtsLoop, rgSs, stmtStep_rg xs rec small a hr, stmtsLoop_rg xs rec small hr n, Bool.and_true]
theorem stmtsF_rg (xs : List UInt8) : ∀ (d : Nat) (m : Int) (a : Nat), rgSs (stmtsF xs d m a).1 = true
  | 0, m, a => stmtsLoop_rg xs _ _ (fun _ _ => rfl) _ _
  | d + 1, m, a => stmtsLoop_rg xs _ _ (fun m a => stmtsF_rg xs d m a) _ _
theorem programF_rg (xs : List UInt8) (a : Nat) : rgP (programF xs a).1 = true := by
  unfold programF rgP
  dsimp only
  have h1 := nxt_lt xs a 7 (by omega)
  have h2 := nxt_lt xs (nxt xs a 7).2 5 (by omega)
  have h3 := nxt_lt xs (nxt xs (nxt xs a 7).2 5).2 3 (by omega)
  simp only [stmtsF_rg, Bool.and_true, varsF, List.all_cons, List.all_nil, rgV, rg64, Bool.and_eq_true, decide_eq_true_eq]
  omega
end Go.Abs
namespace Go.Abs
open Go Go.ChangeShapes Go.WideShapes Go.ChangeAt Go.RowKit
def memOf (W : World) : Mem := fun b i => W.cell? ⟨b, i, none⟩
structure Held (W W' : World) : Prop where
  os : W'.os = W.os
  output : W'.output = W.output
  size : W.heap.size ≤ W'.heap.size
  same : ∀ b, b < W.heap.size → W'.heap[b]? = W.heap[b]?
theorem law_runs {P : Program} {gl : Nat → Option (List PVal)} {f : FuncId} {W : World} (pvs : List PVal) (vargs : List Value) (hac : AC P gl f (pvs.map .pv) [] (.pv (.bool true)) [])
    (hgl : GOK ⟨fun _ => none, gl, fun _ => 0, 0⟩ (memOf W)) (hex : ∀ b cs, gl b = some cs → cs ≠ [] → ∃ vals T l, W.heap[b]? = some (.cells vals T l) ∧ vals.size = cs.length) (hlen : vargs.length = pvs.length) (hrd : ∀ i, i < pvs.length → Rd (memOf W) (pvs.getD i .nilptr) (vargs.getD i undef)) :
    Calls P f vargs.toArray W fun e W' => e = .returned (.bool true) ∧ Held W W' := by
  have hR : Rel ⟨W, memOf W, blocksOf ⟨fun _ => 0, fun _ => 0, fun _ => false⟩ [], []⟩ ⟨pvs.map .pv, []⟩ ⟨fun _ => 0, fun _ => 0, fun _ => false⟩ (memOf W) ⟨vargs.toArray, []⟩ W := by
    refine ⟨by simpa using hlen, rfl, fun i hi => ?_, ?_, ?_, ?_, fun b i u h => h, Mem.le_refl _, fun _ _ _ _ => rfl, Nat.le_refl _, fun _ _ _ => rfl, ?_, rfl, rfl, rfl⟩
    · simp only [List.length_map] at hi
      have h1 := hrd i hi
      have e1 : St.slot ⟨pvs.map .pv, []⟩ i = .pv (pvs.getD i .nilptr) := by simp [St.slot, List.getD, hi]
      have e2 : vargs.toArray.getD i undef = vargs.getD i undef := by simp [Array.getD, List.getD, hlen, hi]
      rw [e1]
      show V _ _ _ _ (vargs.toArray.getD i undef)
      rw [e2]
      exact .pv h1
    · intro id o h; simp [St.obj] at h
    · intro id id' o o' b h; simp [St.obj] at h
    · intro id o b h; simp [St.obj] at h
    · intro id o b h; simp [St.obj] at h
  refine (hac W (memOf W) _ vargs hR ⟨hgl, fun b cs hb hne => ⟨by rintro ⟨id, ob, h, _⟩; simp at h, hex b cs hb hne⟩⟩).mono fun e W' ⟨v, g', M', he, hR', _⟩ => ?_
  have hs := hR'.slots 0 (by simp)
  have hv : v = .bool true := by
    have h1 : V g' (St.dom ⟨[.pv (.bool true)], []⟩) M' (.pv (.bool true)) v := by simpa [St.slot, Array.getD] using hs
    cases h1 with
    | pv h => cases h; rfl
  have hB : ∀ b, ¬ blocksOf ⟨fun _ => 0, fun _ => 0, fun _ => false⟩ [] b := by rintro b ⟨id, ob, h, _⟩; simp at h
  exact ⟨by rw [he, hv], hR'.os, hR'.output, hR'.size0, fun b hb => hR'.same b hb (hB b)⟩
section
variable {H : Type} {enc : TypeId × Value → H} {P : Program}
theorem Held.sameAt {W W' : World} (h : Held W W') {p : MemPlace} (hp : p.block < W.heap.size) : W.sameAt W' p := by
  cases p with
  | cell b off => show W'.cell? _ = W.cell? _; simp only [World.cell?]; rw [h.same b hp]
  | map b => exact h.same b hp
theorem trodAll_stays (hl : laidOutB P = true) {W W' : World} (hh : Held W W') {sp' : Nat → Bool} : ∀ {ts : List TypeId} {vs : List Value} {ds : List (DataW H)} {ps : List MemPlace}, (∀ t ∈ ts, P.readableRec t = true ∧ t < P.types.size) →
    DataW.TrodAll enc P W 0 (fun _ => true) true ts vs ds ps → (∀ p ∈ ps, p.block < W.heap.size) → (∀ p ∈ ps, sp' p.block = true) → DataW.TrodAll enc P W' 0 sp' true ts vs ds ps
  | [], [], [], _, _, h, _, _ => h
  | [], [], _ :: _, _, _, h, _, _ => h.elim
  | [], _ :: _, _, _, _, h, _, _ => h.elim
  | _ :: _, [], _, _, _, h, _, _ => h.elim
  | _ :: _, _ :: _, [], _, _, h, _, _ => h.elim
  | t :: ts, v :: vs, d :: ds, ps, hr, ⟨p, q, h1, h2, he⟩, hlt, hsp => by
    subst he
    have hr1 := hr t (by simp)
    exact ⟨p, q, WideElems.Trod_stays hl hr1.1 hr1.2 h1 (fun x hx => hh.sameAt (hlt x (by simp [hx]))) (fun x hx => hsp x (by simp [hx])),
      trodAll_stays hl hh (fun t ht => hr t (by simp [ht])) h2 (fun x hx => hlt x (by simp [hx])) (fun x hx => hsp x (by simp [hx])), rfl⟩
theorem Held.keptBut {W W' : World} (h : Held W W') (may : MemPlace → Prop) : W.keptBut W' may := by
  refine ⟨h.os, h.output, fun i hi => ?_⟩
  rw [h.same i hi]
  split
  · rename_i h1 h2; rw [h1] at h2; cases h2; exact ⟨rfl, rfl, rfl, fun _ _ => rfl⟩
  · rename_i h1 h2; rw [h1] at h2; cases h2; exact .inr ⟨rfl, rfl⟩
  · rfl
theorem law_post {f : Func} {s : ChangeSpec} {fresh handsOn again : Bool} {W W' : World} {args : Array Value} {ds gs : List (DataW H)} {before : List MemPlace} {tb : TypeId}
    (hl : laidOutB P = true) (hr : ∀ t ∈ f.params.toList, P.readableRec t = true ∧ t < P.types.size) (hrt : f.resultTypes = #[tb]) (htb : P.underlying tb = some .bool)
    (hvars : s.vars = []) (hfn : ∀ ds : List (DataW H), ds.length = f.params.size → (s.fn H ds).results = [.lit (.bool true)] ∧ (s.fn H ds).args = ds ∧ (s.fn H ds).vars = [])
    (hW : DataW.Whole enc P f.params.toList s.vars false W args.toList ds gs before) (hh : Held W W') :
    s.post enc P f false fresh handsOn again W args (.bool true) W' := by
  have hlt := hW.lt
  have hW' := hW
  obtain ⟨p, q, hA, hV, rfl, hz, hn⟩ := hW
  rw [hvars] at hV
  obtain ⟨rfl, rfl⟩ := trodVars_none hV
  rw [List.append_nil] at hlt hz hn hW'
  have hdl : ds.length = f.params.size := by
    have : ∀ {ts : List TypeId} {vs : List Value} {ds : List (DataW H)} {ps : List MemPlace}, DataW.TrodAll enc P W 0 (fun _ => true) true ts vs ds ps → ds.length = ts.length := by
      intro ts
      induction ts with
      | nil => intro vs ds ps h; obtain ⟨_, rfl, _⟩ := trodAll_nil h; rfl
      | cons t ts ih =>
        intro vs ds ps h
        obtain ⟨_, _, _, _, _, _, _, rfl, _, _, h2⟩ := trodAll_cons h
        simp [ih h2]
    simpa using this hA
  obtain ⟨f1, f2, f3⟩ := hfn (ds ++ []) (by simpa using hdl)
  have hres : ∀ (b : Nat) (sp : Nat → Bool) (hd : Bool), DataW.TrodAll enc P W' b sp hd f.resultTypes.toList ((Value.bool true).resultList f.resultTypes.size) (s.fn H (ds ++ [])).results [] := fun b sp hd => by
    rw [f1, hrt]
    exact trodAll_cons_mk (shut_bool htb _) trodAll_mk0
  have hargs : ∀ sp : Nat → Bool, (∀ x ∈ p, sp x.block = true) → DataW.TrodAll enc P W' 0 sp true f.params.toList args.toList (s.fn H (ds ++ [])).args p := fun sp hsp => by
    rw [f2, List.append_nil]
    exact trodAll_stays hl hh hr hA hlt hsp
  have hvs : ∀ sp : Nat → Bool, DataW.TrodVars enc P W' sp s.vars (s.fn H (ds ++ [])).vars [] := fun sp => by rw [hvars, f3]; rfl
  refine ⟨ds, [], p, [], p, [], hW', hres _ _ _, hargs _ (fun x hx => by simpa using hlt x hx), hvs _, hh.keptBut _, fun _ => ?_⟩
  refine ⟨?_, _, _, ([] ++ p) ++ [], ⟨[] ++ p, [], trodAll_append (hargs _ (fun _ _ => rfl)) (hres _ _ _), hvs _, rfl, ?_, ?_⟩, ?_⟩
  · exact ok_one (by rw [hrt]) rfl (okWide_bool_mk htb _)
  · intro b off hp
    have hp' : MemPlace.cell b off ∈ p := by simpa using hp
    have := hz b off hp'
    rw [World.frozen?, hh.same b (hlt _ hp')]
    exact this
  · intro ha; cases ha
  · intro x hx _
    simpa using hx
end
end Go.Abs
namespace Go.Abs
open Go Go.ChangeShapes Go.WideShapes Go.ChangeAt Go.RowKit Go.Deep
section
variable {H : Type} {enc : TypeId × Value → H} {P : Program} {W : World} {spare : Nat → Bool} {held : Bool}
theorem addr_add (b off k : Nat) : (⟨b, off, none⟩ : Addr).add k = ⟨b, off + k, none⟩ := by
  unfold Addr.add
  split
  · rename_i h; subst h; rfl
  · rfl
theorem spot_none {base : Nat} {t e : TypeId} {a : Addr} {len cap : Nat} (ht : P.underlying t = some (.slice e)) (hv : Value.okWide P W .any base t (.slice (some a) len cap)) : a.spot = none := by
  simp only [Value.okWide, ht, Cell.okWide, Cell.ok] at hv
  exact hv.2.2.2.1
end
end Go.Abs
namespace Go.Abs
open Go Go.ChangeShapes Go.WideShapes Go.ChangeAt Go.RowKit Go.Deep
section
variable {H : Type} {enc : TypeId × Value → H} {P : Program} {W : World} {spare : Nat → Bool} {held : Bool}
theorem open_bytes {base : Nat} {t e : TypeId} {v : Value} {d : DataW H} {p : List MemPlace} (ht : P.underlying t = some (.slice e)) (he : P.underlying e = some (.int .u8)) (hC : P.cellsOf e = 1)
    (hval : Value.okWide P W .any base t v) (h : DataW.Trod enc P W 0 spare held t v d p) : ∃ l : List UInt8, Rd (memOf W) (.slice (l.map encB)) v := by
  obtain ⟨a', len', cap', rfl⟩ := okWide_slice ht hval
  obtain ⟨fuel, hf⟩ := h
  rcases Go.ChangeShapes.open_ints ht he hC hf with ⟨hcs, _⟩ | ⟨a, len, cap, zs, hcs, _, hlc, _, hzl, _, hcell, hwf⟩
  · simp [Value.cells] at hcs
    obtain ⟨rfl, rfl, rfl⟩ := hcs
    exact ⟨[], .nils⟩
  · simp [Value.cells] at hcs
    obtain ⟨rfl, rfl, rfl⟩ := hcs
    have hsp := spot_none ht hval
    obtain ⟨b, off, sp⟩ := a
    cases hsp
    have hml : len' ≤ zs.length := by rw [hzl]; split <;> omega
    have hz : ∀ i, i < zs.length → ∃ u : UInt8, zs.getD i 0 = (u.toNat : Int) := fun i hi => by
      have hm : zs.getD i 0 ∈ zs := by simp [List.getD, hi]
      have := hwf _ hm
      have hr : 0 ≤ zs.getD i 0 ∧ zs.getD i 0 ≤ 255 := by simpa [Lit.wf, IntKind.min, IntKind.max, IntKind.bits, IntKind.signed] using this
      refine ⟨UInt8.ofNat (zs.getD i 0).toNat, ?_⟩
      rw [UInt8.toNat_ofNat']
      omega
    let g : Nat → UInt8 := fun i => if h : i < zs.length then Classical.choose (hz i h) else 0
    have hg : ∀ i, i < zs.length → zs.getD i 0 = ((g i).toNat : Int) := fun i hi => by
      have := Classical.choose_spec (hz i hi)
      simp only [g, hi, dif_pos]; exact this
    refine ⟨(List.range len').map g, ?_⟩
    have hlen : (((List.range len').map g).map encB).length = len' := by simp
    have := Rd.slice (M := memOf W) (((List.range len').map g).map encB) 1 b off cap' (fun i _ => .int .u8 (((g i).toNat : Nat) : Int))
      (fun x hx => by simp at hx; obtain ⟨i, _, rfl⟩ := hx; rfl) (fun i j hi hj => ?_) (fun i j hi hj => ?_) (by rw [hlen]; exact hlc)
    · rw [hlen] at this; exact this
    · rw [hlen] at hi
      have hj0 : j = 0 := by omega
      subst hj0
      have hc := hcell i (by omega)
      rw [addr_add] at hc
      rw [hg i (by omega)] at hc
      simpa [memOf] using hc
    · rw [hlen] at hi
      have hj0 : j = 0 := by omega
      subst hj0
      have hc : pcell (((List.range len').map g).map encB) i 0 = .int .u8 (((g i).toNat : Nat) : Int) := by simp [pcell, List.getD, hi, encB]
      rw [hc]
      exact .int _ _
end
end Go.Abs
namespace Go.Abs
open Go
theorem table_cell {H : Type} {enc : TypeId × Value → H} {P : Program} {w : World} {base : Nat} {spare : Nat → Bool} {held : Bool} {fuel : Nat} {t e : TypeId} {cs : List Value} {ps : List MemPlace} {n : Nat} {ds : List (List UInt8)}
    (ht : P.underlying t = some (.array n e)) (he : P.underlying e = some .string) (hC : P.cellsOf e = 1)
    (h : DataW.trod enc P w base spare held fuel t cs = some (.agg (ds.map fun s => .lit (.string s)), ps)) (i : Nat) (hi : i < ds.length) : cs[i]? = some (.string ⟨(ds.getD i []).toArray⟩) := by
  obtain ⟨xs, m, _, hx, _, hn, hel⟩ := DataW.trod_array ht h
  simp only [Prod.mk.injEq, DataW.agg.injEq] at hx
  have hlen : ds.length = xs.length := by have := congrArg List.length hx.1; simpa using this
  have h1 := hel i (by omega)
  rw [hC, List.getElem?_eq_getElem (by omega)] at h1
  obtain ⟨s, e1, e2, _⟩ := DataW.trod_string he h1
  have h2 : (ds.map fun s => (DataW.lit (.string s) : DataW H))[i]? = (xs.map (fun x => x.fst))[i]? := by rw [hx.1]
  rw [List.getElem?_map, List.getElem?_map, List.getElem?_eq_getElem hi, List.getElem?_eq_getElem (by omega : i < xs.length)] at h2
  simp only [Option.map_some, Option.some.injEq] at h2
  rw [e2] at h2
  simp only [DataW.lit.injEq, Lit.string.injEq] at h2
  have h3 : ds.getD i [] = s.data.toList := by simp [List.getD, hi, h2]
  rw [h3]
  have h4 : cs[i]? = some (.string s) := by
    have := congrArg (fun l => l[0]?) e1
    simpa using this
  rw [h4]
end Go.Abs
namespace Go.Abs
open Go
theorem table_int {H : Type} {enc : TypeId × Value → H} {P : Program} {w : World} {base : Nat} {spare : Nat → Bool} {held : Bool} {fuel : Nat} {t e : TypeId} {cs : List Value} {ps : List MemPlace} {n : Nat} {k : IntKind} {ds : List Int}
    (ht : P.underlying t = some (.array n e)) (he : P.underlying e = some (.int k)) (hC : P.cellsOf e = 1)
    (h : DataW.trod enc P w base spare held fuel t cs = some (.agg (ds.map fun s => .lit (.int k s)), ps)) (i : Nat) (hi : i < ds.length) : cs[i]? = some (.int k (ds.getD i 0)) := by
  obtain ⟨xs, m, _, hx, _, hn, hel⟩ := DataW.trod_array ht h
  simp only [Prod.mk.injEq, DataW.agg.injEq] at hx
  have hlen : ds.length = xs.length := by have := congrArg List.length hx.1; simpa using this
  have h1 := hel i (by omega)
  rw [hC, List.getElem?_eq_getElem (by omega)] at h1
  obtain ⟨s, e1, e2, _⟩ := DataW.trod_int he h1
  have h2 : (ds.map fun s => (DataW.lit (.int k s) : DataW H))[i]? = (xs.map (fun x => x.fst))[i]? := by rw [hx.1]
  rw [List.getElem?_map, List.getElem?_map, List.getElem?_eq_getElem hi, List.getElem?_eq_getElem (by omega : i < xs.length)] at h2
  simp only [Option.map_some, Option.some.injEq] at h2
  rw [e2] at h2
  simp only [DataW.lit.injEq, Lit.int.injEq] at h2
  have h3 : ds.getD i 0 = s := by simp [List.getD, hi, h2]
  rw [h3]
  have h4 : cs[i]? = some (.int k s) := by
    have := congrArg (fun l => l[0]?) e1
    simpa using this
  rw [h4]
theorem iface_cell {H : Type} {enc : TypeId × Value → H} {P : Program} {w : World} {base : Nat} {spare : Nat → Bool} {held : Bool} {fuel : Nat} {t : TypeId} {cs : List Value} {ps : List MemPlace} {ms : Array (String × TypeId)} {nm : String} {d : DataW H}
    (ht : P.underlying t = some (.interface ms)) (h : DataW.trod enc P w base spare held fuel t cs = some (.iface nm d, ps)) : ∃ u v, cs[0]? = some (.iface u v) := by
  cases fuel with
  | zero => simp [DataW.trod] at h
  | succ f =>
    unfold DataW.trod at h
    rw [ht] at h
    split at h <;> simp_all
theorem var_block {P : Program} {W : World} {name : String} {b : Nat} {cs : Array Value} (hg : P.globalNamed name = some b) (hv : W.var? P name = some cs) : ∃ T l, W.heap[b]? = some (.cells cs T l) := by
  unfold World.var? at hv
  rw [hg] at hv
  simp only [Option.bind_some] at hv
  split at hv
  · rename_i cs' T l h
    cases hv
    exact ⟨T, l, h⟩
  · cases hv
theorem table_size {H : Type} {enc : TypeId × Value → H} {P : Program} {w : World} {base : Nat} {spare : Nat → Bool} {held : Bool} {fuel : Nat} {t e : TypeId} {cs : Array Value} {x : DataW H × List MemPlace} {n m : Nat}
    (ht : P.underlying t = some (.array n e)) (hC : P.cellsOf t = m) (h : DataW.trod enc P w base spare held fuel t cs.toList = some x) : cs.size = m := by
  obtain ⟨_, _, _, _, hl, _⟩ := DataW.trod_array ht h
  simpa [hC] using hl
theorem iface_size {H : Type} {enc : TypeId × Value → H} {P : Program} {w : World} {base : Nat} {spare : Nat → Bool} {held : Bool} {fuel : Nat} {t : TypeId} {cs : Array Value} {ps : List MemPlace} {ms : Array (String × TypeId)} {nm : String} {d : DataW H}
    (ht : P.underlying t = some (.interface ms)) (h : DataW.trod enc P w base spare held fuel t cs.toList = some (.iface nm d, ps)) : cs.size = 1 := by
  rw [← Array.length_toList]
  generalize cs.toList = l at *
  cases fuel with
  | zero => simp [DataW.trod] at h
  | succ f =>
    unfold DataW.trod at h
    rw [ht] at h
    split at h <;> simp_all
end Go.Abs
