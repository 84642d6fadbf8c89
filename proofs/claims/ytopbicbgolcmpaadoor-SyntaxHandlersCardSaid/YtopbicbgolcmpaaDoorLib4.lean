/- A sound walk of the program by abstract states, part 4: its theorems have no condition beyond what they state. -/
import Derived.Test.YtopbicbgolcmpaaDoorLib3
import Derived.Test.YtopbicbgolcmpaaDoorLib2
import Derived.ChangeSame
import Derived.ChangeStays
import Derived.WideKeyArgs
import Derived.Deep.Slices
import Derived.ProofKit
import Derived.WalkKit
import Derived.OpenShut
import Derived.ChangeMaps5
import Derived.ChangeSlices
set_option linter.unusedSimpArgs false
set_option linter.unusedVariables false
set_option linter.defProp false
namespace Go.Abs
open Go
section
variable {l : List TkD}
theorem szE_K (op : Int) : szE (exK op) = 1 := by simp [exK, szE, szEs]
theorem szE_C (v : Int) : szE (exC v) = 1 := by simp [exC, szE, szEs]
theorem szE_N (nm : List UInt8) : szE (exN nm) = 1 := by simp [exN, szE, szEs]
theorem szE_I (nm : List UInt8) (e : Ex) : szE (exI nm e) = 1 + szE e := by simp [exI, szE, szEs]
theorem szE_U (op : Int) (e : Ex) : szE (exU op e) = 1 + szE e := by simp [exU, szE, szEs]
theorem szE_B (op : Int) (a b : Ex) : szE (exB op a b) = 1 + szE a + szE b := by simp [exB, szE, szEs]; omega
theorem expF_ok {s : List UInt8} {k k' : Nat} {u : Unit} (h : expF l s k = .ok u k') : k' = k + 1 := by
  unfold expF at h; split at h <;> cases h; rfl
theorem pnmF_ok {k k' : Nat} {nm : List UInt8} (h : pnmF l k = .ok nm k') : k' = k + 1 := by
  unfold pnmF at h; split at h <;> cases h; rfl
theorem nmF_ok {z : Int} {k k' : Nat} {v : Int} (h : nmF l z k = .ok v k') : k' = k + 1 := by
  unfold nmF at h; split at h <;> cases h; rfl
def Nt.pre : Nt → Nat
  | .loop _ e => szE e
  | _ => 0
theorem exF_sz : ∀ (n : Nat) (nt : Nt) (k : Nat) (e : Ex) (k' : Nat), exF l n nt k = .ok e k' → szE e + k ≤ k' + nt.pre
  | 0, nt, k, e, k', h => by cases h
  | n + 1, .bin lv, k, e, k', h => by
    rw [exF_bin] at h
    split at h
    · exact exF_sz n .un k e k' h
    · obtain ⟨e1, k1, h1, h2⟩ := PR.bind_ok h
      have := exF_sz n _ _ _ _ h1
      have := exF_sz n _ _ _ _ h2
      simp only [Nt.pre] at *
      omega
  | n + 1, .loop lv e0, k, e, k', h => by
    rw [exF_loop] at h
    split at h
    · cases h; simp only [Nt.pre]; omega
    · obtain ⟨e1, k1, h1, h2⟩ := PR.bind_ok h
      have := exF_sz n _ _ _ _ h1
      have := exF_sz n _ _ _ _ h2
      simp only [Nt.pre, szE_B] at *
      omega
  | n + 1, .un, k, e, k', h => by
    rw [exF_un] at h
    split at h
    · obtain ⟨e1, k1, h1, h2⟩ := PR.bind_ok h
      have := exF_sz n _ _ _ _ h1
      cases h2
      simp only [Nt.pre, szE_U] at *
      omega
    split at h
    · obtain ⟨e1, k1, h1, h2⟩ := PR.bind_ok h
      have := exF_sz n _ _ _ _ h1
      cases h2
      simp only [Nt.pre, szE_U] at *
      omega
    · exact exF_sz n .prim k e k' h
  | n + 1, .prim, k, e, k', h => by
    rw [exF_prim] at h
    split at h
    · obtain ⟨v, k1, h1, h2⟩ := PR.bind_ok h
      have := nmF_ok h1
      cases h2
      simp only [Nt.pre, szE_C] at *
      omega
    split at h
    · cases h; simp only [Nt.pre, szE_K] at *; omega
    split at h
    · cases h; simp only [Nt.pre, szE_K] at *; omega
    split at h
    · cases h; simp only [Nt.pre, szE_K] at *; omega
    split at h
    · cases h; simp only [Nt.pre, szE_K] at *; omega
    split at h
    · obtain ⟨e1, k1, h1, h2⟩ := PR.bind_ok h
      have := exF_sz n _ _ _ _ h1
      obtain ⟨u, k2, h3, h4⟩ := PR.bind_ok h2
      have := expF_ok h3
      cases h4
      simp only [Nt.pre] at *
      omega
    · obtain ⟨nm, k1, h1, h2⟩ := PR.bind_ok h
      have := pnmF_ok h1
      split at h2
      · obtain ⟨e1, k2, h3, h4⟩ := PR.bind_ok h2
        have := exF_sz n _ _ _ _ h3
        obtain ⟨u, k3, h5, h6⟩ := PR.bind_ok h4
        have := expF_ok h5
        cases h6
        simp only [Nt.pre, szE_I] at *
        omega
      · cases h2
        simp only [Nt.pre, szE_N] at *
        omega
theorem pexF_sz {k k' : Nat} {e : Ex} (h : pexF l k = .ok e k') : szE e + k ≤ k' := by
  have := exF_sz _ _ _ _ _ h
  simpa [Nt.pre] using this
theorem szSs_app : ∀ a b : List Sm, szSs (a ++ b) = szSs a + szSs b
  | [], b => by simp [szSs]
  | s :: r, b => by simp only [List.cons_append, szSs, szSs_app r b]; omega
theorem szS_E (kind : Int) (nm : List UInt8) (p v : Ex) (b c : List Sm) : szSs [smE kind nm p v b c] = 1 + szE p + szE v + szSs b + szSs c := by simp [smE, szSs, szS]
theorem szS_1 (kind : Int) (nm : List UInt8) (p v : Ex) (b c : List Sm) : szS (smE kind nm p v b c) = 1 + szE p + szE v + szSs b + szSs c := by simp [smE, szS]
def Ns.pre : Ns → Nat
  | .stmts acc => szSs acc
  | _ => 0
theorem smF_sz : ∀ (n : Nat) (nt : Ns) (k : Nat) (b : List Sm) (k' : Nat), smF l n nt k = .ok b k' → szSs b + 2 * k ≤ 2 * k' + nt.pre
  | 0, nt, k, e, k', h => by cases h
  | n + 1, .block, k, b, k', h => by
    rw [smF_block] at h
    obtain ⟨u, k1, h1, h2⟩ := PR.bind_ok h
    have := expF_ok h1
    have := smF_sz n _ _ _ _ h2
    simp only [Ns.pre, szSs] at *
    omega
  | n + 1, .stmts acc, k, b, k', h => by
    rw [smF_stmts] at h
    split at h
    · cases h; simp only [Ns.pre]; omega
    · obtain ⟨s, k1, h1, h2⟩ := PR.bind_ok h
      have := smF_sz n _ _ _ _ h1
      have := smF_sz n _ _ _ _ h2
      simp only [Ns.pre, szSs_app] at *
      omega
  | n + 1, .stmt, k, b, k', h => by
    rw [smF_stmt] at h
    have z0 : szE exZ = 1 := szE_K 0
    have valu : ∀ {g : Ex → List Sm} {k4 c : Nat}, (∀ e, szSs (g e) = c + szE e) → ((pexF l k4).bind fun e k5 => (expF l [59] k5).bind fun _ k6 => PR.ok (g e) k6) = .ok b k' → szSs b + k4 + 1 ≤ k' + c := fun hg h => by
      obtain ⟨e, k5, h1, h2⟩ := PR.bind_ok h
      have := pexF_sz h1
      obtain ⟨u, k6, h3, h4⟩ := PR.bind_ok h2
      have := expF_ok h3
      cases h4
      rw [hg]
      omega
    split at h
    · obtain ⟨e, k1, h1, h2⟩ := PR.bind_ok h
      have := pexF_sz h1
      obtain ⟨b1, k2, h3, h4⟩ := PR.bind_ok h2
      have := smF_sz n _ _ _ _ h3
      have := szE_pos e
      split at h4
      · obtain ⟨c, k3, h5, h6⟩ := PR.bind_ok h4
        have := smF_sz n _ _ _ _ h5
        cases h6
        simp only [Ns.pre, szSs, szS_1, z0] at *
        omega
      · cases h4
        simp only [Ns.pre, szSs, szS_1, z0] at *
        omega
    split at h
    · obtain ⟨e, k1, h1, h2⟩ := PR.bind_ok h
      have := pexF_sz h1
      obtain ⟨b1, k2, h3, h4⟩ := PR.bind_ok h2
      have := smF_sz n _ _ _ _ h3
      have := szE_pos e
      cases h4
      simp only [Ns.pre, szSs, szS_1, z0] at *
      omega
    split at h
    · obtain ⟨p, k1, h1, h2⟩ := PR.bind_ok h
      have := pexF_sz h1
      obtain ⟨u, k2, h3, h4⟩ := PR.bind_ok h2
      have := expF_ok h3
      have := valu (c := 1 + szE p) (fun e => by rw [szS_E]; simp only [szSs]; omega) h4
      simp only [Ns.pre]
      omega
    split at h
    · have := valu (g := fun e => [smE 6 [] exZ e [] []]) (c := 2) (fun e => by rw [szS_E, z0]; simp [szSs]) h
      simp only [Ns.pre]
      omega
    · obtain ⟨nm, k1, h1, h2⟩ := PR.bind_ok h
      have := pnmF_ok h1
      split at h2
      · obtain ⟨p, k2, h3, h4⟩ := PR.bind_ok h2
        have := pexF_sz h3
        obtain ⟨u, k3, h5, h6⟩ := PR.bind_ok h4
        have := expF_ok h5
        obtain ⟨u2, k4, h7, h8⟩ := PR.bind_ok h6
        have := expF_ok h7
        have := valu (c := 1 + szE p) (fun e => by rw [szS_E]; simp only [szSs]; omega) h8
        simp only [Ns.pre]
        omega
      · obtain ⟨u, k3, h5, h6⟩ := PR.bind_ok h2
        have := expF_ok h5
        have := valu (g := fun e => [smE 1 nm exZ e [] []]) (c := 2) (fun e => by rw [szS_E, z0]; simp [szSs]) h6
        simp only [Ns.pre]
        omega
theorem blockF_sz {k k' : Nat} {b : List Sm} (h : blockF l k = .ok b k') : szSs b + 2 * k ≤ 2 * k' := by
  have := smF_sz _ _ _ _ _ h
  simpa [Ns.pre] using this
theorem pdcF_sz : ∀ (n : Nat) (acc : List VarD) (k : Nat) (vs : List VarD) (k' : Nat), pdcF l n acc k = .ok vs k' → k ≤ l.length → vs.length + k ≤ k' + acc.length
  | 0, _, _, _, _, h, _ => by cases h
  | n + 1, acc, k, vs, k', h, hk => by
    rw [pdcF_eq] at h
    split at h
    · rename_i h0
      have := isT_lt h0 (by simp)
      obtain ⟨nm, k1, h1, h2⟩ := PR.bind_ok h
      have := pnmF_ok h1
      obtain ⟨v, k2, h3, h4⟩ := PR.bind_ok h2
      have q : k1 ≤ k2 ∧ k2 ≤ l.length := by
        have := pnmF_past (l := l) (k := k + 1) (by omega)
        rw [h1] at this
        have := initF_on (l := l) (k := k1) this.2
        rw [h3] at this
        exact this
      obtain ⟨u, k3, h5, h6⟩ := PR.bind_ok h4
      have := expF_ok h5
      have q3 : k3 ≤ l.length := by
        have := expF_past (l := l) (s := [59]) q.2 (by simp)
        rw [h5] at this
        exact this.2
      have := pdcF_sz n _ _ _ _ h6 q3
      simp only [List.length_append, List.length_cons, List.length_nil] at this
      omega
    split at h
    · rename_i h0
      have := isT_lt h0 (by simp)
      obtain ⟨nm, k1, h1, h2⟩ := PR.bind_ok h
      have := pnmF_ok h1
      obtain ⟨u, k2, h3, h4⟩ := PR.bind_ok h2
      have := expF_ok h3
      obtain ⟨v, k3, h5, h6⟩ := PR.bind_ok h4
      have := nmF_ok h5
      obtain ⟨u2, k4, h7, h8⟩ := PR.bind_ok h6
      have := expF_ok h7
      obtain ⟨u3, k5, h9, h10⟩ := PR.bind_ok h8
      have := expF_ok h9
      have q3 : k5 ≤ l.length := by
        have a1 := pnmF_past (l := l) (k := k + 1) (by omega)
        rw [h1] at a1
        have a2 := expF_past (l := l) (s := [91]) a1.2 (by simp)
        rw [h3] at a2
        have a3 := nmF_past (l := l) (z := 1) a2.2
        rw [h5] at a3
        have a4 := expF_past (l := l) (s := [93]) a3.2 (by simp)
        rw [h7] at a4
        have a5 := expF_past (l := l) (s := [59]) a4.2 (by simp)
        rw [h9] at a5
        exact a5.2
      have := pdcF_sz n _ _ _ _ h10 q3
      simp only [List.length_append, List.length_cons, List.length_nil] at this
      omega
    · cases h
      omega
def PgD.fits (p : PgD) (z : Seen) : Prop := (z.s = false → p.start = []) ∧ (z.m = false → p.message = []) ∧ (z.t = false → p.tick = []) ∧ (z.i = false → p.input = [])
theorem hanF_sz : ∀ (n : Nat) (p : PgD) (z : Seen) (k : Nat) (q : PgD) (k' : Nat), hanF l n p z k = .ok q k' → k ≤ l.length → p.fits z → szP q + 2 * k ≤ 2 * k' + szP p ∧ k' ≤ l.length
  | 0, _, _, _, _, _, h, _, _ => by cases h
  | n + 1, p, z, k, q, k', h, hk, hz => by
    rw [hanF_step] at h
    split at h
    · obtain ⟨⟨q1, z1⟩, k2, h1, h2⟩ := PR.bind_ok h
      have hp := hanS_past l p z k hk
      rw [h1] at hp
      unfold hanS at h1
      obtain ⟨u, k1, h3, h4⟩ := PR.bind_ok h1
      have := expF_ok h3
      unfold hanB at h4
      obtain ⟨f1, f2, f3, f4⟩ := hz
      have key : szP q1 + 2 * k ≤ 2 * k2 + szP p ∧ q1.fits z1 := by
        split at h4
        · rename_i hc
          obtain ⟨b, k3, h5, h6⟩ := PR.bind_ok h4
          have := blockF_sz h5
          cases h6
          have : p.start = [] := f1 (by simp at hc; exact hc.1)
          exact ⟨by simp only [szP, this, szSs]; omega, fun h => (by cases h), f2, f3, f4⟩
        split at h4
        · rename_i hc
          obtain ⟨b, k3, h5, h6⟩ := PR.bind_ok h4
          have := blockF_sz h5
          cases h6
          have : p.message = [] := f2 (by simp at hc; exact hc.1)
          exact ⟨by simp only [szP, this, szSs]; omega, f1, fun h => (by cases h), f3, f4⟩
        split at h4
        · rename_i hc
          obtain ⟨b, k3, h5, h6⟩ := PR.bind_ok h4
          have := blockF_sz h5
          cases h6
          have : p.tick = [] := f3 (by simp at hc; exact hc.1)
          exact ⟨by simp only [szP, this, szSs]; omega, f1, f2, fun h => (by cases h), f4⟩
        split at h4
        · rename_i hc
          obtain ⟨b, k3, h5, h6⟩ := PR.bind_ok h4
          have := blockF_sz h5
          cases h6
          have : p.input = [] := f4 (by simp at hc; exact hc.1)
          exact ⟨by simp only [szP, this, szSs]; omega, f1, f2, f3, fun h => (by cases h)⟩
        · cases h4
      have := hanF_sz n q1 z1 k2 q k' h2 hp.2 key.2
      omega
    · cases h
      omega
theorem progF_sz {p : PgD} {k : Nat} (h : progF l = .ok p k) : szP p ≤ 2 * l.length := by
  unfold progF at h
  obtain ⟨vs, k1, h1, h2⟩ := PR.bind_ok h
  have a1 := pdcF_sz _ _ _ _ _ h1 (by omega)
  have a2 := pdcF_on (l := l) (l.length + 1) [] 0 (by omega)
  rw [h1] at a2
  have a3 := hanF_sz _ _ _ _ _ _ h2 a2.2 ⟨fun _ => rfl, fun _ => rfl, fun _ => rfl, fun _ => rfl⟩
  simp only [szP, szSs, List.length_nil] at a1 a3 ⊢
  omega
theorem vals_of {s : List UInt8} {k : Nat} (h : Sc s k l) : ∀ i, (l.getD i tk0).value ≤ 9223372036854775807 := fun i => by
  by_cases hi : i < l.length
  · have e : l.getD i tk0 = l[i] := by simp [List.getD, hi]
    rw [e]
    exact (h.vals l[i] (List.getElem_mem hi)).1
  · have e : l.getD i tk0 = tk0 := by simp [List.getD, Nat.le_of_not_lt hi]
    rw [e]; decide
end
end Go.Abs
namespace Go.Abs
open Go
def pgZ : PgD := ⟨[], [], [], [], []⟩
def parF (s : List UInt8) : PgD × Int × Int :=
  if (scan s).2.2 ≠ 0 then (pgZ, (scan s).2.1, (scan s).2.2)
  else match progF (scan s).1 with
    | .ok p _ => if depP p > 16 then (pgZ, 0, 6) else (p, 0, 0)
    | .bad k => (pgZ, placeF (scan s).1 s.length k, 1)
    | .out => (pgZ, 0, 0)
end Go.Abs
namespace Go.Abs
open Go
def tkW (s : List UInt8) : TkD := ⟨1, s, 0, 0⟩
def tkS (s : List UInt8) : TkD := ⟨3, s, 0, 0⟩
def tkN (n : Int) : TkD := ⟨2, [], n, 0⟩
theorem Su.tokN {t : TkD} {w u : List UInt8} {l : List TkD} (hg : Good t w) (hn : okNext t w u) (h : Su u l) : Su (w ++ u) (t :: l) := by
  intro p
  obtain ⟨l', h1, h2⟩ := h (p ++ w)
  have ho := good_one t w p u hg hn
  have hf := good_first hg
  have h0 := getD_mid p w u hg.ne
  have hpos : 0 < w.length := List.length_pos_iff.2 hg.ne
  rw [List.append_assoc] at ho h0 h1
  rw [List.length_append] at h1
  refine ⟨{ t with pos := p.length } :: l', .tok (by simp; omega) (by rw [h0]; exact hf.1) (by rw [h0]; exact hf.2) ho h1, ?_⟩
  simp [h2, strip]
structure Cl (S : List UInt8 → List TkD → Prop) : Prop where
  blank : ∀ {c : UInt8} {u : List UInt8} {l : List TkD}, isB c = true → S u l → S (c :: u) l
  tok : ∀ {t : TkD} {w u : List UInt8} {l : List TkD}, Good t w → okNext t w u → S u l → S (w ++ u) (t :: l)
theorem cl_su : Cl Su := ⟨Su.blank, Su.tokN⟩
section
variable {S : List UInt8 → List TkD → Prop}
def stopW (u : List UInt8) : Prop := ∀ c, u.head? = some c → isW c = false
theorem Cl.word (C : Cl S) {s u : List UInt8} {l : List TkD} (hg : Good (tkW s) s) (hu : stopW u) (h : S u l) : S (s ++ u) (tkW s :: l) :=
  C.tok hg ⟨fun _ => hu, fun h => by simp [tkW] at h⟩ h
theorem good_valid {s : List UInt8} (h : validF s = true) : Good (tkW s) s := by
  unfold validF at h
  simp only [Bool.and_eq_true, Bool.not_eq_true', Bool.or_eq_false_iff, beq_eq_false_iff_ne, beq_iff_eq, decide_eq_false_iff_not] at h
  obtain ⟨⟨⟨h1, h2⟩, h3⟩, h4, h5⟩ := h
  have h3' : isL (s.getD 0 0) = true := by unfold isL; cases hx : letterF (s.getD 0 0).toNat <;> simp_all
  refine ⟨h1, .inl ⟨rfl, rfl, rfl, h3', ?_, by omega⟩⟩
  unfold wordF at h4
  rw [List.drop_zero, Nat.zero_add] at h4
  have h6 : (s.takeWhile isW).length = s.length := by omega
  have h7 : s.takeWhile isW = s := (List.takeWhile_prefix isW).eq_of_length h6
  intro c hc
  rw [← h7] at hc
  have := List.all_takeWhile (p := isW) (l := s)
  exact List.all_eq_true.1 this c hc
theorem good_num (n : Int) (h0 : 0 ≤ n) (h1 : n ≤ 9223372036854775807) : Good (tkN n) (decF n) := by
  obtain ⟨a, b, c⟩ := decF_num n h1
  have d : imax n 0 = n := by unfold imax; split <;> omega
  rw [d] at c
  exact ⟨a.ne, .inr (.inl ⟨rfl, rfl, c.symm, a, by omega⟩)⟩
theorem Cl.num (C : Cl S) {n : Int} {u : List UInt8} {l : List TkD} (h0 : 0 ≤ n) (h1 : n ≤ 9223372036854775807) (hu : stopW u) (h : S u l) : S (decF n ++ u) (tkN n :: l) :=
  C.tok (good_num n h0 h1) ⟨fun _ => hu, fun h => by simp [tkN] at h⟩ h
theorem Cl.sign1 (C : Cl S) {c : UInt8} {u : List UInt8} {l : List TkD} (hL : isL c = false) (hD : isD c = false) (h0 : signF c.toNat 0 = 1) (hu : signF c.toNat (nx u) = 1) (h : S u l) : S (c :: u) (tkS [c] :: l) :=
  C.tok (w := [c]) ⟨by simp, .inr (.inr ⟨rfl, rfl, rfl, by simpa using hL, by simpa using hD, .inl ⟨rfl, by simpa using h0⟩⟩)⟩ ⟨fun h => by simp [tkS] at h, fun _ _ => by simpa using hu⟩ h
theorem Cl.sign2 (C : Cl S) {c d : UInt8} {u : List UInt8} {l : List TkD} (hL : isL c = false) (hD : isD c = false) (h0 : signF c.toNat d.toNat = 2) (h : S u l) : S (c :: d :: u) (tkS [c, d] :: l) :=
  C.tok (w := [c, d]) ⟨by simp, .inr (.inr ⟨rfl, rfl, rfl, by simpa using hL, by simpa using hD, .inr ⟨rfl, by simpa using h0⟩⟩)⟩ ⟨fun h => by simp [tkS] at h, fun _ hl => by simp at hl⟩ h
theorem Cl.sg (C : Cl S) {c : UInt8} {u : List UInt8} {l : List TkD} (hL : isL c = false) (hD : isD c = false) (hu : ∀ n, signF c.toNat n = 1) (h : S u l) : S (c :: u) (tkS [c] :: l) := C.sign1 hL hD (hu _) (hu _) h
def endR (u : List UInt8) : Prop := ∀ c, u.head? = some c → c = 32 ∨ c = 41 ∨ c = 93 ∨ c = 59 ∨ c = 44
theorem endR_cons {c : UInt8} {u : List UInt8} (h : c = 32 ∨ c = 41 ∨ c = 93 ∨ c = 59 ∨ c = 44) : endR (c :: u) := by
  intro d hd
  simp only [List.head?_cons, Option.some.injEq] at hd
  subst hd
  exact h
theorem endR.stop {u : List UInt8} (h : endR u) : stopW u := by
  intro c hc
  rcases h c hc with rfl | rfl | rfl | rfl | rfl <;> decide
theorem stopW_cons {c : UInt8} {u : List UInt8} (h : isW c = false) : stopW (c :: u) := by
  intro d hd
  simp only [List.head?_cons, Option.some.injEq] at hd
  subst hd
  exact h
def opdK (q : Bool × List TkD) : List TkD := if q.1 then tkS [40] :: (q.2 ++ [tkS [41]]) else q.2
def tkX (op value : Int) (nm : List UInt8) (ts : List (Bool × List TkD)) : List TkD :=
  if op = 1 then [tkN value] else if op = 2 then [tkW nm]
  else if op = 3 then tkW nm :: tkS [91] :: ((ts.getD 0 (false, [])).2 ++ [tkS [93]])
  else if op = 4 then [tkW [115, 101, 108, 102]] else if op = 5 then [tkW [112, 114, 111, 99, 115]] else if op = 6 then [tkW [102, 114, 111, 109]] else if op = 7 then [tkW [118, 97, 108, 117, 101]]
  else if op = 8 ∨ op = 9 then tkS (sgF op.toNat) :: opdK (ts.getD 0 (false, []))
  else opdK (ts.getD 0 (false, [])) ++ tkS (sgF op.toNat) :: opdK (ts.getD 1 (false, []))
mutual
def tkE : Ex → List TkD
  | .mk op value nm _ _ args => tkX op value nm (tkEs args)
def tkEs : List Ex → List (Bool × List TkD)
  | [] => []
  | e :: r => (decide (e.op ≥ 8), tkE e) :: tkEs r
end
inductive GdE : Ex → Prop
  | num (v : Int) : 0 ≤ v → v ≤ 9223372036854775807 → GdE (exC v)
  | name (nm : List UInt8) : validF nm = true → GdE (exN nm)
  | index (nm : List UInt8) (e : Ex) : validF nm = true → GdE e → GdE (exI nm e)
  | word (op : Int) : 4 ≤ op → op ≤ 7 → GdE (exK op)
  | un (op : Int) (e : Ex) : op = 8 ∨ op = 9 → GdE e → GdE (exU op e)
  | bin (op : Int) (a b : Ex) : 10 ≤ op → op ≤ 22 → GdE a → GdE b → GdE (exB op a b)
theorem rgEs_mem : ∀ {l : List Ex} {e : Ex}, rgEs l = true → e ∈ l → rgE e = true
  | x :: r, s, h, hm => by
    simp only [rgEs, Bool.and_eq_true] at h
    rcases List.mem_cons.1 hm with rfl | hm
    · exact h.1
    · exact rgEs_mem h.2 hm
theorem goodEF_GE (n : Nat) : ∀ e : Ex, szE e ≤ n → goodEF e = true → rgE e = true → GdE e := by
  induction n with
  | zero => intro e h; cases e; simp [szE] at h
  | succ n ih =>
    intro e hz hg hr
    obtain ⟨op, value, nm, slot, size, args⟩ := e
    rw [goodEF] at hg
    simp only [Bool.and_eq_true] at hg
    obtain ⟨hh, ha⟩ := hg
    unfold headEF at hh
    simp only [Bool.and_eq_true, beq_iff_eq, Bool.not_eq_true', Bool.or_eq_false_iff, decide_eq_false_iff_not, Bool.and_eq_false_iff, bne_eq_false_iff_eq] at hh
    obtain ⟨⟨⟨⟨h1, h2⟩, h3⟩, h4, h5⟩, h6⟩ := hh
    subst h2 h3
    rw [rgE] at hr
    simp only [Bool.and_eq_true] at hr
    have hop : 1 ≤ op ∧ op ≤ 22 := by
      unfold arityF at h1
      split at h1
      · omega
      · omega
    have hv : op ≠ 1 → value = 0 := fun h => by rcases h5 with h5 | h5; exact h5; exact absurd h5 h
    have hsub : ∀ x ∈ args, szE x ≤ n ∧ goodEF x = true ∧ rgE x = true := by
      intro x hx
      rw [goodEFs_all] at ha
      have hxs : szE x ≤ szEs args := szEs_mem args x hx
      rw [szE] at hz
      refine ⟨by omega, List.all_eq_true.1 ha x hx, ?_⟩
      exact rgEs_mem hr.2 hx
    unfold arityF at h1
    unfold goodNameF at h6
    rw [if_neg (by omega)] at h1
    by_cases h10 : op ≥ 10
    · rw [if_pos h10] at h1
      rw [hv (by omega)]
      match args, h1 with
      | [a, b], _ =>
        rw [if_neg (by simp; omega)] at h6
        simp only [beq_iff_eq] at h6
        subst h6
        obtain ⟨a1, a2, a3⟩ := hsub a (by simp)
        obtain ⟨b1, b2, b3⟩ := hsub b (by simp)
        exact .bin op a b h10 hop.2 (ih a a1 a2 a3) (ih b b1 b2 b3)
    · rw [if_neg h10] at h1
      by_cases h3 : op = 3
      · subst h3
        rw [hv (by omega)]
        simp only [true_or, if_true] at h1
        match args, h1 with
        | [a], _ =>
          obtain ⟨a1, a2, a3⟩ := hsub a (by simp)
          simp at h6
          exact .index nm a h6 (ih a a1 a2 a3)
      · by_cases h89 : op = 8 ∨ op = 9
        · rw [if_pos (.inr h89)] at h1
          rw [hv (by omega)]
          rw [if_neg (by simp; omega)] at h6
          simp only [beq_iff_eq] at h6
          subst h6
          match args, h1 with
          | [a], _ =>
            obtain ⟨a1, a2, a3⟩ := hsub a (by simp)
            exact .un op a h89 (ih a a1 a2 a3)
        · rw [if_neg (by omega)] at h1
          match args, h1 with
          | [], _ =>
            by_cases hop1 : op = 1
            · subst hop1
              rw [if_neg (by simp)] at h6
              simp only [beq_iff_eq] at h6
              subst h6
              have := hr.1
              simp only [rg64, Bool.and_eq_true, decide_eq_true_eq] at this
              exact .num value (by omega) (by omega)
            · rw [hv hop1]
              by_cases hop2 : op = 2
              · subst hop2
                simp at h6
                exact .name nm h6
              · rw [if_neg (by simp; omega)] at h6
                simp only [beq_iff_eq] at h6
                subst h6
                exact .word op (by omega) (by omega)
theorem fm_C (v : Int) : fmE (exC v) = decF v := rfl
theorem fm_N (nm : List UInt8) : fmE (exN nm) = nm := rfl
theorem fm_I (nm : List UInt8) (e : Ex) : fmE (exI nm e) = nm ++ 91 :: (fmE e ++ [93]) := rfl
theorem fm_U (op : Int) (e : Ex) (h : op = 8 ∨ op = 9) : fmE (exU op e) = sgF op.toNat ++ opdT (decide (e.op ≥ 8), fmE e) := by rcases h with rfl | rfl <;> rfl
theorem fm_B (op : Int) (a b : Ex) (h : 10 ≤ op) : fmE (exB op a b) = opdT (decide (a.op ≥ 8), fmE a) ++ 32 :: (sgF op.toNat ++ 32 :: opdT (decide (b.op ≥ 8), fmE b)) := by
  simp only [exB, fmE, fmN, fmEs]
  rw [if_neg (by omega), if_neg (by omega), if_neg (by omega), if_neg (by omega), if_neg (by omega), if_neg (by omega), if_neg (by omega), if_neg (by omega)]
  rfl
theorem tk_C (v : Int) : tkE (exC v) = [tkN v] := rfl
theorem tk_N (nm : List UInt8) : tkE (exN nm) = [tkW nm] := rfl
theorem tk_I (nm : List UInt8) (e : Ex) : tkE (exI nm e) = tkW nm :: tkS [91] :: (tkE e ++ [tkS [93]]) := rfl
theorem tk_U (op : Int) (e : Ex) (h : op = 8 ∨ op = 9) : tkE (exU op e) = tkS (sgF op.toNat) :: opdK (decide (e.op ≥ 8), tkE e) := by rcases h with rfl | rfl <;> rfl
theorem tk_B (op : Int) (a b : Ex) (h : 10 ≤ op) : tkE (exB op a b) = opdK (decide (a.op ≥ 8), tkE a) ++ tkS (sgF op.toNat) :: opdK (decide (b.op ≥ 8), tkE b) := by
  simp only [exB, tkE, tkX, tkEs]
  rw [if_neg (by omega), if_neg (by omega), if_neg (by omega), if_neg (by omega), if_neg (by omega), if_neg (by omega), if_neg (by omega), if_neg (by omega)]
  rfl
def kwF (op : Int) : List UInt8 := if op = 4 then [115, 101, 108, 102] else if op = 5 then [112, 114, 111, 99, 115] else if op = 6 then [102, 114, 111, 109] else [118, 97, 108, 117, 101]
theorem fm_K (op : Int) (h : 4 ≤ op) (h2 : op ≤ 7) : fmE (exK op) = kwF op ∧ tkE (exK op) = [tkW (kwF op)] := by
  have : op = 4 ∨ op = 5 ∨ op = 6 ∨ op = 7 := by omega
  rcases this with rfl | rfl | rfl | rfl <;> exact ⟨rfl, rfl⟩
theorem good_kw (s : List UInt8) (h : (s.all isW && isL (s.getD 0 0) && decide (s.length ≤ 16)) = true) (hs : s ≠ []) : Good (tkW s) s := by
  simp only [Bool.and_eq_true, decide_eq_true_eq] at h
  exact ⟨hs, .inl ⟨rfl, rfl, rfl, h.1.2, fun c hc => List.all_eq_true.1 h.1.1 c hc, h.2⟩⟩
theorem good_kwF (op : Int) : Good (tkW (kwF op)) (kwF op) := by
  unfold kwF
  repeat' split
  all_goals exact good_kw _ (by decide) (by decide)
theorem Cl.par (C : Cl S) {u f : List UInt8} {l t : List TkD} {b : Bool} (hs : ∀ u l, endR u → S u l → S (f ++ u) (t ++ l)) (hu : endR u) (h : S u l) : S (opdT (b, f) ++ u) (opdK (b, t) ++ l) := by
  cases b with
  | false => exact hs u l hu h
  | true =>
    have h1 : S (41 :: u) (tkS [41] :: l) := C.sg (by decide) (by decide) (fun n => by simp [signF]) h
    have h2 := hs _ _ (endR_cons (by simp)) h1
    have h3 : S (40 :: (f ++ 41 :: u)) (tkS [40] :: (t ++ tkS [41] :: l)) := C.sg (by decide) (by decide) (fun n => by simp [signF]) h2
    simpa [opdT, opdK] using h3
theorem Cl.sp (C : Cl S) {u : List UInt8} {l : List TkD} (h : S u l) : S (32 :: u) l := C.blank (by decide) h
theorem Cl.lf (C : Cl S) {u : List UInt8} {l : List TkD} (h : S u l) : S (10 :: u) l := C.blank (by decide) h
theorem Cl.oper (C : Cl S) {op : Nat} {u : List UInt8} {l : List TkD} (h1 : 10 ≤ op) (h2 : op ≤ 22) (h : S u l) : S (sgF op ++ 32 :: u) (tkS (sgF op) :: l) := by
  have : op = 10 ∨ op = 11 ∨ op = 12 ∨ op = 13 ∨ op = 14 ∨ op = 15 ∨ op = 16 ∨ op = 17 ∨ op = 18 ∨ op = 19 ∨ op = 20 ∨ op = 21 ∨ op = 22 := by omega
  rcases this with rfl | rfl | rfl | rfl | rfl | rfl | rfl | rfl | rfl | rfl | rfl | rfl | rfl
  · exact C.sign1 (c := 43) (by decide) (by decide) (by decide) (by rfl) (C.sp h)
  · exact C.sign1 (c := 45) (by decide) (by decide) (by decide) (by rfl) (C.sp h)
  · exact C.sign1 (c := 42) (by decide) (by decide) (by decide) (by rfl) (C.sp h)
  · exact C.sign1 (c := 47) (by decide) (by decide) (by decide) (by rfl) (C.sp h)
  · exact C.sign1 (c := 37) (by decide) (by decide) (by decide) (by rfl) (C.sp h)
  · exact C.sign1 (c := 60) (by decide) (by decide) (by decide) (by rfl) (C.sp h)
  · exact C.sign2 (c := 60) (d := 61) (by decide) (by decide) (by decide) (C.sp h)
  · exact C.sign1 (c := 62) (by decide) (by decide) (by decide) (by rfl) (C.sp h)
  · exact C.sign2 (c := 62) (d := 61) (by decide) (by decide) (by decide) (C.sp h)
  · exact C.sign2 (c := 61) (d := 61) (by decide) (by decide) (by decide) (C.sp h)
  · exact C.sign2 (c := 33) (d := 61) (by decide) (by decide) (by decide) (C.sp h)
  · exact C.sign2 (c := 38) (d := 38) (by decide) (by decide) (by decide) (C.sp h)
  · exact C.sign2 (c := 124) (d := 124) (by decide) (by decide) (by decide) (C.sp h)
def noEq (f : List UInt8) : Prop := ∃ c r, f = c :: r ∧ c ≠ 61
theorem noEq.opd {f : List UInt8} {b : Bool} (h : noEq f) (u : List UInt8) : ∃ c r, opdT (b, f) ++ u = c :: r ∧ c ≠ 61 := by
  obtain ⟨c, r, rfl, hc⟩ := h
  cases b
  · exact ⟨c, r ++ u, rfl, hc⟩
  · exact ⟨40, c :: r ++ [41] ++ u, by simp [opdT], by decide⟩
theorem noEq_valid {s : List UInt8} (h : validF s = true) (r : List UInt8) : noEq (s ++ r) := by
  have hg := good_valid h
  rcases hg.kinds with ⟨_, _, _, h4, _⟩ | ⟨h1, _⟩ | ⟨h1, _⟩
  · cases s with
    | nil => exact absurd rfl hg.ne
    | cons c t =>
      refine ⟨c, t ++ r, rfl, ?_⟩
      rintro rfl
      simp only [List.getD_cons_zero] at h4
      exact absurd h4 (by decide)
  · simp [tkW] at h1
  · simp [tkW] at h1
theorem fmE_su (C : Cl S) : ∀ {e : Ex}, GdE e → noEq (fmE e) ∧ ∀ (u : List UInt8) (l : List TkD), endR u → S u l → S (fmE e ++ u) (tkE e ++ l)
  | _, .num v h0 h1 => by
    refine ⟨?_, fun u l hu h => C.num h0 h1 hu.stop h⟩
    obtain ⟨a, _⟩ := decF_num v h1
    rw [fm_C]
    cases hd : decF v with
    | nil => exact absurd hd a.ne
    | cons c t =>
      refine ⟨c, t, rfl, ?_⟩
      rintro rfl
      have := a.all 61 (by rw [hd]; simp)
      exact absurd this (by decide)
  | _, .name nm hv => ⟨by have := noEq_valid hv []; simpa [fm_N] using this, fun u l hu h => C.word (good_valid hv) hu.stop h⟩
  | _, .index nm e hv he => by
    obtain ⟨_, hs⟩ := fmE_su C he
    refine ⟨by rw [fm_I]; exact noEq_valid hv _, fun u l hu h => ?_⟩
    have h1 : S (93 :: u) (tkS [93] :: l) := C.sg (by decide) (by decide) (fun n => by simp [signF]) h
    have h2 := hs _ _ (endR_cons (by simp)) h1
    have h3 : S (91 :: (fmE e ++ 93 :: u)) (tkS [91] :: (tkE e ++ tkS [93] :: l)) := C.sg (by decide) (by decide) (fun n => by simp [signF]) h2
    have h4 := C.word (good_valid hv) (stopW_cons (by decide)) h3
    simpa [fm_I, tk_I] using h4
  | _, .word op h1 h2 => by
    obtain ⟨e1, e2⟩ := fm_K op h1 h2
    rw [e1, e2]
    refine ⟨?_, fun u l hu h => C.word (good_kwF op) hu.stop h⟩
    unfold kwF
    repeat' split
    all_goals exact ⟨_, _, rfl, by decide⟩
  | _, .un op e ho he => by
    obtain ⟨hn, hs⟩ := fmE_su C he
    rw [fm_U op e ho, tk_U op e ho]
    refine ⟨by rcases ho with rfl | rfl <;> exact ⟨_, _, rfl, by decide⟩, fun u l hu h => ?_⟩
    have h1 := C.par (b := decide (e.op ≥ 8)) hs hu h
    obtain ⟨c, r, hc, hne⟩ := hn.opd (b := decide (e.op ≥ 8)) u
    rw [List.append_assoc]
    rcases ho with rfl | rfl
    · exact C.sg (by decide) (by decide) (fun n => by simp [signF]) h1
    · refine C.sign1 (c := 33) (by decide) (by decide) (by decide) ?_ h1
      rw [hc]
      refine sign_one (n := 0) (by decide) _ ?_
      simp only [nx]
      intro hx
      have hx2 : (c.toNat : Int) = 61 := hx
      have h2 : c.toNat = 61 := by omega
      exact hne (UInt8.toNat.inj h2)
  | _, .bin op a b h1 h2 ha hb => by
    obtain ⟨hn, hsa⟩ := fmE_su C ha
    obtain ⟨_, hsb⟩ := fmE_su C hb
    rw [fm_B op a b h1, tk_B op a b h1]
    refine ⟨?_, fun u l hu h => ?_⟩
    · obtain ⟨c, r, hc, hne⟩ := hn.opd (b := decide (a.op ≥ 8)) (32 :: (sgF op.toNat ++ 32 :: opdT (decide (b.op ≥ 8), fmE b)))
      exact ⟨c, r, hc, hne⟩
    · have k1 := C.par (b := decide (b.op ≥ 8)) hsb hu h
      have k2 := C.oper (op := op.toNat) (by omega) (by omega) k1
      have k3 := C.par (b := decide (a.op ≥ 8)) hsa (endR_cons (by simp)) (C.sp k2)
      simpa using k3
inductive GdS : Sm → Prop
  | assign (nm : List UInt8) (v : Ex) : validF nm = true → GdE v → GdS (smE 1 nm exZ v [] [])
  | store (nm : List UInt8) (p v : Ex) : validF nm = true → GdE p → GdE v → GdS (smE 2 nm p v [] [])
  | put (p v : Ex) : GdE p → GdE v → GdS (smE 5 [] p v [] [])
  | out (v : Ex) : GdE v → GdS (smE 6 [] exZ v [] [])
  | ife (v : Ex) (b c : List Sm) : GdE v → (∀ s ∈ b, GdS s) → (∀ s ∈ c, GdS s) → GdS (smE 3 [] exZ v b c)
  | loop (v : Ex) (b : List Sm) : GdE v → (∀ s ∈ b, GdS s) → GdS (smE 4 [] exZ v b [])
def tkY (kind : Int) (nm : List UInt8) (place value body els : List TkD) (he : Bool) : List TkD :=
  if kind = 1 then tkW nm :: tkS [61] :: (value ++ [tkS [59]])
  else if kind = 2 then tkW nm :: tkS [91] :: (place ++ tkS [93] :: tkS [61] :: (value ++ [tkS [59]]))
  else if kind = 5 then tkW [115, 101, 110, 100] :: (place ++ tkS [44] :: (value ++ [tkS [59]]))
  else if kind = 6 then tkW [111, 117, 116, 112, 117, 116] :: (value ++ [tkS [59]])
  else tkW (if kind = 3 then [105, 102] else [119, 104, 105, 108, 101]) :: (value ++ tkS [123] :: (body ++ ((if he then tkS [125] :: tkW [101, 108, 115, 101] :: tkS [123] :: els else []) ++ [tkS [125]])))
mutual
def tkSm : Sm → List TkD
  | .mk kind nm _ _ place value body els => tkY kind nm (tkE place) (tkE value) (tkSs body) (tkSs els) (decide (els.length > 0))
def tkSs : List Sm → List TkD
  | [] => []
  | s :: r => tkSm s ++ tkSs r
end
theorem zeroEF_Z {e : Ex} (h : zeroEF e = true) : e = exZ := by
  obtain ⟨op, value, nm, slot, size, args⟩ := e
  simp only [zeroEF, Ex.op, Ex.value, Ex.name, Ex.slot, Ex.size, Ex.args, Bool.and_eq_true, beq_iff_eq] at h
  obtain ⟨⟨⟨⟨⟨rfl, rfl⟩, rfl⟩, rfl⟩, rfl⟩, h⟩ := h
  have : args = [] := List.length_eq_zero_iff.1 h
  subst this
  rfl
theorem goodSF_GS (n : Nat) : ∀ s : Sm, szS s ≤ n → goodSF s = true → rgS s = true → GdS s := by
  induction n with
  | zero => intro s h; rw [szS_eq] at h; omega
  | succ n ih =>
    intro s hz hg hr
    obtain ⟨kind, nm, slot, size, place, value, body, els⟩ := s
    rw [goodSF] at hg
    simp only [Bool.and_eq_true] at hg
    obtain ⟨hh, ⟨hgv, hgb⟩, hge⟩ := hg
    rw [rgS] at hr
    simp only [Bool.and_eq_true] at hr
    obtain ⟨⟨⟨hrp, hrv⟩, hrb⟩, hre⟩ := hr
    rw [szS] at hz
    have hV : GdE value := goodEF_GE _ value (Nat.le_refl _) hgv hrv
    have hP : goodEF place = true → GdE place := fun h => goodEF_GE _ place (Nat.le_refl _) h hrp
    have hB : ∀ s ∈ body, GdS s := fun s hs => ih s (by have := szSs_mem body s hs; omega) (goodSFs_mem hgb hs) (rgSs_mem hrb hs)
    have hE : ∀ s ∈ els, GdS s := fun s hs => ih s (by have := szSs_mem els s hs; omega) (goodSFs_mem hge hs) (rgSs_mem hre hs)
    unfold headSF at hh
    simp only [Bool.and_eq_true, decide_eq_true_eq, beq_iff_eq] at hh
    obtain ⟨⟨⟨⟨⟨⟨⟨k1, k2⟩, h1⟩, h2⟩, h3⟩, h4⟩, h5⟩, h6⟩ := hh
    subst h1 h2
    have hk : kind = 1 ∨ kind = 2 ∨ kind = 3 ∨ kind = 4 ∨ kind = 5 ∨ kind = 6 := by omega
    have nil : ∀ l : List Sm, ¬ l.length > 0 → l = [] := fun l h => List.length_eq_zero_iff.1 (by omega)
    rcases hk with rfl | rfl | rfl | rfl | rfl | rfl
    all_goals simp [goodNameF] at h3 h4 h5 h6
    · rw [zeroEF_Z h4]; subst h5 h6; exact .assign nm value h3 hV
    · subst h5 h6; exact .store nm place value h3 (hP h4) hV
    · rw [zeroEF_Z h4]; subst h3; exact .ife value body els hV hB hE
    · rw [zeroEF_Z h4]; subst h3 h6; exact .loop value body hV hB
    · subst h3 h5 h6; exact .put place value (hP h4) hV
    · rw [zeroEF_Z h4]; subst h3 h5 h6; exact .out value hV
theorem Cl.ind (C : Cl S) {u : List UInt8} {l : List TkD} (n : Nat) (h : S u l) : S (indT n ++ u) l := by
  unfold indT
  induction 2 * n with
  | zero => exact h
  | succ n ih => rw [List.replicate_succ]; exact C.sp ih
theorem Cl.semi (C : Cl S) {u : List UInt8} {l : List TkD} (h : S u l) : S (59 :: 10 :: u) (tkS [59] :: l) := C.sg (by decide) (by decide) (fun n => by simp [signF]) (C.lf h)
theorem Cl.cb (C : Cl S) {u : List UInt8} {l : List TkD} (h : S u l) : S (125 :: u) (tkS [125] :: l) := C.sg (by decide) (by decide) (fun n => by simp [signF]) h
theorem Cl.ob (C : Cl S) {u : List UInt8} {l : List TkD} (h : S u l) : S (123 :: u) (tkS [123] :: l) := C.sg (by decide) (by decide) (fun n => by simp [signF]) h
theorem Cl.eq (C : Cl S) {u : List UInt8} {l : List TkD} (h : S u l) : S (61 :: 32 :: u) (tkS [61] :: l) := C.sign1 (by decide) (by decide) (by decide) (by rfl) (C.sp h)
theorem Cl.osb (C : Cl S) {u : List UInt8} {l : List TkD} (h : S u l) : S (91 :: u) (tkS [91] :: l) := C.sg (by decide) (by decide) (fun n => by simp [signF]) h
theorem Cl.csb (C : Cl S) {u : List UInt8} {l : List TkD} (h : S u l) : S (93 :: u) (tkS [93] :: l) := C.sg (by decide) (by decide) (fun n => by simp [signF]) h
theorem Cl.comma (C : Cl S) {u : List UInt8} {l : List TkD} (h : S u l) : S (44 :: u) (tkS [44] :: l) := C.sg (by decide) (by decide) (fun n => by simp [signF]) h
theorem Cl.minus (C : Cl S) {u : List UInt8} {l : List TkD} (h : S u l) : S (45 :: u) (tkS [45] :: l) := C.sg (by decide) (by decide) (fun n => by simp [signF]) h
theorem Cl.kw (C : Cl S) {s u : List UInt8} {l : List TkD} (hs : (s.all isW && isL (s.getD 0 0) && decide (s.length ≤ 16)) = true) (hn : s ≠ []) (h : S u l) : S (s ++ 32 :: u) (tkW s :: l) := C.word (good_kw s hs hn) (stopW_cons (by decide)) (C.sp h)
theorem lsT_su (C : Cl S) (b : List Sm) (hb : ∀ s ∈ b, ∀ (n : Nat) (u : List UInt8) (l : List TkD), S u l → S (stT n s ++ u) (tkSm s ++ l)) (n : Nat) (u : List UInt8) (l : List TkD) (h : S u l) : S (lsT n b ++ u) (tkSs b ++ l) := by
  induction b with
  | nil => simpa [lsT, tkSs] using h
  | cons s r ih =>
    have h1 := ih (fun x hx => hb x (by simp [hx]))
    have h2 := hb s (by simp) n _ _ h1
    have h3 := C.ind n h2
    simpa [lsT, tkSs] using h3
theorem e32 (u : List UInt8) : endR (32 :: u) := endR_cons (by simp)
theorem e59 (u : List UInt8) : endR (59 :: u) := endR_cons (by simp)
theorem e93 (u : List UInt8) : endR (93 :: u) := endR_cons (by simp)
theorem e44 (u : List UInt8) : endR (44 :: u) := endR_cons (by simp)
theorem stT_su (C : Cl S) {s : Sm} (hs : GdS s) : ∀ (n : Nat) (u : List UInt8) (l : List TkD), S u l → S (stT n s ++ u) (tkSm s ++ l) := by
  induction hs with
  | assign nm v hn hv =>
    intro n u l h
    have h1 := C.word (good_valid hn) (stopW_cons (by decide)) (C.sp (C.eq ((fmE_su C hv).2 _ _ (e59 _) (C.semi h))))
    simpa [smE, stT, fmS, tkSm, tkY] using h1
  | store nm p v hn hp hv =>
    intro n u l h
    have h1 := C.word (good_valid hn) (stopW_cons (by decide)) (C.osb ((fmE_su C hp).2 _ _ (e93 _) (C.csb (C.sp (C.eq ((fmE_su C hv).2 _ _ (e59 _) (C.semi h)))))))
    simpa [smE, stT, fmS, tkSm, tkY] using h1
  | put p v hp hv =>
    intro n u l h
    have h1 := C.kw (s := [115, 101, 110, 100]) (by decide) (by decide) ((fmE_su C hp).2 _ _ (e44 _) (C.comma (C.sp ((fmE_su C hv).2 _ _ (e59 _) (C.semi h)))))
    simpa [smE, stT, fmS, tkSm, tkY] using h1
  | out v hv =>
    intro n u l h
    have h1 := C.kw (s := [111, 117, 116, 112, 117, 116]) (by decide) (by decide) ((fmE_su C hv).2 _ _ (e59 _) (C.semi h))
    simpa [smE, stT, fmS, tkSm, tkY] using h1
  | ife v b c hv hb hc ihb ihc =>
    intro n u l h
    by_cases he : c.length > 0
    · have h1 := C.kw (s := [105, 102]) (by decide) (by decide) ((fmE_su C hv).2 _ _ (e32 _) (C.sp (C.ob (C.lf (lsT_su C b ihb (n + 1) _ _ (C.ind n (C.cb (C.sp (C.kw (s := [101, 108, 115, 101]) (by decide) (by decide) (C.ob (C.lf (lsT_su C c ihc (n + 1) _ _ (C.ind n (C.cb (C.lf h)))))))))))))))
      simpa [smE, stT, fmS, tkSm, tkY, he] using h1
    · have hc0 : c = [] := List.length_eq_zero_iff.1 (by omega)
      subst hc0
      have h1 := C.kw (s := [105, 102]) (by decide) (by decide) ((fmE_su C hv).2 _ _ (e32 _) (C.sp (C.ob (C.lf (lsT_su C b ihb (n + 1) _ _ (C.ind n (C.cb (C.lf h))))))))
      simpa [smE, stT, fmS, tkSm, tkY] using h1
  | loop v b hv hb ihb =>
    intro n u l h
    have h1 := C.kw (s := [119, 104, 105, 108, 101]) (by decide) (by decide) ((fmE_su C hv).2 _ _ (e32 _) (C.sp (C.ob (C.lf (lsT_su C b ihb (n + 1) _ _ (C.ind n (C.cb (C.lf h))))))))
    simpa [smE, stT, fmS, tkSm, tkY] using h1
def tkH (nm : List UInt8) (l : List Sm) : List TkD := if l.length = 0 then [] else tkW [111, 110] :: tkW nm :: tkS [123] :: (tkSs l ++ [tkS [125]])
theorem hdT_su (C : Cl S) {nm : List UInt8} (hk : (nm.all isW && isL (nm.getD 0 0) && decide (nm.length ≤ 16)) = true) (hn : nm ≠ []) {b : List Sm} (hb : ∀ s ∈ b, GdS s) {u : List UInt8} {l : List TkD} (h : S u l) : S (hdT nm b ++ u) (tkH nm b ++ l) := by
  unfold hdT tkH
  by_cases hl : b.length = 0
  · rw [if_pos hl, if_pos hl]; exact h
  · rw [if_neg hl, if_neg hl]
    have h1 := C.kw (s := [111, 110]) (by decide) (by decide) (C.kw hk hn (C.ob (C.lf (lsT_su C b (fun s hs => stT_su C (hb s hs)) 1 _ _ (C.cb (C.lf h))))))
    simpa using h1
def tkI (n : Int) : List TkD := if n < 0 then [tkS [45], tkN (-n)] else [tkN n]
def tkV (v : VarD) : List TkD :=
  if v.size ≠ 0 then [tkW [97, 114, 114, 97, 121], tkW v.name, tkS [91], tkN v.size, tkS [93], tkS [59]]
  else if v.init ≠ 0 then tkW [118, 97, 114] :: tkW v.name :: tkS [61] :: (tkI v.init ++ [tkS [59]]) else [tkW [118, 97, 114], tkW v.name, tkS [59]]
structure GV (v : VarD) : Prop where
  name : validF v.name = true
  size : 0 ≤ v.size ∧ v.size ≤ 9223372036854775807
  init : -9223372036854775807 ≤ v.init ∧ v.init ≤ 9223372036854775807
  one : v.size = 0 ∨ v.init = 0
theorem vaT_su (C : Cl S) {v : VarD} (hv : GV v) {u : List UInt8} {l : List TkD} (h : S u l) : S (vaT v ++ u) (tkV v ++ l) := by
  unfold vaT tkV
  by_cases hs : v.size ≠ 0
  · rw [if_pos hs, if_pos hs]
    have hi : itT v.size = decF v.size := by unfold itT; rw [if_neg (by have := hv.size; omega)]
    rw [hi]
    have h1 := C.kw (s := [97, 114, 114, 97, 121]) (by decide) (by decide) (C.word (good_valid hv.name) (stopW_cons (by decide)) (C.osb (C.num hv.size.1 hv.size.2 (stopW_cons (by decide)) (C.csb (C.semi h)))))
    simpa using h1
  · rw [if_neg hs, if_neg hs]
    by_cases hi : v.init ≠ 0
    · rw [if_pos hi, if_pos hi]
      unfold itT tkI
      by_cases hn : v.init < 0
      · rw [if_pos hn, if_pos hn]
        have h1 := C.kw (s := [118, 97, 114]) (by decide) (by decide) (C.word (good_valid hv.name) (stopW_cons (by decide)) (C.sp (C.eq (C.minus (C.num (n := -v.init) (by omega) (by have := hv.init; omega) (stopW_cons (by decide)) (C.semi h))))))
        simpa using h1
      · rw [if_neg hn, if_neg hn]
        have h1 := C.kw (s := [118, 97, 114]) (by decide) (by decide) (C.word (good_valid hv.name) (stopW_cons (by decide)) (C.sp (C.eq (C.num (n := v.init) (by omega) (by have := hv.init; omega) (stopW_cons (by decide)) (C.semi h)))))
        simpa using h1
    · rw [if_neg hi, if_neg hi]
      have h1 := C.kw (s := [118, 97, 114]) (by decide) (by decide) (C.word (good_valid hv.name) (stopW_cons (by decide)) (C.semi h))
      simpa using h1
def tkVs (l : List VarD) : List TkD := (l.map tkV).flatten
theorem vsT_su (C : Cl S) : ∀ (vs : List VarD), (∀ v ∈ vs, GV v) → ∀ {u : List UInt8} {l : List TkD}, S u l → S (vsT vs ++ u) (tkVs vs ++ l)
  | [], _, _, _, h => by simpa [vsT, tkVs] using h
  | v :: r, hv, _, _, h => by
    have h1 := vaT_su C (hv v (by simp)) (vsT_su C r (fun x hx => hv x (by simp [hx])) h)
    simpa [vsT, tkVs] using h1
end
end Go.Abs
namespace Go.Abs
open Go
section
variable {l : List TkD}
def At (l : List TkD) : Nat → List TkD → Prop
  | _, [] => True
  | k, t :: r => k < l.length ∧ strip (l.getD k tk0) = strip t ∧ At l (k + 1) r
theorem At.app {a b : List TkD} : ∀ {k : Nat}, At l k (a ++ b) ↔ At l k a ∧ At l (k + a.length) b := by
  induction a with
  | nil => intro k; simp [At]
  | cons t r ih =>
    intro k
    simp only [List.cons_append, At, ih, List.length_cons, and_assoc]
    rw [show k + 1 + r.length = k + (r.length + 1) by omega]
theorem At.of_strip : ∀ {ts : List TkD} {k : Nat}, k + ts.length ≤ l.length → (∀ i, i < ts.length → strip (l.getD (k + i) tk0) = strip (ts.getD i tk0)) → At l k ts
  | [], _, _, _ => trivial
  | t :: r, k, hl, h => by
    simp only [List.length_cons] at hl h
    refine ⟨by omega, by simpa using h 0 (by omega), At.of_strip (by omega) (fun i hi => ?_)⟩
    have := h (i + 1) (by omega)
    rw [show k + 1 + i = k + (i + 1) by omega]
    simpa using this
theorem At.whole {ts : List TkD} (h : l.map strip = ts.map strip) : l.length = ts.length ∧ At l 0 ts := by
  have hl : l.length = ts.length := by simpa using congrArg List.length h
  refine ⟨hl, At.of_strip (by omega) (fun i hi => ?_)⟩
  have := congrArg (fun x => x[i]?) h
  simp only [List.getElem?_map] at this
  rw [List.getElem?_eq_getElem (by omega), List.getElem?_eq_getElem (by omega)] at this
  simp only [Option.map_some, Option.some.injEq] at this
  simp only [Nat.zero_add, List.getD, List.getElem?_eq_getElem (show i < l.length by omega), List.getElem?_eq_getElem hi, Option.getD_some]
  exact this
theorem strip_kind {a b : TkD} (h : strip a = strip b) : a.kind = b.kind ∧ a.text = b.text ∧ a.value = b.value := by
  obtain ⟨k, t, v, p⟩ := a
  obtain ⟨k', t', v', p'⟩ := b
  simp only [strip, TkD.mk.injEq] at h
  exact ⟨h.1, h.2.1, h.2.2.1⟩
theorem At.peek {k : Nat} {t : TkD} {r : List TkD} (h : At l k (t :: r)) : peekF l k = t.text := by
  unfold peekF
  rw [if_pos h.1, (strip_kind h.2.1).2.1]
theorem At.isT {k : Nat} {t : TkD} {r : List TkD} (h : At l k (t :: r)) (s : List UInt8) : Go.Abs.isT l k s = (t.text == s) := by
  unfold Go.Abs.isT
  rw [h.peek]
theorem At.isNum {k : Nat} {t : TkD} {r : List TkD} (h : At l k (t :: r)) : Go.Abs.isNum l k = (t.kind == 2) := by
  unfold Go.Abs.isNum
  rw [(strip_kind h.2.1).1]
  simp [h.1]
theorem At.exp {k : Nat} {s : List UInt8} {r : List TkD} (h : At l k (tkS s :: r)) : expF l s k = .ok () (k + 1) := by
  unfold expF
  rw [h.isT]
  simp [tkS]
theorem At.expW {k : Nat} {s : List UInt8} {r : List TkD} (h : At l k (tkW s :: r)) : expF l s k = .ok () (k + 1) := by
  unfold expF
  rw [h.isT]
  simp [tkW]
theorem At.pnm {k : Nat} {s : List UInt8} {r : List TkD} (h : At l k (tkW s :: r)) (hv : validF s = true) : pnmF l k = .ok s (k + 1) := by
  unfold pnmF
  obtain ⟨h1, h2, h3⟩ := strip_kind h.2.1
  rw [h1, h2]
  rw [if_pos ⟨h.1, rfl, hv⟩]
  rfl
theorem At.nm {k : Nat} {n z : Int} {r : List TkD} (h : At l k (tkN n :: r)) (hz : z ≤ n) : nmF l z k = .ok n (k + 1) := by
  unfold nmF
  obtain ⟨h1, h2, h3⟩ := strip_kind h.2.1
  rw [h1, h3]
  rw [if_pos ⟨h.1, rfl, hz⟩]
  rfl
theorem PR.bind_same {α β : Type} {r r' : PR α} {f f' : α → Nat → PR β} (h : (r.bind f).isOut = false) (hr : r.isOut = false → r' = r) (hf : ∀ a k, (f a k).isOut = false → f' a k = f a k) : r'.bind f' = r.bind f := by
  cases r with
  | ok a k => rw [hr rfl]; exact hf a k h
  | bad k => rw [hr rfl]; rfl
  | out => cases h
theorem exF_more : ∀ (n : Nat) (nt : Nt) (k : Nat), (exF l n nt k).isOut = false → exF l (n + 1) nt k = exF l n nt k
  | 0, nt, k, h => by cases nt <;> cases h
  | n + 1, .bin lv, k, h => by
    rw [exF_bin l n lv k] at h
    rw [exF_bin l (n + 1) lv k, exF_bin l n lv k]
    split at h
    · rename_i c; rw [if_pos c, if_pos c]; exact exF_more n _ _ h
    · rename_i c; rw [if_neg c, if_neg c]; exact PR.bind_same h (exF_more n _ _) (fun a k => exF_more n _ _)
  | n + 1, .loop lv e, k, h => by
    rw [exF_loop l n lv e k] at h
    rw [exF_loop l (n + 1) lv e k, exF_loop l n lv e k]
    split at h
    · rename_i c; rw [if_pos c, if_pos c]
    · rename_i c; rw [if_neg c, if_neg c]; exact PR.bind_same h (exF_more n _ _) (fun a k => exF_more n _ _)
  | n + 1, .un, k, h => by
    rw [exF_un l n k] at h
    rw [exF_un l (n + 1) k, exF_un l n k]
    split at h
    · rename_i c; rw [if_pos c, if_pos c]; exact PR.bind_same h (exF_more n _ _) (fun a k _ => rfl)
    · rename_i c; rw [if_neg c, if_neg c]
      split at h
      · rename_i c; rw [if_pos c, if_pos c]; exact PR.bind_same h (exF_more n _ _) (fun a k _ => rfl)
      · rename_i c; rw [if_neg c, if_neg c]; exact exF_more n _ _ h
  | n + 1, .prim, k, h => by
    rw [exF_prim l n k] at h
    rw [exF_prim l (n + 1) k, exF_prim l n k]
    split at h
    · rename_i c; rw [if_pos c, if_pos c]
    rename_i c; rw [if_neg c, if_neg c]; clear c
    split at h
    · rename_i c; rw [if_pos c, if_pos c]
    rename_i c; rw [if_neg c, if_neg c]; clear c
    split at h
    · rename_i c; rw [if_pos c, if_pos c]
    rename_i c; rw [if_neg c, if_neg c]; clear c
    split at h
    · rename_i c; rw [if_pos c, if_pos c]
    rename_i c; rw [if_neg c, if_neg c]; clear c
    split at h
    · rename_i c; rw [if_pos c, if_pos c]
    rename_i c; rw [if_neg c, if_neg c]; clear c
    split at h
    · rename_i c; rw [if_pos c, if_pos c]; exact PR.bind_same h (exF_more n _ _) (fun a k _ => rfl)
    · rename_i c; rw [if_neg c, if_neg c]
      refine PR.bind_same h (fun _ => rfl) (fun a k h => ?_)
      split at h
      · rename_i c; rw [if_pos c, if_pos c]; exact PR.bind_same h (exF_more n _ _) (fun a k _ => rfl)
      · rename_i c; rw [if_neg c, if_neg c]
theorem exF_le {n m : Nat} {nt : Nt} {k : Nat} (h : (exF l n nt k).isOut = false) (hm : n ≤ m) : exF l m nt k = exF l n nt k := by
  obtain ⟨d, rfl⟩ : ∃ d, m = n + d := ⟨m - n, by omega⟩
  clear hm
  induction d with
  | zero => rfl
  | succ d ih => rw [← Nat.add_assoc, exF_more _ _ _ (by rw [ih]; exact h), ih]
def PE (l : List TkD) (nt : Nt) (k : Nat) (e : Ex) (k' : Nat) : Prop := ∃ n, exF l n nt k = .ok e k'
theorem PE.pex {k : Nat} {e : Ex} {k' : Nat} (h : PE l (.bin 0) k e k') (hk : k ≤ l.length) : pexF l k = .ok e k' := by
  obtain ⟨n, h⟩ := h
  have ho := pexF_out hk
  unfold pexF at ho ⊢
  have hn : (exF l n (.bin 0) k).isOut = false := by rw [h]; rfl
  rcases Nat.le_total n (9 * l.length + 20) with hle | hle
  · rw [exF_le hn hle, h]
  · rw [← h, exF_le ho hle]
theorem PE.lift {nt : Nt} {k k' : Nat} {e : Ex} {n : Nat} (h : exF l n nt k = .ok e k') (m : Nat) (hm : n ≤ m) : exF l m nt k = .ok e k' := by
  rw [exF_le (by rw [h]; rfl) hm, h]
theorem PE.five {k k' : Nat} {e : Ex} (h : PE l .un k e k') : PE l (.bin 5) k e k' := by
  obtain ⟨n, h⟩ := h
  exact ⟨n + 1, by rw [exF_bin, if_pos rfl, h]⟩
theorem PE.loop0 {lv k : Nat} {e : Ex} (h : opF lv (peekF l k) = 0) : PE l (.loop lv e) k e k := ⟨1, by rw [exF_loop, if_pos h]⟩
theorem PE.bin {lv k k1 k2 : Nat} {e e2 : Ex} (hl : lv < 5) (h1 : PE l (.bin (lv + 1)) k e k1) (h2 : PE l (.loop lv e) k1 e2 k2) : PE l (.bin lv) k e2 k2 := by
  obtain ⟨n, h1⟩ := h1
  obtain ⟨m, h2⟩ := h2
  refine ⟨n + m + 1, ?_⟩
  rw [exF_bin, if_neg (by omega), PE.lift h1 (n + m) (by omega)]
  exact PE.lift h2 (n + m) (by omega)
theorem PE.up {lv k k1 : Nat} {e : Ex} (hl : lv < 5) (h1 : PE l (.bin (lv + 1)) k e k1) (h : opF lv (peekF l k1) = 0) : PE l (.bin lv) k e k1 := PE.bin hl h1 (PE.loop0 h)
theorem PE.loop1 {lv k k2 : Nat} {e e2 : Ex} (h : opF lv (peekF l k) ≠ 0) (h1 : PE l (.bin (lv + 1)) (k + 1) e2 k2) (h2 : opF lv (peekF l k2) = 0) : PE l (.loop lv e) k (exB (opF lv (peekF l k)) e e2) k2 := by
  obtain ⟨n, h1⟩ := h1
  refine ⟨n + 2, ?_⟩
  rw [exF_loop, if_neg h, PE.lift h1 (n + 1) (by omega)]
  show exF l (n + 1) _ _ = _
  rw [exF_loop, if_pos h2]
theorem PE.ups {j k k1 : Nat} {e : Ex} : ∀ (d i : Nat), i + d = j → j ≤ 5 → PE l (.bin j) k e k1 → (∀ lv, i ≤ lv → lv < j → opF lv (peekF l k1) = 0) → PE l (.bin i) k e k1
  | 0, i, h, _, hp, _ => by rw [show i = j by omega]; exact hp
  | d + 1, i, h, hj, hp, ho => PE.up (by omega) (PE.ups d (i + 1) (by omega) hj hp (fun lv h1 h2 => ho lv (by omega) h2)) (ho i (Nat.le_refl _) (by omega))
theorem PE.un0 {k k1 : Nat} {e : Ex} (h : PE l .prim k e k1) (h1 : isT l k [45] = false) (h2 : isT l k [33] = false) : PE l .un k e k1 := by
  obtain ⟨n, h⟩ := h
  exact ⟨n + 1, by rw [exF_un, h1, h2]; simpa using h⟩
theorem PE.un1 {k k1 : Nat} {e : Ex} {op : Int} (ho : op = 8 ∨ op = 9) (h : PE l .un (k + 1) e k1) (h1 : peekF l k = sgF op.toNat) : PE l .un k (exU op e) k1 := by
  obtain ⟨n, h⟩ := h
  refine ⟨n + 1, ?_⟩
  rw [exF_un]
  unfold isT
  rw [h1]
  rcases ho with rfl | rfl
  · rw [if_pos (by decide), h]; rfl
  · rw [if_neg (by decide), if_pos (by decide), h]; rfl
def NoOp (l : List TkD) (k : Nat) : Prop := (∀ lv, opF lv (peekF l k) = 0) ∧ isT l k [91] = false
theorem At.noOp {k : Nat} {s : List UInt8} {r : List TkD} (h : At l k (tkS s :: r)) (hs : s = [41] ∨ s = [93] ∨ s = [59] ∨ s = [44] ∨ s = [123]) : NoOp l k := by
  unfold NoOp
  rw [h.peek, h.isT]
  show (∀ lv, opF lv s = 0) ∧ (s == [91]) = false
  rcases hs with rfl | rfl | rfl | rfl | rfl
  all_goals exact ⟨fun lv => by simp [opF], by decide⟩
theorem valid_ne {s t : List UInt8} (h : validF s = true) (ht : validF t = false) : (s == t) = false := by
  rw [beq_eq_false_iff_ne]
  rintro rfl
  rw [h] at ht
  cases ht
theorem opF_other {op : Nat} (h1 : 10 ≤ op) (h2 : op ≤ 22) {lv : Nat} (h : lvF op < lv) : opF lv (sgF op) = 0 := by
  have key : ∀ o < 23, ∀ v < 5, 10 ≤ o → lvF o < v → opF v (sgF o) = 0 := by decide
  by_cases h5 : lv < 5
  · exact key op (by omega) lv h5 h1 h
  · unfold opF
    rw [if_neg (by omega), if_neg (by omega), if_neg (by omega), if_neg (by omega), if_neg (by omega)]
theorem lvF_le (op : Nat) : lvF op ≤ 4 := by unfold lvF; repeat' split
                                             all_goals omega
theorem sgF_not91 {op : Nat} (h : op ≤ 22) : (sgF op == [91]) = false := by
  have key : ∀ o < 23, (sgF o == [91]) = false := by decide
  exact key op (by omega)
theorem pick_valid {k : Nat} {s : List UInt8} {r : List TkD} (h : At l k (tkW s :: r)) (hv : validF s = true) :
    isNum l k = false ∧ isT l k [115, 101, 108, 102] = false ∧ isT l k [112, 114, 111, 99, 115] = false ∧ isT l k [102, 114, 111, 109] = false ∧ isT l k [118, 97, 108, 117, 101] = false ∧ isT l k [40] = false := by
  rw [h.isNum, h.isT, h.isT, h.isT, h.isT, h.isT]
  exact ⟨rfl, valid_ne hv (by decide), valid_ne hv (by decide), valid_ne hv (by decide), valid_ne hv (by decide), valid_ne hv (by decide)⟩
theorem tkE_pe : ∀ {e : Ex}, GdE e → (∀ k, e.op < 8 → At l k (tkE e) → isT l (k + (tkE e).length) [91] = false → PE l .prim k e (k + (tkE e).length) ∧ isT l k [45] = false ∧ isT l k [33] = false) ∧
    (∀ k, At l k (tkE e) → NoOp l (k + (tkE e).length) → PE l (.bin 0) k e (k + (tkE e).length)) := by
  have fin : ∀ {e : Ex}, e.op < 8 → (∀ k, e.op < 8 → At l k (tkE e) → isT l (k + (tkE e).length) [91] = false → PE l .prim k e (k + (tkE e).length) ∧ isT l k [45] = false ∧ isT l k [33] = false) →
      (∀ k, At l k (tkE e) → NoOp l (k + (tkE e).length) → PE l (.bin 0) k e (k + (tkE e).length)) := by
    intro e he h k ha hn
    obtain ⟨h1, h2, h3⟩ := h k he ha hn.2
    exact PE.ups 5 0 (by omega) (by omega) (PE.five (PE.un0 h1 h2 h3)) (fun lv _ _ => hn.1 lv)
  have opd : ∀ {e : Ex}, ((∀ k, e.op < 8 → At l k (tkE e) → isT l (k + (tkE e).length) [91] = false → PE l .prim k e (k + (tkE e).length) ∧ isT l k [45] = false ∧ isT l k [33] = false) ∧
      (∀ k, At l k (tkE e) → NoOp l (k + (tkE e).length) → PE l (.bin 0) k e (k + (tkE e).length))) →
      ∀ k, At l k (opdK (decide (e.op ≥ 8), tkE e)) → isT l (k + (opdK (decide (e.op ≥ 8), tkE e)).length) [91] = false → PE l .un k e (k + (opdK (decide (e.op ≥ 8), tkE e)).length) := by
    intro e ⟨h1, h2⟩ k ha hn
    by_cases h8 : e.op ≥ 8
    · have hd : decide (e.op ≥ 8) = true := by simpa using h8
      rw [hd] at ha hn ⊢
      simp only [opdK, if_true] at ha hn ⊢
      have hb := ha.2.2
      rw [At.app] at hb
      have hno := hb.2.noOp (.inl rfl)
      obtain ⟨n, hp⟩ := h2 (k + 1) hb.1 hno
      refine PE.un0 ⟨n + 1, ?_⟩ (by rw [ha.isT]; rfl) (by rw [ha.isT]; rfl)
      rw [exF_prim, ha.isNum, ha.isT, ha.isT, ha.isT, ha.isT, ha.isT]
      show (exF l n (.bin 0) (k + 1)).bind _ = _
      rw [hp]
      show (expF l [41] _).bind _ = _
      rw [hb.2.exp]
      show PR.ok e _ = _
      simp only [List.length_cons, List.length_append, List.length_nil]
      congr 1
      omega
    · have hd : decide (e.op ≥ 8) = false := by simpa using h8
      rw [hd] at ha hn ⊢
      simp only [opdK, Bool.false_eq_true, if_false] at ha hn ⊢
      obtain ⟨g1, g2, g3⟩ := h1 k (by omega) ha hn
      exact PE.un0 g1 g2 g3
  intro e he
  induction he with
  | num v h0 h1 =>
    have P : ∀ k, (exC v).op < 8 → At l k (tkE (exC v)) → isT l (k + (tkE (exC v)).length) [91] = false → PE l .prim k (exC v) (k + (tkE (exC v)).length) ∧ isT l k [45] = false ∧ isT l k [33] = false := by
      intro k _ ha _
      rw [tk_C] at ha ⊢
      refine ⟨⟨1, ?_⟩, by rw [ha.isT]; rfl, by rw [ha.isT]; rfl⟩
      rw [exF_prim, ha.isNum]
      show (nmF l 0 k).bind _ = _
      rw [ha.nm h0]
      rfl
    exact ⟨P, fin (show (1 : Int) < 8 by omega) P⟩
  | name nm hv =>
    have P : ∀ k, (exN nm).op < 8 → At l k (tkE (exN nm)) → isT l (k + (tkE (exN nm)).length) [91] = false → PE l .prim k (exN nm) (k + (tkE (exN nm)).length) ∧ isT l k [45] = false ∧ isT l k [33] = false := by
      intro k _ ha hn
      rw [tk_N] at ha hn ⊢
      simp only [List.length_cons, List.length_nil, Nat.zero_add] at hn ⊢
      refine ⟨⟨1, ?_⟩, by rw [ha.isT]; exact valid_ne hv (by decide), by rw [ha.isT]; exact valid_ne hv (by decide)⟩
      obtain ⟨i0, i1, i2, i3, i4, i5⟩ := pick_valid ha hv
      rw [exF_prim, i0, i1, i2, i3, i4, i5, ha.pnm hv]
      show (if isT l (k + 1) [91] = true then _ else _) = _
      rw [hn]
      rfl
    exact ⟨P, fin (show (2 : Int) < 8 by omega) P⟩
  | index nm e hv he ih =>
    have P : ∀ k, (exI nm e).op < 8 → At l k (tkE (exI nm e)) → isT l (k + (tkE (exI nm e)).length) [91] = false → PE l .prim k (exI nm e) (k + (tkE (exI nm e)).length) ∧ isT l k [45] = false ∧ isT l k [33] = false := by
      intro k _ ha _
      rw [tk_I] at ha ⊢
      have hb := ha.2.2.2.2
      rw [At.app] at hb
      obtain ⟨n, hp⟩ := ih.2 _ hb.1 (hb.2.noOp (.inr (.inl rfl)))
      refine ⟨⟨n + 1, ?_⟩, by rw [ha.isT]; exact valid_ne hv (by decide), by rw [ha.isT]; exact valid_ne hv (by decide)⟩
      obtain ⟨i0, i1, i2, i3, i4, i5⟩ := pick_valid ha hv
      rw [exF_prim, i0, i1, i2, i3, i4, i5, ha.pnm hv]
      show (if isT l (k + 1) [91] = true then _ else _) = _
      rw [ha.2.2.isT]
      show (exF l n (.bin 0) _).bind _ = _
      rw [hp]
      show (expF l [93] _).bind _ = _
      rw [hb.2.exp]
      show PR.ok _ _ = _
      simp only [List.length_cons, List.length_append, List.length_nil]
      congr 1
      omega
    exact ⟨P, fin (show (3 : Int) < 8 by omega) P⟩
  | word op h1 h2 =>
    have P : ∀ k, (exK op).op < 8 → At l k (tkE (exK op)) → isT l (k + (tkE (exK op)).length) [91] = false → PE l .prim k (exK op) (k + (tkE (exK op)).length) ∧ isT l k [45] = false ∧ isT l k [33] = false := by
      intro k _ ha _
      rw [(fm_K op h1 h2).2] at ha ⊢
      have hop : op = 4 ∨ op = 5 ∨ op = 6 ∨ op = 7 := by omega
      rcases hop with rfl | rfl | rfl | rfl
      all_goals
        refine ⟨⟨1, ?_⟩, by rw [ha.isT]; rfl, by rw [ha.isT]; rfl⟩
        rw [exF_prim, ha.isNum, ha.isT, ha.isT, ha.isT, ha.isT]
        rfl
    exact ⟨P, fin (show op < 8 by omega) P⟩
  | un op e ho he ih =>
    refine ⟨fun k h => absurd h (by show ¬ op < 8; omega), fun k ha hn => ?_⟩
    rw [tk_U op e ho] at ha hn ⊢
    have hp := opd ih (k + 1) ha.2.2 (by rw [List.length_cons] at hn; rw [show k + 1 + (opdK (decide (e.op ≥ 8), tkE e)).length = k + ((opdK (decide (e.op ≥ 8), tkE e)).length + 1) by omega]; exact hn.2)
    have h1 := PE.un1 ho hp (by rw [ha.peek]; rfl)
    rw [List.length_cons, show k + ((opdK (decide (e.op ≥ 8), tkE e)).length + 1) = k + 1 + (opdK (decide (e.op ≥ 8), tkE e)).length by omega] at hn ⊢
    exact PE.ups 5 0 (by omega) (by omega) (PE.five h1) (fun lv _ _ => hn.1 lv)
  | bin op a b h1 h2 ha hb iha ihb =>
    refine ⟨fun k h => absurd h (by show ¬ op < 8; omega), fun k hA hn => ?_⟩
    rw [tk_B op a b h1] at hA hn ⊢
    rw [At.app] at hA
    obtain ⟨n, rfl⟩ := Int.eq_ofNat_of_zero_le (show 0 ≤ op by omega)
    rw [Int.toNat_natCast] at hA hn ⊢
    have e1 := hA.2.peek
    simp only [tkS] at e1
    have p1 := opd iha k hA.1 (by rw [hA.2.isT]; exact sgF_not91 (by omega))
    rw [List.length_append, List.length_cons] at hn ⊢
    generalize hka : k + (opdK (decide (a.op ≥ 8), tkE a)).length = ka at *
    rw [show k + ((opdK (decide (a.op ≥ 8), tkE a)).length + ((opdK (decide (b.op ≥ 8), tkE b)).length + 1)) = ka + 1 + (opdK (decide (b.op ≥ 8), tkE b)).length by omega] at hn ⊢
    have p2 := opd ihb (ka + 1) hA.2.2.2 hn.2
    have hlv := lvF_le n
    have q1 : PE l (.bin (lvF n + 1)) k a ka := PE.ups (j := 5) (5 - (lvF n + 1)) (lvF n + 1) (by omega) (by omega) (PE.five p1) (fun lv h3 _ => by rw [e1]; exact opF_other (by omega) (by omega) (by omega))
    have q2 : PE l (.bin (lvF n + 1)) (ka + 1) b _ := PE.ups (j := 5) (5 - (lvF n + 1)) (lvF n + 1) (by omega) (by omega) (PE.five p2) (fun lv _ _ => hn.1 lv)
    have ho := opF_of n (by omega) (by omega)
    have q3 := PE.loop1 (lv := lvF n) (e := a) (by rw [e1, ho]; omega) q2 (hn.1 _)
    rw [e1, ho] at q3
    exact PE.ups (lvF n) 0 (by omega) (by omega) (PE.bin (by omega) q1 q3) (fun lv _ _ => hn.1 lv)
theorem pex_at {e : Ex} (he : GdE e) {k : Nat} {s : List UInt8} {r : List TkD} (h : At l k (tkE e ++ tkS s :: r)) (hs : s = [41] ∨ s = [93] ∨ s = [59] ∨ s = [44] ∨ s = [123]) : pexF l k = .ok e (k + (tkE e).length) ∧ At l (k + (tkE e).length) (tkS s :: r) := by
  rw [At.app] at h
  refine ⟨((tkE_pe he).2 k h.1 (h.2.noOp hs)).pex ?_, h.2⟩
  have := h.2.1
  omega
end
end Go.Abs
namespace Go.Abs
open Go
section
variable {l : List TkD}
theorem smF_more : ∀ (n : Nat) (nt : Ns) (k : Nat), (smF l n nt k).isOut = false → smF l (n + 1) nt k = smF l n nt k
  | 0, nt, k, h => by cases nt <;> cases h
  | n + 1, .block, k, h => by
    rw [smF_block l n k] at h
    rw [smF_block l (n + 1) k, smF_block l n k]
    exact PR.bind_same h (fun _ => rfl) (fun a k => smF_more n _ _)
  | n + 1, .stmts acc, k, h => by
    rw [smF_stmts l n acc k] at h
    rw [smF_stmts l (n + 1) acc k, smF_stmts l n acc k]
    split at h
    · rename_i c; rw [if_pos c, if_pos c]
    · rename_i c; rw [if_neg c, if_neg c]; exact PR.bind_same h (smF_more n _ _) (fun a k => smF_more n _ _)
  | n + 1, .stmt, k, h => by
    rw [smF_stmt l n k] at h
    rw [smF_stmt l (n + 1) k, smF_stmt l n k]
    split at h
    · rename_i c; rw [if_pos c, if_pos c]
      refine PR.bind_same h (fun _ => rfl) (fun a k h => PR.bind_same h (smF_more n _ _) (fun b k h => ?_))
      split at h
      · rename_i c; rw [if_pos c, if_pos c]; exact PR.bind_same h (smF_more n _ _) (fun _ _ _ => rfl)
      · rename_i c; rw [if_neg c, if_neg c]
    rename_i c; rw [if_neg c, if_neg c]; clear c
    split at h
    · rename_i c; rw [if_pos c, if_pos c]
      exact PR.bind_same h (fun _ => rfl) (fun a k h => PR.bind_same h (smF_more n _ _) (fun b k h => rfl))
    · rename_i c; rw [if_neg c, if_neg c]
theorem smF_le {n m : Nat} {nt : Ns} {k : Nat} (h : (smF l n nt k).isOut = false) (hm : n ≤ m) : smF l m nt k = smF l n nt k := by
  obtain ⟨d, rfl⟩ : ∃ d, m = n + d := ⟨m - n, by omega⟩
  clear hm
  induction d with
  | zero => rfl
  | succ d ih => rw [← Nat.add_assoc, smF_more _ _ _ (by rw [ih]; exact h), ih]
def PS (l : List TkD) (nt : Ns) (k : Nat) (b : List Sm) (k' : Nat) : Prop := ∃ n, smF l n nt k = .ok b k'
theorem PS.lift {nt : Ns} {k k' : Nat} {e : List Sm} {n : Nat} (h : smF l n nt k = .ok e k') (m : Nat) (hm : n ≤ m) : smF l m nt k = .ok e k' := by
  rw [smF_le (by rw [h]; rfl) hm, h]
theorem PS.blk {k : Nat} {b : List Sm} {k' : Nat} (h : PS l .block k b k') (hk : k ≤ l.length) : blockF l k = .ok b k' := by
  obtain ⟨n, h⟩ := h
  have ho := blockF_out hk
  unfold blockF at ho ⊢
  have hn : (smF l n .block k).isOut = false := by rw [h]; rfl
  rcases Nat.le_total n (3 * l.length + 20) with hle | hle
  · rw [smF_le hn hle, h]
  · rw [← h, smF_le ho hle]
theorem tkSm_first {s : Sm} (hs : GdS s) : ∃ nm r, tkSm s = tkW nm :: r ∧ (nm == [125]) = false ∧ (nm == [101, 108, 115, 101]) = false := by
  cases hs with
  | assign nm v hn hv => exact ⟨nm, _, rfl, valid_ne hn (by decide), valid_ne hn (by decide)⟩
  | store nm p v hn hp hv => exact ⟨nm, _, rfl, valid_ne hn (by decide), valid_ne hn (by decide)⟩
  | put p v hp hv => exact ⟨_, _, rfl, by decide, by decide⟩
  | out v hv => exact ⟨_, _, rfl, by decide, by decide⟩
  | ife v b c hv hb hc => exact ⟨_, _, rfl, by decide, by decide⟩
  | loop v b hv hb => exact ⟨_, _, rfl, by decide, by decide⟩
def SP (l : List TkD) (s : Sm) : Prop := ∀ k r, At l k (tkSm s ++ r) → isT l (k + (tkSm s).length) [101, 108, 115, 101] = false → PS l .stmt k [s] (k + (tkSm s).length)
theorem tkSs_ps : ∀ (b : List Sm), (∀ s ∈ b, GdS s) → (∀ s ∈ b, SP l s) → ∀ (acc : List Sm) (k : Nat) (r : List TkD), At l k (tkSs b ++ tkS [125] :: r) → PS l (.stmts acc) k (acc ++ b) (k + (tkSs b).length + 1)
  | [], _, _, acc, k, r, h => by
    simp only [tkSs, List.nil_append] at h
    exact ⟨1, by rw [smF_stmts, h.isT]; simp [tkS, tkSs]⟩
  | s :: t, hg, hp, acc, k, r, h => by
    obtain ⟨nm, r', e1, e2, e3⟩ := tkSm_first (hg s (by simp))
    simp only [tkSs, List.append_assoc] at h
    have hb : isT l k [125] = false := by
      rw [e1] at h
      rw [List.cons_append] at h
      rw [h.isT]; exact e2
    have h2 := (At.app.1 h).2
    have hel : isT l (k + (tkSm s).length) [101, 108, 115, 101] = false := by
      cases t with
      | nil => simp only [tkSs, List.nil_append] at h2; rw [h2.isT]; rfl
      | cons s' t' =>
        obtain ⟨nm', r'', e1', e2', e3'⟩ := tkSm_first (hg s' (by simp))
        simp only [tkSs, List.append_assoc, e1', List.cons_append] at h2
        rw [h2.isT]; exact e3'
    obtain ⟨n, p1⟩ := hp s (by simp) k _ h hel
    obtain ⟨m, p2⟩ := tkSs_ps t (fun x hx => hg x (by simp [hx])) (fun x hx => hp x (by simp [hx])) (acc ++ [s]) _ r h2
    refine ⟨n + m + 1, ?_⟩
    rw [smF_stmts, hb, if_neg (by simp), PS.lift p1 (n + m) (by omega)]
    show smF l (n + m) _ _ = _
    rw [PS.lift p2 (n + m) (by omega)]
    simp only [tkSs, List.length_append, List.append_assoc, List.singleton_append]
    congr 1
    omega
theorem tkB_ps {b : List Sm} (hg : ∀ s ∈ b, GdS s) (hp : ∀ s ∈ b, SP l s) {k : Nat} {r : List TkD} (h : At l k (tkS [123] :: (tkSs b ++ tkS [125] :: r))) : PS l .block k b (k + (tkSs b).length + 2) ∧ At l (k + (tkSs b).length + 2) r := by
  have h1 := h.2.2
  obtain ⟨n, p⟩ := tkSs_ps b hg hp [] (k + 1) r h1
  refine ⟨⟨n + 1, ?_⟩, ?_⟩
  · rw [smF_block, h.exp]
    show smF l n _ _ = _
    rw [p]
    simp only [List.nil_append]
    congr 1
    omega
  · have := (At.app.1 h1).2.2.2
    rw [show k + (tkSs b).length + 2 = k + 1 + (tkSs b).length + 1 by omega]
    exact this
theorem stm_valid {k : Nat} {s : List UInt8} {r : List TkD} (h : At l k (tkW s :: r)) (hv : validF s = true) :
    isT l k [105, 102] = false ∧ isT l k [119, 104, 105, 108, 101] = false ∧ isT l k [115, 101, 110, 100] = false ∧ isT l k [111, 117, 116, 112, 117, 116] = false := by
  rw [h.isT, h.isT, h.isT, h.isT]
  exact ⟨valid_ne hv (by decide), valid_ne hv (by decide), valid_ne hv (by decide), valid_ne hv (by decide)⟩
theorem tk_1 (nm : List UInt8) (v : Ex) : tkSm (smE 1 nm exZ v [] []) = tkW nm :: tkS [61] :: (tkE v ++ [tkS [59]]) := rfl
theorem tk_2 (nm : List UInt8) (p v : Ex) : tkSm (smE 2 nm p v [] []) = tkW nm :: tkS [91] :: (tkE p ++ tkS [93] :: tkS [61] :: (tkE v ++ [tkS [59]])) := rfl
theorem tk_5 (p v : Ex) : tkSm (smE 5 [] p v [] []) = tkW [115, 101, 110, 100] :: (tkE p ++ tkS [44] :: (tkE v ++ [tkS [59]])) := rfl
theorem tk_6 (v : Ex) : tkSm (smE 6 [] exZ v [] []) = tkW [111, 117, 116, 112, 117, 116] :: (tkE v ++ [tkS [59]]) := rfl
theorem tk_3e (v : Ex) (b : List Sm) (x : Sm) (t : List Sm) : tkSm (smE 3 [] exZ v b (x :: t)) = tkW [105, 102] :: (tkE v ++ tkS [123] :: (tkSs b ++ tkS [125] :: tkW [101, 108, 115, 101] :: tkS [123] :: (tkSs (x :: t) ++ [tkS [125]]))) := rfl
theorem tk_3 (v : Ex) (b : List Sm) : tkSm (smE 3 [] exZ v b []) = tkW [105, 102] :: (tkE v ++ tkS [123] :: (tkSs b ++ [tkS [125]])) := rfl
theorem tk_4 (v : Ex) (b : List Sm) : tkSm (smE 4 [] exZ v b []) = tkW [119, 104, 105, 108, 101] :: (tkE v ++ tkS [123] :: (tkSs b ++ [tkS [125]])) := rfl
theorem tkSm_ps {s : Sm} (hs : GdS s) : SP l s := by
  induction hs with
  | assign nm v hn hv =>
    intro k r h he
    rw [tk_1] at h he ⊢
    simp only [List.cons_append, List.append_assoc, List.nil_append] at h
    obtain ⟨p1, p2⟩ := pex_at hv h.2.2.2.2 (.inr (.inr (.inl rfl)))
    refine ⟨1, ?_⟩
    obtain ⟨i1, i2, i3, i4⟩ := stm_valid h hn
    rw [smF_stmt, i1, i2, i3, i4, h.pnm hn]
    show (if isT l (k + 1) [91] = true then _ else _) = _
    rw [h.2.2.isT]
    show (expF l [61] (k + 1)).bind _ = _
    rw [h.2.2.exp]
    show (pexF l (k + 1 + 1)).bind _ = _
    rw [p1]
    show (expF l [59] _).bind _ = _
    rw [p2.exp]
    show PR.ok _ _ = _
    simp only [smE, List.length_cons, List.length_append, List.length_nil]
    congr 1
    omega
  | store nm p v hn hp hv =>
    intro k r h he
    rw [tk_2] at h he ⊢
    simp only [List.cons_append, List.append_assoc, List.nil_append] at h
    obtain ⟨p1, p2⟩ := pex_at hp h.2.2.2.2 (.inr (.inl rfl))
    obtain ⟨p3, p4⟩ := pex_at hv p2.2.2.2.2 (.inr (.inr (.inl rfl)))
    refine ⟨1, ?_⟩
    obtain ⟨i1, i2, i3, i4⟩ := stm_valid h hn
    rw [smF_stmt, i1, i2, i3, i4, h.pnm hn]
    show (if isT l (k + 1) [91] = true then _ else _) = _
    rw [h.2.2.isT]
    show (pexF l (k + 1 + 1)).bind _ = _
    rw [p1]
    show (expF l [93] _).bind _ = _
    rw [p2.exp]
    show (expF l [61] _).bind _ = _
    rw [p2.2.2.exp]
    show (pexF l _).bind _ = _
    rw [p3]
    show (expF l [59] _).bind _ = _
    rw [p4.exp]
    show PR.ok _ _ = _
    simp only [smE, List.length_cons, List.length_append, List.length_nil]
    congr 1
    omega
  | put p v hp hv =>
    intro k r h he
    rw [tk_5] at h he ⊢
    simp only [List.cons_append, List.append_assoc, List.nil_append] at h
    obtain ⟨p1, p2⟩ := pex_at hp h.2.2 (.inr (.inr (.inr (.inl rfl))))
    obtain ⟨p3, p4⟩ := pex_at hv p2.2.2 (.inr (.inr (.inl rfl)))
    refine ⟨1, ?_⟩
    rw [smF_stmt, h.isT, h.isT, h.isT]
    show (pexF l (k + 1)).bind _ = _
    rw [p1]
    show (expF l [44] _).bind _ = _
    rw [p2.exp]
    show (pexF l _).bind _ = _
    rw [p3]
    show (expF l [59] _).bind _ = _
    rw [p4.exp]
    show PR.ok _ _ = _
    simp only [smE, List.length_cons, List.length_append, List.length_nil]
    congr 1
    omega
  | out v hv =>
    intro k r h he
    rw [tk_6] at h he ⊢
    simp only [List.cons_append, List.append_assoc, List.nil_append] at h
    obtain ⟨p3, p4⟩ := pex_at hv h.2.2 (.inr (.inr (.inl rfl)))
    refine ⟨1, ?_⟩
    rw [smF_stmt, h.isT, h.isT, h.isT, h.isT]
    show (pexF l (k + 1)).bind _ = _
    rw [p3]
    show (expF l [59] _).bind _ = _
    rw [p4.exp]
    show PR.ok _ _ = _
    simp only [smE, List.length_cons, List.length_append, List.length_nil]
    congr 1
    omega
  | ife v b c hv hb hc ihb ihc =>
    intro k r h he
    cases c with
    | cons x t =>
      rw [tk_3e] at h he ⊢
      simp only [List.cons_append, List.append_assoc, List.nil_append] at h
      obtain ⟨p1, p2⟩ := pex_at hv h.2.2 (.inr (.inr (.inr (.inr rfl))))
      obtain ⟨⟨n, q1⟩, q2⟩ := tkB_ps hb ihb p2
      obtain ⟨⟨m, q3⟩, q4⟩ := tkB_ps hc ihc q2.2.2
      refine ⟨n + m + 1, ?_⟩
      rw [smF_stmt, h.isT]
      show (pexF l (k + 1)).bind _ = _
      rw [p1]
      show (smF l (n + m) .block _).bind _ = _
      rw [PS.lift q1 (n + m) (by omega)]
      show (if isT l (k + 1 + (tkE v).length + (tkSs b).length + 2) [101, 108, 115, 101] = true then _ else _) = _
      rw [q2.isT]
      show (smF l (n + m) .block _).bind _ = _
      rw [PS.lift q3 (n + m) (by omega)]
      show PR.ok _ _ = _
      simp only [smE, List.length_cons, List.length_append, List.length_nil]
      congr 1
      omega
    | nil =>
      rw [tk_3] at h he ⊢
      simp only [List.cons_append, List.append_assoc, List.nil_append] at h
      obtain ⟨p1, p2⟩ := pex_at hv h.2.2 (.inr (.inr (.inr (.inr rfl))))
      obtain ⟨⟨n, q1⟩, q2⟩ := tkB_ps hb ihb p2
      refine ⟨n + 1, ?_⟩
      rw [smF_stmt, h.isT]
      show (pexF l (k + 1)).bind _ = _
      rw [p1]
      show (smF l n .block _).bind _ = _
      rw [q1]
      show (if isT l (k + 1 + (tkE v).length + (tkSs b).length + 2) [101, 108, 115, 101] = true then _ else _) = _
      simp only [List.length_cons, List.length_append, List.length_nil] at he ⊢
      rw [show k + ((tkE v).length + ((tkSs b).length + (0 + 1) + 1) + 1) = k + 1 + (tkE v).length + (tkSs b).length + 2 by omega] at he ⊢
      rw [he]
      rfl
  | loop v b hv hb ihb =>
    intro k r h he
    rw [tk_4] at h he ⊢
    simp only [List.cons_append, List.append_assoc, List.nil_append] at h
    obtain ⟨p1, p2⟩ := pex_at hv h.2.2 (.inr (.inr (.inr (.inr rfl))))
    obtain ⟨⟨n, q1⟩, q2⟩ := tkB_ps hb ihb p2
    refine ⟨n + 1, ?_⟩
    rw [smF_stmt, h.isT, h.isT]
    show (pexF l (k + 1)).bind _ = _
    rw [p1]
    show (smF l n .block _).bind _ = _
    rw [q1]
    show PR.ok _ _ = _
    simp only [smE, List.length_cons, List.length_append, List.length_nil]
    congr 1
    omega
theorem block_at {b : List Sm} (hg : ∀ s ∈ b, GdS s) {k : Nat} {r : List TkD} (h : At l k (tkS [123] :: (tkSs b ++ tkS [125] :: r))) : blockF l k = .ok b (k + (tkSs b).length + 2) ∧ At l (k + (tkSs b).length + 2) r := by
  obtain ⟨p, q⟩ := tkB_ps hg (fun s hs => tkSm_ps (hg s hs)) h
  exact ⟨p.blk (by have := h.1; omega), q⟩
theorem init_none {k : Nat} {r : List TkD} (h : At l k (tkS [59] :: r)) : initF l k = .ok 0 k := by
  unfold initF
  rw [h.isT]
  rfl
theorem init_at {n : Int} {k : Nat} {r : List TkD} (h : At l k (tkS [61] :: (tkI n ++ tkS [59] :: r))) : initF l k = .ok n (k + 1 + (tkI n).length) := by
  unfold initF
  rw [h.isT]
  show (if isT l (k + 1) [45] = true then _ else _) = _
  have h1 := h.2.2
  unfold tkI at h1 ⊢
  by_cases hn : n < 0
  · rw [if_pos hn] at h1 ⊢
    simp only [List.cons_append, List.nil_append] at h1
    rw [h1.isT]
    show (nmF l 0 (k + 1 + 1)).bind _ = _
    rw [h1.2.2.nm (by omega)]
    show PR.ok _ _ = _
    rw [Int.neg_neg]
    rfl
  · rw [if_neg hn] at h1 ⊢
    simp only [List.cons_append, List.nil_append] at h1
    rw [h1.isT]
    show nmF l 0 (k + 1) = _
    rw [h1.nm (by omega)]
    rfl
theorem pdc_one {v : VarD} (hv : GV v) (n : Nat) (acc : List VarD) {k : Nat} {r : List TkD} (h : At l k (tkV v ++ r)) : pdcF l (n + 1) acc k = pdcF l n (acc ++ [v]) (k + (tkV v).length) ∧ At l (k + (tkV v).length) r := by
  refine ⟨?_, (At.app.1 h).2⟩
  obtain ⟨nm, sz, ini⟩ := v
  have hvn := hv.name
  have hs1 := hv.size
  have hone := hv.one
  simp only at hvn hs1 hone
  rw [pdcF_eq]
  unfold tkV at h ⊢
  simp only at h ⊢
  by_cases hs : sz ≠ 0
  · rw [if_pos hs] at h ⊢
    simp only [List.cons_append, List.nil_append] at h
    rw [h.isT, h.isT]
    have h1 := h.2.2
    have h2 := h1.2.2
    have h3 := h2.2.2
    have h4 := h3.2.2
    have h5 := h4.2.2
    show (pnmF l (k + 1)).bind _ = _
    rw [h1.pnm hvn]
    show (expF l [91] _).bind _ = _
    rw [h2.exp]
    show (nmF l 1 _).bind _ = _
    rw [h3.nm (by omega)]
    show (expF l [93] _).bind _ = _
    rw [h4.exp]
    show (expF l [59] _).bind _ = _
    rw [h5.exp]
    have hi : ini = 0 := by rcases hone with h | h; exact absurd h hs; exact h
    subst hi
    rfl
  · rw [if_neg hs] at h ⊢
    have hs0 : sz = 0 := by omega
    subst hs0
    by_cases hi : ini ≠ 0
    · rw [if_pos hi] at h ⊢
      simp only [List.cons_append, List.nil_append, List.append_assoc] at h
      rw [h.isT]
      have h1 := h.2.2
      have h2 := h1.2.2
      have h3 := (At.app.1 h2.2.2).2
      show (pnmF l (k + 1)).bind _ = _
      rw [h1.pnm hvn]
      show (initF l _).bind _ = _
      rw [init_at h2]
      show (expF l [59] _).bind _ = _
      rw [h3.exp]
      show pdcF l n _ _ = _
      simp only [List.length_cons, List.length_append, List.length_nil]
      congr 1
      omega
    · rw [if_neg hi] at h ⊢
      have hi0 : ini = 0 := by omega
      subst hi0
      simp only [List.cons_append, List.nil_append] at h
      rw [h.isT]
      have h1 := h.2.2
      have h2 := h1.2.2
      show (pnmF l (k + 1)).bind _ = _
      rw [h1.pnm hvn]
      show (initF l _).bind _ = _
      rw [init_none h2]
      show (expF l [59] _).bind _ = _
      rw [h2.exp]
      rfl
theorem pdc_at : ∀ (vs : List VarD), (∀ v ∈ vs, GV v) → ∀ (n : Nat) (acc : List VarD) (k : Nat) (r : List TkD), At l k (tkVs vs ++ r) → isT l (k + (tkVs vs).length) [118, 97, 114] = false → isT l (k + (tkVs vs).length) [97, 114, 114, 97, 121] = false →
    pdcF l (n + 1 + vs.length) acc k = .ok (acc ++ vs) (k + (tkVs vs).length)
  | [], _, n, acc, k, r, h, h1, h2 => by
    simp only [tkVs, List.map_nil, List.flatten_nil, List.length_nil, Nat.add_zero] at h1 h2 ⊢
    rw [pdcF_eq, h1, h2]
    simp
  | v :: t, hv, n, acc, k, r, h, h1, h2 => by
    simp only [tkVs, List.map_cons, List.flatten_cons, List.append_assoc] at h h1 h2 ⊢
    obtain ⟨p1, p2⟩ := pdc_one (hv v (by simp)) (n + 1 + t.length) acc h
    rw [List.length_cons, ← Nat.add_assoc, p1]
    rw [List.length_append, ← Nat.add_assoc] at h1 h2 ⊢
    rw [pdc_at t (fun x hx => hv x (by simp [hx])) n (acc ++ [v]) _ r p2 h1 h2]
    simp [tkVs]
def hw (j : Nat) : List UInt8 := if j = 0 then [115, 116, 97, 114, 116] else if j = 1 then [109, 101, 115, 115, 97, 103, 101] else if j = 2 then [116, 105, 99, 107] else [105, 110, 112, 117, 116]
def setH (p : PgD) (j : Nat) (b : List Sm) : PgD := if j = 0 then { p with start := b } else if j = 1 then { p with message := b } else if j = 2 then { p with tick := b } else { p with input := b }
def setZ (z : Seen) (j : Nat) : Seen := if j = 0 then { z with s := true } else if j = 1 then { z with m := true } else if j = 2 then { z with t := true } else { z with i := true }
def getZ (z : Seen) (j : Nat) : Bool := if j = 0 then z.s else if j = 1 then z.m else if j = 2 then z.t else z.i
theorem han_on {j : Nat} {n : Nat} {p : PgD} {z : Seen} {k : Nat} {b : List Sm} {r : List TkD} (hj : j < 4) (hb : b ≠ []) (hg : ∀ s ∈ b, GdS s) (h : At l k (tkH (hw j) b ++ r)) (hz : getZ z j = false) :
    hanF l (n + 1) p z k = hanF l n (setH p j b) (setZ z j) (k + (tkH (hw j) b).length) ∧ At l (k + (tkH (hw j) b).length) r := by
  refine ⟨?_, (At.app.1 h).2⟩
  have hl : ¬ b.length = 0 := fun h => hb (List.length_eq_zero_iff.1 h)
  unfold tkH at h ⊢
  rw [if_neg hl] at h ⊢
  simp only [List.cons_append, List.append_assoc, List.nil_append] at h
  have h1 := h.2.2
  obtain ⟨p1, _⟩ := block_at hg h1.2.2
  rw [hanF_eq, if_pos h.1, h.expW]
  show (if (!z.s && isT l (k + 1) [115, 116, 97, 114, 116]) = true then _ else if (!z.m && isT l (k + 1) [109, 101, 115, 115, 97, 103, 101]) = true then _ else if (!z.t && isT l (k + 1) [116, 105, 99, 107]) = true then _ else if (!z.i && isT l (k + 1) [105, 110, 112, 117, 116]) = true then _ else _) = _
  rw [h1.isT, h1.isT, h1.isT, h1.isT]
  have e : k + (tkW [111, 110] :: tkW (hw j) :: tkS [123] :: (tkSs b ++ [tkS [125]])).length = k + 1 + 1 + (tkSs b).length + 2 := by
    simp only [List.length_cons, List.length_append, List.length_nil]; omega
  rw [e]
  have hjj : j = 0 ∨ j = 1 ∨ j = 2 ∨ j = 3 := by omega
  rcases hjj with rfl | rfl | rfl | rfl
  all_goals
    simp [getZ] at hz
    simp [hw, tkW, hz, setH, setZ]
    rw [p1]
    rfl
theorem han_dup {j : Nat} {n : Nat} {p : PgD} {z : Seen} {k : Nat} {r : List TkD} (hj : j < 4) (h : At l k (tkW [111, 110] :: tkW (hw j) :: r)) (hz : getZ z j = true) : hanF l (n + 1) p z k = .bad (k + 1) := by
  have h1 := h.2.2
  rw [hanF_eq, if_pos h.1, h.expW]
  show (if (!z.s && isT l (k + 1) [115, 116, 97, 114, 116]) = true then _ else if (!z.m && isT l (k + 1) [109, 101, 115, 115, 97, 103, 101]) = true then _ else if (!z.t && isT l (k + 1) [116, 105, 99, 107]) = true then _ else if (!z.i && isT l (k + 1) [105, 110, 112, 117, 116]) = true then _ else _) = _
  rw [h1.isT, h1.isT, h1.isT, h1.isT]
  have hjj : j = 0 ∨ j = 1 ∨ j = 2 ∨ j = 3 := by omega
  rcases hjj with rfl | rfl | rfl | rfl
  all_goals
    simp [getZ] at hz
    simp [hw, tkW, hz]
theorem han_end {n : Nat} {p : PgD} {z : Seen} {k : Nat} (h : ¬ k < l.length) : hanF l (n + 1) p z k = .ok p k := by rw [hanF_eq, if_neg h]
def tkHs : List (Nat × List Sm) → List TkD
  | [] => []
  | q :: r => tkH (hw q.1) q.2 ++ tkHs r
def foldP : PgD → List (Nat × List Sm) → PgD
  | p, [] => p
  | p, q :: r => foldP (if q.2.length = 0 then p else setH p q.1 q.2) r
def foldZ : Seen → List (Nat × List Sm) → Seen
  | z, [] => z
  | z, q :: r => foldZ (if q.2.length = 0 then z else setZ z q.1) r
def cntH : List (Nat × List Sm) → Nat
  | [] => 0
  | q :: r => (if q.2.length = 0 then 0 else 1) + cntH r
theorem cntH_le : ∀ hs : List (Nat × List Sm), cntH hs ≤ (tkHs hs).length
  | [] => by simp [cntH]
  | q :: r => by
    have := cntH_le r
    simp only [cntH, tkHs, List.length_append, tkH]
    split
    · simp; omega
    · simp; omega
theorem getZ_set (z : Seen) (i j : Nat) (hi : i < 4) (hj : j < 4) : getZ (setZ z i) j = (getZ z j || decide (i = j)) := by
  have h1 : i = 0 ∨ i = 1 ∨ i = 2 ∨ i = 3 := by omega
  have h2 : j = 0 ∨ j = 1 ∨ j = 2 ∨ j = 3 := by omega
  rcases h1 with rfl | rfl | rfl | rfl <;> rcases h2 with rfl | rfl | rfl | rfl <;> simp [getZ, setZ]
theorem han_list : ∀ (hs : List (Nat × List Sm)), (∀ q ∈ hs, q.1 < 4 ∧ ∀ s ∈ q.2, GdS s) → (hs.map Prod.fst).Nodup → ∀ (n : Nat) (p : PgD) (z : Seen) (k : Nat) (r : List TkD), (∀ q ∈ hs, getZ z q.1 = false) → At l k (tkHs hs ++ r) →
    hanF l (n + cntH hs) p z k = hanF l n (foldP p hs) (foldZ z hs) (k + (tkHs hs).length) ∧ At l (k + (tkHs hs).length) r
  | [], _, _, n, p, z, k, r, _, h => ⟨rfl, h⟩
  | q :: t, hg, hd, n, p, z, k, r, hz, h => by
    obtain ⟨j, b⟩ := q
    simp only [List.map_cons, List.nodup_cons] at hd
    have hq := hg (j, b) (by simp)
    simp only [tkHs, List.append_assoc] at h
    by_cases hb : b.length = 0
    · have e : tkH (hw j) b = [] := by unfold tkH; rw [if_pos hb]
      simp only [tkHs, cntH, foldP, foldZ, hb, if_true, Nat.zero_add, e, List.nil_append] at h ⊢
      exact han_list t (fun x hx => hg x (by simp [hx])) hd.2 n p z k r (fun x hx => hz x (by simp [hx])) h
    · have hne : b ≠ [] := fun h => hb (by rw [h]; rfl)
      have hz0 := hz (j, b) (by simp)
      obtain ⟨p1, p2⟩ := han_on (n := n + cntH t) (p := p) (z := z) hq.1 hne hq.2 h hz0
      have := han_list t (fun x hx => hg x (by simp [hx])) hd.2 n (setH p j b) (setZ z j) _ r (fun x hx => by
        rw [getZ_set z j x.1 hq.1 (hg x (by simp [hx])).1, hz x (by simp [hx])]
        have : j ≠ x.1 := fun h => hd.1 (h ▸ List.mem_map_of_mem hx)
        simpa using this) p2
      simp only [tkHs, cntH, foldP, foldZ, hb, if_false, List.length_append]
      rw [show n + (1 + cntH t) = n + cntH t + 1 by omega, p1, ← Nat.add_assoc]
      exact this
end
end Go.Abs
namespace Go.Abs
open Go
def hsT : List (Nat × List Sm) → List UInt8
  | [] => []
  | q :: r => hdT (hw q.1) q.2 ++ hsT r
theorem hw_ok (j : Nat) : ((hw j).all isW && isL ((hw j).getD 0 0) && decide ((hw j).length ≤ 16)) = true ∧ hw j ≠ [] := by
  unfold hw
  repeat' split
  all_goals exact ⟨by decide, by decide⟩
theorem hsT_su {S : List UInt8 → List TkD → Prop} (C : Cl S) : ∀ (hs : List (Nat × List Sm)), (∀ q ∈ hs, ∀ s ∈ q.2, GdS s) → ∀ {u : List UInt8} {l : List TkD}, S u l → S (hsT hs ++ u) (tkHs hs ++ l)
  | [], _, _, _, h => h
  | q :: r, hg, _, _, h => by
    have h1 := hdT_su C (hw_ok q.1).1 (hw_ok q.1).2 (hg q (by simp)) (hsT_su C r (fun x hx => hg x (by simp [hx])) h)
    simpa [hsT, tkHs] using h1
def SM (u0 : List UInt8) (l0 : List TkD) (u : List UInt8) (l : List TkD) : Prop := ∃ (x : List UInt8) (y : List TkD), u = x ++ u0 ∧ l = y ++ l0 ∧
  ∀ p : List UInt8, ∃ y' l2, Sc (p ++ u) p.length (y' ++ l2) ∧ y'.map strip = y.map strip ∧ l2.map strip = l0.map strip ∧ Sc (p ++ u) (p.length + x.length) l2
theorem SM.start {u0 : List UInt8} {l0 : List TkD} (h : Su u0 l0) : SM u0 l0 u0 l0 := by
  refine ⟨[], [], rfl, rfl, fun p => ?_⟩
  obtain ⟨l', h1, h2⟩ := h p
  exact ⟨[], l', h1, rfl, h2, by simpa using h1⟩
theorem cl_sm (u0 : List UInt8) (l0 : List TkD) : Cl (SM u0 l0) where
  blank := by
    rintro c u l hc ⟨x, y, e1, e2, h⟩
    refine ⟨c :: x, y, by rw [e1]; rfl, e2, fun p => ?_⟩
    obtain ⟨y', l2, h1, h2, h3, h4⟩ := h (p ++ [c])
    refine ⟨y', l2, .blank (by simp) ?_ ?_, h2, h3, ?_⟩
    · have : (p ++ c :: u).getD p.length 0 = c := by simp [List.getD]
      rw [this]; exact hc
    · simpa using h1
    · have e : p.length + (c :: x).length = (p ++ [c]).length + x.length := by simp only [List.length_append, List.length_cons, List.length_nil]; omega
      rw [e]
      simpa using h4
  tok := by
    rintro t w u l hg hn ⟨x, y, e1, e2, h⟩
    refine ⟨w ++ x, t :: y, by rw [e1]; simp, by rw [e2]; rfl, fun p => ?_⟩
    obtain ⟨y', l2, h1, h2, h3, h4⟩ := h (p ++ w)
    have ho := good_one t w p u hg hn
    have hf := good_first hg
    have h0 := getD_mid p w u hg.ne
    have hpos : 0 < w.length := List.length_pos_iff.2 hg.ne
    rw [List.append_assoc] at ho h0 h1 h4
    rw [List.length_append] at h1 h4
    refine ⟨{ t with pos := p.length } :: y', l2, .tok (by simp; omega) (by rw [h0]; exact hf.1) (by rw [h0]; exact hf.2) ho h1, ?_, h3, ?_⟩
    · simp [h2, strip]
    · rw [List.length_append, ← Nat.add_assoc]; exact h4
def z0 : Seen := ⟨false, false, false, false⟩
theorem tkVs_len : ∀ vs : List VarD, vs.length ≤ (tkVs vs).length
  | [] => by simp
  | v :: r => by
    have := tkVs_len r
    have h1 : 0 < (tkV v).length := by
      unfold tkV
      repeat' split
      all_goals simp
    simp only [tkVs, List.map_cons, List.flatten_cons, List.length_append, List.length_cons] at this ⊢
    omega
theorem tkHs_first : ∀ (hs : List (Nat × List Sm)), tkHs hs = [] ∨ ∃ r, tkHs hs = tkW [111, 110] :: r
  | [] => .inl rfl
  | q :: t => by
    rw [tkHs]
    unfold tkH
    split
    · rw [List.nil_append]; exact tkHs_first t
    · exact .inr ⟨_, rfl⟩
theorem prog_read {l : List TkD} {vs : List VarD} {hs : List (Nat × List Sm)} {rest : List TkD} (hv : ∀ v ∈ vs, GV v) (hg : ∀ q ∈ hs, q.1 < 4 ∧ ∀ s ∈ q.2, GdS s) (hd : (hs.map Prod.fst).Nodup)
    (h : l.map strip = (tkVs vs ++ (tkHs hs ++ rest)).map strip) (hr : rest = [] ∨ ∃ r, rest = tkW [111, 110] :: r) :
    ∃ n, progF l = hanF l (n + 1) (foldP ⟨vs, [], [], [], []⟩ hs) (foldZ z0 hs) ((tkVs vs).length + (tkHs hs).length) ∧ At l ((tkVs vs).length + (tkHs hs).length) rest ∧ l.length = (tkVs vs).length + ((tkHs hs).length + rest.length) := by
  obtain ⟨hl, hA⟩ := At.whole h
  simp only [List.length_append] at hl
  have h1 := tkVs_len vs
  have h2 := cntH_le hs
  have hB := At.app.1 hA
  rw [Nat.zero_add] at hB
  have hfirst : isT l (tkVs vs).length [118, 97, 114] = false ∧ isT l (tkVs vs).length [97, 114, 114, 97, 121] = false := by
    have key : tkHs hs ++ rest = [] ∨ ∃ r, tkHs hs ++ rest = tkW [111, 110] :: r := by
      rcases tkHs_first hs with e | ⟨r, e⟩
      · rw [e, List.nil_append]; exact hr
      · rw [e]; exact .inr ⟨_, rfl⟩
    rcases key with e | ⟨r, e⟩
    · have he : (tkHs hs ++ rest).length = 0 := by rw [e]; rfl
      rw [List.length_append] at he
      unfold isT peekF
      rw [if_neg (by omega)]
      exact ⟨by decide, by decide⟩
    · have := hB.2
      rw [e] at this
      rw [this.isT, this.isT]
      exact ⟨rfl, rfl⟩
  obtain ⟨a, ha⟩ : ∃ a, l.length + 1 = a + 1 + vs.length := ⟨l.length - vs.length, by omega⟩
  have p1 := pdc_at vs hv a [] 0 _ hA (by rw [Nat.zero_add]; exact hfirst.1) (by rw [Nat.zero_add]; exact hfirst.2)
  rw [Nat.zero_add, List.nil_append] at p1
  obtain ⟨n, hn⟩ : ∃ n, l.length + 1 = n + 1 + cntH hs := ⟨l.length - cntH hs, by omega⟩
  have hz : ∀ q ∈ hs, getZ z0 q.1 = false := by
    intro q _
    unfold getZ z0
    repeat' split
    all_goals rfl
  obtain ⟨p2, p3⟩ := han_list hs hg hd (n + 1) ⟨vs, [], [], [], []⟩ z0 _ rest hz hB.2
  refine ⟨n, ?_, p3, hl⟩
  unfold progF
  rw [show pdcF l (l.length + 1) [] 0 = .ok vs (tkVs vs).length by rw [ha]; exact p1]
  show hanF l (l.length + 1) _ z0 _ = _
  rw [hn]
  exact p2
theorem read_all {vs : List VarD} {hs : List (Nat × List Sm)} (hv : ∀ v ∈ vs, GV v) (hg : ∀ q ∈ hs, q.1 < 4 ∧ ∀ s ∈ q.2, GdS s) (hd : (hs.map Prod.fst).Nodup) (hl : (vsT vs ++ hsT hs).length ≤ 4096)
    (hdep : depP (foldP ⟨vs, [], [], [], []⟩ hs) ≤ 16) : parF (vsT vs ++ hsT hs) = (foldP ⟨vs, [], [], [], []⟩ hs, 0, 0) := by
  have h1 := vsT_su cl_su vs hv (hsT_su cl_su hs (fun q hq => (hg q hq).2) Su.nil)
  rw [List.append_nil, List.append_nil] at h1
  obtain ⟨l, h2, h3⟩ := h1.sc
  rw [show tkVs vs ++ tkHs hs = tkVs vs ++ (tkHs hs ++ []) by rw [List.append_nil]] at h3
  obtain ⟨n, p1, _, p3⟩ := prog_read hv hg hd h3 (.inl rfl)
  have hsc := h2.scan hl
  unfold parF
  rw [hsc]
  simp only [ne_eq, not_true_eq_false, if_false]
  rw [p1, han_end (by simp only [List.length_nil] at p3; omega)]
  simp only
  rw [if_neg (by omega)]
theorem Sc.first {s : List UInt8} {k : Nat} {t : TkD} {l : List TkD} (h : Sc s k (t :: l)) (h1 : ¬ (isB (s.getD k 0) = true)) (h2 : ¬ s.getD k 0 = 35) : t.pos = k ∧ Sc s (k + (wordT t).length) l := by
  cases h with
  | blank _ hb _ => exact absurd hb h1
  | hsh _ hh _ => exact absurd hh h2
  | tok hk _ _ ho hr =>
    obtain ⟨a, _, b, _⟩ := one_word hk ho
    exact ⟨a, by rw [← b]; exact hr⟩
theorem Sc.skip {s : List UInt8} {k : Nat} {l : List TkD} (hl : l ≠ []) (h : Sc s k l) (h1 : isB (s.getD k 0) = true) : Sc s (k + 1) l := by
  cases h with
  | fin _ => exact absurd rfl hl
  | blank _ _ h => exact h
  | hsh _ hh _ => rw [hh] at h1; exact absurd h1 (by decide)
  | tok _ hb _ _ _ => exact absurd h1 hb
theorem wordT_strip {a b : TkD} (h : strip a = strip b) : wordT a = wordT b := by
  obtain ⟨h1, h2, h3⟩ := strip_kind h
  unfold wordT
  rw [h1, h2, h3]
theorem foldZ_mono (j : Nat) (hj : j < 4) : ∀ (hs : List (Nat × List Sm)) (z : Seen), (∀ q ∈ hs, q.1 < 4) → getZ z j = true → getZ (foldZ z hs) j = true
  | [], _, _, h => h
  | q :: r, z, hq, h => by
    rw [foldZ]
    refine foldZ_mono j hj r _ (fun x hx => hq x (by simp [hx])) ?_
    split
    · exact h
    · rw [getZ_set z q.1 j (hq q (by simp)) hj, h]; rfl
theorem foldZ_mem {j : Nat} {b : List Sm} (hj : j < 4) (hb : b.length ≠ 0) : ∀ (hs : List (Nat × List Sm)) (z : Seen), (∀ q ∈ hs, q.1 < 4) → (j, b) ∈ hs → getZ (foldZ z hs) j = true
  | q :: r, z, hq, hm => by
    rw [foldZ]
    rcases List.mem_cons.1 hm with rfl | hm
    · refine foldZ_mono j hj r _ (fun x hx => hq x (by simp [hx])) ?_
      rw [if_neg hb, getZ_set z j j hj hj]
      simp
    · exact foldZ_mem hj hb r _ (fun x hx => hq x (by simp [hx])) hm
theorem read_dup {hs : List (Nat × List Sm)} {j : Nat} {b : List Sm} (hg : ∀ q ∈ hs, q.1 < 4 ∧ ∀ s ∈ q.2, GdS s) (hd : (hs.map Prod.fst).Nodup) (hm : (j, b) ∈ hs) (hb : b.length ≠ 0)
    (hl : (hsT hs ++ hdT (hw j) b).length ≤ 4096) : parF (hsT hs ++ hdT (hw j) b) = (pgZ, ((hsT hs).length : Int) + 3, 1) := by
  have hj := (hg _ hm).1
  have hgs := (hg _ hm).2
  have hu := hdT_su cl_su (hw_ok j).1 (hw_ok j).2 hgs Su.nil
  rw [List.append_nil, List.append_nil] at hu
  have hM := hsT_su (cl_sm _ _) hs (fun q hq => (hg q hq).2) (SM.start hu)
  obtain ⟨x, y, e1, e2, h⟩ := hM
  obtain ⟨y', l2, s1, s2, s3, s4⟩ := h []
  have ex : x = hsT hs := (List.append_cancel_right e1).symm
  have ey : y = tkHs hs := (List.append_cancel_right e2).symm
  subst ex ey
  simp only [List.nil_append, List.length_nil, Nat.zero_add] at s1 s4
  have hhd : hdT (hw j) b = [111, 110, 32] ++ (hw j ++ [32, 123, 10] ++ lsT 1 b ++ [125, 10]) := by unfold hdT; rw [if_neg hb]; simp
  have htk : tkH (hw j) b = tkW [111, 110] :: tkW (hw j) :: tkS [123] :: (tkSs b ++ [tkS [125]]) := by unfold tkH; rw [if_neg hb]
  have hl2 : ∃ t1 t2 r, l2 = t1 :: t2 :: r ∧ strip t1 = strip (tkW [111, 110]) ∧ strip t2 = strip (tkW (hw j)) := by
    rw [htk] at s3
    match l2 with
    | [] => simp at s3
    | [_] => simp at s3
    | t1 :: t2 :: r =>
      simp only [List.map_cons, List.cons.injEq] at s3
      exact ⟨t1, t2, r, rfl, s3.1, s3.2.1⟩
  obtain ⟨t1, t2, r, rfl, q1, q2⟩ := hl2
  obtain ⟨c, w, hcw, hcL⟩ : ∃ c w, hw j = c :: w ∧ isL c = true := by
    unfold hw
    repeat' split
    all_goals exact ⟨_, _, rfl, by decide⟩
  have hget : ∀ i, (hsT hs ++ hdT (hw j) b).getD ((hsT hs).length + i) 0 = (hdT (hw j) b).getD i 0 := by
    intro i
    simp only [List.getD, List.getElem?_append_right (Nat.le_add_right _ _), Nat.add_sub_cancel_left]
  have g0 := hget 0
  have g2 := hget 2
  have g3 := hget 3
  rw [hhd] at g0 g2 g3
  rw [← hhd] at g0 g2 g3
  have e0 : (hdT (hw j) b).getD 0 0 = 111 := by rw [hhd]; rfl
  have e2' : (hdT (hw j) b).getD 2 0 = 32 := by rw [hhd]; rfl
  have e3 : (hdT (hw j) b).getD 3 0 = c := by rw [hhd, hcw]; rfl
  rw [e0, Nat.add_zero] at g0
  rw [e2'] at g2
  rw [e3] at g3
  obtain ⟨k1, k2⟩ := Sc.first s4 (by rw [g0]; decide) (by rw [g0]; decide)
  have hw1 : (wordT t1).length = 2 := by rw [wordT_strip q1]; rfl
  rw [hw1] at k2
  have k3 := Sc.skip (by simp) k2 (by rw [g2]; decide)
  have hcB : isB c = false := by
    cases hx : isB c with
    | false => rfl
    | true => rcases isB_or hx with h | h | h | h <;> subst h <;> exact absurd hcL (by decide)
  have hc35 : c ≠ 35 := by rintro rfl; exact absurd hcL (by decide)
  obtain ⟨k4, _⟩ := Sc.first k3 (by rw [show (hsT hs).length + 2 + 1 = (hsT hs).length + 3 by omega, g3, hcB]; simp) (by rw [show (hsT hs).length + 2 + 1 = (hsT hs).length + 3 by omega, g3]; exact hc35)
  have hstrip : (y' ++ t1 :: t2 :: r).map strip = (tkVs [] ++ (tkHs hs ++ tkH (hw j) b)).map strip := by
    rw [List.map_append, s2, s3]
    simp [tkVs]
  obtain ⟨n, p1, p2, p3⟩ := prog_read (vs := []) (fun v hv => by cases hv) hg hd hstrip (.inr (by rw [htk]; exact ⟨_, rfl⟩))
  have hz := foldZ_mem hj hb hs z0 (fun q hq => (hg q hq).1) hm
  rw [htk] at p2
  rw [han_dup hj p2 hz] at p1
  have hylen : y'.length = (tkHs hs).length := by simpa using congrArg List.length s2
  have hsc := s1.scan hl
  unfold parF
  rw [hsc]
  simp only [ne_eq, not_true_eq_false, if_false]
  rw [p1]
  simp only
  unfold placeF
  have hk : (tkVs []).length + (tkHs hs).length + 1 = y'.length + 1 := by rw [hylen]; simp [tkVs]
  rw [hk]
  rw [if_pos (by simp)]
  have hgt : (y' ++ t1 :: t2 :: r).getD (y'.length + 1) tk0 = t2 := by simp [List.getD]
  rw [hgt, k4]
  rfl
end Go.Abs
namespace Go.Abs
open Go
end Go.Abs
namespace Go.Abs
open Go
theorem rg_nxt (xs : List UInt8) (a : Nat) (n c : Int) (h : 0 < n) (hn : n ≤ 1000) (hc : -1000 ≤ c) (hc' : c ≤ 1000) : rg64 (c + (nxt xs a n).1) = true := by
  have := nxt_lt xs a n h
  simp only [rg64, Bool.and_eq_true, decide_eq_true_eq]
  omega
theorem rg_nx (xs : List UInt8) (a : Nat) (n : Int) (h : 0 < n) (hn : n ≤ 1000) : rg64 (nxt xs a n).1 = true := by
  have := nxt_lt xs a n h
  simp only [rg64, Bool.and_eq_true, decide_eq_true_eq]
  omega
theorem rg_0 : rg64 0 = true := by decide
theorem rgE_L (op v : Int) (nm : List UInt8) (l : List Ex) : rgE (exL op v nm l) = (rg64 v && rgEs l) := rfl
theorem rgEs_0 : rgEs [] = true := rfl
theorem rgEs_1 (e : Ex) : rgEs [e] = rgE e := by simp [rgEs]
theorem rgEs_2 (a b : Ex) : rgEs [a, b] = (rgE a && rgE b) := by simp [rgEs]
theorem exprStep_rg (xs : List UInt8) (rec : Nat → Ex × Nat) (small : Bool) (a : Nat) (hr : ∀ a, rgE (rec a).1 = true) : rgE (exprStep xs rec small a).1 = true := by
  unfold exprStep
  repeat' split
  all_goals simp only [rgE_L, rgEs_0, rgEs_1, rgEs_2, rg_0, hr, Bool.and_true, Bool.true_and]
  all_goals first | exact rg_nx _ _ _ (by omega) (by omega) | exact rg_nxt _ _ _ _ (by omega) (by omega) (by omega) (by omega)
theorem exprF_rg (xs : List UInt8) : ∀ (d a : Nat), rgE (exprF xs d a).1 = true
  | 0, a => exprStep_rg xs _ _ a (fun a => rfl)
  | d + 1, a => exprStep_rg xs _ _ a (fun a => exprF_rg xs d a)
theorem rgS_L (kind : Int) (nm : List UInt8) (p v : Ex) (b e : List Sm) : rgS (smL kind nm p v b e) = (rgE p && rgE v && rgSs b && rgSs e) := rfl
theorem rgSs_0 : rgSs [] = true := rfl
theorem rgE_0 : rgE ex0 = true := rfl
theorem stmtStep_rg (xs : List UInt8) (rec : Int → Nat → List Sm × Nat) (small : Bool) (a : Nat) (hr : ∀ m a, rgSs (rec m a).1 = true) : rgS (stmtStep xs rec small a).1 = true := by
  unfold stmtStep
  dsimp only
  repeat' split
  all_goals simp only [rgS_L, rgSs_0, rgE_0, exprF_rg, hr, Bool.and_true, Bool.true_and]
theorem stmtsLoop_rg (xs : List UInt8) (rec : Int → Nat → List Sm × Nat) (small : Bool) (hr : ∀ m a, rgSs (rec m a).1 = true) : ∀ (n a : Nat), rgSs (stmtsLoop xs rec small n a).1 = true
  | 0, a => rfl
  | n + 1, a => by simp only [stmtsLoop, rgSs, stmtStep_rg xs rec small a hr, stmtsLoop_rg xs rec small hr n, Bool.and_true]
theorem stmtsF_rg (xs : List UInt8) : ∀ (d : Nat) (m : Int) (a : Nat), rgSs (stmtsF xs d m a).1 = true
  | 0, m, a => stmtsLoop_rg xs _ _ (fun _ _ => rfl) _ _
  | d + 1, m, a => stmtsLoop_rg xs _ _ (fun m a => stmtsF_rg xs d m a) _ _
end Go.Abs
namespace Go.Abs
open Go
end Go.Abs
namespace Go.Abs
open Go
end Go.Abs
namespace Go.Abs
open Go
def outC (a b : Bool) (slot size c : Int) : Bool := (a || b) && (decide (slot < 0) || decide (IntKind.i64.wrap (slot + imax size 1) > c))
mutual
def insE (c : Int) : Ex → Bool
  | .mk op _ _ slot size args => !outC (op == 2) (op == 3) slot size c && insEs c args
def insEs (c : Int) : List Ex → Bool
  | [] => true
  | e :: r => insE c e && insEs c r
end
mutual
def witS (c : Int) : Sm → Bool
  | .mk kind _ slot size place value body els => !outC (kind == 1) (kind == 2) slot size c && (insE c place && insE c value && witSs c body && witSs c els)
def witSs (c : Int) : List Sm → Bool
  | [] => true
  | e :: r => witS c e && witSs c r
end
end Go.Abs
namespace Go.Abs
open Go
mutual
def nmE : Ex → Prop
  | .mk _ _ n _ _ args => n.length ≤ 1000 ∧ nmEs args
def nmEs : List Ex → Prop
  | [] => True
  | e :: r => nmE e ∧ nmEs r
end
mutual
def nmS : Sm → Prop
  | .mk _ n _ _ p v body els => n.length ≤ 1000 ∧ nmE p ∧ nmE v ∧ nmSs body ∧ nmSs els
def nmSs : List Sm → Prop
  | [] => True
  | e :: r => nmS e ∧ nmSs r
end
end Go.Abs
namespace Go.Abs
open Go
abbrev NmP := List UInt8 → Prop
inductive WfE (S A : NmP) : Nat → Ex → Prop
  | leaf (d : Nat) (op value : Int) : (op = 1 ∧ 0 ≤ value) ∨ (4 ≤ op ∧ op ≤ 7 ∧ value = 0) → WfE S A d (exL op value [] [])
  | scal (d : Nat) (n : List UInt8) : S n → WfE S A d (exL 2 0 n [])
  | arr (d : Nat) (n : List UInt8) (e : Ex) : A n → WfE S A d e → WfE S A (d + 1) (exL 3 0 n [e])
  | un (d : Nat) (op : Int) (e : Ex) : op = 8 ∨ op = 9 → WfE S A d e → WfE S A (d + 1) (exL op 0 [] [e])
  | bin (d : Nat) (op : Int) (e f : Ex) : 10 ≤ op ∧ op ≤ 22 → WfE S A d e → WfE S A d f → WfE S A (d + 1) (exL op 0 [] [e, f])
inductive WfS (S A : NmP) : Nat → Sm → Prop
  | assign (d : Nat) (n : List UInt8) (v : Ex) : S n → WfE S A 3 v → WfS S A d (smL 1 n ex0 v [] [])
  | store (d : Nat) (n : List UInt8) (p v : Ex) : A n → WfE S A 3 p → WfE S A 3 v → WfS S A d (smL 2 n p v [] [])
  | send (d : Nat) (p v : Ex) : WfE S A 3 p → WfE S A 3 v → WfS S A d (smL 5 [] p v [] [])
  | out (d : Nat) (v : Ex) : WfE S A 3 v → WfS S A d (smL 6 [] ex0 v [] [])
  | ite (d : Nat) (v : Ex) (b e : List Sm) : WfE S A 3 v → (∀ s, s ∈ b → WfS S A d s) → (∀ s, s ∈ e → WfS S A d s) → WfS S A (d + 1) (smL 3 [] ex0 v b e)
  | whl (d : Nat) (v : Ex) (b : List Sm) : WfE S A 3 v → (∀ s, s ∈ b → WfS S A d s) → WfS S A (d + 1) (smL 4 [] ex0 v b [])
theorem WfE.up {S A : NmP} {d : Nat} {e : Ex} (h : WfE S A d e) : WfE S A (d + 1) e := by
  induction h with
  | leaf d op v h => exact .leaf _ op v h
  | scal d n h => exact .scal _ n h
  | arr d n e h _ ih => exact .arr _ n e h ih
  | un d op e h _ ih => exact .un _ op e h ih
  | bin d op e f h _ _ ih1 ih2 => exact .bin _ op e f h ih1 ih2
def S0 : NmP := fun n => n = [120] ∨ n = [121] ∨ n = [122]
def A0 : NmP := fun n => n = [97] ∨ n = [98]
theorem scal_S0 (i : Int) : S0 (scal i) := by
  unfold scal S0
  by_cases h : i = 0
  · simp [h]
  · by_cases h1 : i = 1 <;> simp [h, h1]
theorem arrN_A0 (i : Int) : A0 (arrN i) := by unfold arrN A0; split <;> simp
theorem exprStep_WfE (xs : List UInt8) (rec : Nat → Ex × Nat) (d : Nat) (hr : ∀ a, WfE S0 A0 d (rec a).1) (a : Nat) : WfE S0 A0 (d + 1) (exprStep xs rec false a).1 := by
  have h12 := nxt_lt xs a 12 (by omega)
  unfold exprStep
  simp only [kF, Bool.false_and, Bool.false_eq_true, if_false, or_false]
  repeat' split
  · exact .leaf _ _ _ (.inl ⟨rfl, (nxt_lt _ _ 5 (by omega)).1⟩)
  · exact .scal _ _ (scal_S0 _)
  · exact .leaf _ _ _ (.inr (by omega))
  · refine .leaf _ _ _ (.inr ?_)
    unfold opN
    repeat' split
    all_goals omega
  · have := (nxt_lt xs (nxt xs a 12).2 200 (by omega)).1
    exact .leaf _ _ _ (.inl ⟨rfl, by omega⟩)
  · exact .arr _ _ _ (arrN_A0 _) (hr _)
  · have := nxt_lt xs (nxt xs a 12).2 2 (by omega)
    exact .un _ _ _ (by omega) (hr _)
  · have := nxt_lt xs (rec (nxt xs a 12).2).2 13 (by omega)
    exact .bin _ _ _ _ (by omega) (hr _) (hr _)
theorem exprStep_WEs (xs : List UInt8) (rec : Nat → Ex × Nat) (d : Nat) (a : Nat) : WfE S0 A0 d (exprStep xs rec true a).1 := by
  have h12 := nxt_lt xs a 12 (by omega)
  unfold exprStep
  simp only [kF, Bool.true_and, or_true, if_true, decide_eq_true_eq]
  generalize (if (nxt xs a 12).1 ≥ 8 then (nxt xs a 12).1 - 8 else (nxt xs a 12).1) = q
  repeat' split
  · exact .leaf _ _ _ (.inl ⟨rfl, (nxt_lt _ _ 5 (by omega)).1⟩)
  · exact .scal _ _ (scal_S0 _)
  · exact .leaf _ _ _ (.inr (by omega))
  · refine .leaf _ _ _ (.inr ?_)
    unfold opN
    repeat' split
    all_goals omega
  · have := (nxt_lt xs (nxt xs a 12).2 200 (by omega)).1
    exact .leaf _ _ _ (.inl ⟨rfl, by omega⟩)
theorem exprF_WfE (xs : List UInt8) : ∀ (d a : Nat), WfE S0 A0 d (exprF xs d a).1
  | 0, a => exprStep_WEs xs _ 0 a
  | 1, a => exprStep_WEs xs _ 1 a
  | d + 2, a => exprStep_WfE xs _ (d + 1) (fun a => exprF_WfE xs (d + 1) a) a
theorem stmtStep_WfS (xs : List UInt8) (rec : Int → Nat → List Sm × Nat) (d : Nat) (hr : ∀ m a s, s ∈ (rec m a).1 → WfS S0 A0 d s) (a : Nat) : WfS S0 A0 (d + 1) (stmtStep xs rec false a).1 := by
  have e2 := fun a => (exprF_WfE xs 2 a).up
  have e3 := fun a => exprF_WfE xs 3 a
  unfold stmtStep
  simp only [kF, Bool.false_and, Bool.false_eq_true, if_false]
  repeat' split
  · exact .assign _ _ _ (scal_S0 _) (e3 _)
  · exact .store _ _ _ _ (arrN_A0 _) (e2 _) (e2 _)
  · exact .send _ _ _ (e2 _) (e2 _)
  · exact .out _ _ (e2 _)
  · exact .ite _ _ _ _ (e2 _) (hr _ _) (hr _ _)
  · exact .whl _ _ _ (e2 _) (hr _ _)
theorem stmtStep_WSs (xs : List UInt8) (rec : Int → Nat → List Sm × Nat) (d : Nat) (a : Nat) : WfS S0 A0 d (stmtStep xs rec true a).1 := by
  have e2 := fun a => (exprF_WfE xs 2 a).up
  have e3 := fun a => exprF_WfE xs 3 a
  have h10 := nxt_lt xs a 10 (by omega)
  unfold stmtStep
  simp only [kF, Bool.true_and, decide_eq_true_eq]
  have hq : (if (nxt xs a 10).1 ≥ 7 then (nxt xs a 10).1 - 7 else (nxt xs a 10).1) < 7 := by split <;> omega
  generalize (if (nxt xs a 10).1 ≥ 7 then (nxt xs a 10).1 - 7 else (nxt xs a 10).1) = q at *
  repeat' split
  · exact .assign _ _ _ (scal_S0 _) (e3 _)
  · exact .store _ _ _ _ (arrN_A0 _) (e2 _) (e2 _)
  · exact .send _ _ _ (e2 _) (e2 _)
  · exact .out _ _ (e2 _)
  · omega
  · omega
theorem stmtsLoop_mem (xs : List UInt8) (rec : Int → Nat → List Sm × Nat) (small : Bool) (R : Sm → Prop) (h : ∀ a, R (stmtStep xs rec small a).1) : ∀ (n a : Nat) (s : Sm), s ∈ (stmtsLoop xs rec small n a).1 → R s
  | 0, a, s, hs => by simp [stmtsLoop] at hs
  | n + 1, a, s, hs => by
    simp only [stmtsLoop, List.mem_cons] at hs
    rcases hs with rfl | hs
    · exact h a
    · exact stmtsLoop_mem xs rec small R h n _ s hs
theorem stmtsF_WfS (xs : List UInt8) : ∀ (d : Nat) (m : Int) (a : Nat) (s : Sm), s ∈ (stmtsF xs d m a).1 → WfS S0 A0 d s
  | 0, m, a, s, hs => stmtsLoop_mem xs _ _ _ (fun a => stmtStep_WSs xs _ 0 a) _ _ s hs
  | 1, m, a, s, hs => stmtsLoop_mem xs _ _ _ (fun a => stmtStep_WSs xs _ 1 a) _ _ s hs
  | d + 2, m, a, s, hs => stmtsLoop_mem xs _ _ _ (fun a => stmtStep_WfS xs _ (d + 1) (fun m a s hs => stmtsF_WfS xs (d + 1) m a s hs) a) _ _ s hs
structure Kn (S A : NmP) (L : List VarD) (n : Int) : Prop where
  s : ∀ x, S x → x.length ≤ 100 ∧ validF x = true ∧ (lookupF x 0 L).2 = (0, true) ∧ 0 ≤ (lookupF x 0 L).1 ∧ (lookupF x 0 L).1 + 1 ≤ n
  a : ∀ x, A x → x.length ≤ 100 ∧ validF x = true ∧ (lookupF x 0 L).2.2 = true ∧ 1 ≤ (lookupF x 0 L).2.1 ∧ 0 ≤ (lookupF x 0 L).1 ∧ (lookupF x 0 L).1 + (lookupF x 0 L).2.1 ≤ n
  n : n ≤ 1000
structure GE (L : List VarD) (n : Int) (d : Nat) (e : Ex) : Prop where
  good : goodEF e = true
  names : namesE L e = true
  shape : (r3E L e).2 = true
  ins : insE n (r3E L e).1 = true
  nm : nmE e
  nm2 : nmE (r3E L e).1
  dep : depE e ≤ d + 1
theorem outC_in (a b : Bool) (slot size n : Int) (h0 : 0 ≤ slot) (h1 : slot + imax size 1 ≤ n) (hn : n ≤ 1000) : outC a b slot size n = false := by
  have : 1 ≤ imax size 1 := by unfold imax; split <;> omega
  unfold outC
  rw [wrap64 _ (by omega) (by omega)]
  have e1 : decide (slot < 0) = false := by simp; omega
  have e2 : decide (slot + imax size 1 > n) = false := by simp; omega
  rw [e1, e2]
  simp
theorem imax_one {z : Int} (h : 1 ≤ z) : imax z 1 = z := by unfold imax; split <;> omega
theorem WfE.ge {S A : NmP} {L : List VarD} {n : Int} (K : Kn S A L n) {d : Nat} {e : Ex} (h : WfE S A d e) : GE L n d e := by
  induction h with
  | leaf d op v h =>
    have h3 : (op == 2) = false ∧ (op == 3) = false := by constructor <;> (simp; omega)
    have har : arityF op = 0 := by unfold arityF; repeat' split <;> omega
    have hh : head3 L op [] 0 0 2 3 = ((0, 0), true) := by simp [head3, h3]
    refine ⟨?_, ?_, ?_, ?_, ?_, ?_, ?_⟩
    · have hv : (!(decide (v < 0) || v != 0 && op != 1)) = true := by
        rcases h with ⟨rfl, h⟩ | ⟨h1, h2, rfl⟩
        · simp; omega
        · simp
      simp only [exL, goodEF, headEF, har, goodEFs, goodNameF, h3, hv, List.length_nil]
      simp
    · simp [exL, namesE, namesEs, h3]
    · simp [exL, r3E, r3Es, hh]
    · simp [exL, r3E, r3Es, insE, insEs, outC, h3]
    · simp [exL, nmE, nmEs]
    · simp [exL, r3E, r3Es, nmE, nmEs]
    · simp only [exL, depE, depEs]; omega
  | scal d x h =>
    obtain ⟨k1, k2, k3, k4, k5⟩ := K.s x h
    have hn := K.n
    have hh : head3 L 2 x 0 0 2 3 = (((lookupF x 0 L).1, 0), true) := by simp [head3, k3]
    refine ⟨?_, ?_, ?_, ?_, ?_, ?_, ?_⟩
    · simp [exL, goodEF, headEF, goodEFs, goodNameF, k2, arityF]
    · simp [exL, namesE, namesEs, foundF, k3]
    · simp [exL, r3E, r3Es, hh]
    · simp only [exL, r3E, r3Es, insE, insEs, hh]
      rw [outC_in _ _ _ _ _ k4 (by simpa [imax] using k5) hn]
      rfl
    · simp only [exL, nmE, nmEs]; exact ⟨by omega, trivial⟩
    · simp only [exL, r3E, r3Es, nmE, nmEs]; exact ⟨by omega, trivial⟩
    · simp only [exL, depE, depEs]; omega
  | arr d x e h _ ih =>
    obtain ⟨k1, k2, k3, k4, k5, k6⟩ := K.a x h
    have hn := K.n
    have hh : head3 L 3 x 0 0 2 3 = (((lookupF x 0 L).1, (lookupF x 0 L).2.1), true) := by
      have : decide ((lookupF x 0 L).2.1 > 0) = true := by simp; omega
      simp [head3, this]
    refine ⟨?_, ?_, ?_, ?_, ?_, ?_, ?_⟩
    · simp [exL, goodEF, headEF, goodEFs, goodNameF, k2, arityF, ih.good]
    · simp [exL, namesE, namesEs, foundF, k3, ih.names]
    · simp [exL, r3E, r3Es, hh, ih.shape]
    · simp only [exL, r3E, r3Es, insE, insEs, hh, ih.ins]
      rw [outC_in _ _ _ _ _ k5 (by rw [imax_one k4]; exact k6) hn]
      rfl
    · simp only [exL, nmE, nmEs]; exact ⟨by omega, ih.nm, trivial⟩
    · simp only [exL, r3E, r3Es, nmE, nmEs]; exact ⟨by omega, ih.nm2, trivial⟩
    · have := ih.dep
      simp only [exL, depE, depEs, mx, imax]; split <;> omega
  | un d op e h _ ih =>
    have h3 : (op == 2) = false ∧ (op == 3) = false := by constructor <;> (simp; omega)
    have har : arityF op = 1 := by unfold arityF; repeat' split <;> omega
    have hh : head3 L op [] 0 0 2 3 = ((0, 0), true) := by simp [head3, h3]
    refine ⟨?_, ?_, ?_, ?_, ?_, ?_, ?_⟩
    · simp [exL, goodEF, headEF, har, goodEFs, goodNameF, h3, ih.good]
    · simp [exL, namesE, namesEs, h3, ih.names]
    · simp [exL, r3E, r3Es, hh, ih.shape]
    · simp [exL, r3E, r3Es, insE, insEs, outC, h3, ih.ins]
    · simp [exL, nmE, nmEs, ih.nm]
    · simp [exL, r3E, r3Es, nmE, nmEs, ih.nm2]
    · have := ih.dep
      simp only [exL, depE, depEs, mx, imax]; split <;> omega
  | bin d op e f h _ _ ih1 ih2 =>
    have h3 : (op == 2) = false ∧ (op == 3) = false := by constructor <;> (simp; omega)
    have har : arityF op = 2 := by unfold arityF; repeat' split <;> omega
    have hh : head3 L op [] 0 0 2 3 = ((0, 0), true) := by simp [head3, h3]
    refine ⟨?_, ?_, ?_, ?_, ?_, ?_, ?_⟩
    · simp [exL, goodEF, headEF, har, goodEFs, goodNameF, h3, ih1.good, ih2.good]
    · simp [exL, namesE, namesEs, h3, ih1.names, ih2.names]
    · simp [exL, r3E, r3Es, hh, ih1.shape, ih2.shape]
    · simp [exL, r3E, r3Es, insE, insEs, outC, h3, ih1.ins, ih2.ins]
    · simp [exL, nmE, nmEs, ih1.nm, ih2.nm]
    · simp [exL, r3E, r3Es, nmE, nmEs, ih1.nm2, ih2.nm2]
    · have := ih1.dep
      have := ih2.dep
      simp only [exL, depE, depEs, mx, imax]; repeat' split <;> omega
end Go.Abs
namespace Go.Abs
open Go
structure GS (L : List VarD) (n : Int) (d : Nat) (s : Sm) : Prop where
  good : goodSF s = true
  decl : declS L s = true
  shape : (r3S L s).2 = true
  wit : witS n (r3S L s).1 = true
  nm : nmS s
  nm2 : nmS (r3S L s).1
  dep : depS s ≤ d + 5
structure GSs (L : List VarD) (n : Int) (d : Nat) (l : List Sm) : Prop where
  good : goodSFs l = true
  decl : declSs L l = true
  shape : (r3Ss L l).2 = true
  wit : witSs n (r3Ss L l).1 = true
  nm : nmSs l
  nm2 : nmSs (r3Ss L l).1
  dep : depSs 0 l ≤ d + 5
theorem depSs_bound : ∀ (l : List Sm) (d b : Int), d ≤ b → (∀ s, s ∈ l → depS s ≤ b) → depSs d l ≤ b
  | [], d, b, h, _ => h
  | s :: r, d, b, h, hs => depSs_bound r _ b (by have := hs s (by simp); unfold mx imax; split <;> omega) (fun s hm => hs s (by simp [hm]))
theorem GSs.of (L : List VarD) (n : Int) (d : Nat) : ∀ l : List Sm, (∀ s, s ∈ l → GS L n d s) → GSs L n d l
  | [], _ => ⟨rfl, rfl, rfl, rfl, trivial, trivial, by simp [depSs]; omega⟩
  | s :: r, h => by
    have h1 := h s (by simp)
    have h2 := GSs.of L n d r (fun s hs => h s (by simp [hs]))
    exact ⟨by simp [goodSFs, h1.good, h2.good], by simp [declSs, h1.decl, h2.decl], by simp [r3Ss, h1.shape, h2.shape], by simp [r3Ss, witSs, h1.wit, h2.wit], ⟨h1.nm, h2.nm⟩, ⟨h1.nm2, h2.nm2⟩, depSs_bound _ _ _ (by omega) (fun s hs => (h s hs).dep)⟩
theorem depE_ex0 : depE ex0 = 1 := rfl
theorem r3E_ex0 (L : List VarD) : r3E L ex0 = (ex0, true) := by simp [ex0, r3E, r3Es, head3]
theorem dep4 {p v b e c : Int} (h1 : p ≤ c - 1) (h2 : v ≤ c - 1) (h3 : b ≤ c - 1) (h4 : e ≤ c - 1) : 1 + mx (mx (mx p v) b) e ≤ c := by
  have hm : ∀ x y : Int, x ≤ c - 1 → y ≤ c - 1 → mx x y ≤ c - 1 := fun x y hx hy => by unfold mx imax; split <;> omega
  have := hm _ _ (hm _ _ (hm p v h1 h2) h3) h4
  omega
theorem WfS.gs {S A : NmP} {L : List VarD} {n : Int} (K : Kn S A L n) {d : Nat} {s : Sm} (h : WfS S A d s) : GS L n d s := by
  have hn := K.n
  induction h with
  | assign d x v h hv =>
    obtain ⟨k1, k2, k3, k4, k5⟩ := K.s x h
    have gv := hv.ge K
    have hh : head3 L 1 x 0 0 1 2 = (((lookupF x 0 L).1, 0), true) := by simp [head3, k3]
    refine ⟨?_, ?_, ?_, ?_, ?_, ?_, ?_⟩
    · simp [smL, goodSF, headSF, goodNameF, k2, gv.good, goodSFs, zeroEF, ex0, Ex.op, Ex.value, Ex.name, Ex.slot, Ex.size, Ex.args]
    · simp [smL, declS, declSs, foundF, k3, gv.names, ex0, namesE, namesEs]
    · simp [smL, r3S, r3Ss, hh, gv.shape, r3E_ex0]
    · simp only [smL, r3S, r3Ss, witS, witSs, hh, gv.ins]
      rw [outC_in _ _ _ _ _ k4 (by simpa [imax] using k5) hn]
      simp [ex0, r3E, r3Es, head3, insE, insEs, outC]
    · simp only [smL, nmS, nmSs, ex0, nmE, nmEs]; exact ⟨by omega, ⟨by simp, trivial⟩, gv.nm, trivial, trivial⟩
    · simp only [smL, r3S, r3Ss, nmS, nmSs, ex0, r3E, r3Es, nmE, nmEs]; exact ⟨by omega, ⟨by simp, trivial⟩, gv.nm2, trivial, trivial⟩
    · have := gv.dep
      simp only [smL, depS, depSs, depE_ex0]; exact dep4 (by omega) (by omega) (by omega) (by omega)
  | store d x p v h hp hv =>
    obtain ⟨k1, k2, k3, k4, k5, k6⟩ := K.a x h
    have gv := hv.ge K
    have gp := hp.ge K
    have hh : head3 L 2 x 0 0 1 2 = (((lookupF x 0 L).1, (lookupF x 0 L).2.1), true) := by
      have : decide ((lookupF x 0 L).2.1 > 0) = true := by simp; omega
      simp [head3, this]
    refine ⟨?_, ?_, ?_, ?_, ?_, ?_, ?_⟩
    · simp [smL, goodSF, headSF, goodNameF, k2, gv.good, gp.good, goodSFs]
    · simp [smL, declS, declSs, foundF, k3, gv.names, gp.names]
    · simp [smL, r3S, r3Ss, hh, gv.shape, gp.shape]
    · simp only [smL, r3S, r3Ss, witS, witSs, hh, gv.ins, gp.ins]
      rw [outC_in _ _ _ _ _ k5 (by rw [imax_one k4]; exact k6) hn]
      rfl
    · simp only [smL, nmS, nmSs]; exact ⟨by omega, gp.nm, gv.nm, trivial, trivial⟩
    · simp only [smL, r3S, r3Ss, nmS, nmSs]; exact ⟨by omega, gp.nm2, gv.nm2, trivial, trivial⟩
    · have := gv.dep
      have := gp.dep
      simp only [smL, depS, depSs]; exact dep4 (by omega) (by omega) (by omega) (by omega)
  | send d p v hp hv =>
    have gv := hv.ge K
    have gp := hp.ge K
    refine ⟨?_, ?_, ?_, ?_, ?_, ?_, ?_⟩
    · simp [smL, goodSF, headSF, goodNameF, gv.good, gp.good, goodSFs]
    · simp [smL, declS, declSs, gv.names, gp.names]
    · simp [smL, r3S, r3Ss, head3, gv.shape, gp.shape]
    · simp [smL, r3S, r3Ss, witS, witSs, head3, gv.ins, gp.ins, outC]
    · simp only [smL, nmS, nmSs]; exact ⟨by simp, gp.nm, gv.nm, trivial, trivial⟩
    · simp only [smL, r3S, r3Ss, nmS, nmSs]; exact ⟨by simp, gp.nm2, gv.nm2, trivial, trivial⟩
    · have := gv.dep
      have := gp.dep
      simp only [smL, depS, depSs]; exact dep4 (by omega) (by omega) (by omega) (by omega)
  | out d v hv =>
    have gv := hv.ge K
    refine ⟨?_, ?_, ?_, ?_, ?_, ?_, ?_⟩
    · simp [smL, goodSF, headSF, goodNameF, gv.good, goodSFs, zeroEF, ex0, Ex.op, Ex.value, Ex.name, Ex.slot, Ex.size, Ex.args]
    · simp [smL, declS, declSs, gv.names, ex0, namesE, namesEs]
    · simp [smL, r3S, r3Ss, head3, gv.shape, ex0, r3E, r3Es]
    · simp [smL, r3S, r3Ss, witS, witSs, head3, gv.ins, outC, ex0, r3E, r3Es, insE, insEs]
    · simp only [smL, nmS, nmSs, ex0, nmE, nmEs]; exact ⟨by simp, ⟨by simp, trivial⟩, gv.nm, trivial, trivial⟩
    · simp only [smL, r3S, r3Ss, nmS, nmSs, ex0, r3E, r3Es, nmE, nmEs]; exact ⟨by simp, ⟨by simp, trivial⟩, gv.nm2, trivial, trivial⟩
    · have := gv.dep
      simp only [smL, depS, depSs, depE_ex0]; exact dep4 (by omega) (by omega) (by omega) (by omega)
  | ite d v b e hv _ _ ihb ihe =>
    have gv := hv.ge K
    have gb := GSs.of L n d b ihb
    have ge := GSs.of L n d e ihe
    refine ⟨?_, ?_, ?_, ?_, ?_, ?_, ?_⟩
    · simp [smL, goodSF, headSF, goodNameF, gv.good, gb.good, ge.good, zeroEF, ex0, Ex.op, Ex.value, Ex.name, Ex.slot, Ex.size, Ex.args]
    · simp [smL, declS, gb.decl, ge.decl, gv.names, ex0, namesE, namesEs]
    · simp [smL, r3S, head3, gv.shape, gb.shape, ge.shape, ex0, r3E, r3Es]
    · simp [smL, r3S, witS, head3, gv.ins, gb.wit, ge.wit, outC, ex0, r3E, r3Es, insE, insEs]
    · simp only [smL, nmS, ex0, nmE, nmEs]; exact ⟨by simp, ⟨by simp, trivial⟩, gv.nm, gb.nm, ge.nm⟩
    · simp only [smL, r3S, nmS, ex0, r3E, r3Es, nmE, nmEs]; exact ⟨by simp, ⟨by simp, trivial⟩, gv.nm2, gb.nm2, ge.nm2⟩
    · have := gv.dep
      have := gb.dep
      have := ge.dep
      simp only [smL, depS, depE_ex0]; exact dep4 (by omega) (by omega) (by omega) (by omega)
  | whl d v b hv _ ihb =>
    have gv := hv.ge K
    have gb := GSs.of L n d b ihb
    refine ⟨?_, ?_, ?_, ?_, ?_, ?_, ?_⟩
    · simp [smL, goodSF, headSF, goodNameF, gv.good, gb.good, goodSFs, zeroEF, ex0, Ex.op, Ex.value, Ex.name, Ex.slot, Ex.size, Ex.args]
    · simp [smL, declS, declSs, gb.decl, gv.names, ex0, namesE, namesEs]
    · simp [smL, r3S, r3Ss, head3, gv.shape, gb.shape, ex0, r3E, r3Es]
    · simp [smL, r3S, r3Ss, witS, witSs, head3, gv.ins, gb.wit, outC, ex0, r3E, r3Es, insE, insEs]
    · simp only [smL, nmS, nmSs, ex0, nmE, nmEs]; exact ⟨by simp, ⟨by simp, trivial⟩, gv.nm, gb.nm, trivial⟩
    · simp only [smL, r3S, r3Ss, nmS, nmSs, ex0, r3E, r3Es, nmE, nmEs]; exact ⟨by simp, ⟨by simp, trivial⟩, gv.nm2, gb.nm2, trivial⟩
    · have := gv.dep
      have := gb.dep
      simp only [smL, depS, depSs, depE_ex0]; exact dep4 (by omega) (by omega) (by omega) (by omega)
end Go.Abs
namespace Go.Abs
open Go
def nx5 (v : Int) (k : Nat) : Int := [0, 1, 2 + v, 3 + v, 4 + v, 6 + v].getD k 0
structure VF (L : List VarD) (I : List Int) (x : VarD) (a b n : Int) : Prop where
  look : lookupF x.name 0 L = (a, x.size, true)
  pos : 0 ≤ a
  next : a + imax x.size 1 = b
  le : b ≤ n
  size : 0 ≤ x.size
  init : x.size = 0 → I.getD a.toNat 0 = x.init
  zero : ∀ i : Nat, (i : Int) < x.size → I.getD (a + i).toNat 0 = 0
theorem vars_fact (u v w : Int) (hv : 0 ≤ v ∧ v < 5) (k : Nat) (hk : k < 5) : VF (varsF u v w) (init3 (varsF u v w)) ((varsF u v w).getD k ⟨[], 0, 0⟩) (nx5 v k) (nx5 v (k + 1)) (6 + v) := by
  have h5 : v = 0 ∨ v = 1 ∨ v = 2 ∨ v = 3 ∨ v = 4 := by omega
  have k5 : k = 0 ∨ k = 1 ∨ k = 2 ∨ k = 3 ∨ k = 4 := by omega
  rcases h5 with rfl | rfl | rfl | rfl | rfl <;> rcases k5 with rfl | rfl | rfl | rfl | rfl <;>
    refine ⟨by simp [varsF, lookupF, nx5, mx, imax], by simp [nx5], by simp [varsF, nx5, imax], by simp [nx5], by simp [varsF], fun h => ?_, fun i hi => ?_⟩
  all_goals first
    | (simp [varsF] at hi; omega)
    | (simp [varsF] at h; done)
    | (simp [varsF, init3, one3, nx5]; done)
    | (simp only [varsF, List.getD_cons_succ, List.getD_cons_zero] at hi
       have h5 : i = 0 ∨ i = 1 ∨ i = 2 ∨ i = 3 ∨ i = 4 := by omega
       rcases h5 with rfl | rfl | rfl | rfl | rfl <;> first | (simp [varsF, init3, one3, nx5, List.replicate]; done) | omega)
theorem vars_kn (u v w : Int) (hv : 0 ≤ v ∧ v < 5) : Kn S0 A0 (varsF u v w) (6 + v) := by
  have f := vars_fact u v w hv
  have f0 := f 0 (by omega)
  have f1 := f 1 (by omega)
  have f2 := f 2 (by omega)
  have f3 := f 3 (by omega)
  have f4 := f 4 (by omega)
  have l0 : lookupF [120] 0 (varsF u v w) = (0, 0, true) := f0.look
  have l1 : lookupF [97] 0 (varsF u v w) = (1, 1 + v, true) := f1.look
  have l2 : lookupF [121] 0 (varsF u v w) = (2 + v, 0, true) := f2.look
  have l3 : lookupF [122] 0 (varsF u v w) = (3 + v, 0, true) := f3.look
  have l4 : lookupF [98] 0 (varsF u v w) = (4 + v, 2, true) := f4.look
  refine ⟨?_, ?_, by omega⟩
  · rintro x (rfl | rfl | rfl)
    · rw [l0]; exact ⟨by decide, by decide, rfl, by simp, by simp; omega⟩
    · rw [l2]; exact ⟨by decide, by decide, rfl, by simp; omega, by simp; omega⟩
    · rw [l3]; exact ⟨by decide, by decide, rfl, by simp; omega, by simp; omega⟩
  · rintro x (rfl | rfl)
    · rw [l1]; exact ⟨by decide, by decide, rfl, by simp; omega, by simp, by simp; omega⟩
    · rw [l4]; exact ⟨by decide, by decide, rfl, by simp, by simp; omega, by simp; omega⟩
structure PF (p : PgD) (u v w : Int) : Prop where
  hu : 0 ≤ u ∧ u < 7
  hv : 0 ≤ v ∧ v < 5
  hw : 0 ≤ w ∧ w < 3
  vars : p.vars = varsF u v w
  s1 : ∀ s, s ∈ p.start → WfS S0 A0 3 s
  s2 : ∀ s, s ∈ p.message → WfS S0 A0 3 s
  s3 : ∀ s, s ∈ p.tick → WfS S0 A0 3 s
  s4 : ∀ s, s ∈ p.input → WfS S0 A0 3 s
theorem WfS.up {S A : NmP} {d : Nat} {s : Sm} (h : WfS S A d s) : WfS S A (d + 1) s := by
  induction h with
  | assign d n v h hv => exact .assign _ n v h hv
  | store d n p v h hp hv => exact .store _ n p v h hp hv
  | send d p v hp hv => exact .send _ p v hp hv
  | out d v hv => exact .out _ v hv
  | ite d v b e hv _ _ ih1 ih2 => exact .ite _ v b e hv ih1 ih2
  | whl d v b hv _ ih => exact .whl _ v b hv ih
theorem PF.gs {p : PgD} {u v w : Int} (h : PF p u v w) : GSs p.vars (6 + v) 3 p.start ∧ GSs p.vars (6 + v) 3 p.message ∧ GSs p.vars (6 + v) 3 p.tick ∧ GSs p.vars (6 + v) 3 p.input := by
  have K := vars_kn u v w h.hv
  rw [h.vars]
  exact ⟨GSs.of _ _ _ _ fun s hs => (h.s1 s hs).gs K, GSs.of _ _ _ _ fun s hs => (h.s2 s hs).gs K, GSs.of _ _ _ _ fun s hs => (h.s3 s hs).gs K, GSs.of _ _ _ _ fun s hs => (h.s4 s hs).gs K⟩
end Go.Abs
namespace Go.Abs
open Go
theorem depP_le {p : PgD} {b : Int} (h1 : depSs 0 p.start ≤ b) (h2 : depSs 0 p.message ≤ b) (h3 : depSs 0 p.tick ≤ b) (h4 : depSs 0 p.input ≤ b) : depP p ≤ b := by
  have hm : ∀ x y : Int, x ≤ b → y ≤ b → mx x y ≤ b := fun x y hx hy => by unfold mx imax; split <;> omega
  unfold depP
  exact hm _ _ (hm _ _ (hm _ _ h1 h2) h3) h4
theorem check_of {p : PgD} (h1 : depSs 0 p.start ≤ 16) (h2 : depSs 0 p.message ≤ 16) (h3 : depSs 0 p.tick ≤ 16) (h4 : depSs 0 p.input ≤ 16) (hv : p.vars.any (fun v => !goodVarF v) = false)
    (g1 : goodSFs p.start = true) (g2 : goodSFs p.message = true) (g3 : goodSFs p.tick = true) (g4 : goodSFs p.input = true) : checkF goodSFs p = 0 := by
  unfold checkF
  have := depP_le h1 h2 h3 h4
  rw [if_neg (by omega), hv, g1, g2, g3, g4]
  simp
theorem stmtsF_good (xs : List UInt8) (m : Nat) (a : Nat) : goodSFs (stmtsF xs 2 m a).1 = true ∧ depSs 0 (stmtsF xs 2 m a).1 ≤ 7 := by
  have h := GSs.of _ _ _ _ fun s hs => (stmtsF_WfS xs 2 m a s hs).gs (vars_kn 0 0 0 (by omega))
  refine ⟨h.good, ?_⟩
  have := h.dep
  omega
theorem dg_small (n : Nat) (h : n < 1000) : ∀ d, dg (3 + d) n = dg 3 n
  | 0 => rfl
  | d + 1 => by
    have h1 : (10 : Nat) ^ 3 ≤ 10 ^ (3 + d) := Nat.pow_le_pow_right (by omega) (by omega)
    rw [show 3 + (d + 1) = 3 + d + 1 by omega, dg_more (3 + d) n (by omega), dg_small n h d]
theorem decF_small (n : Int) (h : n < 1000) : (decF n).length ≤ 3 := by
  unfold decF
  split
  · simp
  · rename_i h0
    have := dg_small n.toNat (by omega) 17
    rw [show (20 : Nat) = 3 + 17 by omega, this]
    exact dg_len 3 _
theorem fm_1 (v : Int) : fmE (exL 1 v [] []) = decF v := rfl
theorem fm_2 (nm : List UInt8) : fmE (exL 2 0 nm []) = nm := rfl
theorem fm_3 (nm : List UInt8) (e : Ex) : fmE (exL 3 0 nm [e]) = nm ++ 91 :: (fmE e ++ [93]) := rfl
theorem fm_4 (op : Int) (h : 4 ≤ op ∧ op ≤ 7) : (fmE (exL op 0 [] [])).length ≤ 5 := by
  have : op = 4 ∨ op = 5 ∨ op = 6 ∨ op = 7 := by omega
  rcases this with rfl | rfl | rfl | rfl <;> decide
theorem fm_8 (op : Int) (h : 8 ≤ op ∧ op ≤ 9) (e : Ex) : (fmE (exL op 0 [] [e])).length ≤ (fmE e).length + 4 := by
  have hs := sgF_len op.toNat
  have ho := opdT_len (decide (e.op ≥ 8), fmE e)
  have : op = 8 ∨ op = 9 := by omega
  rcases this with rfl | rfl
  all_goals
    have e1 : ∀ o : Int, o = 8 ∨ o = 9 → fmE (exL o 0 [] [e]) = sgF o.toNat ++ opdT (decide (e.op ≥ 8), fmE e) := fun o ho => by rcases ho with rfl | rfl <;> rfl
    rw [e1 _ (by simp), List.length_append]
    simp only at ho hs
    omega
theorem fm_10 (op : Int) (h : 10 ≤ op) (a b : Ex) : (fmE (exL op 0 [] [a, b])).length ≤ (fmE a).length + (fmE b).length + 8 := by
  have hs := sgF_len op.toNat
  have h1 := opdT_len (decide (a.op ≥ 8), fmE a)
  have h2 := opdT_len (decide (b.op ≥ 8), fmE b)
  have e := fm_B op a b h
  simp only [exB] at e
  simp only [exL]
  rw [e]
  simp only [List.length_append, List.length_cons] at h1 h2 ⊢
  omega
theorem scal_len (i : Int) : (scal i).length = 1 := by unfold scal; repeat' split
                                                       all_goals rfl
theorem arrN_len (i : Int) : (arrN i).length = 1 := by unfold arrN; split <;> rfl
theorem opN_rg (i : Int) : 4 ≤ opN i ∧ opN i ≤ 7 := by unfold opN; repeat' split
                                                       all_goals omega
theorem exprStep_fl (xs : List UInt8) (rec : Nat → Ex × Nat) (small : Bool) (a B : Nat) (hr : small = false → ∀ a, (fmE (rec a).1).length ≤ B) : (fmE (exprStep xs rec small a).1).length ≤ (if small = true then 5 else 2 * B + 8) := by
  have key : ∀ n, n ≤ 5 → n ≤ (if small = true then 5 else 2 * B + 8) := fun n h => by split <;> omega
  have n5 := nxt_lt xs (nxt xs a 12).2 5 (by omega)
  have n200 := nxt_lt xs (nxt xs a 12).2 200 (by omega)
  have n2 := nxt_lt xs (nxt xs a 12).2 2 (by omega)
  have n12 := nxt_lt xs a 12 (by omega)
  unfold exprStep
  split
  · refine key _ ?_
    rw [fm_1]
    have := decF_small (nxt xs (nxt xs a 12).2 5).1 (by omega)
    omega
  · rename_i c1
    split
    · refine key _ ?_
      rw [fm_2, scal_len]
      omega
    · rename_i c2
      split
      · exact key _ (fm_4 7 (by omega))
      · rename_i c3
        split
        · exact key _ (fm_4 _ (opN_rg _))
        · rename_i c4
          split
          · refine key _ ?_
            rw [fm_1]
            have := decF_small (1 + (nxt xs (nxt xs a 12).2 200).1) (by omega)
            omega
          · rename_i c5
            have hs : small = false := by
              cases small
              · rfl
              · exact absurd (.inr rfl) c5
            have hr := hr hs
            have hgoal : ∀ n, n ≤ 2 * B + 8 → n ≤ (if small = true then 5 else 2 * B + 8) := fun n h => by rw [hs]; simpa using h
            refine hgoal _ ?_
            split
            · dsimp only
              rw [fm_3]
              have := hr (nxt xs (nxt xs a 12).2 2).2
              have := arrN_len (nxt xs (nxt xs a 12).2 2).1
              simp only [List.length_append, List.length_cons, List.length_nil]
              omega
            · split
              · dsimp only
                have := fm_8 (8 + (nxt xs (nxt xs a 12).2 2).1) (by omega) (rec (nxt xs (nxt xs a 12).2 2).2).1
                have := hr (nxt xs (nxt xs a 12).2 2).2
                omega
              · dsimp only
                have h1 := hr (nxt xs a 12).2
                have h2 := hr (nxt xs (rec (nxt xs a 12).2).2 13).2
                have n13 := nxt_lt xs (rec (nxt xs a 12).2).2 13 (by omega)
                have := fm_10 (10 + (nxt xs (rec (nxt xs a 12).2).2 13).1) (by omega) (rec (nxt xs a 12).2).1 (rec (nxt xs (rec (nxt xs a 12).2).2 13).2).1
                omega
theorem exprF_fl1 (xs : List UInt8) (a : Nat) : (fmE (exprF xs 1 a).1).length ≤ 5 := exprStep_fl xs _ _ a 0 (fun h => by simp at h)
theorem exprF_fl2 (xs : List UInt8) (a : Nat) : (fmE (exprF xs 2 a).1).length ≤ 18 := exprStep_fl xs _ _ a 5 (fun _ a => exprF_fl1 xs a)
theorem exprF_fl3 (xs : List UInt8) (a : Nat) : (fmE (exprF xs 3 a).1).length ≤ 44 := exprStep_fl xs _ _ a 18 (fun _ a => exprF_fl2 xs a)
theorem indT_len (n : Nat) : (indT n).length = 2 * n := by simp [indT]
theorem st_1 (n : Nat) (nm : List UInt8) (v : Ex) : stT n (smL 1 nm ex0 v [] []) = nm ++ [32, 61, 32] ++ fmE v ++ [59, 10] := rfl
theorem st_2 (n : Nat) (nm : List UInt8) (p v : Ex) : stT n (smL 2 nm p v [] []) = nm ++ [91] ++ fmE p ++ [93, 32, 61, 32] ++ fmE v ++ [59, 10] := rfl
theorem st_5 (n : Nat) (p v : Ex) : stT n (smL 5 [] p v [] []) = [115, 101, 110, 100, 32] ++ fmE p ++ [44, 32] ++ fmE v ++ [59, 10] := rfl
theorem st_6 (n : Nat) (v : Ex) : stT n (smL 6 [] ex0 v [] []) = [111, 117, 116, 112, 117, 116, 32] ++ fmE v ++ [59, 10] := rfl
theorem st_3 (n : Nat) (v : Ex) (b c : List Sm) : (stT n (smL 3 [] ex0 v b c)).length ≤ 20 + (fmE v).length + (lsT (n + 1) b).length + (lsT (n + 1) c).length + 4 * n := by
  show (fmS 3 [] _ _ _ _ _ _).length ≤ _
  unfold fmS
  rw [if_neg (by omega), if_neg (by omega), if_neg (by omega), if_neg (by omega), if_pos rfl]
  split
  · simp only [List.length_append, List.length_cons, List.length_nil, indT_len]; omega
  · simp only [List.length_append, List.length_cons, List.length_nil, indT_len]; omega
theorem st_4 (n : Nat) (v : Ex) (b : List Sm) : (stT n (smL 4 [] ex0 v b [])).length ≤ 20 + (fmE v).length + (lsT (n + 1) b).length + 4 * n := by
  show (fmS 4 [] _ _ _ _ _ _).length ≤ _
  unfold fmS
  rw [if_neg (by omega), if_neg (by omega), if_neg (by omega), if_neg (by omega), if_neg (by omega)]
  split
  · rename_i h; simp at h
  · simp only [List.length_append, List.length_cons, List.length_nil, indT_len]; omega
theorem stmtStep_fl (xs : List UInt8) (rec : Int → Nat → List Sm × Nat) (small : Bool) (a n B : Nat) (h2 : small = false → ∀ a, (lsT (n + 1) (rec 2 a).1).length ≤ 2 * B) (h1 : small = false → ∀ a, (lsT (n + 1) (rec 1 a).1).length ≤ B) :
    (stT n (stmtStep xs rec small a).1).length ≤ 60 + 3 * B + 4 * n := by
  have e2 := exprF_fl2 xs
  have e3 := exprF_fl3 xs
  have n10 := nxt_lt xs a 10 (by omega)
  unfold stmtStep
  dsimp only
  split
  · rw [st_1]
    simp only [List.length_append, List.length_cons, List.length_nil, scal_len]
    have := e3 (nxt xs (nxt xs a 10).2 3).2
    omega
  split
  · rw [st_2]
    simp only [List.length_append, List.length_cons, List.length_nil, arrN_len]
    have := e2 (nxt xs (nxt xs a 10).2 2).2
    have := e2 (exprF xs 2 (nxt xs (nxt xs a 10).2 2).2).2
    omega
  split
  · rw [st_5]
    simp only [List.length_append, List.length_cons, List.length_nil]
    have := e2 (nxt xs a 10).2
    have := e2 (exprF xs 2 (nxt xs a 10).2).2
    omega
  split
  · rw [st_6]
    simp only [List.length_append, List.length_cons, List.length_nil]
    have := e2 (nxt xs a 10).2
    omega
  rename_i c1 c2 c3 c4
  have hs : small = false := by
    cases small
    · rfl
    · exfalso
      unfold kF at c1 c2 c3 c4
      split at c1 <;> rename_i hk <;> simp at hk <;> omega
  have h1 := h1 hs
  have h2 := h2 hs
  split
  · dsimp only
    have := st_3 n (exprF xs 2 (nxt xs a 10).2).1 (rec 2 (exprF xs 2 (nxt xs a 10).2).2).1 (rec 1 (rec 2 (exprF xs 2 (nxt xs a 10).2).2).2).1
    have := e2 (nxt xs a 10).2
    have := h2 (exprF xs 2 (nxt xs a 10).2).2
    have := h1 (rec 2 (exprF xs 2 (nxt xs a 10).2).2).2
    omega
  · dsimp only
    have := st_4 n (exprF xs 2 (nxt xs a 10).2).1 (rec 2 (exprF xs 2 (nxt xs a 10).2).2).1
    have := e2 (nxt xs a 10).2
    have := h2 (exprF xs 2 (nxt xs a 10).2).2
    omega
theorem stmtsLoop_fl (xs : List UInt8) (rec : Int → Nat → List Sm × Nat) (small : Bool) (n B : Nat) (h : ∀ a, (stT n (stmtStep xs rec small a).1).length + 2 * n ≤ B) : ∀ (m a : Nat), (lsT n (stmtsLoop xs rec small m a).1).length ≤ m * B
  | 0, a => by simp [stmtsLoop, lsT]
  | m + 1, a => by
    have := stmtsLoop_fl xs rec small n B h m (stmtStep xs rec small a).2
    have := h a
    simp only [stmtsLoop, lsT, List.length_append, indT_len]
    rw [Nat.add_mul, Nat.one_mul]
    omega
theorem stmtsTop_fl (xs : List UInt8) (rec : Int → Nat → List Sm × Nat) (small : Bool) (n B : Nat) (h : ∀ a, (stT n (stmtStep xs rec small a).1).length + 2 * n ≤ B) (m a : Nat) : (lsT n (stmtsTop xs rec small m a).1).length ≤ m * B := by
  unfold stmtsTop
  refine Nat.le_trans (stmtsLoop_fl xs rec small n B h _ _) (Nat.mul_le_mul_right _ ?_)
  have := nxt_lt xs a ((m : Int) + 1) (by omega)
  omega
theorem stmtsF_fl1 (xs : List UInt8) (n m a : Nat) (hn : n ≤ 2) : (lsT n (stmtsF xs 1 m a).1).length ≤ m * 72 :=
  stmtsTop_fl xs (stmtsF xs 0) (decide (0 + 1 ≤ 1)) n 72 (fun a => by have := stmtStep_fl xs (stmtsF xs 0) (decide (0 + 1 ≤ 1)) a n 0 (fun h => by simp at h) (fun h => by simp at h); omega) m a
theorem stmtsF_fl2 (xs : List UInt8) (m a : Nat) : (lsT 1 (stmtsF xs 2 m a).1).length ≤ m * 300 :=
  stmtsTop_fl xs (stmtsF xs 1) (decide (1 + 1 ≤ 1)) 1 300 (fun a => by have := stmtStep_fl xs (stmtsF xs 1) (decide (1 + 1 ≤ 1)) a 1 72 (fun _ a => stmtsF_fl1 xs 2 2 a (by omega)) (fun _ a => by have := stmtsF_fl1 xs 2 1 a (by omega); omega); omega) m a
theorem hdT_fl {nm : List UInt8} {l : List Sm} (h : nm.length ≤ 10) : (hdT nm l).length ≤ (lsT 1 l).length + 20 := by
  unfold hdT
  split
  · simp
  · simp only [List.length_append, List.length_cons, List.length_nil]; omega
end Go.Abs
namespace Go.Abs
open Go Go.ChangeShapes Go.WideShapes Go.ChangeAt Go.RowKit
def memOf (W : World) : Mem := fun b i => W.cell? ⟨b, i, none⟩
structure Held (W W' : World) : Prop where
  os : W'.os = W.os
  output : W'.output = W.output
  size : W.heap.size ≤ W'.heap.size
  same : ∀ b, b < W.heap.size → W'.heap[b]? = W.heap[b]?
theorem law_runs {P : Program} {gl : Nat → Option (List PVal)} {f : FuncId} {W : World} (pvs : List PVal) (vargs : List Value) (hac : AC P gl f (pvs.map .pv) [] (.pv (.bool true)) [])
    (hgl : GOK ⟨fun _ => none, gl, fun _ => 0, 0⟩ (memOf W)) (hex : ∀ b cs, gl b = some cs → cs ≠ [] → ∃ vals T l, W.heap[b]? = some (.cells vals T l) ∧ vals.size = cs.length) (hlen : vargs.length = pvs.length) (hrd : ∀ i, i < pvs.length → Rd (memOf W) (pvs.getD i .nilptr) (vargs.getD i undef)) :
    Calls P f vargs.toArray W fun e W' => e = .returned (.bool true) ∧ Held W W' := by
  have hR : Rel ⟨W, memOf W, blocksOf ⟨fun _ => 0, fun _ => 0, fun _ => false⟩ [], []⟩ ⟨pvs.map .pv, []⟩ ⟨fun _ => 0, fun _ => 0, fun _ => false⟩ (memOf W) ⟨vargs.toArray, []⟩ W := by
    refine ⟨by simpa using hlen, rfl, fun i hi => ?_, ?_, ?_, ?_, fun b i u h => h, Mem.le_refl _, fun _ _ _ _ => rfl, Nat.le_refl _, fun _ _ _ => rfl, ?_, rfl, rfl, rfl⟩
    · simp only [List.length_map] at hi
      have h1 := hrd i hi
      have e1 : St.slot ⟨pvs.map .pv, []⟩ i = .pv (pvs.getD i .nilptr) := by simp [St.slot, List.getD, hi]
      have e2 : vargs.toArray.getD i undef = vargs.getD i undef := by simp [Array.getD, List.getD, hlen, hi]
      rw [e1]
      show V _ _ _ _ (vargs.toArray.getD i undef)
      rw [e2]
      exact .pv h1
    · intro id o h; simp [St.obj] at h
    · intro id id' o o' b h; simp [St.obj] at h
    · intro id o b h; simp [St.obj] at h
    · intro id o b h; simp [St.obj] at h
  refine (hac W (memOf W) _ vargs hR ⟨hgl, fun b cs hb hne => ⟨by rintro ⟨id, ob, h, _⟩; simp at h, hex b cs hb hne⟩⟩).mono fun e W' ⟨v, g', M', he, hR', _⟩ => ?_
  have hs := hR'.slots 0 (by simp)
  have hv : v = .bool true := by
    have h1 : V g' (St.dom ⟨[.pv (.bool true)], []⟩) M' (.pv (.bool true)) v := by simpa [St.slot, Array.getD] using hs
    cases h1 with
    | pv h => cases h; rfl
  have hB : ∀ b, ¬ blocksOf ⟨fun _ => 0, fun _ => 0, fun _ => false⟩ [] b := by rintro b ⟨id, ob, h, _⟩; simp at h
  exact ⟨by rw [he, hv], hR'.os, hR'.output, hR'.size0, fun b hb => hR'.same b hb (hB b)⟩
section
variable {H : Type} {enc : TypeId × Value → H} {P : Program}
theorem Held.sameAt {W W' : World} (h : Held W W') {p : MemPlace} (hp : p.block < W.heap.size) : W.sameAt W' p := by
  cases p with
  | cell b off => show W'.cell? _ = W.cell? _; simp only [World.cell?]; rw [h.same b hp]
  | map b => exact h.same b hp
theorem trodAll_stays (hl : laidOutB P = true) {W W' : World} (hh : Held W W') {sp' : Nat → Bool} : ∀ {ts : List TypeId} {vs : List Value} {ds : List (DataW H)} {ps : List MemPlace}, (∀ t ∈ ts, P.readableRec t = true ∧ t < P.types.size) →
    DataW.TrodAll enc P W 0 (fun _ => true) true ts vs ds ps → (∀ p ∈ ps, p.block < W.heap.size) → (∀ p ∈ ps, sp' p.block = true) → DataW.TrodAll enc P W' 0 sp' true ts vs ds ps
  | [], [], [], _, _, h, _, _ => h
  | [], [], _ :: _, _, _, h, _, _ => h.elim
  | [], _ :: _, _, _, _, h, _, _ => h.elim
  | _ :: _, [], _, _, _, h, _, _ => h.elim
  | _ :: _, _ :: _, [], _, _, h, _, _ => h.elim
  | t :: ts, v :: vs, d :: ds, ps, hr, ⟨p, q, h1, h2, he⟩, hlt, hsp => by
    subst he
    have hr1 := hr t (by simp)
    exact ⟨p, q, WideElems.Trod_stays hl hr1.1 hr1.2 h1 (fun x hx => hh.sameAt (hlt x (by simp [hx]))) (fun x hx => hsp x (by simp [hx])),
      trodAll_stays hl hh (fun t ht => hr t (by simp [ht])) h2 (fun x hx => hlt x (by simp [hx])) (fun x hx => hsp x (by simp [hx])), rfl⟩
theorem Held.keptBut {W W' : World} (h : Held W W') (may : MemPlace → Prop) : W.keptBut W' may := by
  refine ⟨h.os, h.output, fun i hi => ?_⟩
  rw [h.same i hi]
  split
  · rename_i h1 h2; rw [h1] at h2; cases h2; exact ⟨rfl, rfl, rfl, fun _ _ => rfl⟩
  · rename_i h1 h2; rw [h1] at h2; cases h2; exact .inr ⟨rfl, rfl⟩
  · rfl
theorem law_post {f : Func} {s : ChangeSpec} {fresh handsOn again : Bool} {W W' : World} {args : Array Value} {ds gs : List (DataW H)} {before : List MemPlace} {tb : TypeId}
    (hl : laidOutB P = true) (hr : ∀ t ∈ f.params.toList, P.readableRec t = true ∧ t < P.types.size) (hrt : f.resultTypes = #[tb]) (htb : P.underlying tb = some .bool)
    (hvars : s.vars = []) (hfn : ∀ ds : List (DataW H), ds.length = f.params.size → (s.fn H ds).results = [.lit (.bool true)] ∧ (s.fn H ds).args = ds ∧ (s.fn H ds).vars = [])
    (hW : DataW.Whole enc P f.params.toList s.vars false W args.toList ds gs before) (hh : Held W W') :
    s.post enc P f false fresh handsOn again W args (.bool true) W' := by
  have hlt := hW.lt
  have hW' := hW
  obtain ⟨p, q, hA, hV, rfl, hz, hn⟩ := hW
  rw [hvars] at hV
  obtain ⟨rfl, rfl⟩ := trodVars_none hV
  rw [List.append_nil] at hlt hz hn hW'
  have hdl : ds.length = f.params.size := by
    have : ∀ {ts : List TypeId} {vs : List Value} {ds : List (DataW H)} {ps : List MemPlace}, DataW.TrodAll enc P W 0 (fun _ => true) true ts vs ds ps → ds.length = ts.length := by
      intro ts
      induction ts with
      | nil => intro vs ds ps h; obtain ⟨_, rfl, _⟩ := trodAll_nil h; rfl
      | cons t ts ih =>
        intro vs ds ps h
        obtain ⟨_, _, _, _, _, _, _, rfl, _, _, h2⟩ := trodAll_cons h
        simp [ih h2]
    simpa using this hA
  obtain ⟨f1, f2, f3⟩ := hfn (ds ++ []) (by simpa using hdl)
  have hres : ∀ (b : Nat) (sp : Nat → Bool) (hd : Bool), DataW.TrodAll enc P W' b sp hd f.resultTypes.toList ((Value.bool true).resultList f.resultTypes.size) (s.fn H (ds ++ [])).results [] := fun b sp hd => by
    rw [f1, hrt]
    exact trodAll_cons_mk (shut_bool htb _) trodAll_mk0
  have hargs : ∀ sp : Nat → Bool, (∀ x ∈ p, sp x.block = true) → DataW.TrodAll enc P W' 0 sp true f.params.toList args.toList (s.fn H (ds ++ [])).args p := fun sp hsp => by
    rw [f2, List.append_nil]
    exact trodAll_stays hl hh hr hA hlt hsp
  have hvs : ∀ sp : Nat → Bool, DataW.TrodVars enc P W' sp s.vars (s.fn H (ds ++ [])).vars [] := fun sp => by rw [hvars, f3]; rfl
  refine ⟨ds, [], p, [], p, [], hW', hres _ _ _, hargs _ (fun x hx => by simpa using hlt x hx), hvs _, hh.keptBut _, fun _ => ?_⟩
  refine ⟨?_, _, _, ([] ++ p) ++ [], ⟨[] ++ p, [], trodAll_append (hargs _ (fun _ _ => rfl)) (hres _ _ _), hvs _, rfl, ?_, ?_⟩, ?_⟩
  · exact ok_one (by rw [hrt]) rfl (okWide_bool_mk htb _)
  · intro b off hp
    have hp' : MemPlace.cell b off ∈ p := by simpa using hp
    have := hz b off hp'
    rw [World.frozen?, hh.same b (hlt _ hp')]
    exact this
  · intro ha; cases ha
  · intro x hx _
    simpa using hx
end
end Go.Abs
namespace Go.Abs
open Go Go.ChangeShapes Go.WideShapes Go.ChangeAt Go.RowKit Go.Deep
section
variable {H : Type} {enc : TypeId × Value → H} {P : Program} {W : World} {spare : Nat → Bool} {held : Bool}
theorem addr_add (b off k : Nat) : (⟨b, off, none⟩ : Addr).add k = ⟨b, off + k, none⟩ := by
  unfold Addr.add
  split
  · rename_i h; subst h; rfl
  · rfl
theorem spot_none {base : Nat} {t e : TypeId} {a : Addr} {len cap : Nat} (ht : P.underlying t = some (.slice e)) (hv : Value.okWide P W .any base t (.slice (some a) len cap)) : a.spot = none := by
  simp only [Value.okWide, ht, Cell.okWide, Cell.ok] at hv
  exact hv.2.2.2.1
end
end Go.Abs
namespace Go.Abs
open Go Go.ChangeShapes Go.WideShapes Go.ChangeAt Go.RowKit Go.Deep
section
variable {H : Type} {enc : TypeId × Value → H} {P : Program} {W : World} {spare : Nat → Bool} {held : Bool}
theorem open_bytes {base : Nat} {t e : TypeId} {v : Value} {d : DataW H} {p : List MemPlace} (ht : P.underlying t = some (.slice e)) (he : P.underlying e = some (.int .u8)) (hC : P.cellsOf e = 1)
    (hval : Value.okWide P W .any base t v) (h : DataW.Trod enc P W 0 spare held t v d p) : ∃ l : List UInt8, Rd (memOf W) (.slice (l.map encB)) v := by
  obtain ⟨a', len', cap', rfl⟩ := okWide_slice ht hval
  obtain ⟨fuel, hf⟩ := h
  rcases Go.ChangeShapes.open_ints ht he hC hf with ⟨hcs, _⟩ | ⟨a, len, cap, zs, hcs, _, hlc, _, hzl, _, hcell, hwf⟩
  · simp [Value.cells] at hcs
    obtain ⟨rfl, rfl, rfl⟩ := hcs
    exact ⟨[], .nils⟩
  · simp [Value.cells] at hcs
    obtain ⟨rfl, rfl, rfl⟩ := hcs
    have hsp := spot_none ht hval
    obtain ⟨b, off, sp⟩ := a
    cases hsp
    have hml : len' ≤ zs.length := by rw [hzl]; split <;> omega
    have hz : ∀ i, i < zs.length → ∃ u : UInt8, zs.getD i 0 = (u.toNat : Int) := fun i hi => by
      have hm : zs.getD i 0 ∈ zs := by simp [List.getD, hi]
      have := hwf _ hm
      have hr : 0 ≤ zs.getD i 0 ∧ zs.getD i 0 ≤ 255 := by simpa [Lit.wf, IntKind.min, IntKind.max, IntKind.bits, IntKind.signed] using this
      refine ⟨UInt8.ofNat (zs.getD i 0).toNat, ?_⟩
      rw [UInt8.toNat_ofNat']
      omega
    let g : Nat → UInt8 := fun i => if h : i < zs.length then Classical.choose (hz i h) else 0
    have hg : ∀ i, i < zs.length → zs.getD i 0 = ((g i).toNat : Int) := fun i hi => by
      have := Classical.choose_spec (hz i hi)
      simp only [g, hi, dif_pos]; exact this
    refine ⟨(List.range len').map g, ?_⟩
    have hlen : (((List.range len').map g).map encB).length = len' := by simp
    have := Rd.slice (M := memOf W) (((List.range len').map g).map encB) 1 b off cap' (fun i _ => .int .u8 (((g i).toNat : Nat) : Int))
      (fun x hx => by simp at hx; obtain ⟨i, _, rfl⟩ := hx; rfl) (fun i j hi hj => ?_) (fun i j hi hj => ?_) (by rw [hlen]; exact hlc)
    · rw [hlen] at this; exact this
    · rw [hlen] at hi
      have hj0 : j = 0 := by omega
      subst hj0
      have hc := hcell i (by omega)
      rw [addr_add] at hc
      rw [hg i (by omega)] at hc
      simpa [memOf] using hc
    · rw [hlen] at hi
      have hj0 : j = 0 := by omega
      subst hj0
      have hc : pcell (((List.range len').map g).map encB) i 0 = .int .u8 (((g i).toNat : Nat) : Int) := by simp [pcell, List.getD, hi, encB]
      rw [hc]
      exact .int _ _
end
end Go.Abs
namespace Go.Abs
open Go
theorem table_cell {H : Type} {enc : TypeId × Value → H} {P : Program} {w : World} {base : Nat} {spare : Nat → Bool} {held : Bool} {fuel : Nat} {t e : TypeId} {cs : List Value} {ps : List MemPlace} {n : Nat} {ds : List (List UInt8)}
    (ht : P.underlying t = some (.array n e)) (he : P.underlying e = some .string) (hC : P.cellsOf e = 1)
    (h : DataW.trod enc P w base spare held fuel t cs = some (.agg (ds.map fun s => .lit (.string s)), ps)) (i : Nat) (hi : i < ds.length) : cs[i]? = some (.string ⟨(ds.getD i []).toArray⟩) := by
  obtain ⟨xs, m, _, hx, _, hn, hel⟩ := DataW.trod_array ht h
  simp only [Prod.mk.injEq, DataW.agg.injEq] at hx
  have hlen : ds.length = xs.length := by have := congrArg List.length hx.1; simpa using this
  have h1 := hel i (by omega)
  rw [hC, List.getElem?_eq_getElem (by omega)] at h1
  obtain ⟨s, e1, e2, _⟩ := DataW.trod_string he h1
  have h2 : (ds.map fun s => (DataW.lit (.string s) : DataW H))[i]? = (xs.map (fun x => x.fst))[i]? := by rw [hx.1]
  rw [List.getElem?_map, List.getElem?_map, List.getElem?_eq_getElem hi, List.getElem?_eq_getElem (by omega : i < xs.length)] at h2
  simp only [Option.map_some, Option.some.injEq] at h2
  rw [e2] at h2
  simp only [DataW.lit.injEq, Lit.string.injEq] at h2
  have h3 : ds.getD i [] = s.data.toList := by simp [List.getD, hi, h2]
  rw [h3]
  have h4 : cs[i]? = some (.string s) := by
    have := congrArg (fun l => l[0]?) e1
    simpa using this
  rw [h4]
end Go.Abs
namespace Go.Abs
open Go
theorem table_int {H : Type} {enc : TypeId × Value → H} {P : Program} {w : World} {base : Nat} {spare : Nat → Bool} {held : Bool} {fuel : Nat} {t e : TypeId} {cs : List Value} {ps : List MemPlace} {n : Nat} {k : IntKind} {ds : List Int}
    (ht : P.underlying t = some (.array n e)) (he : P.underlying e = some (.int k)) (hC : P.cellsOf e = 1)
    (h : DataW.trod enc P w base spare held fuel t cs = some (.agg (ds.map fun s => .lit (.int k s)), ps)) (i : Nat) (hi : i < ds.length) : cs[i]? = some (.int k (ds.getD i 0)) := by
  obtain ⟨xs, m, _, hx, _, hn, hel⟩ := DataW.trod_array ht h
  simp only [Prod.mk.injEq, DataW.agg.injEq] at hx
  have hlen : ds.length = xs.length := by have := congrArg List.length hx.1; simpa using this
  have h1 := hel i (by omega)
  rw [hC, List.getElem?_eq_getElem (by omega)] at h1
  obtain ⟨s, e1, e2, _⟩ := DataW.trod_int he h1
  have h2 : (ds.map fun s => (DataW.lit (.int k s) : DataW H))[i]? = (xs.map (fun x => x.fst))[i]? := by rw [hx.1]
  rw [List.getElem?_map, List.getElem?_map, List.getElem?_eq_getElem hi, List.getElem?_eq_getElem (by omega : i < xs.length)] at h2
  simp only [Option.map_some, Option.some.injEq] at h2
  rw [e2] at h2
  simp only [DataW.lit.injEq, Lit.int.injEq] at h2
  have h3 : ds.getD i 0 = s := by simp [List.getD, hi, h2]
  rw [h3]
  have h4 : cs[i]? = some (.int k s) := by
    have := congrArg (fun l => l[0]?) e1
    simpa using this
  rw [h4]
theorem iface_cell {H : Type} {enc : TypeId × Value → H} {P : Program} {w : World} {base : Nat} {spare : Nat → Bool} {held : Bool} {fuel : Nat} {t : TypeId} {cs : List Value} {ps : List MemPlace} {ms : Array (String × TypeId)} {nm : String} {d : DataW H}
    (ht : P.underlying t = some (.interface ms)) (h : DataW.trod enc P w base spare held fuel t cs = some (.iface nm d, ps)) : ∃ u v, cs[0]? = some (.iface u v) := by
  cases fuel with
  | zero => simp [DataW.trod] at h
  | succ f =>
    unfold DataW.trod at h
    rw [ht] at h
    split at h <;> simp_all
theorem var_block {P : Program} {W : World} {name : String} {b : Nat} {cs : Array Value} (hg : P.globalNamed name = some b) (hv : W.var? P name = some cs) : ∃ T l, W.heap[b]? = some (.cells cs T l) := by
  unfold World.var? at hv
  rw [hg] at hv
  simp only [Option.bind_some] at hv
  split at hv
  · rename_i cs' T l h
    cases hv
    exact ⟨T, l, h⟩
  · cases hv
theorem table_size {H : Type} {enc : TypeId × Value → H} {P : Program} {w : World} {base : Nat} {spare : Nat → Bool} {held : Bool} {fuel : Nat} {t e : TypeId} {cs : Array Value} {x : DataW H × List MemPlace} {n m : Nat}
    (ht : P.underlying t = some (.array n e)) (hC : P.cellsOf t = m) (h : DataW.trod enc P w base spare held fuel t cs.toList = some x) : cs.size = m := by
  obtain ⟨_, _, _, _, hl, _⟩ := DataW.trod_array ht h
  simpa [hC] using hl
theorem iface_size {H : Type} {enc : TypeId × Value → H} {P : Program} {w : World} {base : Nat} {spare : Nat → Bool} {held : Bool} {fuel : Nat} {t : TypeId} {cs : Array Value} {ps : List MemPlace} {ms : Array (String × TypeId)} {nm : String} {d : DataW H}
    (ht : P.underlying t = some (.interface ms)) (h : DataW.trod enc P w base spare held fuel t cs.toList = some (.iface nm d, ps)) : cs.size = 1 := by
  rw [← Array.length_toList]
  generalize cs.toList = l at *
  cases fuel with
  | zero => simp [DataW.trod] at h
  | succ f =>
    unfold DataW.trod at h
    rw [ht] at h
    split at h <;> simp_all
end Go.Abs
