/- A region in whatever order its edges allow comes to what it comes to in the order of the text. No condition. -/
import Derived.Test.YtlgilgaiibdgoaaAbs14
set_option linter.unusedSimpArgs false
set_option linter.unusedVariables false
namespace Go.Abs
open Go

structure Rec where
  T : List Nat
  e : Eff

def appK (ops : Array Oper) (tr : Nat → Rec) (σ : St) (k : Nat) : St :=
  match ops[k]? with
  | some o => σ.app o.dst (tr k).e
  | none => σ

def runS (ops : Array Oper) (tr : Nat → Rec) (S : Nat → Bool) (σ : St) : Nat → St
  | 0 => σ
  | m + 1 => if S m then appK ops tr (runS ops tr S σ m) m else runS ops tr S σ m

def meets (x y : List Nat) : Bool := x.any fun i => y.contains i

def clash (ops : Array Oper) (oi oj : Oper) (ri rj : Rec) : Bool :=
  !(oi.apart ops oj) || (meets ri.T rj.T && !(ri.e.upd.isEmpty && rj.e.upd.isEmpty))

def anc (ops : Array Oper) (k : Nat) : List Nat :=
  let b := (Region.before ops).getD k 0
  (List.range k).filter fun j => b.testBit j

def regOK (ops : Array Oper) (A : Nat → List Nat) (tr : Nat → Rec) : Bool :=
  (List.range ops.size).all fun k => match ops[k]? with
    | none => false
    | some o =>
      (o.after.all fun e => !Region.binds .any e || decide (e.on < k)) &&
      ((tr k).e.upd.all fun q => (tr k).T.contains q.1) &&
      ((A k).all fun j => o.after.any fun e => Region.binds .any e && (e.on == j || (A e.on).contains j)) &&
      ((List.range k).all fun i => (A k).contains i || match ops[i]? with | some oi => !clash ops oi o (tr i) (tr k) | none => false)

section
variable {P : Program} {env : Env} {E : Ent} {σ : St} {ops : Array Oper} {tr : Nat → Rec} {A : Nat → List Nat}

theorem app_slots_length (σ : St) (d : Option Nat) (e : Eff) : (σ.app d e).slots.length = σ.slots.length := by cases d <;> simp [St.app]
theorem app_objs_length (σ : St) (d : Option Nat) (e : Eff) : (σ.app d e).objs.length = σ.objs.length := setAll_length e.upd σ.objs
theorem appK_slots_length (σ : St) (k : Nat) : (appK ops tr σ k).slots.length = σ.slots.length := by
  unfold appK; split
  · exact app_slots_length _ _ _
  · rfl
theorem appK_objs_length (σ : St) (k : Nat) : (appK ops tr σ k).objs.length = σ.objs.length := by
  unfold appK; split
  · exact app_objs_length _ _ _
  · rfl
theorem runS_slots_length (S : Nat → Bool) : ∀ m, (runS ops tr S σ m).slots.length = σ.slots.length
  | 0 => rfl
  | m + 1 => by
    simp only [runS]; split
    · rw [appK_slots_length]; exact runS_slots_length S m
    · exact runS_slots_length S m
theorem runS_objs_length (S : Nat → Bool) : ∀ m, (runS ops tr S σ m).objs.length = σ.objs.length
  | 0 => rfl
  | m + 1 => by
    simp only [runS]; split
    · rw [appK_objs_length]; exact runS_objs_length S m
    · exact runS_objs_length S m
theorem runS_congr {S S' : Nat → Bool} : ∀ m, (∀ k, k < m → S k = S' k) → runS ops tr S σ m = runS ops tr S' σ m
  | 0, _ => rfl
  | m + 1, h => by simp only [runS, h m (by omega), runS_congr m (fun k hk => h k (by omega))]

theorem app_slot (σ : St) (d : Option Nat) (e : Eff) (t : Nat) : (σ.app d e).slot t = if d = some t ∧ t < σ.slots.length then e.val else σ.slot t := by
  cases d with
  | none => simp [St.app, St.slot]
  | some d =>
    by_cases hd : d = t
    · subst hd
      by_cases hl : d < σ.slots.length
      · simp [St.app, St.slot, hl]
      · simp [St.app, St.slot, hl]
    · have : ¬ (some d = some t ∧ t < σ.slots.length) := fun h => hd (by simpa using h.1)
      rw [if_neg this]
      simp [St.app, St.slot, List.getElem?_set_ne hd]

theorem app_obj_other (σ : St) (d : Option Nat) (e : Eff) (id : Nat) (h : ∀ q, q ∈ e.upd → q.1 ≠ id) : (σ.app d e).obj id = σ.obj id := setAll_other e.upd σ.objs id h

/-- What an update leaves at one place depends on what was at that place alone. -/
theorem setAll_congr : ∀ (upd : List (Nat × AObj)) (l l' : List (Option AObj)) (id : Nat), l.length = l'.length → l.getD id none = l'.getD id none → (setAll l upd).getD id none = (setAll l' upd).getD id none
  | [], _, _, _, _, h => h
  | q :: r, l, l', id, hl, h => by
    simp only [setAll, List.foldl_cons]
    refine setAll_congr r _ _ id (by simp [hl]) ?_
    by_cases hq : q.1 = id
    · subst hq
      by_cases hlt : q.1 < l.length
      · simp [List.getD, hlt, (by omega : q.1 < l'.length)]
      · simp only [List.getD]
        rw [List.getElem?_eq_none (by simp; omega), List.getElem?_eq_none (by simp; omega)]
    · simp only [List.getD, List.getElem?_set_ne hq]; exact h

/-- Two updates of places that are apart. -/
theorem set_setAll : ∀ (upd : List (Nat × AObj)) (l : List (Option AObj)) (id : Nat) (x : Option AObj), (∀ q, q ∈ upd → q.1 ≠ id) → setAll (l.set id x) upd = (setAll l upd).set id x
  | [], _, _, _, _ => rfl
  | q :: r, l, id, x, h => by
    simp only [setAll, List.foldl_cons]
    have h1 : (l.set id x).set q.1 (some q.2) = (l.set q.1 (some q.2)).set id x := List.set_comm _ _ (fun e => h q (by simp) e.symm)
    rw [h1]
    exact set_setAll r (l.set q.1 (some q.2)) id x (fun p hp => h p (by simp [hp]))
theorem setAll_comm : ∀ (u v : List (Nat × AObj)) (l : List (Option AObj)), (∀ p, p ∈ u → ∀ q, q ∈ v → p.1 ≠ q.1) → setAll (setAll l u) v = setAll (setAll l v) u
  | [], _, _, _ => rfl
  | p :: u, v, l, h => by
    have e1 : setAll l (p :: u) = setAll (l.set p.1 (some p.2)) u := rfl
    have e2 : setAll (setAll l v) (p :: u) = setAll ((setAll l v).set p.1 (some p.2)) u := rfl
    rw [e1, e2, setAll_comm u v _ (fun a ha b hb => h a (by simp [ha]) b hb), set_setAll v l p.1 _ (fun q hq e => h p (by simp) q hq e.symm)]

theorem apart_dst {x y : Oper} (h : x.apart ops y = true) : ∀ d, x.dst = some d → y.dst ≠ some d := (Oper.apart_spec h).2.1

theorem app_comm {oi oj : Oper} {ei ej : Eff} (hd : ∀ d, oi.dst = some d → oj.dst ≠ some d) (hu : ∀ p, p ∈ ei.upd → ∀ q, q ∈ ej.upd → p.1 ≠ q.1) (σ : St) :
    (σ.app oi.dst ei).app oj.dst ej = (σ.app oj.dst ej).app oi.dst ei := by
  have h1 : setAll (setAll σ.objs ei.upd) ej.upd = setAll (setAll σ.objs ej.upd) ei.upd := setAll_comm _ _ _ hu
  unfold St.app
  congr 1
  cases hi : oi.dst with
  | none => cases oj.dst <;> rfl
  | some d =>
    cases hj : oj.dst with
    | none => rfl
    | some d' =>
      have : d ≠ d' := fun e => hd d hi (by rw [hj, e])
      exact List.set_comm _ _ this

/-- Nothing is between i and k: neither looks at, or writes, what the other writes. -/
structure Free (ops : Array Oper) (tr : Nat → Rec) (i k : Nat) : Prop where
  slot1 : ∀ oi ok d, ops[i]? = some oi → ops[k]? = some ok → oi.dst = some d → d ∉ ok.looksAt ops ∧ ok.dst ≠ some d
  slot2 : ∀ oi ok d, ops[i]? = some oi → ops[k]? = some ok → ok.dst = some d → d ∉ oi.looksAt ops ∧ oi.dst ≠ some d
  obj1 : ∀ q, q ∈ (tr i).e.upd → q.1 ∉ (tr k).T
  obj2 : ∀ q, q ∈ (tr k).e.upd → q.1 ∉ (tr i).T
  upd : ∀ p, p ∈ (tr i).e.upd → ∀ q, q ∈ (tr k).e.upd → p.1 ≠ q.1

theorem Free.symm {i k : Nat} (h : Free ops tr i k) : Free ops tr k i :=
  ⟨fun oi ok d h1 h2 h3 => h.slot2 ok oi d h2 h1 h3, fun oi ok d h1 h2 h3 => h.slot1 ok oi d h2 h1 h3, h.obj2, h.obj1, fun p hp q hq e => h.upd q hq p hp e.symm⟩

theorem free_of_ok (hok : regOK ops A tr = true) {i k : Nat} (hik : i < k) (hk : k < ops.size) (hA : i ∉ A k) : Free ops tr i k := by
  have hall := List.all_eq_true.1 hok
  have hsub : ∀ m, m < ops.size → ∀ q, q ∈ (tr m).e.upd → q.1 ∈ (tr m).T := fun m hm q hq => by
    have h1 := hall m (List.mem_range.2 hm)
    rw [Array.getElem?_eq_getElem hm] at h1
    simp only [Bool.and_eq_true] at h1
    have := List.all_eq_true.1 h1.1.1.2 q hq
    simpa using this
  have h1 := hall k (List.mem_range.2 hk)
  rw [Array.getElem?_eq_getElem hk] at h1
  simp only [Bool.and_eq_true] at h1
  have h2 := List.all_eq_true.1 h1.2 i (List.mem_range.2 hik)
  have hi : i < ops.size := by omega
  rw [Array.getElem?_eq_getElem hi] at h2
  have h3 : (A k).contains i = false := by simpa using hA
  rw [h3] at h2
  simp only [Bool.false_or, Bool.not_eq_true', clash, Bool.or_eq_false_iff, Bool.not_eq_false'] at h2
  obtain ⟨hap, hmeet⟩ := h2
  obtain ⟨a1, a2, a3⟩ := Oper.apart_spec hap
  have hno : ∀ id, id ∈ (tr i).T → id ∈ (tr k).T → (tr i).e.upd = [] ∧ (tr k).e.upd = [] := fun id h4 h5 => by
    have hm : meets (tr i).T (tr k).T = true := List.any_eq_true.2 ⟨id, h4, by simpa using h5⟩
    rw [hm] at hmeet
    simp at hmeet
    exact hmeet
  refine ⟨fun oi ok d e1 e2 e3 => ?_, fun oi ok d e1 e2 e3 => ?_, fun q hq hT => ?_, fun q hq hT => ?_, fun p hp q hq e => ?_⟩
  · rw [Array.getElem?_eq_getElem hi] at e1; cases e1
    rw [Array.getElem?_eq_getElem hk] at e2; cases e2
    exact ⟨a1 d e3, a2 d e3⟩
  · rw [Array.getElem?_eq_getElem hi] at e1; cases e1
    rw [Array.getElem?_eq_getElem hk] at e2; cases e2
    exact ⟨a3 d e3, fun h => a2 d h e3⟩
  · have := (hno q.1 (hsub i hi q hq) hT).1; rw [this] at hq; cases hq
  · have := (hno q.1 hT (hsub k hk q hq)).2; rw [this] at hq; cases hq
  · have := (hno p.1 (hsub i hi p hp) (e ▸ hsub k hk q hq)).1; rw [this] at hp; cases hp

theorem appK_comm {i k : Nat} (h : Free ops tr i k) (σ : St) : appK ops tr (appK ops tr σ i) k = appK ops tr (appK ops tr σ k) i := by
  unfold appK
  cases hi : ops[i]? with
  | none => rfl
  | some oi =>
    cases hk : ops[k]? with
    | none => rfl
    | some ok => exact app_comm (fun d hd => (h.slot1 oi ok d hi hk hd).2) h.upd σ

/-- One more operation, taken late, is as if it had been taken in its place. -/
theorem appK_insert {S : Nat → Bool} {k : Nat} (hk : S k = false) : ∀ m, k < m → (∀ j, k < j → j < m → S j = true → Free ops tr k j) →
    appK ops tr (runS ops tr S σ m) k = runS ops tr (fun j => j == k || S j) σ m
  | 0, h, _ => by omega
  | m + 1, h, hf => by
    by_cases hm : k = m
    · subst hm
      simp only [runS, hk, Bool.false_eq_true, if_false, beq_self_eq_true, Bool.true_or, if_true]
      rw [runS_congr (S' := fun j => j == k || S j) k (fun j hj => by simp [Nat.ne_of_lt hj])]
    · have ih := appK_insert hk m (by omega) (fun j h1 h2 h3 => hf j h1 (by omega) h3)
      have hne : (m == k) = false := by simp; omega
      simp only [runS, hne, Bool.false_or]
      split
      · rename_i hSm
        rw [← ih, appK_comm (hf m (by omega) (by omega) hSm).symm]
      · exact ih

/-- What an operation looks at is the same, whatever is left out or ahead that is not bound to it. -/
theorem runS_slot {S : Nat → Bool} {t : Nat} : ∀ m, (∀ j oj, j < m → S j = false → ops[j]? = some oj → oj.dst ≠ some t) →
    (runS ops tr S σ m).slot t = (runS ops tr (fun _ => true) σ m).slot t
  | 0, _ => rfl
  | m + 1, h => by
    have ih := runS_slot m (fun j oj hj => h j oj (by omega))
    simp only [runS, if_true]
    cases hm : ops[m]? with
    | none => unfold appK; simp only [hm]; split <;> exact ih
    | some o =>
      split
      · simp only [appK, hm, app_slot, runS_slots_length, ih]
      · rename_i hS
        simp only [appK, hm, app_slot]
        rw [if_neg (fun hc => h m o (by omega) (by simpa using hS) hm hc.1)]
        exact ih
theorem runS_slot_late {S : Nat → Bool} {t k : Nat} : ∀ m, k ≤ m → (∀ j oj, k ≤ j → j < m → S j = true → ops[j]? = some oj → oj.dst ≠ some t) →
    (runS ops tr S σ m).slot t = (runS ops tr S σ k).slot t
  | 0, hk, _ => by have : k = 0 := by omega
                   subst this; rfl
  | m + 1, hk, h => by
    by_cases hkm : k = m + 1
    · subst hkm; rfl
    · have ih := runS_slot_late m (by omega) (fun j oj h1 h2 => h j oj h1 (by omega))
      simp only [runS]
      split
      · rename_i hS
        unfold appK
        cases hm : ops[m]? with
        | none => exact ih
        | some o =>
          simp only [app_slot]
          rw [if_neg (fun hc => h m o (by omega) (by omega) hS hm hc.1)]
          exact ih
      · exact ih
theorem runS_obj {S : Nat → Bool} {id : Nat} : ∀ m, (∀ j, j < m → S j = false → ∀ q, q ∈ (tr j).e.upd → q.1 ≠ id) →
    (runS ops tr S σ m).obj id = (runS ops tr (fun _ => true) σ m).obj id
  | 0, _ => rfl
  | m + 1, h => by
    have ih := runS_obj m (fun j hj => h j (by omega))
    simp only [runS, if_true]
    unfold appK
    cases hm : ops[m]? with
    | none => simp only []; split <;> exact ih
    | some o =>
      split
      · exact setAll_congr (tr m).e.upd _ _ id (by rw [runS_objs_length, runS_objs_length]) ih
      · rename_i hS
        simp only []
        rw [app_obj_other _ _ _ _ (h m (by omega) (by simpa using hS))]
        exact ih
theorem runS_obj_late {S : Nat → Bool} {id k : Nat} : ∀ m, k ≤ m → (∀ j, k ≤ j → j < m → S j = true → ∀ q, q ∈ (tr j).e.upd → q.1 ≠ id) →
    (runS ops tr S σ m).obj id = (runS ops tr S σ k).obj id
  | 0, hk, _ => by have : k = 0 := by omega
                   subst this; rfl
  | m + 1, hk, h => by
    by_cases hkm : k = m + 1
    · subst hkm; rfl
    · have ih := runS_obj_late m (by omega) (fun j h1 h2 => h j h1 (by omega))
      simp only [runS]
      split
      · rename_i hS
        unfold appK
        cases hm : ops[m]? with
        | none => exact ih
        | some o =>
          simp only []
          rw [app_obj_other _ _ _ _ (h m (by omega) (by omega) hS)]
          exact ih
      · exact ih

/-- The trace of a region in the order of the text. -/
def Traced (P : Program) (env : Env) (ops : Array Oper) (σ : St) (tr : Nat → Rec) : Prop :=
  ∀ k o, ops[k]? = some o → GStep P env ops o (runS ops tr (fun _ => true) σ k) (tr k).T (tr k).e

theorem anc_listed (hok : regOK ops A tr = true) {S : Nat → Bool} (hcl : ∀ k o, ops[k]? = some o → S k = true → ∀ e, e ∈ o.after → Region.binds .any e = true → S e.on = true) :
    ∀ n k o, k < n → ops[k]? = some o → (∀ e, e ∈ o.after → Region.binds .any e = true → S e.on = true) → ∀ j, j ∈ A k → S j = true
  | 0, k, _, h, _, _, _, _ => by omega
  | n + 1, k, o, hk, ho, hpre, j, hj => by
    have hks : k < ops.size := (Array.getElem?_eq_some_iff.1 ho).1
    have h1 := List.all_eq_true.1 hok k (List.mem_range.2 hks)
    rw [ho] at h1
    simp only [Bool.and_eq_true] at h1
    have h2 := List.all_eq_true.1 h1.1.2 j hj
    obtain ⟨e, he, hb⟩ := Array.any_eq_true'.1 h2
    simp only [Bool.and_eq_true, Bool.or_eq_true, beq_iff_eq] at hb
    obtain ⟨hb1, hb2⟩ := hb
    rcases hb2 with rfl | hb2
    · exact hpre e he hb1
    · have hSe := hpre e he hb1
      have hlt : e.on < k := by
        have := Array.all_eq_true_iff_forall_mem.1 h1.1.1.1 e he
        simpa [hb1] using this
      have hes : e.on < ops.size := by omega
      exact anc_listed hok hcl n e.on ops[e.on] (by omega) (Array.getElem?_eq_getElem hes) (fun e' he' hb' => hcl e.on _ (Array.getElem?_eq_getElem hes) hSe e' he' hb') j (by simpa using hb2)

theorem region_any (hE : EnvOK P env) (hok : regOK ops A tr = true) (htr : Traced P env ops σ tr) (hlen : σ.objs.length = env.nobj) {Q : Exit → Act → World → Prop}
    {g0 : Gh} {M0 : Mem} (hG : GOK env M0)
    (hQ : ∀ g M a w, Rel E (runS ops tr (fun _ => true) σ ops.size) g M a w → (∀ id, σ.dom id → g0.agree g id) → Mem.le M0 M → Q .normal a w) :
    ∀ (fuel : Nat) (listed : Array Bool) (g : Gh) (M : Mem) (a : Act) (w : World), listed.size = ops.size →
      (∀ k o, ops[k]? = some o → listed.getD k true = true → ∀ e, e ∈ o.after → Region.binds .any e = true → listed.getD e.on true = true) →
      ((List.range ops.size).filter fun k => !listed.getD k true).length ≤ fuel →
      Rel E (runS ops tr (fun k => listed.getD k true) σ ops.size) g M a w → (∀ id, σ.dom id → g0.agree g id) → Mem.le M0 M → wpAny P .any ops Q fuel listed a w := by
  have hedge : ∀ k o, ops[k]? = some o → ∀ e, e ∈ o.after → Region.binds .any e = true → e.on < k := fun k o ho e he hb => by
    have hks : k < ops.size := (Array.getElem?_eq_some_iff.1 ho).1
    have h1 := List.all_eq_true.1 hok k (List.mem_range.2 hks)
    rw [ho] at h1
    simp only [Bool.and_eq_true] at h1
    have := Array.all_eq_true_iff_forall_mem.1 h1.1.1.1 e he
    simpa [hb] using this
  -- nothing is ready: all are listed
  have hall : ∀ listed : Array Bool, listed.size = ops.size → Region.ready .any ops listed = [] → ∀ k, k < ops.size → listed.getD k true = true := by
    intro listed hls hr k
    induction k using Nat.strongRecOn with
    | _ k ih =>
      intro hk
      cases hc : listed.getD k true with
      | true => rfl
      | false =>
        exfalso
        have : k ∈ Region.ready .any ops listed := mem_ready.2 ⟨hc, ops[k], Array.getElem?_eq_getElem hk, fun e he hb => by
          have hlt := hedge k _ (Array.getElem?_eq_getElem hk) e he hb
          have h1 := ih e.on hlt (by omega)
          have h2 : e.on < listed.size := by omega
          rw [Array.getD_eq_getD_getElem?, Array.getElem?_eq_getElem h2] at h1 ⊢
          exact h1⟩
        rw [hr] at this
        cases this
  have hdone : ∀ (listed : Array Bool) g M a w, listed.size = ops.size → Region.ready .any ops listed = [] → Rel E (runS ops tr (fun k => listed.getD k true) σ ops.size) g M a w →
      (∀ id, σ.dom id → g0.agree g id) → Mem.le M0 M → Q .normal a w := fun listed g M a w hls hr hR hag hM => by
    rw [runS_congr (S' := fun _ => true) ops.size (fun k hk => hall listed hls hr k hk)] at hR
    exact hQ g M a w hR hag hM
  intro fuel
  induction fuel with
  | zero =>
    intro listed g M a w hls hcl hcnt hR hag hM
    have hr : Region.ready .any ops listed = [] := by
      cases hr : Region.ready .any ops listed with
      | nil => rfl
      | cons i r =>
        exfalso
        have hi : i ∈ Region.ready .any ops listed := by rw [hr]; simp
        obtain ⟨h0, o, ho, _⟩ := mem_ready.1 hi
        have : i ∈ (List.range ops.size).filter fun k => !listed.getD k true := List.mem_filter.2 ⟨List.mem_range.2 (Array.getElem?_eq_some_iff.1 ho).1, by rw [h0]; rfl⟩
        have hn := List.length_pos_of_mem this
        omega
    exact ⟨hr, hdone listed g M a w hls hr hR hag hM⟩
  | succ fuel ih =>
    intro listed g M a w hls hcl hcnt hR hag hM
    refine ⟨fun hr => hdone listed g M a w hls hr hR hag hM, fun k hk => ?_⟩
    obtain ⟨h0, o, ho, hpre⟩ := mem_ready.1 hk
    have hks : k < ops.size := (Array.getElem?_eq_some_iff.1 ho).1
    have hpre' : ∀ e, e ∈ o.after → Region.binds .any e = true → listed.getD e.on true = true := fun e he hb => by
      have h1 := hpre e he hb
      have h2 : e.on < listed.size := by have := hedge k o ho e he hb; omega
      rw [Array.getD_eq_getD_getElem?, Array.getElem?_eq_getElem h2] at h1 ⊢
      exact h1
    have hanc : ∀ j, j ∈ A k → listed.getD j true = true := anc_listed hok (S := fun k => listed.getD k true) hcl (k + 1) k o (by omega) ho hpre'
    -- what is left out ahead of k, and what was taken behind it, is free of k
    have hfree1 : ∀ j, j < k → listed.getD j true = false → Free ops tr j k := fun j hj hS => free_of_ok hok hj hks (fun hA => by rw [hanc j hA] at hS; cases hS)
    have hfree2 : ∀ j, k < j → j < ops.size → listed.getD j true = true → Free ops tr k j := fun j hj hjs hS => free_of_ok hok hj hjs (fun hA => by
      have := anc_listed hok (S := fun k => listed.getD k true) hcl (j + 1) j ops[j] (by omega) (Array.getElem?_eq_getElem hjs) (fun e he hb => hcl j _ (Array.getElem?_eq_getElem hjs) hS e he hb) k hA
      rw [h0] at this; cases this)
    have hstep := (htr k o ho).local (σ' := runS ops tr (fun k => listed.getD k true) σ ops.size) (fun t ht => by
        rw [runS_slot_late (k := k) ops.size (by omega) (fun j oj h1 h2 hS hoj hd => by
          by_cases hjk : j = k
          · subst hjk; rw [h0] at hS; cases hS
          · exact ((hfree2 j (by omega) h2 hS).slot2 o oj t ho hoj hd).1 ht)]
        exact (runS_slot k (fun j oj hj hS hoj hd => ((hfree1 j hj hS).slot1 oj o t hoj ho hd).1 ht)).symm) (fun id hid => by
        rw [runS_obj_late (k := k) ops.size (by omega) (fun j h1 h2 hS q hq e => by
          by_cases hjk : j = k
          · subst hjk; rw [h0] at hS; cases hS
          · exact (hfree2 j (by omega) h2 hS).obj2 q hq (e ▸ hid))]
        exact (runS_obj k (fun j hj hS q hq e => (hfree1 j hj hS).obj1 q hq (e ▸ hid))).symm)
    have hins := appK_insert (σ := σ) (S := fun j => listed.getD j true) h0 ops.size hks (fun j h1 h2 h3 => hfree2 j h1 h2 h3)
    have hlisted : ∀ j, (listed.setIfInBounds k true).getD j true = (j == k || listed.getD j true) := fun j => by
      by_cases hjk : j = k
      · subst hjk
        have : j < listed.size := by omega
        simp [this]
      · rw [getD_set_ne true (fun e => hjk e.symm)]
        have : (j == k) = false := by simpa using hjk
        rw [this]; rfl
    refine hstep.wp ho hR (hG.mono hM) hE (by rw [runS_objs_length]; exact hlen) (fun v w' g' M' hR' hag' hM' => ?_)
    have hdomS : ∀ id, σ.dom id → (runS ops tr (fun k => listed.getD k true) σ ops.size).dom id := by
      intro id hd
      have key : ∀ m, (runS ops tr (fun k => listed.getD k true) σ m).dom id := by
        intro m
        induction m with
        | zero => exact hd
        | succ m ihm =>
          simp only [runS]
          split
          · unfold appK
            split
            · rename_i o' _
              have : ∀ (u : List (Nat × AObj)) (l : List (Option AObj)), l.getD id none ≠ none → (setAll l u).getD id none ≠ none := by
                intro u
                induction u with
                | nil => intro l h; exact h
                | cons q r ihr =>
                  intro l h
                  refine ihr _ ?_
                  by_cases hq : q.1 = id
                  · subst hq
                    have hlt : q.1 < l.length := by
                      rcases Nat.lt_or_ge q.1 l.length with h' | h'
                      · exact h'
                      · exfalso; apply h; simp [List.getElem?_eq_none h']
                    simp [List.getD, hlt]
                  · simp only [List.getD, List.getElem?_set_ne hq]; exact h
              exact this _ _ ihm
            · exact ihm
          · exact ihm
      exact key _
    refine ih (listed.setIfInBounds k true) g' M' _ w' (by simpa using hls) ?_ ?_ ?_ ?_ (fun b i u hu => hM' b i u (hM b i u hu))
    · intro j oj hoj hS e he hb
      rw [hlisted] at hS ⊢
      simp only [Bool.or_eq_true, beq_iff_eq] at hS ⊢
      rcases hS with rfl | hS
      · rw [ho] at hoj; cases hoj
        exact .inr (hpre' e he hb)
      · exact .inr (hcl j oj hoj hS e he hb)
    · have hsub : ((List.range ops.size).filter fun j => !(listed.setIfInBounds k true).getD j true) = ((List.range ops.size).filter fun j => !listed.getD j true).filter fun j => !(j == k) := by
        rw [List.filter_filter]
        apply List.filter_congr
        intro j _
        rw [hlisted]; simp [Bool.not_or]
      rw [hsub]
      have hmem : k ∈ (List.range ops.size).filter fun j => !listed.getD j true := List.mem_filter.2 ⟨List.mem_range.2 hks, by rw [h0]; rfl⟩
      have hlt : (((List.range ops.size).filter fun j => !listed.getD j true).filter fun j => !(j == k)).length < ((List.range ops.size).filter fun j => !listed.getD j true).length := by
        apply List.length_filter_lt_length_iff_exists.2
        exact ⟨k, hmem, by simp⟩
      omega
    · have hR2 : Rel E (appK ops tr (runS ops tr (fun k => listed.getD k true) σ ops.size) k) g' M' (a.put o.dst v) w' := by
        have e1 : appK ops tr (runS ops tr (fun k => listed.getD k true) σ ops.size) k = (runS ops tr (fun k => listed.getD k true) σ ops.size).app o.dst (tr k).e := by
          simp only [appK, ho]
        rw [e1]; exact hR'
      rw [hins] at hR2
      rw [runS_congr (S' := fun j => j == k || listed.getD j true) ops.size (fun j _ => hlisted j)]
      exact hR2
    · intro id hd
      obtain ⟨h1, h2, h3⟩ := hag id hd
      obtain ⟨h4, h5, h6⟩ := hag' id (hdomS id hd)
      exact ⟨h4.trans h1, h5.trans h2, h6.trans h3⟩
end
end Go.Abs
