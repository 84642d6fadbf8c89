/- A sound walk of the program by abstract states, part 2: its theorems have no condition beyond what they state. -/
import Derived.Test.YtfldnpkacelniaaDoorLib1
import Derived.IntWalk
import Derived.Scope
import Derived.Below
set_option linter.unusedSimpArgs false
set_option linter.unusedVariables false
set_option linter.defProp false
namespace Go.Abs
open Go

structure Rec where
  T : List Nat
  e : Eff

def appK (ops : Array Oper) (tr : Nat → Rec) (σ : St) (k : Nat) : St :=
  match ops[k]? with
  | some o => σ.app o.dst (tr k).e
  | none => σ

def runS (ops : Array Oper) (tr : Nat → Rec) (S : Nat → Bool) (σ : St) : Nat → St
  | 0 => σ
  | m + 1 => if S m then appK ops tr (runS ops tr S σ m) m else runS ops tr S σ m

def meets (x y : List Nat) : Bool := x.any fun i => y.contains i

def clash (ops : Array Oper) (oi oj : Oper) (ri rj : Rec) : Bool :=
  !(oi.apart ops oj) || (meets ri.T rj.T && !(ri.e.upd.isEmpty && rj.e.upd.isEmpty))

def anc (ops : Array Oper) (k : Nat) : List Nat :=
  let b := (Region.before ops).getD k 0
  (List.range k).filter fun j => b.testBit j

def regOK (ops : Array Oper) (A : Nat → List Nat) (tr : Nat → Rec) : Bool :=
  (List.range ops.size).all fun k => match ops[k]? with
    | none => false
    | some o =>
      (o.after.all fun e => !Region.binds .any e || decide (e.on < k)) &&
      ((tr k).e.upd.all fun q => (tr k).T.contains q.1) &&
      ((A k).all fun j => o.after.any fun e => Region.binds .any e && (e.on == j || (A e.on).contains j)) &&
      ((List.range k).all fun i => (A k).contains i || match ops[i]? with | some oi => !clash ops oi o (tr i) (tr k) | none => false)

section
variable {P : Program} {env : Env} {E : Ent} {σ : St} {ops : Array Oper} {tr : Nat → Rec} {A : Nat → List Nat}

theorem app_slots_length (σ : St) (d : Option Nat) (e : Eff) : (σ.app d e).slots.length = σ.slots.length := by cases d <;> simp [St.app]
theorem app_objs_length (σ : St) (d : Option Nat) (e : Eff) : (σ.app d e).objs.length = σ.objs.length := setAll_length e.upd σ.objs
theorem appK_slots_length (σ : St) (k : Nat) : (appK ops tr σ k).slots.length = σ.slots.length := by
  unfold appK; split
  · exact app_slots_length _ _ _
  · rfl
theorem appK_objs_length (σ : St) (k : Nat) : (appK ops tr σ k).objs.length = σ.objs.length := by
  unfold appK; split
  · exact app_objs_length _ _ _
  · rfl
theorem runS_slots_length (S : Nat → Bool) : ∀ m, (runS ops tr S σ m).slots.length = σ.slots.length
  | 0 => rfl
  | m + 1 => by
    simp only [runS]; split
    · rw [appK_slots_length]; exact runS_slots_length S m
    · exact runS_slots_length S m
theorem runS_objs_length (S : Nat → Bool) : ∀ m, (runS ops tr S σ m).objs.length = σ.objs.length
  | 0 => rfl
  | m + 1 => by
    simp only [runS]; split
    · rw [appK_objs_length]; exact runS_objs_length S m
    · exact runS_objs_length S m
theorem runS_congr {S S' : Nat → Bool} : ∀ m, (∀ k, k < m → S k = S' k) → runS ops tr S σ m = runS ops tr S' σ m
  | 0, _ => rfl
  | m + 1, h => by simp only [runS, h m (by omega), runS_congr m (fun k hk => h k (by omega))]

theorem app_slot (σ : St) (d : Option Nat) (e : Eff) (t : Nat) : (σ.app d e).slot t = if d = some t ∧ t < σ.slots.length then e.val else σ.slot t := by
  cases d with
  | none => simp [St.app, St.slot]
  | some d =>
    by_cases hd : d = t
    · subst hd
      by_cases hl : d < σ.slots.length
      · simp [St.app, St.slot, hl]
      · simp [St.app, St.slot, hl]
    · have : ¬ (some d = some t ∧ t < σ.slots.length) := fun h => hd (by simpa using h.1)
      rw [if_neg this]
      simp [St.app, St.slot, List.getElem?_set_ne hd]

theorem app_obj_other (σ : St) (d : Option Nat) (e : Eff) (id : Nat) (h : ∀ q, q ∈ e.upd → q.1 ≠ id) : (σ.app d e).obj id = σ.obj id := setAll_other e.upd σ.objs id h

theorem setAll_congr : ∀ (upd : List (Nat × AObj)) (l l' : List (Option AObj)) (id : Nat), l.length = l'.length → l.getD id none = l'.getD id none → (setAll l upd).getD id none = (setAll l' upd).getD id none
  | [], _, _, _, _, h => h
  | q :: r, l, l', id, hl, h => by
    simp only [setAll, List.foldl_cons]
    refine setAll_congr r _ _ id (by simp [hl]) ?_
    by_cases hq : q.1 = id
    · subst hq
      by_cases hlt : q.1 < l.length
      · simp [List.getD, hlt, (by omega : q.1 < l'.length)]
      · simp only [List.getD]
        rw [List.getElem?_eq_none (by simp; omega), List.getElem?_eq_none (by simp; omega)]
    · simp only [List.getD, List.getElem?_set_ne hq]; exact h

theorem set_setAll : ∀ (upd : List (Nat × AObj)) (l : List (Option AObj)) (id : Nat) (x : Option AObj), (∀ q, q ∈ upd → q.1 ≠ id) → setAll (l.set id x) upd = (setAll l upd).set id x
  | [], _, _, _, _ => rfl
  | q :: r, l, id, x, h => by
    simp only [setAll, List.foldl_cons]
    have h1 : (l.set id x).set q.1 (some q.2) = (l.set q.1 (some q.2)).set id x := List.set_comm _ _ (fun e => h q (by simp) e.symm)
    rw [h1]
    exact set_setAll r (l.set q.1 (some q.2)) id x (fun p hp => h p (by simp [hp]))
theorem setAll_comm : ∀ (u v : List (Nat × AObj)) (l : List (Option AObj)), (∀ p, p ∈ u → ∀ q, q ∈ v → p.1 ≠ q.1) → setAll (setAll l u) v = setAll (setAll l v) u
  | [], _, _, _ => rfl
  | p :: u, v, l, h => by
    have e1 : setAll l (p :: u) = setAll (l.set p.1 (some p.2)) u := rfl
    have e2 : setAll (setAll l v) (p :: u) = setAll ((setAll l v).set p.1 (some p.2)) u := rfl
    rw [e1, e2, setAll_comm u v _ (fun a ha b hb => h a (by simp [ha]) b hb), set_setAll v l p.1 _ (fun q hq e => h p (by simp) q hq e.symm)]

theorem apart_dst {x y : Oper} (h : x.apart ops y = true) : ∀ d, x.dst = some d → y.dst ≠ some d := (Oper.apart_spec h).2.1

theorem app_comm {oi oj : Oper} {ei ej : Eff} (hd : ∀ d, oi.dst = some d → oj.dst ≠ some d) (hu : ∀ p, p ∈ ei.upd → ∀ q, q ∈ ej.upd → p.1 ≠ q.1) (σ : St) :
    (σ.app oi.dst ei).app oj.dst ej = (σ.app oj.dst ej).app oi.dst ei := by
  have h1 : setAll (setAll σ.objs ei.upd) ej.upd = setAll (setAll σ.objs ej.upd) ei.upd := setAll_comm _ _ _ hu
  unfold St.app
  congr 1
  cases hi : oi.dst with
  | none => cases oj.dst <;> rfl
  | some d =>
    cases hj : oj.dst with
    | none => rfl
    | some d' =>
      have : d ≠ d' := fun e => hd d hi (by rw [hj, e])
      exact List.set_comm _ _ this

structure Free (ops : Array Oper) (tr : Nat → Rec) (i k : Nat) : Prop where
  slot1 : ∀ oi ok d, ops[i]? = some oi → ops[k]? = some ok → oi.dst = some d → d ∉ ok.looksAt ops ∧ ok.dst ≠ some d
  slot2 : ∀ oi ok d, ops[i]? = some oi → ops[k]? = some ok → ok.dst = some d → d ∉ oi.looksAt ops ∧ oi.dst ≠ some d
  obj1 : ∀ q, q ∈ (tr i).e.upd → q.1 ∉ (tr k).T
  obj2 : ∀ q, q ∈ (tr k).e.upd → q.1 ∉ (tr i).T
  upd : ∀ p, p ∈ (tr i).e.upd → ∀ q, q ∈ (tr k).e.upd → p.1 ≠ q.1

theorem Free.symm {i k : Nat} (h : Free ops tr i k) : Free ops tr k i :=
  ⟨fun oi ok d h1 h2 h3 => h.slot2 ok oi d h2 h1 h3, fun oi ok d h1 h2 h3 => h.slot1 ok oi d h2 h1 h3, h.obj2, h.obj1, fun p hp q hq e => h.upd q hq p hp e.symm⟩

theorem free_of_ok (hok : regOK ops A tr = true) {i k : Nat} (hik : i < k) (hk : k < ops.size) (hA : i ∉ A k) : Free ops tr i k := by
  have hall := List.all_eq_true.1 hok
  have hsub : ∀ m, m < ops.size → ∀ q, q ∈ (tr m).e.upd → q.1 ∈ (tr m).T := fun m hm q hq => by
    have h1 := hall m (List.mem_range.2 hm)
    rw [Array.getElem?_eq_getElem hm] at h1
    simp only [Bool.and_eq_true] at h1
    have := List.all_eq_true.1 h1.1.1.2 q hq
    simpa using this
  have h1 := hall k (List.mem_range.2 hk)
  rw [Array.getElem?_eq_getElem hk] at h1
  simp only [Bool.and_eq_true] at h1
  have h2 := List.all_eq_true.1 h1.2 i (List.mem_range.2 hik)
  have hi : i < ops.size := by omega
  rw [Array.getElem?_eq_getElem hi] at h2
  have h3 : (A k).contains i = false := by simpa using hA
  rw [h3] at h2
  simp only [Bool.false_or, Bool.not_eq_true', clash, Bool.or_eq_false_iff, Bool.not_eq_false'] at h2
  obtain ⟨hap, hmeet⟩ := h2
  obtain ⟨a1, a2, a3⟩ := Oper.apart_spec hap
  have hno : ∀ id, id ∈ (tr i).T → id ∈ (tr k).T → (tr i).e.upd = [] ∧ (tr k).e.upd = [] := fun id h4 h5 => by
    have hm : meets (tr i).T (tr k).T = true := List.any_eq_true.2 ⟨id, h4, by simpa using h5⟩
    rw [hm] at hmeet
    simp at hmeet
    exact hmeet
  refine ⟨fun oi ok d e1 e2 e3 => ?_, fun oi ok d e1 e2 e3 => ?_, fun q hq hT => ?_, fun q hq hT => ?_, fun p hp q hq e => ?_⟩
  · rw [Array.getElem?_eq_getElem hi] at e1; cases e1
    rw [Array.getElem?_eq_getElem hk] at e2; cases e2
    exact ⟨a1 d e3, a2 d e3⟩
  · rw [Array.getElem?_eq_getElem hi] at e1; cases e1
    rw [Array.getElem?_eq_getElem hk] at e2; cases e2
    exact ⟨a3 d e3, fun h => a2 d h e3⟩
  · have := (hno q.1 (hsub i hi q hq) hT).1; rw [this] at hq; cases hq
  · have := (hno q.1 hT (hsub k hk q hq)).2; rw [this] at hq; cases hq
  · have := (hno p.1 (hsub i hi p hp) (e ▸ hsub k hk q hq)).1; rw [this] at hp; cases hp

theorem appK_comm {i k : Nat} (h : Free ops tr i k) (σ : St) : appK ops tr (appK ops tr σ i) k = appK ops tr (appK ops tr σ k) i := by
  unfold appK
  cases hi : ops[i]? with
  | none => rfl
  | some oi =>
    cases hk : ops[k]? with
    | none => rfl
    | some ok => exact app_comm (fun d hd => (h.slot1 oi ok d hi hk hd).2) h.upd σ

theorem appK_insert {S : Nat → Bool} {k : Nat} (hk : S k = false) : ∀ m, k < m → (∀ j, k < j → j < m → S j = true → Free ops tr k j) →
    appK ops tr (runS ops tr S σ m) k = runS ops tr (fun j => j == k || S j) σ m
  | 0, h, _ => by omega
  | m + 1, h, hf => by
    by_cases hm : k = m
    · subst hm
      simp only [runS, hk, Bool.false_eq_true, if_false, beq_self_eq_true, Bool.true_or, if_true]
      rw [runS_congr (S' := fun j => j == k || S j) k (fun j hj => by simp [Nat.ne_of_lt hj])]
    · have ih := appK_insert hk m (by omega) (fun j h1 h2 h3 => hf j h1 (by omega) h3)
      have hne : (m == k) = false := by simp; omega
      simp only [runS, hne, Bool.false_or]
      split
      · rename_i hSm
        rw [← ih, appK_comm (hf m (by omega) (by omega) hSm).symm]
      · exact ih

theorem runS_slot {S : Nat → Bool} {t : Nat} : ∀ m, (∀ j oj, j < m → S j = false → ops[j]? = some oj → oj.dst ≠ some t) →
    (runS ops tr S σ m).slot t = (runS ops tr (fun _ => true) σ m).slot t
  | 0, _ => rfl
  | m + 1, h => by
    have ih := runS_slot m (fun j oj hj => h j oj (by omega))
    simp only [runS, if_true]
    cases hm : ops[m]? with
    | none => unfold appK; simp only [hm]; split <;> exact ih
    | some o =>
      split
      · simp only [appK, hm, app_slot, runS_slots_length, ih]
      · rename_i hS
        simp only [appK, hm, app_slot]
        rw [if_neg (fun hc => h m o (by omega) (by simpa using hS) hm hc.1)]
        exact ih
theorem runS_slot_late {S : Nat → Bool} {t k : Nat} : ∀ m, k ≤ m → (∀ j oj, k ≤ j → j < m → S j = true → ops[j]? = some oj → oj.dst ≠ some t) →
    (runS ops tr S σ m).slot t = (runS ops tr S σ k).slot t
  | 0, hk, _ => by have : k = 0 := by omega
                   subst this; rfl
  | m + 1, hk, h => by
    by_cases hkm : k = m + 1
    · subst hkm; rfl
    · have ih := runS_slot_late m (by omega) (fun j oj h1 h2 => h j oj h1 (by omega))
      simp only [runS]
      split
      · rename_i hS
        unfold appK
        cases hm : ops[m]? with
        | none => exact ih
        | some o =>
          simp only [app_slot]
          rw [if_neg (fun hc => h m o (by omega) (by omega) hS hm hc.1)]
          exact ih
      · exact ih
theorem runS_obj {S : Nat → Bool} {id : Nat} : ∀ m, (∀ j, j < m → S j = false → ∀ q, q ∈ (tr j).e.upd → q.1 ≠ id) →
    (runS ops tr S σ m).obj id = (runS ops tr (fun _ => true) σ m).obj id
  | 0, _ => rfl
  | m + 1, h => by
    have ih := runS_obj m (fun j hj => h j (by omega))
    simp only [runS, if_true]
    unfold appK
    cases hm : ops[m]? with
    | none => simp only []; split <;> exact ih
    | some o =>
      split
      · exact setAll_congr (tr m).e.upd _ _ id (by rw [runS_objs_length, runS_objs_length]) ih
      · rename_i hS
        simp only []
        rw [app_obj_other _ _ _ _ (h m (by omega) (by simpa using hS))]
        exact ih
theorem runS_obj_late {S : Nat → Bool} {id k : Nat} : ∀ m, k ≤ m → (∀ j, k ≤ j → j < m → S j = true → ∀ q, q ∈ (tr j).e.upd → q.1 ≠ id) →
    (runS ops tr S σ m).obj id = (runS ops tr S σ k).obj id
  | 0, hk, _ => by have : k = 0 := by omega
                   subst this; rfl
  | m + 1, hk, h => by
    by_cases hkm : k = m + 1
    · subst hkm; rfl
    · have ih := runS_obj_late m (by omega) (fun j h1 h2 => h j h1 (by omega))
      simp only [runS]
      split
      · rename_i hS
        unfold appK
        cases hm : ops[m]? with
        | none => exact ih
        | some o =>
          simp only []
          rw [app_obj_other _ _ _ _ (h m (by omega) (by omega) hS)]
          exact ih
      · exact ih

def Traced (P : Program) (env : Env) (ops : Array Oper) (σ : St) (tr : Nat → Rec) : Prop :=
  ∀ k o, ops[k]? = some o → GStep P env ops o (runS ops tr (fun _ => true) σ k) (tr k).T (tr k).e

theorem anc_listed (hok : regOK ops A tr = true) {S : Nat → Bool} (hcl : ∀ k o, ops[k]? = some o → S k = true → ∀ e, e ∈ o.after → Region.binds .any e = true → S e.on = true) :
    ∀ n k o, k < n → ops[k]? = some o → (∀ e, e ∈ o.after → Region.binds .any e = true → S e.on = true) → ∀ j, j ∈ A k → S j = true
  | 0, k, _, h, _, _, _, _ => by omega
  | n + 1, k, o, hk, ho, hpre, j, hj => by
    have hks : k < ops.size := (Array.getElem?_eq_some_iff.1 ho).1
    have h1 := List.all_eq_true.1 hok k (List.mem_range.2 hks)
    rw [ho] at h1
    simp only [Bool.and_eq_true] at h1
    have h2 := List.all_eq_true.1 h1.1.2 j hj
    obtain ⟨e, he, hb⟩ := Array.any_eq_true'.1 h2
    simp only [Bool.and_eq_true, Bool.or_eq_true, beq_iff_eq] at hb
    obtain ⟨hb1, hb2⟩ := hb
    rcases hb2 with rfl | hb2
    · exact hpre e he hb1
    · have hSe := hpre e he hb1
      have hlt : e.on < k := by
        have := Array.all_eq_true_iff_forall_mem.1 h1.1.1.1 e he
        simpa [hb1] using this
      have hes : e.on < ops.size := by omega
      exact anc_listed hok hcl n e.on ops[e.on] (by omega) (Array.getElem?_eq_getElem hes) (fun e' he' hb' => hcl e.on _ (Array.getElem?_eq_getElem hes) hSe e' he' hb') j (by simpa using hb2)

theorem region_any (hE : EnvOK P env) (hok : regOK ops A tr = true) (htr : Traced P env ops σ tr) (hlen : σ.objs.length = env.nobj) {Q : Exit → Act → World → Prop}
    {g0 : Gh} {M0 : Mem} (hG : GOKE env E M0)
    (hQ : ∀ g M a w, Rel E (runS ops tr (fun _ => true) σ ops.size) g M a w → (∀ id, σ.dom id → g0.agree g id) → Mem.le M0 M → Q .normal a w) :
    ∀ (fuel : Nat) (listed : Array Bool) (g : Gh) (M : Mem) (a : Act) (w : World), listed.size = ops.size →
      (∀ k o, ops[k]? = some o → listed.getD k true = true → ∀ e, e ∈ o.after → Region.binds .any e = true → listed.getD e.on true = true) →
      ((List.range ops.size).filter fun k => !listed.getD k true).length ≤ fuel →
      Rel E (runS ops tr (fun k => listed.getD k true) σ ops.size) g M a w → (∀ id, σ.dom id → g0.agree g id) → Mem.le M0 M → wpAny P .any ops Q fuel listed a w := by
  have hedge : ∀ k o, ops[k]? = some o → ∀ e, e ∈ o.after → Region.binds .any e = true → e.on < k := fun k o ho e he hb => by
    have hks : k < ops.size := (Array.getElem?_eq_some_iff.1 ho).1
    have h1 := List.all_eq_true.1 hok k (List.mem_range.2 hks)
    rw [ho] at h1
    simp only [Bool.and_eq_true] at h1
    have := Array.all_eq_true_iff_forall_mem.1 h1.1.1.1 e he
    simpa [hb] using this
  -- nothing is ready: all are listed
  have hall : ∀ listed : Array Bool, listed.size = ops.size → Region.ready .any ops listed = [] → ∀ k, k < ops.size → listed.getD k true = true := by
    intro listed hls hr k
    induction k using Nat.strongRecOn with
    | _ k ih =>
      intro hk
      cases hc : listed.getD k true with
      | true => rfl
      | false =>
        exfalso
        have : k ∈ Region.ready .any ops listed := mem_ready.2 ⟨hc, ops[k], Array.getElem?_eq_getElem hk, fun e he hb => by
          have hlt := hedge k _ (Array.getElem?_eq_getElem hk) e he hb
          have h1 := ih e.on hlt (by omega)
          have h2 : e.on < listed.size := by omega
          rw [Array.getD_eq_getD_getElem?, Array.getElem?_eq_getElem h2] at h1 ⊢
          exact h1⟩
        rw [hr] at this
        cases this
  have hdone : ∀ (listed : Array Bool) g M a w, listed.size = ops.size → Region.ready .any ops listed = [] → Rel E (runS ops tr (fun k => listed.getD k true) σ ops.size) g M a w →
      (∀ id, σ.dom id → g0.agree g id) → Mem.le M0 M → Q .normal a w := fun listed g M a w hls hr hR hag hM => by
    rw [runS_congr (S' := fun _ => true) ops.size (fun k hk => hall listed hls hr k hk)] at hR
    exact hQ g M a w hR hag hM
  intro fuel
  induction fuel with
  | zero =>
    intro listed g M a w hls hcl hcnt hR hag hM
    have hr : Region.ready .any ops listed = [] := by
      cases hr : Region.ready .any ops listed with
      | nil => rfl
      | cons i r =>
        exfalso
        have hi : i ∈ Region.ready .any ops listed := by rw [hr]; simp
        obtain ⟨h0, o, ho, _⟩ := mem_ready.1 hi
        have : i ∈ (List.range ops.size).filter fun k => !listed.getD k true := List.mem_filter.2 ⟨List.mem_range.2 (Array.getElem?_eq_some_iff.1 ho).1, by rw [h0]; rfl⟩
        have hn := List.length_pos_of_mem this
        omega
    exact ⟨hr, hdone listed g M a w hls hr hR hag hM⟩
  | succ fuel ih =>
    intro listed g M a w hls hcl hcnt hR hag hM
    refine ⟨fun hr => hdone listed g M a w hls hr hR hag hM, fun k hk => ?_⟩
    obtain ⟨h0, o, ho, hpre⟩ := mem_ready.1 hk
    have hks : k < ops.size := (Array.getElem?_eq_some_iff.1 ho).1
    have hpre' : ∀ e, e ∈ o.after → Region.binds .any e = true → listed.getD e.on true = true := fun e he hb => by
      have h1 := hpre e he hb
      have h2 : e.on < listed.size := by have := hedge k o ho e he hb; omega
      rw [Array.getD_eq_getD_getElem?, Array.getElem?_eq_getElem h2] at h1 ⊢
      exact h1
    have hanc : ∀ j, j ∈ A k → listed.getD j true = true := anc_listed hok (S := fun k => listed.getD k true) hcl (k + 1) k o (by omega) ho hpre'
    -- what is left out ahead of k, and what was taken behind it, is free of k
    have hfree1 : ∀ j, j < k → listed.getD j true = false → Free ops tr j k := fun j hj hS => free_of_ok hok hj hks (fun hA => by rw [hanc j hA] at hS; cases hS)
    have hfree2 : ∀ j, k < j → j < ops.size → listed.getD j true = true → Free ops tr k j := fun j hj hjs hS => free_of_ok hok hj hjs (fun hA => by
      have := anc_listed hok (S := fun k => listed.getD k true) hcl (j + 1) j ops[j] (by omega) (Array.getElem?_eq_getElem hjs) (fun e he hb => hcl j _ (Array.getElem?_eq_getElem hjs) hS e he hb) k hA
      rw [h0] at this; cases this)
    have hstep := (htr k o ho).local (σ' := runS ops tr (fun k => listed.getD k true) σ ops.size) (fun t ht => by
        rw [runS_slot_late (k := k) ops.size (by omega) (fun j oj h1 h2 hS hoj hd => by
          by_cases hjk : j = k
          · subst hjk; rw [h0] at hS; cases hS
          · exact ((hfree2 j (by omega) h2 hS).slot2 o oj t ho hoj hd).1 ht)]
        exact (runS_slot k (fun j oj hj hS hoj hd => ((hfree1 j hj hS).slot1 oj o t hoj ho hd).1 ht)).symm) (fun id hid => by
        rw [runS_obj_late (k := k) ops.size (by omega) (fun j h1 h2 hS q hq e => by
          by_cases hjk : j = k
          · subst hjk; rw [h0] at hS; cases hS
          · exact (hfree2 j (by omega) h2 hS).obj2 q hq (e ▸ hid))]
        exact (runS_obj k (fun j hj hS q hq e => (hfree1 j hj hS).obj1 q hq (e ▸ hid))).symm)
    have hins := appK_insert (σ := σ) (S := fun j => listed.getD j true) h0 ops.size hks (fun j h1 h2 h3 => hfree2 j h1 h2 h3)
    have hlisted : ∀ j, (listed.setIfInBounds k true).getD j true = (j == k || listed.getD j true) := fun j => by
      by_cases hjk : j = k
      · subst hjk
        have : j < listed.size := by omega
        simp [this]
      · rw [getD_set_ne true (fun e => hjk e.symm)]
        have : (j == k) = false := by simpa using hjk
        rw [this]; rfl
    refine hstep.wp ho hR (hG.mono hM) hE (by rw [runS_objs_length]; exact hlen) (fun v w' g' M' hR' hag' hM' => ?_)
    have hdomS : ∀ id, σ.dom id → (runS ops tr (fun k => listed.getD k true) σ ops.size).dom id := by
      intro id hd
      have key : ∀ m, (runS ops tr (fun k => listed.getD k true) σ m).dom id := by
        intro m
        induction m with
        | zero => exact hd
        | succ m ihm =>
          simp only [runS]
          split
          · unfold appK
            split
            · rename_i o' _
              have : ∀ (u : List (Nat × AObj)) (l : List (Option AObj)), l.getD id none ≠ none → (setAll l u).getD id none ≠ none := by
                intro u
                induction u with
                | nil => intro l h; exact h
                | cons q r ihr =>
                  intro l h
                  refine ihr _ ?_
                  by_cases hq : q.1 = id
                  · subst hq
                    have hlt : q.1 < l.length := by
                      rcases Nat.lt_or_ge q.1 l.length with h' | h'
                      · exact h'
                      · exfalso; apply h; simp [List.getElem?_eq_none h']
                    simp [List.getD, hlt]
                  · simp only [List.getD, List.getElem?_set_ne hq]; exact h
              exact this _ _ ihm
            · exact ihm
          · exact ihm
      exact key _
    refine ih (listed.setIfInBounds k true) g' M' _ w' (by simpa using hls) ?_ ?_ ?_ ?_ (fun b i u hu => hM' b i u (hM b i u hu))
    · intro j oj hoj hS e he hb
      rw [hlisted] at hS ⊢
      simp only [Bool.or_eq_true, beq_iff_eq] at hS ⊢
      rcases hS with rfl | hS
      · rw [ho] at hoj; cases hoj
        exact .inr (hpre' e he hb)
      · exact .inr (hcl j oj hoj hS e he hb)
    · have hsub : ((List.range ops.size).filter fun j => !(listed.setIfInBounds k true).getD j true) = ((List.range ops.size).filter fun j => !listed.getD j true).filter fun j => !(j == k) := by
        rw [List.filter_filter]
        apply List.filter_congr
        intro j _
        rw [hlisted]; simp [Bool.not_or]
      rw [hsub]
      have hmem : k ∈ (List.range ops.size).filter fun j => !listed.getD j true := List.mem_filter.2 ⟨List.mem_range.2 hks, by rw [h0]; rfl⟩
      have hlt : (((List.range ops.size).filter fun j => !listed.getD j true).filter fun j => !(j == k)).length < ((List.range ops.size).filter fun j => !listed.getD j true).length := by
        apply List.length_filter_lt_length_iff_exists.2
        exact ⟨k, hmem, by simp⟩
      omega
    · have hR2 : Rel E (appK ops tr (runS ops tr (fun k => listed.getD k true) σ ops.size) k) g' M' (a.put o.dst v) w' := by
        have e1 : appK ops tr (runS ops tr (fun k => listed.getD k true) σ ops.size) k = (runS ops tr (fun k => listed.getD k true) σ ops.size).app o.dst (tr k).e := by
          simp only [appK, ho]
        rw [e1]; exact hR'
      rw [hins] at hR2
      rw [runS_congr (S' := fun j => j == k || listed.getD j true) ops.size (fun j _ => hlisted j)]
      exact hR2
    · intro id hd
      obtain ⟨h1, h2, h3⟩ := hag id hd
      obtain ⟨h4, h5, h6⟩ := hag' id (hdomS id hd)
      exact ⟨h4.trans h1, h5.trans h2, h6.trans h3⟩
end
end Go.Abs
namespace Go.Abs
open Go

def Agr (pin : Nat) (σ : St) (g : Gh) (σ' : St) (g' : Gh) : Prop := ∀ id, id < pin → σ.dom id → g.agree g' id ∧ σ'.dom id

theorem Agr.refl (pin : Nat) (σ : St) (g : Gh) : Agr pin σ g σ g := fun _ _ h => ⟨Gh.agree_refl _ _, h⟩
theorem Agr.trans {pin : Nat} {σ σ' σ'' : St} {g g' g'' : Gh} (h : Agr pin σ g σ' g') (k : Agr pin σ' g' σ'' g'') : Agr pin σ g σ'' g'' := fun id hid hd => by
  obtain ⟨⟨a1, a2, a3⟩, hd'⟩ := h id hid hd
  obtain ⟨⟨b1, b2, b3⟩, hd''⟩ := k id hid hd'
  exact ⟨⟨b1.trans a1, b2.trans a2, b3.trans a3⟩, hd''⟩

def PostOf (env : Env) (pin : Nat) (E : Ent) (σ : St) (g : Gh) (M : Mem) (Q : Exit → St → Prop) : Exit → Act → World → Prop :=
  fun e a' w' => ∃ σ' g' M', Q e σ' ∧ Rel E σ' g' M' a' w' ∧ Mem.le M M' ∧ Agr pin σ g σ' g' ∧ σ'.objs.length = env.nobj

def SW (P : Program) (env : Env) (pin : Nat) (c : Code) (σ : St) (Q : Exit → St → Prop) : Prop :=
  σ.objs.length = env.nobj → ∀ E g M a w, Rel E σ g M a w → GOKE env E M → c.wp P (PostOf env pin E σ g M Q) a w

def thenQ (N : St → Prop) (Q : Exit → St → Prop) : Exit → St → Prop
  | .normal, σ => N σ
  | e, σ => Q e σ
def blockQ (id : Nat) (Q : Exit → St → Prop) : Exit → St → Prop
  | .exit id', σ => if id' = id then Q .normal σ else Q (.exit id') σ
  | e, σ => Q e σ

def Weak (env : Env) (pin : Nat) (σ σ' : St) : Prop :=
  σ.objs.length = env.nobj → σ'.objs.length = env.nobj ∧ ∀ E g M a w, Rel E σ g M a w → ∃ g' M', Rel E σ' g' M' a w ∧ Mem.le M M' ∧ Agr pin σ g σ' g'

section
variable {P : Program} {env : Env} {pin : Nat} {σ σ' : St} {Q : Exit → St → Prop}

theorem Weak.refl (σ : St) : Weak env pin σ σ := fun hl => ⟨hl, fun _ g M _ _ h => ⟨g, M, h, Mem.le_refl _, Agr.refl _ _ _⟩⟩
theorem Mem.le_trans {M M' M'' : Mem} (h : Mem.le M M') (k : Mem.le M' M'') : Mem.le M M'' := fun b i u hu => k b i u (h b i u hu)
theorem Weak.trans {σ'' : St} (h : Weak env pin σ σ') (k : Weak env pin σ' σ'') : Weak env pin σ σ'' := fun hl =>
  let ⟨hl', h1⟩ := h hl
  let ⟨hl'', h2⟩ := k hl'
  ⟨hl'', fun E g M a w hR =>
    let ⟨g', M', hR', hM, hA⟩ := h1 E g M a w hR
    let ⟨g'', M'', hR'', hM', hA'⟩ := h2 E g' M' a w hR'
    ⟨g'', M'', hR'', Mem.le_trans hM hM', hA.trans hA'⟩⟩

theorem SW.mono {c : Code} {Q' : Exit → St → Prop} (h : SW P env pin c σ Q) (hq : ∀ e σ, Q e σ → Q' e σ) : SW P env pin c σ Q' := fun hl E g M a w hR hG =>
  wp_mono (h hl E g M a w hR hG) fun e _ _ ⟨σ', g', M', q, r⟩ => ⟨σ', g', M', hq e σ' q, r⟩

theorem SW.weak {c : Code} (hw : Weak env pin σ σ') (h : SW P env pin c σ' Q) : SW P env pin c σ Q := fun hl E g M a w hR hG => by
  obtain ⟨hl', h1⟩ := hw hl
  obtain ⟨g', M', hR', hM, hA⟩ := h1 E g M a w hR
  exact wp_mono (h hl' E g' M' a w hR' (hG.mono hM)) fun e _ _ ⟨σ'', g'', M'', q, r, hM', hA', hl''⟩ => ⟨σ'', g'', M'', q, r, Mem.le_trans hM hM', hA.trans hA', hl''⟩

theorem SW.skip (h : Q .normal σ) : SW P env pin .skip σ Q := fun hl _ g M _ _ hR _ => wp_skip ⟨σ, g, M, h, hR, Mem.le_refl _, Agr.refl _ _ _, hl⟩
theorem SW.ret (h : Q .ret σ) : SW P env pin .ret σ Q := fun hl _ g M _ _ hR _ => wp_ret ⟨σ, g, M, h, hR, Mem.le_refl _, Agr.refl _ _ _, hl⟩
theorem SW.exit {id : Nat} (h : Q (.exit id) σ) : SW P env pin (.exit id) σ Q := fun hl _ g M _ _ hR _ => wp_exit ⟨σ, g, M, h, hR, Mem.le_refl _, Agr.refl _ _ _, hl⟩

theorem SW.seq {x y : Code} (h : SW P env pin x σ (thenQ (fun σ' => SW P env pin y σ' Q) Q)) : SW P env pin (.seq x y) σ Q := fun hl E g M a w hR hG => by
  refine wp_seq (wp_mono (h hl E g M a w hR hG) fun e a' w' ⟨σ', g', M', q, hR', hM, hA, hl'⟩ => ?_)
  cases e with
  | normal =>
    refine wp_mono (q hl' E g' M' a' w' hR' (hG.mono hM)) fun e'' _ _ ⟨σ'', g'', M'', q', r', hM', hA', hl''⟩ => ⟨σ'', g'', M'', q', r', Mem.le_trans hM hM', hA.trans hA', hl''⟩
  | _ => exact ⟨σ', g', M', q, hR', hM, hA, hl'⟩

theorem SW.cond {c : Operand} {x y : Code} {b : Bool} (hc : aeval env σ c = .pv (.bool b)) (ht : b = true → SW P env pin x σ Q) (hf : b = false → SW P env pin y σ Q) : SW P env pin (.cond c x y) σ Q := fun hl E g M a w hR hG => by
  have hv := V_aeval (env := env) hR hG.1 c
  rw [hc] at hv
  exact wp_cond_split hv.bool_inv (fun h => ht h hl E g M a w hR hG) (fun h => hf h hl E g M a w hR hG)

theorem SW.block {id : Nat} {c : Code} (h : SW P env pin c σ (blockQ id Q)) : SW P env pin (.block id c) σ Q := fun hl E g M a w hR hG =>
  wp_block (wp_mono (h hl E g M a w hR hG) fun e a' w' ⟨σ', g', M', q, r⟩ => by
    cases e with
    | exit id' =>
      simp only [Exit.inBlock, blockQ] at *
      by_cases hid : id' = id
      · rw [if_pos hid] at q ⊢; exact ⟨σ', g', M', q, r⟩
      · rw [if_neg hid] at q ⊢; exact ⟨σ', g', M', q, r⟩
    | _ => exact ⟨σ', g', M', q, r⟩)

theorem wp_loop_ghost {ι : Type} {Q : Exit → Act → World → Prop} {a : Act} {w : World} {c : Code} (I : ι → Act → World → Prop) (μ : ι → Nat) (i0 : ι) (h₀ : I i0 a w)
    (round : ∀ i a w, I i a w → c.wp P (Exit.then (fun a' w' => ∃ j, I j a' w' ∧ μ j < μ i) Q) a w) : (Code.loop c).wp P Q a w := by
  intro b k cs
  have key : ∀ n i a w, μ i = n → I i a w →
      ∃ e a' w', Q e a' w' ∧ Arrives P (lone (b.at a (.code c :: .inLoop c :: k)) cs w) b k cs e a' w' := by
    intro n
    induction n using Nat.strongRecOn with
    | _ n ih =>
      intro i a w hn hI
      obtain ⟨e, a₁, w₁, hq, harr⟩ := round i a w hI b (.inLoop c :: k) cs
      cases e with
      | normal =>
        obtain ⟨j, hI₁, hlt⟩ := hq
        obtain ⟨e₂, a₂, w₂, hq₂, harr₂⟩ := ih (μ j) (hn ▸ hlt) j a₁ w₁ rfl hI₁
        exact ⟨e₂, a₂, w₂, hq₂, .of_steps (Steps.trans harr (.one step_inLoop)) harr₂⟩
      | exit id => exact ⟨_, a₁, w₁, hq, .pass (x := .inLoop c) rfl (fun _ _ => .inl (by simp)) harr⟩
      | goto l => exact ⟨_, a₁, w₁, hq, .pass (x := .inLoop c) rfl (fun _ _ => .inl (by simp)) harr⟩
      | ret => exact ⟨_, a₁, w₁, hq, .pass (x := .inLoop c) rfl (fun _ _ => .inl (by simp)) harr⟩
      | panic ch => exact ⟨_, a₁, w₁, hq, .pass (x := .inLoop c) rfl (fun _ _ => .inl (by simp)) harr⟩
      | outgrown => exact ⟨_, a₁, w₁, hq, .pass (x := .inLoop c) rfl (fun _ _ => .inl (by simp)) harr⟩
  obtain ⟨e, a', w', hq, harr⟩ := key _ i0 a w rfl h₀
  exact ⟨e, a', w', hq, .of_steps (.one step_loop) harr⟩

theorem SW.loop {ι : Type} {c : Code} (I : ι → St) (μ : ι → Nat) (i0 : ι) (h0 : Weak env pin σ (I i0))
    (round : ∀ i, SW P env pin c (I i) (thenQ (fun σ' => ∃ j, Weak env pin σ' (I j) ∧ μ j < μ i) Q)) : SW P env pin (.loop c) σ Q := fun hl E g M a w hR hG => by
  obtain ⟨hl0, hw0⟩ := h0 hl
  obtain ⟨g', M', hR', hM, hA⟩ := hw0 E g M a w hR
  refine wp_loop_ghost (fun i a w => ∃ g1 M1, Rel E (I i) g1 M1 a w ∧ Mem.le M M1 ∧ Agr pin σ g (I i) g1 ∧ (I i).objs.length = env.nobj) μ i0 ⟨g', M', hR', hM, hA, hl0⟩ ?_
  rintro i a1 w1 ⟨g1, M1, hR1, hM1, hA1, hl1⟩
  refine wp_mono (round i hl1 E g1 M1 a1 w1 hR1 (hG.mono hM1)) fun e a2 w2 ⟨σ2, g2, M2, q, hR2, hM2, hA2, hl2⟩ => ?_
  cases e with
  | normal =>
    obtain ⟨j, hw, hlt⟩ := q
    obtain ⟨hl3, hw3⟩ := hw hl2
    obtain ⟨g3, M3, hR3, hM3, hA3⟩ := hw3 E g2 M2 a2 w2 hR2
    exact ⟨j, ⟨g3, M3, hR3, Mem.le_trans hM1 (Mem.le_trans hM2 hM3), hA1.trans (hA2.trans hA3), hl3⟩, hlt⟩
  | _ => exact ⟨σ2, g2, M2, q, hR2, Mem.le_trans hM1 hM2, hA1.trans hA2, hl2⟩

def RR (P : Program) (env : Env) (ops : Array Oper) (K : List Rec → St → Prop) : List Oper → List Rec → St → Prop
  | [], acc, σ => K acc σ
  | o :: rest, acc, σ => ∃ T e, GStep P env ops o σ T e ∧ RR P env ops K rest (acc ++ [⟨T, e⟩]) (σ.app o.dst e)

def recAt (l : List Rec) (k : Nat) : Rec := l.getD k ⟨[], ⟨.junk, []⟩⟩

theorem RR.traced {ops : Array Oper} {K : List Rec → St → Prop} : ∀ (rest : List Oper) (acc : List Rec) (pre : List Oper), ops.toList = pre ++ rest → acc.length = pre.length →
    (∀ k o, k < pre.length → ops[k]? = some o → GStep P env ops o (runS ops (recAt acc) (fun _ => true) σ k) (recAt acc k).T (recAt acc k).e) →
    RR P env ops K rest acc (runS ops (recAt acc) (fun _ => true) σ pre.length) → ∃ tr : List Rec, Traced P env ops σ (recAt tr) ∧ K tr (runS ops (recAt tr) (fun _ => true) σ ops.size)
  | [], acc, pre, hops, hlen, htr, h => by
    have hsz : ops.size = pre.length := by have := congrArg List.length hops; simpa using this
    refine ⟨acc, fun k o ho => htr k o (by rw [← hsz]; exact (Array.getElem?_eq_some_iff.1 ho).1) ho, ?_⟩
    rw [hsz]; exact h
  | o :: rest, acc, pre, hops, hlen, htr, h => by
    obtain ⟨T, e, hg, hr⟩ := h
    have hat : ∀ k, k < pre.length → recAt (acc ++ [⟨T, e⟩]) k = recAt acc k := fun k hk => by
      simp [recAt, List.getD, List.getElem?_append_left (by omega : k < acc.length)]
    have hlast : recAt (acc ++ [⟨T, e⟩]) pre.length = ⟨T, e⟩ := by
      simp [recAt, List.getD, ← hlen]
    have hrun : ∀ k, k ≤ pre.length → runS ops (recAt (acc ++ [⟨T, e⟩])) (fun _ => true) σ k = runS ops (recAt acc) (fun _ => true) σ k := by
      intro k
      induction k with
      | zero => intro _; rfl
      | succ k ih =>
        intro hk
        simp only [runS, if_true, appK]
        rw [ih (by omega), hat k (by omega)]
    have hop : ops[pre.length]? = some o := by
      rw [← Array.getElem?_toList, hops]; simp
    refine RR.traced rest (acc ++ [⟨T, e⟩]) (pre ++ [o]) (by simp [hops]) (by simp [hlen]) (fun k o' hk ho' => ?_) ?_
    · simp only [List.length_append, List.length_singleton] at hk
      rw [hrun k (by omega)]
      by_cases hkp : k < pre.length
      · rw [hat k hkp]; exact htr k o' hkp ho'
      · have hke : k = pre.length := by omega
        subst hke
        rw [hlast]
        rw [hop] at ho'; cases ho'
        exact hg
    · simp only [List.length_append, List.length_singleton, runS, if_true]
      have e1 : appK ops (recAt (acc ++ [⟨T, e⟩])) (runS ops (recAt (acc ++ [⟨T, e⟩])) (fun _ => true) σ pre.length) pre.length = (runS ops (recAt acc) (fun _ => true) σ pre.length).app o.dst e := by
        simp only [appK, hop, hlast, hrun _ (Nat.le_refl _)]
      rw [e1]; exact hr

theorem dom_app (d : Option Nat) (e : Eff) (id : Nat) (h : σ.dom id) : (σ.app d e).dom id := by
  have : ∀ (u : List (Nat × AObj)) (l : List (Option AObj)), l.getD id none ≠ none → (setAll l u).getD id none ≠ none := by
    intro u
    induction u with
    | nil => intro l h; exact h
    | cons q r ihr =>
      intro l h
      refine ihr _ ?_
      by_cases hq : q.1 = id
      · subst hq
        have hlt : q.1 < l.length := by
          rcases Nat.lt_or_ge q.1 l.length with h' | h'
          · exact h'
          · exfalso; apply h; simp [List.getElem?_eq_none h']
        simp [List.getD, hlt]
      · simp only [List.getD, List.getElem?_set_ne hq]; exact h
  exact this _ _ h

theorem dom_runS {ops : Array Oper} {tr : Nat → Rec} {S : Nat → Bool} (id : Nat) (h : σ.dom id) : ∀ m, (runS ops tr S σ m).dom id
  | 0 => h
  | m + 1 => by
    simp only [runS]
    split
    · unfold appK
      split
      · exact dom_app _ _ _ (dom_runS id h m)
      · exact dom_runS id h m
    · exact dom_runS id h m

theorem SW.draw (hE : EnvOK P env) (hm : P.follows .mixedOrders = true) {id : Nat} {ops : Array Oper} (h : RR P env ops (fun tr σ' => regOK ops (anc ops) (recAt tr) = true ∧ Q .normal σ') ops.toList [] σ) : SW P env pin (.region id ops true) σ Q := fun hl E g M a w hR hG => by
  obtain ⟨tr, htr, hok, hq⟩ := RR.traced (σ := σ) (ops := ops) ops.toList [] [] (by simp) rfl (fun k o hk => by simp at hk) h
  refine wp_region_any hm (region_any (E := E) hE hok htr hl hG (g0 := g) (fun g' M' a' w' hR' hag hM => ?_) ops.size _ g M a _ (by simp) ?_ ?_ ?_ (fun _ _ => Gh.agree_refl _ _) (Mem.le_refl _))
  · exact ⟨_, g', M', hq, hR', hM, fun i hi hd => ⟨hag i hd, dom_runS i hd _⟩, by rw [runS_objs_length]; exact hl⟩
  · intro k o ho hk
    have hks : k < ops.size := (Array.getElem?_eq_some_iff.1 ho).1
    simp [hks] at hk
  · exact Nat.le_trans (List.length_filter_le _ _) (by simp)
  · rw [runS_congr (S' := fun _ => false) ops.size (fun k hk => by simp [hk])]
    have : ∀ m, runS ops (recAt tr) (fun _ => false) σ m = σ := fun m => by induction m with
      | zero => rfl
      | succ m ih => simp [runS, ih]
    rw [this]
    exact hR.drew

theorem wpOps_range {ops : Array Oper} {tr : Nat → Rec} (hE : EnvOK P env) (htr : Traced P env ops σ tr) (hl : σ.objs.length = env.nobj) {E : Ent} {g0 : Gh} {M0 : Mem} (hG : GOKE env E M0) {Q : Exit → Act → World → Prop}
    (hQ : ∀ g M a w, Rel E (runS ops tr (fun _ => true) σ ops.size) g M a w → (∀ id, σ.dom id → g0.agree g id) → Mem.le M0 M → Q .normal a w) :
    ∀ n k, k + n = ops.size → ∀ g M a w, Rel E (runS ops tr (fun _ => true) σ k) g M a w → (∀ id, σ.dom id → g0.agree g id) → Mem.le M0 M → wpOps P ops Q (List.range' k n) a w
  | 0, k, hk, g, M, a, w, hR, hag, hM => by
    have : k = ops.size := by omega
    subst this
    exact hQ g M a w hR hag hM
  | n + 1, k, hk, g, M, a, w, hR, hag, hM => by
    have hks : k < ops.size := by omega
    have ho : ops[k]? = some ops[k] := Array.getElem?_eq_getElem hks
    rw [List.range'_succ, wpOps_cons]
    refine (htr k _ ho).wp ho hR (hG.mono hM) hE (by rw [runS_objs_length]; exact hl) (fun v w' g' M' hR' hag' hM' => ?_)
    refine wpOps_range hE htr hl hG hQ n (k + 1) (by omega) g' M' _ w' ?_ (fun id hd => ?_) (Mem.le_trans hM hM')
    · simp only [runS, if_true, appK, ho]; exact hR'
    · obtain ⟨h1, h2, h3⟩ := hag id hd
      obtain ⟨h4, h5, h6⟩ := hag' id (dom_runS id hd _)
      exact ⟨h4.trans h1, h5.trans h2, h6.trans h3⟩

theorem SW.region (hE : EnvOK P env) {id : Nat} {ops : Array Oper} (h : RR P env ops (fun _ σ' => Q .normal σ') ops.toList [] σ) : SW P env pin (.region id ops false) σ Q := fun hl E g M a w hR hG => by
  obtain ⟨tr, htr, hq⟩ := RR.traced (σ := σ) (ops := ops) ops.toList [] [] (by simp) rfl (fun k o hk => by simp at hk) h
  refine wp_region ?_
  rw [List.range_eq_range']
  refine wpOps_range hE htr hl hG (g0 := g) (fun g' M' a' w' hR' hag hM => ?_) ops.size 0 (by omega) g M a w hR (fun _ _ => Gh.agree_refl _ _) (Mem.le_refl _)
  exact ⟨_, g', M', hq, hR', hM, fun i hi hd => ⟨hag i hd, dom_runS i hd _⟩, by rw [runS_objs_length]; exact hl⟩

def steps (env : Env) (ops : Array Oper) : Nat → List Oper → List Rec → St → Option (List Oper × List Rec × St)
  | 0, l, acc, σ => some (l, acc, σ)
  | _ + 1, [], acc, σ => some ([], acc, σ)
  | n + 1, o :: rest, acc, σ =>
    match aguard ops σ o with
    | some true => match aop env o.dst (aeval env σ) σ.obj o.op with
      | some e => steps env ops n rest (acc ++ [⟨atgt env o.dst (aeval env σ) o.op, e⟩]) (σ.app o.dst e)
      | none => none
    | some false => steps env ops n rest (acc ++ [⟨[], ⟨.tup [], []⟩⟩]) (σ.app o.dst ⟨.tup [], []⟩)
    | none => none

theorem RR.steps {ops : Array Oper} {K : List Rec → St → Prop} : ∀ (n : Nat) {l l' : List Oper} {acc acc' : List Rec} {σ σ' : St}, steps env ops n l acc σ = some (l', acc', σ') → RR P env ops K l' acc' σ' → RR P env ops K l acc σ
  | 0, l, l', acc, acc', σ, σ', h, k => by cases h; exact k
  | n + 1, [], l', acc, acc', σ, σ', h, k => by cases h; exact k
  | n + 1, o :: rest, l', acc, acc', σ, σ', h, k => by
    simp only [Abs.steps] at h
    split at h
    · rename_i hg
      split at h
      · rename_i e he
        exact ⟨_, e, .run _ e hg (.op e he), RR.steps n h k⟩
      · cases h
    · rename_i hg
      exact ⟨_, _, .skip hg, RR.steps n h k⟩
    · cases h

theorem RR.call {ops : Array Oper} {K : List Rec → St → Prop} {o : Oper} {rest : List Oper} {acc : List Rec} (hg : aguard ops σ o = some true) {f : FuncId} {args : Array Operand} {cargs : List AVal} {cobjs : List (Option AObj)} {ids news : List Nat} {res : AVal} {objs' : List (Option AObj)}
    (hac : AC P env.gl f cargs cobjs res objs') (hf : CallFits P env σ o f args cargs cobjs ids news objs')
    (h : RR P env ops K rest (acc ++ [⟨ids ++ news, ⟨ren (fun k => (ids ++ news).getD k 0) res, callUpd (fun k => (ids ++ news).getD k 0) (ids ++ news) 0 objs'⟩⟩])
      (σ.app o.dst ⟨ren (fun k => (ids ++ news).getD k 0) res, callUpd (fun k => (ids ++ news).getD k 0) (ids ++ news) 0 objs'⟩)) : RR P env ops K (o :: rest) acc σ :=
  ⟨_, _, .run _ _ hg (.call f args cargs cobjs ids news res objs' hf hac), h⟩
end
end Go.Abs
namespace Go.Abs
open Go

def wkSlots (τ : Nat → Nat) (n : Nat → Bool) : List AVal → List AVal → Prop
  | [], [] => True
  | a :: r, b :: s => (b = .junk ∨ (a = ren τ b ∧ inScope n b = true)) ∧ wkSlots τ n r s
  | _, _ => False

def wkObjs (τ : Nat → Nat) (n : Nat → Bool) (σ : St) : Nat → List (Option AObj) → Prop
  | _, [] => True
  | k, o :: r => (match o with | none => True | some .dead => True | some ob => σ.obj (τ k) = some (renO τ ob) ∧ inScopeO n ob = true) ∧ wkObjs τ n σ (k + 1) r

theorem wkSlots_get {τ : Nat → Nat} {n : Nat → Bool} : ∀ {l l' : List AVal}, wkSlots τ n l l' → l.length = l'.length ∧ ∀ i, l'.getD i .junk = .junk ∨ (l.getD i .junk = ren τ (l'.getD i .junk) ∧ inScope n (l'.getD i .junk) = true)
  | [], [], _ => ⟨rfl, fun i => .inl (by simp [List.getD])⟩
  | a :: r, b :: s, h => by
    obtain ⟨h1, h2⟩ := h
    obtain ⟨h3, h4⟩ := wkSlots_get h2
    refine ⟨by simp [h3], fun i => ?_⟩
    cases i with
    | zero => simpa [List.getD] using h1
    | succ i => simpa [List.getD] using h4 i
  | [], _ :: _, h => h.elim
  | _ :: _, [], h => h.elim

theorem wkObjs_get {τ : Nat → Nat} {n : Nat → Bool} {σ : St} : ∀ {l : List (Option AObj)} {k : Nat}, wkObjs τ n σ k l → ∀ i ob, l.getD i none = some ob → ob = .dead ∨ (σ.obj (τ (k + i)) = some (renO τ ob) ∧ inScopeO n ob = true)
  | [], k, _, i, ob, h => by simp [List.getD] at h
  | o :: r, k, h, i, ob, hi => by
    obtain ⟨h1, h2⟩ := h
    cases i with
    | zero =>
      simp only [List.getD_cons_zero] at hi
      subst hi
      cases ob with
      | dead => exact .inl rfl
      | cells cs => exact .inr h1
      | row sz xs => exact .inr h1
      | map kd es => exact .inr h1
    | succ i =>
      have := wkObjs_get h2 i ob (by simpa [List.getD] using hi)
      rwa [show k + 1 + i = k + (i + 1) by omega] at this

section
variable {P : Program} {env : Env} {pin : Nat} {σ σ' : St} {Q : Exit → St → Prop}

theorem Rel.wk {E : Ent} {g : Gh} {M : Mem} {a a' : Act} {w : World} (hR : Rel E σ g M a w) (τ : Nat → Nat) (hsize : a'.tmps.size = σ'.slots.length) (hdef : a'.defers = [])
    (hs : ∀ i, i < σ'.slots.length → σ'.slot i = .junk ∨ ∃ x, V g σ.dom M x (a'.tmps.getD i undef) ∧ x = ren τ (σ'.slot i) ∧ inScope (hasObj σ'.objs) (σ'.slot i) = true)
    (ho : wkObjs τ (hasObj σ'.objs) σ 0 σ'.objs) (hinj : ∀ i j, i < σ'.objs.length → j < σ'.objs.length → τ i = τ j → i = j) :
    Rel E σ' ⟨fun k => g.ρ (τ k), fun k => g.κ (τ k), fun k => g.ν (τ k)⟩ M a' w := by
  have hdom : ∀ k, hasObj σ'.objs k = true → σ'.dom k := fun k hk h0 => by
    have h1 : σ'.objs.getD k none = none := h0
    simp only [hasObj] at hk
    rw [h1] at hk; cases hk
  have hsc : ∀ k, hasObj σ'.objs k = true → σ'.dom k ∧ (⟨fun k => g.ρ (τ k), fun k => g.κ (τ k), fun k => g.ν (τ k)⟩ : Gh).ρ k = g.ρ (τ k) ∧ (⟨fun k => g.ρ (τ k), fun k => g.κ (τ k), fun k => g.ν (τ k)⟩ : Gh).κ k = g.κ (τ k) ∧ (⟨fun k => g.ρ (τ k), fun k => g.κ (τ k), fun k => g.ν (τ k)⟩ : Gh).ν k = g.ν (τ k) :=
    fun k hk => ⟨hdom k hk, rfl, rfl, rfl⟩
  have hown : ∀ k ob, owns (⟨fun k => g.ρ (τ k), fun k => g.κ (τ k), fun k => g.ν (τ k)⟩ : Gh) k ob = owns g (τ k) ob := fun k ob => by cases ob <;> rfl
  have hget : ∀ k ob b, σ'.obj k = some ob → owns (⟨fun k => g.ρ (τ k), fun k => g.κ (τ k), fun k => g.ν (τ k)⟩ : Gh) k ob = some b → σ.obj (τ k) = some (renO τ ob) ∧ owns g (τ k) (renO τ ob) = some b ∧ k < σ'.objs.length := fun k ob b hk hb => by
    rcases wkObjs_get ho k ob hk with rfl | ⟨h1, _⟩
    · simp [owns] at hb
    · rw [Nat.zero_add] at h1
      exact ⟨h1, by rw [owns_ren, ← hown]; exact hb, dom_of_some hk⟩
  refine ⟨hsize, hdef, ?_, ?_, ?_, ?_, hR.sat, hR.M0, hR.Mnew, hR.size0, hR.same, ?_, hR.os, hR.tape, hR.output⟩
  · intro i hi
    rcases hs i hi with h1 | ⟨x, h1, h2, h3⟩
    · rw [h1]; exact .junk _
    · exact V_in hsc h1 _ h2 h3
  · intro k ob hk
    rcases wkObjs_get ho k ob hk with rfl | ⟨h1, h2⟩
    · trivial
    · rw [Nat.zero_add] at h1
      have hor := hR.objs _ _ h1
      cases ob with
      | cells cs =>
        obtain ⟨vals, T, hh, hsz, hv⟩ := hor
        refine ⟨vals, T, hh, by rw [hsz, renL_length], fun j hj => ?_⟩
        exact V_in hsc (hv j (by rw [renL_length]; exact hj)) _ (renL_get τ cs j) (inScopeL_get _ _ _ h2)
      | row sz xs => exact hor
      | map kd es =>
        obtain ⟨ents, clock, hh, hsz, hv⟩ := hor
        refine ⟨ents, clock, hh, hsz, fun i e he => ?_⟩
        obtain ⟨en, q1, q2, q3, q4⟩ := hv i e he
        exact ⟨en, q1, q2, q3, V_in hsc q4 _ (ren_mval _ _).symm (inScope_mval _ _)⟩
      | dead => trivial
  · intro k k' ob ob' b hk hk' hb hb'
    obtain ⟨h1, h2, h3⟩ := hget k ob b hk hb
    obtain ⟨h4, h5, h6⟩ := hget k' ob' b hk' hb'
    exact hinj k k' h3 h6 (hR.apart _ _ _ _ b h1 h4 h2 h5)
  · intro k ob b hk hb i
    obtain ⟨h1, h2, _⟩ := hget k ob b hk hb
    exact hR.offM _ _ b h1 h2 i
  · intro k ob b hk hb
    obtain ⟨h1, h2, _⟩ := hget k ob b hk hb
    exact hR.own0 _ _ b h1 h2

def tau (l : List Nat) (k : Nat) : Nat := l.getD k 0

theorem Weak.wk (τ : List Nat) (hlen : σ'.objs.length = env.nobj) (hτ : τ.length = env.nobj) (hnd : τ.Nodup) (hpin : ∀ k, k < pin → tau τ k = k ∧ (σ.dom k → σ'.dom k))
    (hs : wkSlots (tau τ) (hasObj σ'.objs) σ.slots σ'.slots) (ho : wkObjs (tau τ) (hasObj σ'.objs) σ 0 σ'.objs) : Weak env pin σ σ' := fun _ => ⟨hlen, fun E g M a w hR => by
  obtain ⟨hl, hg⟩ := wkSlots_get hs
  refine ⟨_, M, hR.wk (tau τ) (by rw [hR.size, hl]) hR.defers (fun i hi => ?_) ho (fun i j hi hj e => nodup_get_inj hnd (by omega) (by omega) e), Mem.le_refl _, fun id hid hd => ?_⟩
  · rcases hg i with h1 | ⟨h1, h2⟩
    · exact .inl h1
    · exact .inr ⟨σ.slot i, hR.slot i, h1, h2⟩
  · obtain ⟨h1, h2⟩ := hpin id hid
    refine ⟨?_, h2 hd⟩
    simp [Gh.agree, h1]⟩

theorem Weak.forget (hlen : σ'.objs.length = env.nobj) (hpin : ∀ k, k < pin → σ.dom k → σ'.dom k)
    (hs : wkSlots id (hasObj σ'.objs) σ.slots σ'.slots) (ho : wkObjs id (hasObj σ'.objs) σ 0 σ'.objs) : Weak env pin σ σ' := fun _ => ⟨hlen, fun E g M a w hR => by
  obtain ⟨hl, hg⟩ := wkSlots_get hs
  refine ⟨_, M, hR.wk id (by rw [hR.size, hl]) hR.defers (fun i hi => ?_) ho (fun i j hi hj e => e), Mem.le_refl _, fun k hk hd => ⟨⟨rfl, rfl, rfl⟩, hpin k hk hd⟩⟩
  rcases hg i with h1 | ⟨h1, h2⟩
  · exact .inl h1
  · exact .inr ⟨σ.slot i, hR.slot i, h1, h2⟩⟩

mutual
def frz (id : Nat) (xs : List (List PVal)) : AVal → AVal
  | .row id' n => if id' = id then (if n = xs.length then .pv (.slice xs) else .junk) else .row id' n
  | .eref id' i j sz => if id' = id then .junk else .eref id' i j sz
  | .ref id' off => if id' = id then .junk else .ref id' off
  | .map id' => .map id'
  | .agg cs => .agg (frzL id xs cs)
  | .tup cs => .tup (frzL id xs cs)
  | .pv p => .pv p
  | .snil => .snil
  | .junk => .junk
def frzL (id : Nat) (xs : List (List PVal)) : List AVal → List AVal
  | [] => []
  | a :: r => frz id xs a :: frzL id xs r
end
def frzO (id : Nat) (xs : List (List PVal)) : Option AObj → Option AObj
  | some (.cells cs) => some (.cells (frzL id xs cs))
  | o => o
def St.frz (σ : St) (id : Nat) (xs : List (List PVal)) : St := ⟨frzL id xs σ.slots, (σ.objs.map (frzO id xs)).set id (some .dead)⟩

theorem frzL_length (id : Nat) (xs : List (List PVal)) : ∀ cs : List AVal, (frzL id xs cs).length = cs.length
  | [] => rfl
  | _ :: r => by simp [frzL, frzL_length id xs r]
theorem frzL_get (id : Nat) (xs : List (List PVal)) : ∀ (cs : List AVal) (i : Nat), (frzL id xs cs).getD i .junk = Abs.frz id xs (cs.getD i .junk)
  | [], i => by simp [frzL, List.getD, Abs.frz]
  | c :: r, 0 => by simp [frzL, List.getD]
  | c :: r, i + 1 => by have := frzL_get id xs r i; simpa [frzL, List.getD] using this

theorem frzL_pv (id : Nat) (xs : List (List PVal)) : ∀ ps : List PVal, frzL id xs (ps.map .pv) = ps.map .pv
  | [] => rfl
  | p :: r => by simp [frzL, Abs.frz, frzL_pv id xs r]
theorem frz_mval (id : Nat) (xs : List (List PVal)) (q : Bool × List PVal) : Abs.frz id xs (mval q) = mval q := by
  unfold mval
  cases q.1 <;> simp [Abs.frz, frzL_pv]

theorem Weak.freeze (id : Nat) {sz : Nat} {xs : List (List PVal)} (hob : σ.obj id = some (.row sz xs)) : Weak env pin σ (σ.frz id xs) := fun hl => ⟨by simp [St.frz, hl], fun E g M a w hR => by
  obtain ⟨r1, r2, r3⟩ := hR.objs id _ hob
  have hlt := dom_of_some hob
  -- the memory grows by the row
  let M' : Mem := fun b i => if g.ν id = false ∧ b = g.ρ id ∧ i < xs.length * sz then w.cell? ⟨b, i, none⟩ else M b i
  have hMle : Mem.le M M' := fun b i u hu => by
    simp only [M']
    split
    · exact hR.sat b i u hu
    · exact hu
  have hslice : V g σ.dom M (.row id xs.length) (if g.ν id then .slice none 0 0 else .slice (some ⟨g.ρ id, 0, none⟩) xs.length (g.κ id)) → True := fun _ => trivial
  have hrd : ∀ v n, V g σ.dom M (.row id n) v → n = xs.length → Rd M' (.slice xs) v := fun v n hv hn => by
    cases hv with
    | rown _ _ hnu => rw [r2 hnu]; exact .nils
    | row _ _ _ hnu =>
      subst hn
      obtain ⟨vals, T, hh, h4, h5, h6⟩ := r3 hnu
      refine .slice xs sz (g.ρ id) 0 (g.κ id) (fun i j => vals.getD (i * sz + j) undef) r1 (fun i j hi hj => ?_) (fun i j hi hj => (h6 i j hi hj).mono hMle) h4
      have hlt2 : i * sz + j < xs.length * sz := by
        have : (i + 1) * sz ≤ xs.length * sz := Nat.mul_le_mul_right _ hi
        rw [Nat.add_mul] at this; omega
      have hle : xs.length * sz ≤ g.κ id * sz := Nat.mul_le_mul_right _ h4
      simp only [M', Nat.zero_add, hnu, hlt2, and_self, if_true]
      rw [cell_of_heap hh]
      have : i * sz + j < vals.size := by omega
      simp [this]
  have hobj' : ∀ k ob, (σ.frz id xs).obj k = some ob → (k = id ∧ ob = .dead) ∨ (k ≠ id ∧ ∃ ob0, σ.obj k = some ob0 ∧ frzO id xs (some ob0) = some ob) := fun k ob hk => by
    by_cases hki : id = k
    · subst hki
      have : (σ.frz id xs).obj id = some .dead := by simp [St.frz, St.obj, hlt]
      rw [this] at hk; cases hk; exact .inl ⟨rfl, rfl⟩
    · refine .inr ⟨fun e => hki e.symm, ?_⟩
      have e1 : (σ.frz id xs).obj k = frzO id xs (σ.obj k) := by
        simp only [St.frz, St.obj, List.getD, List.getElem?_set_ne hki, List.getElem?_map]
        cases σ.objs[k]? <;> rfl
      rw [e1] at hk
      cases ho : σ.obj k with
      | none => rw [ho] at hk; cases hk
      | some ob0 => rw [ho] at hk; exact ⟨ob0, rfl, hk⟩
  have hdom' : ∀ k, σ.dom k → (σ.frz id xs).dom k := fun k hd => by
    by_cases hki : id = k
    · subst hki; simp [St.dom, St.frz, St.obj, hlt]
    · have e1 : (σ.frz id xs).obj k = frzO id xs (σ.obj k) := by
        simp only [St.frz, St.obj, List.getD, List.getElem?_set_ne hki, List.getElem?_map]
        cases σ.objs[k]? <;> rfl
      unfold St.dom
      rw [e1]
      cases ho : σ.obj k with
      | none => exact absurd ho hd
      | some ob0 => cases ob0 <;> simp [frzO]
  have hV : ∀ x v, V g σ.dom M x v → V g (σ.frz id xs).dom M' (Abs.frz id xs x) v := by
    intro x v h
    induction h with
    | pv r => exact .pv (r.mono hMle)
    | snil => exact .snil
    | ref k off hd =>
      simp only [Abs.frz]
      split
      · exact .junk _
      · exact .ref _ _ (hdom' _ hd)
    | row k m hd hnu =>
      simp only [Abs.frz]
      split
      · rename_i hk
        subst hk
        split
        · rename_i hm; exact .pv (hrd _ m (.row _ _ hd hnu) hm)
        · exact .junk _
      · exact .row _ _ (hdom' _ hd) hnu
    | rown k hd hnu =>
      simp only [Abs.frz]
      split
      · rename_i hk
        subst hk
        split
        · rename_i hm; exact .pv (hrd _ 0 (.rown _ hd hnu) hm)
        · exact .junk _
      · exact .rown _ (hdom' _ hd) hnu
    | eref k i j s hd =>
      simp only [Abs.frz]
      split
      · exact .junk _
      · exact .eref _ _ _ _ (hdom' _ hd)
    | map k hd => exact .map _ (hdom' _ hd)
    | agg cs vs hl _ ih => exact .agg _ vs (by rw [frzL_length]; exact hl) (fun i hi => by rw [frzL_length] at hi; rw [frzL_get]; exact ih i hi)
    | tup cs vs hl _ ih => exact .tup _ vs (by rw [frzL_length]; exact hl) (fun i hi => by rw [frzL_length] at hi; rw [frzL_get]; exact ih i hi)
    | junk v => exact .junk v
  have hownf : ∀ k ob ob0, frzO id xs (some ob0) = some ob → owns g k ob = owns g k ob0 := fun k ob ob0 h => by cases ob0 <;> simp [frzO] at h <;> subst h <;> rfl
  refine ⟨g, M', ⟨by simp [St.frz, frzL_length, hR.size], hR.defers, ?_, ?_, ?_, ?_, ?_, Mem.le_trans hR.M0 hMle, ?_, hR.size0, hR.same, ?_, hR.os, hR.tape, hR.output⟩, hMle, fun k hk hd => ⟨Gh.agree_refl _ _, hdom' k hd⟩⟩
  · intro i hi
    have e1 : (σ.frz id xs).slot i = Abs.frz id xs (σ.slot i) := frzL_get id xs σ.slots i
    rw [e1]; exact hV _ _ (hR.slot i)
  · intro k ob hk
    rcases hobj' k ob hk with ⟨rfl, rfl⟩ | ⟨hne, ob0, h1, h2⟩
    · trivial
    · have hor := hR.objs k ob0 h1
      cases ob0 with
      | cells cs =>
        simp only [frzO, Option.some.injEq] at h2
        subst h2
        obtain ⟨vals, T, hh, hs, hv⟩ := hor
        exact ⟨vals, T, hh, by rw [hs, frzL_length], fun j hj => by rw [frzL_length] at hj; rw [frzL_get]; exact hV _ _ (hv j hj)⟩
      | row sz' xs' =>
        simp only [frzO, Option.some.injEq] at h2
        subst h2
        obtain ⟨q1, q2, q3⟩ := hor
        exact ⟨q1, q2, fun hnu => let ⟨vals, T, hh, q4, q5, q6⟩ := q3 hnu; ⟨vals, T, hh, q4, q5, fun i j hi hj => (q6 i j hi hj).mono hMle⟩⟩
      | map kd es =>
        simp only [frzO, Option.some.injEq] at h2
        subst h2
        obtain ⟨ents, clock, hh, hs, hv⟩ := hor
        refine ⟨ents, clock, hh, hs, fun i e he => ?_⟩
        obtain ⟨en, q1, q2, q3, q4⟩ := hv i e he
        exact ⟨en, q1, q2, q3.mono hMle, frz_mval id xs e.2 ▸ hV _ _ q4⟩
      | dead => simp only [frzO, Option.some.injEq] at h2; subst h2; trivial
  · intro k k' ob ob' b hk hk' hb hb'
    rcases hobj' k ob hk with ⟨rfl, rfl⟩ | ⟨hne, ob0, h1, h2⟩
    · simp [owns] at hb
    · rcases hobj' k' ob' hk' with ⟨rfl, rfl⟩ | ⟨hne', ob0', h1', h2'⟩
      · simp [owns] at hb'
      · exact hR.apart k k' ob0 ob0' b h1 h1' (by rw [← hownf k ob ob0 h2]; exact hb) (by rw [← hownf k' ob' ob0' h2']; exact hb')
  · intro k ob b hk hb i
    rcases hobj' k ob hk with ⟨rfl, rfl⟩ | ⟨hne, ob0, h1, h2⟩
    · simp [owns] at hb
    · have hb0 : owns g k ob0 = some b := by rw [← hownf k ob ob0 h2]; exact hb
      simp only [M']
      rw [if_neg]
      · exact hR.offM k ob0 b h1 hb0 i
      · rintro ⟨hnu, hbe, _⟩
        exact hne (hR.apart k id ob0 _ b h1 hob hb0 (by simp [owns, hnu, hbe]))
  · intro b i u hu
    simp only [M'] at hu
    split at hu
    · exact hu
    · exact hR.sat b i u hu
  · intro b i hb hB
    simp only [M']
    rw [if_neg]
    · exact hR.Mnew b i hb hB
    · rintro ⟨hnu, hbe, _⟩
      rcases hR.own0 id _ b hob (by simp [owns, hnu, hbe]) with h1 | h1
      · exact hB h1
      · omega
  · intro k ob b hk hb
    rcases hobj' k ob hk with ⟨rfl, rfl⟩ | ⟨hne, ob0, h1, h2⟩
    · simp [owns] at hb
    · exact hR.own0 k ob0 b h1 (by rw [← hownf k ob ob0 h2]; exact hb)⟩

theorem Weak.nilRow (t id sz : Nat) (hs : σ.slot t = .snil) (hn : σ.obj id = none) (hid : id < env.nobj) : Weak env pin σ ⟨σ.slots.set t (.row id 0), σ.objs.set id (some (.row sz []))⟩ := fun hl => ⟨by simp [hl], fun E g M a w hR => by
  have hne : ∀ i, σ.dom i → i ≠ id := fun i hi e => hi (by rw [e]; exact hn)
  have hag : ∀ i, σ.dom i → g.agree (g.set id 0 0 true) i := fun i hi => Gh.set_agree (hne i hi)
  have hself : (σ.set id (.row sz [])).obj id = some (.row sz []) := St.obj_set_self (by omega)
  have hR' : Rel E (σ.set id (.row sz [])) (g.set id 0 0 true) M a w := by
    refine hR.update (fun i => i = id) rfl (fun i hi => St.obj_set_ne (fun e => hi e.symm)) (fun i hi => dom_set i hi) hag ?_ (fun _ _ _ => rfl) ?_ ?_ (Nat.le_refl _) rfl rfl rfl
    · rintro i ob rfl ho
      rw [hself] at ho
      cases ho
      exact ⟨by simp, fun _ => rfl, fun h => by simp [Gh.set] at h⟩
    · rintro i ob b rfl ho hb
      rw [hself] at ho
      cases ho
      simp [owns, Gh.set] at hb
    · rintro i i' _ _ _ rfl rfl _ _ _ _; rfl
  refine ⟨_, M, ?_, Mem.le_refl _, fun k hk hd => ⟨hag k hd, dom_set k hd⟩⟩
  refine ⟨by simp [hR.size], hR.defers, ?_, hR'.objs, hR'.apart, hR'.offM, hR'.sat, hR'.M0, hR'.Mnew, hR'.size0, hR'.same, hR'.own0, hR'.os, hR'.tape, hR'.output⟩
  intro i hi
  simp only [List.length_set] at hi
  by_cases hti : t = i
  · subst hti
    have e1 : St.slot ⟨σ.slots.set t (.row id 0), σ.objs.set id (some (.row sz []))⟩ t = .row id 0 := by simp [St.slot, hi]
    rw [e1]
    have hv := hR.slots t hi
    rw [hs] at hv
    generalize a.tmps.getD t undef = v at hv
    cases hv
    exact .rown id (by show (σ.set id (.row sz [])).dom id; simp [St.dom, hself]) (by simp [Gh.set])
  · have e1 : St.slot ⟨σ.slots.set t (.row id 0), σ.objs.set id (some (.row sz []))⟩ i = σ.slot i := by simp [St.slot, List.getElem?_set_ne hti]
    rw [e1]
    exact hR'.slots i hi⟩
end
end Go.Abs
namespace Go.Abs
open Go

def aresOne (env : Env) (σ : St) : ResultVar → Option AVal
  | .tmp t => some (σ.slot t)
  | .cell a t => match env.ty t, σ.slot a with
    | some ty, .ref id off => match σ.obj id with
      | some (.cells cs) => if off + ty.size ≤ cs.length ∧ 0 < ty.size then some (if ty.agg then .agg ((cs.drop off).take ty.size) else cs.getD off .junk) else none
      | _ => none
    | _, _ => none

def ares (env : Env) (σ : St) : List ResultVar → Option (List AVal)
  | [] => some []
  | r :: rs => match aresOne env σ r, ares env σ rs with
    | some v, some vs => some (v :: vs)
    | _, _ => none

def pack : List AVal → AVal
  | [v] => v
  | vs => .tup vs

section
variable {P : Program} {env : Env} {σ : St} {E : Ent} {g : Gh} {M : Mem} {a : Act} {w : World}

theorem aresOne_run (hR : Rel E σ g M a w) (hE : EnvOK P env) {r : ResultVar} {x : AVal} (h : aresOne env σ r = some x) :
    ∃ v, (match r with | .tmp t => pure (a.tmps.getD t undef) | .cell b t => do loadVar t (← asAddr (a.tmps.getD b undef)) : Sem Value).run P w = .ok v w ∧ V g σ.dom M x v := by
  cases r with
  | tmp t => cases h; exact ⟨_, rfl, hR.slot t⟩
  | cell b t =>
    simp only [aresOne] at h
    split at h
    · rename_i ty id off ht hx
      have hv := hR.slot b
      rw [hx] at hv
      obtain ⟨hp, hd⟩ := hv.ref_inv
      split at h
      · rename_i cs hob
        split at h
        · rename_i hc
          cases h
          obtain ⟨vals, T, hh, hs, hvv⟩ := hR.objs id _ hob
          refine ⟨if ty.agg then .agg ((List.range ty.size).map fun j => vals.getD (off + j) undef).toArray else vals.getD off undef, ?_, ?_⟩
          · have h1 := run_loadVar_cells (P := P) hE ht w (g.ρ id) off (fun j => vals.getD (off + j) undef) hc.2 (fun j hj => by
              rw [cell_of_heap hh]
              have : off + j < vals.size := by omega
              simp [this])
            simp only [hp, Sem.run_bind, asAddr, Sem.run_pure, Result.andThen]
            exact h1
          · cases ty.agg
            · exact hvv off (by omega)
            · refine V_aggOf (by simp; omega) (fun j hj => ?_)
              have : ((cs.drop off).take ty.size).getD j .junk = cs.getD (off + j) .junk := by
                simp [List.getD, List.getElem?_take, hj, List.getElem?_drop]
              rw [this]; exact hvv (off + j) (by omega)
        · cases h
      · cases h
    · cases h

theorem ares_run (hR : Rel E σ g M a w) (hE : EnvOK P env) : ∀ {rs : List ResultVar} {xs : List AVal}, ares env σ rs = some xs →
    ∃ vs : List Value, (rs.mapM (fun | .tmp t => pure (a.tmps.getD t undef) | .cell b t => do loadVar t (← asAddr (a.tmps.getD b undef)) : ResultVar → Sem Value)).run P w = .ok vs w ∧ vs.length = xs.length ∧ ∀ i, i < xs.length → V g σ.dom M (xs.getD i .junk) (vs.getD i undef)
  | [], xs, h => by cases h; exact ⟨[], rfl, rfl, fun i hi => by simp at hi⟩
  | r :: rs, xs, h => by
    simp only [ares] at h
    split at h
    · rename_i x xs' h1 h2
      cases h
      obtain ⟨v, hv, hvv⟩ := aresOne_run (P := P) hR hE h1
      obtain ⟨vs, hvs, hl, hvvs⟩ := ares_run hR hE h2
      refine ⟨v :: vs, ?_, by simp [hl], fun i hi => ?_⟩
      · rw [List.mapM_cons, Sem.run_bind, hv]
        simp only [Result.andThen, Sem.run_bind, hvs, Sem.run_pure]
      · cases i with
        | zero => simpa [List.getD] using hvv
        | succ i => simpa [List.getD] using hvvs i (by simpa using hi)
    · cases h

theorem results_run (hR : Rel E σ g M a w) (hE : EnvOK P env) {fn : Func} {xs : List AVal} (h : ares env σ fn.results.toList = some xs) :
    ∃ v, (results fn a.tmps).run P w = .ok v w ∧ V g σ.dom M (pack xs) v := by
  obtain ⟨vs, hvs, hl, hv⟩ := ares_run (P := P) hR hE h
  have hm : (fn.results.mapM (fun | .tmp t => pure (a.tmps.getD t undef) | .cell b t => do loadVar t (← asAddr (a.tmps.getD b undef)) : ResultVar → Sem Value)).run P w = .ok vs.toArray w := by
    rw [Array.mapM_eq_mapM_toList, Sem.run_map, hvs]; rfl
  refine ⟨if h : vs.toArray.size = 1 then vs.toArray[0] else .tuple vs.toArray, ?_, ?_⟩
  · have e : results fn a.tmps = ((fn.results.mapM (fun | .tmp t => pure (a.tmps.getD t undef) | .cell b t => do loadVar t (← asAddr (a.tmps.getD b undef)) : ResultVar → Sem Value)) >>= fun vs => pure (if h : vs.size = 1 then vs[0] else .tuple vs)) := by
      unfold results
      congr 1
    rw [e, Sem.run_bind, hm]
    simp only [Result.andThen, Sem.run_pure]
  · match xs, vs, hl, hv with
    | [], [], _, hv => exact .tup [] [] rfl (fun i hi => by simp at hi)
    | [x], [v], _, hv => have := hv 0 (by simp); simpa [List.getD, pack] using this
    | x :: y :: r, v :: u :: s, hl, hv =>
      have e1 : ¬ (v :: u :: s).toArray.size = 1 := by simp
      rw [dif_neg e1]
      exact .tup _ _ hl hv

def retQ (env : Env) (n : Nat) (rs : List ResultVar) (res : AVal) (objs' : List (Option AObj)) : Exit → St → Prop := fun e σ =>
  (e = .ret ∨ e = .normal) ∧ ∃ vs τ, ares env σ rs = some vs ∧ wkSlots (tau τ) (hasObj objs') [pack vs] [res] ∧ wkObjs (tau τ) (hasObj objs') σ 0 objs' ∧ (∀ k, k < n → tau τ k = k) ∧ τ.Nodup ∧ objs'.length ≤ τ.length

theorem AC.of_body (hE : EnvOK P env) {f : FuncId} {fn : Func} {code : Code} (hf : P.funcs[f]? = some fn) (hb : fn.body = some code) {args : List AVal} {objs : List (Option AObj)} {res : AVal} {objs' : List (Option AObj)}
    (hargs : args.length ≤ fn.ntmps) (hobjs : objs.length ≤ env.nobj)
    (h : SW P env objs.length code ⟨args ++ List.replicate (fn.ntmps - args.length) .junk, objs ++ List.replicate (env.nobj - objs.length) none⟩ (retQ env objs.length fn.results.toList res objs')) :
    AC P env.gl f args objs res objs' := by
  intro w M g vargs hR hG
  have hla : vargs.length = args.length := by simpa using hR.size
  refine calls_of_wp hf hb ?_
  have hobj : ∀ id, St.obj ⟨args ++ List.replicate (fn.ntmps - args.length) .junk, objs ++ List.replicate (env.nobj - objs.length) none⟩ id = St.obj ⟨args, objs⟩ id := fun id => by
    simp only [St.obj, List.getD]
    by_cases hid : id < objs.length
    · rw [List.getElem?_append_left hid]
    · rw [List.getElem?_append_right (by omega), List.getElem?_eq_none (by omega : objs.length ≤ id)]
      rw [List.getElem?_replicate]
      split <;> rfl
  have hdom : St.dom ⟨args ++ List.replicate (fn.ntmps - args.length) .junk, objs ++ List.replicate (env.nobj - objs.length) none⟩ = St.dom ⟨args, objs⟩ := by
    funext id; simp only [St.dom, hobj]
  have hR0 : Rel ⟨w, M, blocksOf g objs⟩ ⟨args ++ List.replicate (fn.ntmps - args.length) .junk, objs ++ List.replicate (env.nobj - objs.length) none⟩ g M
      { tmps := vargs.toArray ++ Array.replicate (fn.ntmps - vargs.toArray.size) undef, defers := [] } w := by
    refine ⟨by simp [hla], rfl, ?_, ?_, ?_, ?_, hR.sat, hR.M0, hR.Mnew, hR.size0, hR.same, ?_, hR.os, hR.tape, hR.output⟩
    · intro i hi
      rw [hdom]
      by_cases hia : i < args.length
      · have e1 : St.slot ⟨args ++ List.replicate (fn.ntmps - args.length) .junk, objs ++ List.replicate (env.nobj - objs.length) none⟩ i = St.slot ⟨args, objs⟩ i := by
          simp [St.slot, List.getElem?_append_left hia]
        have e2 : (vargs.toArray ++ Array.replicate (fn.ntmps - vargs.toArray.size) undef).getD i undef = vargs.toArray.getD i undef := by
          simp only [Array.getD_eq_getD_getElem?]
          rw [Array.getElem?_append_left (by simp; omega)]
        rw [e1, e2]; exact hR.slots i hia
      · have e1 : St.slot ⟨args ++ List.replicate (fn.ntmps - args.length) .junk, objs ++ List.replicate (env.nobj - objs.length) none⟩ i = .junk := by
          simp only [St.slot, List.getD]
          rw [List.getElem?_append_right (by omega), List.getElem?_replicate]
          split <;> rfl
        rw [e1]; exact .junk _
    · intro id o ho; rw [hobj] at ho; rw [hdom]; exact hR.objs id o ho
    · intro id id' o o' b ho ho'; rw [hobj] at ho ho'; exact hR.apart id id' o o' b ho ho'
    · intro id o b ho; rw [hobj] at ho; exact hR.offM id o b ho
    · intro id o b ho; rw [hobj] at ho; exact hR.own0 id o b ho
  refine wp_mono (h (by simp; omega) _ g M _ w hR0 hG) fun e a' w' ⟨σ', g', M', ⟨he, vs, τ, hvs, hws, hwo, hpin, hnd, hlen⟩, hR', hM, hA, hl'⟩ => ?_
  have key : a'.defers = [] ∧ ∃ v, (results fn a'.tmps).run P w' = .ok v w' ∧ ∃ v' g' M', Ending.returned v = .returned v' ∧ Rel ⟨w, M, blocksOf g objs⟩ ⟨[res], objs'⟩ g' M' ⟨#[v'], []⟩ w' ∧ ∀ id, hasObj objs id = true → g.agree g' id := by
    obtain ⟨v, hrun, hV⟩ := results_run (P := P) hR' hE hvs
    refine ⟨hR'.defers, v, hrun, v, _, M', rfl, hR'.wk (σ' := ⟨[res], objs'⟩) (tau τ) (by simp) rfl (fun i hi => ?_) hwo (fun i j hi hj e => nodup_get_inj hnd (by simp at hi; omega) (by simp at hj; omega) e), fun id hid => ?_⟩
    · have hi0 : i = 0 := by simpa using hi
      subst hi0
      obtain ⟨_, hg⟩ := wkSlots_get hws
      rcases hg 0 with h1 | ⟨h1, h2⟩
      · exact .inl h1
      · exact .inr ⟨pack vs, hV, by simpa [List.getD, St.slot] using h1, by simpa [List.getD, St.slot] using h2⟩
    · have hlt : id < objs.length := by
        rcases Nat.lt_or_ge id objs.length with h | h
        · exact h
        · simp [hasObj, List.getD, List.getElem?_eq_none h] at hid
      have hd : St.dom ⟨args ++ List.replicate (fn.ntmps - args.length) .junk, objs ++ List.replicate (env.nobj - objs.length) none⟩ id := by
        rw [hdom]; intro h0
        have h1 : objs.getD id none = none := h0
        simp only [hasObj] at hid
        rw [h1] at hid; cases hid
      obtain ⟨⟨h1, h2, h3⟩, _⟩ := hA id hlt hd
      simp only [Gh.agree, hpin id hlt]
      exact ⟨h1, h2, h3⟩
  rcases he with rfl | rfl
  · exact key
  · exact key
end
end Go.Abs
namespace Go.Abs
open Go

theorem SW.seqK {P : Program} {env : Env} {pin : Nat} {σ : St} {Q : Exit → St → Prop} {x y : Code} (h : ∀ N : St → Prop, (∀ σ', SW P env pin y σ' Q → N σ') → SW P env pin x σ (thenQ N Q)) : SW P env pin (.seq x y) σ Q :=
  SW.seq (h _ fun _ h => h)

def R0 (P : Program) (env : Env) (ops : Array Oper) (K : St → Prop) : List Oper → St → Prop
  | [], σ => K σ
  | o :: rest, σ => ∃ T e, GStep P env ops o σ T e ∧ R0 P env ops K rest (σ.app o.dst e)

def RD (P : Program) (env : Env) (ops : Array Oper) (K : List (List Nat × List Nat) → St → Prop) : List Oper → List (List Nat × List Nat) → St → Prop
  | [], acc, σ => K acc σ
  | o :: rest, acc, σ => ∃ T e, GStep P env ops o σ T e ∧ RD P env ops K rest (acc ++ [(T, e.upd.map Prod.fst)]) (σ.app o.dst e)

def clashT (ops : Array Oper) (oi oj : Oper) (ri rj : List Nat × List Nat) : Bool :=
  !(oi.apart ops oj) || (meets ri.1 rj.1 && !(ri.2.isEmpty && rj.2.isEmpty))

def regT (ops : Array Oper) (A : Nat → List Nat) (tr : Nat → List Nat × List Nat) : Bool :=
  (List.range ops.size).all fun k => match ops[k]? with
    | none => false
    | some o =>
      (o.after.all fun e => !Region.binds .any e || decide (e.on < k)) &&
      ((tr k).2.all fun q => (tr k).1.contains q) &&
      ((A k).all fun j => o.after.any fun e => Region.binds .any e && (e.on == j || (A e.on).contains j)) &&
      ((List.range k).all fun i => (A k).contains i || match ops[i]? with | some oi => !clashT ops oi o (tr i) (tr k) | none => false)

def pairAt (l : List (List Nat × List Nat)) (k : Nat) : List Nat × List Nat := l.getD k ([], [])
def short (r : Rec) : List Nat × List Nat := (r.T, r.e.upd.map Prod.fst)

section
variable {P : Program} {env : Env} {pin : Nat} {σ : St} {Q : Exit → St → Prop}

theorem regT_ok {ops : Array Oper} {A : Nat → List Nat} {tr : List Rec} (h : regT ops A (pairAt (tr.map short)) = true) : regOK ops A (recAt tr) = true := by
  have hp : ∀ k, pairAt (tr.map short) k = short (recAt tr k) := fun k => by
    simp only [pairAt, recAt, List.getD, List.getElem?_map]
    cases tr[k]? <;> rfl
  unfold regT at h
  unfold regOK
  rw [List.all_eq_true] at h ⊢
  intro k hk
  have := h k hk
  cases ho : ops[k]? with
  | none => rw [ho] at this; cases this
  | some o =>
    rw [ho] at this
    simp only [Bool.and_eq_true] at this ⊢
    obtain ⟨⟨⟨h1, h2⟩, h3⟩, h4⟩ := this
    refine ⟨⟨⟨h1, ?_⟩, h3⟩, ?_⟩
    · rw [hp] at h2
      simp only [short, List.all_map] at h2
      exact h2
    · rw [List.all_eq_true] at h4 ⊢
      intro i hi
      have h5 := h4 i hi
      cases hoi : ops[i]? with
      | none => rw [hoi] at h5; exact h5
      | some oi =>
        rw [hoi] at h5
        rw [hp, hp] at h5
        have e1 : clashT ops oi o (short (recAt tr i)) (short (recAt tr k)) = clash ops oi o (recAt tr i) (recAt tr k) := by
          unfold clashT clash short
          cases (recAt tr i).e.upd <;> cases (recAt tr k).e.upd <;> rfl
        have h6 : ((A k).contains i || !clashT ops oi o (short (recAt tr i)) (short (recAt tr k))) = true := h5
        rw [e1] at h6
        exact h6

theorem R0.toRR {ops : Array Oper} {K : St → Prop} : ∀ (l : List Oper) (acc : List Rec) (σ : St), R0 P env ops K l σ → RR P env ops (fun _ σ => K σ) l acc σ
  | [], _, _, h => h
  | _ :: rest, acc, σ, ⟨T, e, h1, h2⟩ => ⟨T, e, h1, R0.toRR rest _ _ h2⟩

theorem RD.toRR {ops : Array Oper} {K : List (List Nat × List Nat) → St → Prop} : ∀ (l : List Oper) (acc : List Rec) (σ : St), RD P env ops K l (acc.map short) σ → RR P env ops (fun tr σ => K (tr.map short) σ) l acc σ
  | [], _, _, h => h
  | _ :: rest, acc, σ, ⟨T, e, h1, h2⟩ => ⟨T, e, h1, RD.toRR rest (acc ++ [⟨T, e⟩]) _ (by simpa [short] using h2)⟩

theorem SW.reg (hE : EnvOK P env) {id : Nat} {ops : Array Oper} (h : R0 P env ops (fun σ' => Q .normal σ') ops.toList σ) : SW P env pin (.region id ops false) σ Q :=
  SW.region hE (R0.toRR _ _ _ h)

theorem SW.drawn (hE : EnvOK P env) (hm : P.follows .mixedOrders = true) {id : Nat} {ops : Array Oper} (h : RD P env ops (fun tr σ' => regT ops (anc ops) (pairAt tr) = true ∧ Q .normal σ') ops.toList [] σ) : SW P env pin (.region id ops true) σ Q := by
  refine SW.draw hE hm ?_
  have h1 := RD.toRR (K := fun tr σ' => regT ops (anc ops) (pairAt tr) = true ∧ Q .normal σ') ops.toList [] σ h
  have key : ∀ (l : List Oper) (acc : List Rec) (σ : St), RR P env ops (fun tr σ => regT ops (anc ops) (pairAt (tr.map short)) = true ∧ Q .normal σ) l acc σ → RR P env ops (fun tr σ' => regOK ops (anc ops) (recAt tr) = true ∧ Q .normal σ') l acc σ := by
    intro l
    induction l with
    | nil => intro acc σ h; exact ⟨regT_ok h.1, h.2⟩
    | cons o rest ih => intro acc σ ⟨T, e, h2, h3⟩; exact ⟨T, e, h2, ih _ _ h3⟩
  exact key _ _ _ h1

def elimP {α : Type} (x : Option α) (A : α → Prop) : Prop := match x with | some a => A a | none => False
theorem elimP_some {α : Type} (a : α) (A : α → Prop) : elimP (some a) A = A a := rfl
theorem elimP_none {α : Type} (A : α → Prop) : elimP none A = False := rfl
theorem elimP_ite {α : Type} (c : Prop) [Decidable c] (x : Option α) (A : α → Prop) : elimP (if c then x else none) A = (c ∧ elimP x A) := by
  by_cases h : c <;> simp [h, elimP]
theorem elimP_ite' {α : Type} (c : Prop) [Decidable c] (x : Option α) (A : α → Prop) : elimP (if c then none else x) A = (¬ c ∧ elimP x A) := by
  by_cases h : c <;> simp [h, elimP]
theorem elimP_map {α β : Type} (f : α → β) (x : Option α) (A : β → Prop) : elimP (x.map f) A = elimP x (fun a => A (f a)) := by cases x <;> rfl
@[congr] theorem elimP_congr {α : Type} {x y : Option α} {A : α → Prop} (h : x = y) : elimP x A = elimP y A := by rw [h]
def gcond (b : Bool) (A B : Unit → Prop) : Prop := (b = true → A ()) ∧ (b = false → B ())
theorem gcond_true (A B : Unit → Prop) : gcond true A B = A () := by simp [gcond]
theorem gcond_false (A B : Unit → Prop) : gcond false A B = B () := by simp [gcond]
@[congr] theorem gcond_congr {b c : Bool} {A B : Unit → Prop} (h : b = c) : gcond b A B = gcond c A B := by rw [h]
theorem gcond_mk {b : Bool} {A B : Unit → Prop} (h : b = true → A ()) (k : b = false → B ()) : gcond b A B := ⟨h, k⟩

def isCall : Op → Bool
  | .call ⟨.value _, _, _⟩ => true
  | _ => false

def go0 (P : Program) (env : Env) (ops : Array Oper) (K : St → Prop) : Nat → List Oper → St → Prop
  | 0, l, σ => R0 P env ops K l σ
  | _ + 1, [], σ => K σ
  | n + 1, o :: rest, σ => elimP (aguard ops σ o) fun b => gcond b
      (fun _ => if isCall o.op = true then R0 P env ops K (o :: rest) σ else elimP (aop env o.dst (aeval env σ) σ.obj o.op) fun e => go0 P env ops K n rest (σ.app o.dst e))
      (fun _ => go0 P env ops K n rest (σ.app o.dst ⟨.tup [], []⟩))
theorem R0.go {ops : Array Oper} {K : St → Prop} : ∀ (n : Nat) {l : List Oper} {σ : St}, go0 P env ops K n l σ → R0 P env ops K l σ
  | 0, _, _, h => h
  | _ + 1, [], _, h => h
  | n + 1, o :: rest, σ, h => by
    simp only [go0] at h
    cases hg : aguard ops σ o with
    | none => rw [hg] at h; exact h.elim
    | some b =>
      rw [hg, elimP_some] at h
      cases b with
      | true =>
        rw [gcond_true] at h
        split at h
        · exact h
        · cases he : aop env o.dst (aeval env σ) σ.obj o.op with
          | none => rw [he] at h; exact h.elim
          | some e => rw [he] at h; exact ⟨_, e, .run _ _ hg (.op _ he), R0.go n h⟩
      | false =>
        rw [gcond_false] at h
        exact ⟨_, _, .skip hg, R0.go n h⟩
def goD (P : Program) (env : Env) (ops : Array Oper) (K : List (List Nat × List Nat) → St → Prop) : Nat → List Oper → List (List Nat × List Nat) → St → Prop
  | 0, l, acc, σ => RD P env ops K l acc σ
  | _ + 1, [], acc, σ => K acc σ
  | n + 1, o :: rest, acc, σ => elimP (aguard ops σ o) fun b => gcond b
      (fun _ => if isCall o.op = true then RD P env ops K (o :: rest) acc σ else elimP (aop env o.dst (aeval env σ) σ.obj o.op) fun e => goD P env ops K n rest (acc ++ [(atgt env o.dst (aeval env σ) o.op, e.upd.map Prod.fst)]) (σ.app o.dst e))
      (fun _ => goD P env ops K n rest (acc ++ [([], [])]) (σ.app o.dst ⟨.tup [], []⟩))
theorem RD.go {ops : Array Oper} {K : List (List Nat × List Nat) → St → Prop} : ∀ (n : Nat) {l : List Oper} {acc : List (List Nat × List Nat)} {σ : St}, goD P env ops K n l acc σ → RD P env ops K l acc σ
  | 0, _, _, _, h => h
  | _ + 1, [], _, _, h => h
  | n + 1, o :: rest, acc, σ, h => by
    simp only [goD] at h
    cases hg : aguard ops σ o with
    | none => rw [hg] at h; exact h.elim
    | some b =>
      rw [hg, elimP_some] at h
      cases b with
      | true =>
        rw [gcond_true] at h
        split at h
        · exact h
        · cases he : aop env o.dst (aeval env σ) σ.obj o.op with
          | none => rw [he] at h; exact h.elim
          | some e => rw [he] at h; exact ⟨_, e, .run _ _ hg (.op _ he), RD.go n h⟩
      | false =>
        rw [gcond_false] at h
        exact ⟨_, _, .skip hg, RD.go n h⟩

theorem on {N S : St → Prop} {σ : St} (h : ∀ σ', S σ' → N σ') (k : S σ) : N σ := h σ k

theorem R0.call {ops : Array Oper} {K : St → Prop} {o : Oper} {rest : List Oper} (hg : aguard ops σ o = some true) {f : FuncId} {args : Array Operand} {cargs : List AVal} {cobjs : List (Option AObj)} (ids news : List Nat) {res : AVal} {objs' : List (Option AObj)}
    (hac : AC P env.gl f cargs cobjs res objs') (hf : CallFits P env σ o f args cargs cobjs ids news objs')
    (h : R0 P env ops K rest (σ.app o.dst ⟨ren (tau (ids ++ news)) res, callUpd (tau (ids ++ news)) (ids ++ news) 0 objs'⟩)) : R0 P env ops K (o :: rest) σ :=
  ⟨_, _, .run _ _ hg (.call f args cargs cobjs ids news res objs' hf hac), h⟩
theorem RD.call {ops : Array Oper} {K : List (List Nat × List Nat) → St → Prop} {o : Oper} {rest : List Oper} {acc : List (List Nat × List Nat)} (hg : aguard ops σ o = some true) {f : FuncId} {args : Array Operand} {cargs : List AVal} {cobjs : List (Option AObj)} (ids news : List Nat) {res : AVal} {objs' : List (Option AObj)}
    (hac : AC P env.gl f cargs cobjs res objs') (hf : CallFits P env σ o f args cargs cobjs ids news objs')
    (h : RD P env ops K rest (acc ++ [(ids ++ news, (callUpd (tau (ids ++ news)) (ids ++ news) 0 objs').map Prod.fst)]) (σ.app o.dst ⟨ren (tau (ids ++ news)) res, callUpd (tau (ids ++ news)) (ids ++ news) 0 objs'⟩)) : RD P env ops K (o :: rest) acc σ :=
  ⟨_, _, .run _ _ hg (.call f args cargs cobjs ids news res objs' hf hac), h⟩

theorem CallFits.pure {σ : St} {o : Oper} {f : FuncId} {args : Array Operand} {cargs : List AVal} {tys : Array TypeId} (ho : o.op = .call ⟨.value (.func f), args, tys⟩) (hent : ∀ vargs w, (callFunc f vargs).run P w = .ok (.enter f vargs) w)
    (hargs : args.toList.map (aeval env σ) = renL (fun k => ([] : List Nat).getD k 0) cargs) (hsc : inScopeL (hasObj []) cargs = true) : CallFits P env σ o f args cargs [] [] [] [] where
  op := ⟨tys, ho⟩
  enters := hent
  args := hargs
  objs := rfl
  scopeA := hsc
  scopeO := by simp
  nodup := by simp
  lt := by simp
  fresh := by simp
  len := by simp
end
end Go.Abs
namespace Go.Abs
open Go

mutual
theorem ren_none (τ : Nat → Nat) : ∀ (v : AVal), inScope (hasObj []) v = true → ren τ v = v
  | .ref id off, h => by simp [inScope, hasObj] at h
  | .row id n, h => by simp [inScope, hasObj] at h
  | .eref id i j sz, h => by simp [inScope, hasObj] at h
  | .map id, h => by simp [inScope, hasObj] at h
  | .agg cs, h => by simp only [ren]; rw [renL_none τ cs (by simpa [inScope] using h)]
  | .tup cs, h => by simp only [ren]; rw [renL_none τ cs (by simpa [inScope] using h)]
  | .pv p, _ => rfl
  | .snil, _ => rfl
  | .junk, _ => rfl
theorem renL_none (τ : Nat → Nat) : ∀ (l : List AVal), inScopeL (hasObj []) l = true → renL τ l = l
  | [], _ => rfl
  | a :: r, h => by
    simp [inScopeL] at h
    simp only [renL]
    rw [ren_none τ a h.1, renL_none τ r h.2]
end

mutual
def sub : AVal → AVal → Prop
  | .snil, .pv (.slice []) => True
  | .agg cs, .agg ds => subL cs ds
  | a, b => a = b
def subL : List AVal → List AVal → Prop
  | [], [] => True
  | a :: r, b :: s => sub a b ∧ subL r s
  | _, _ => False
end

theorem subL_get : ∀ {l m : List AVal}, subL l m → l.length = m.length ∧ ∀ i, i < l.length → sub (l.getD i .junk) (m.getD i .junk)
  | [], [], _ => ⟨rfl, fun i hi => by simp at hi⟩
  | a :: r, b :: s, h => by
    rw [subL] at h
    obtain ⟨h1, h2⟩ := subL_get h.2
    refine ⟨by simp [h1], fun i hi => ?_⟩
    cases i with
    | zero => simpa [List.getD] using h.1
    | succ i => simpa [List.getD] using h2 i (by simpa using hi)
  | [], _ :: _, h => by simp [subL] at h
  | _ :: _, [], h => by simp [subL] at h

theorem V.sub {g : Gh} {D : Nat → Prop} {M : Mem} {a : AVal} {v : Value} (h : V g D M a v) : ∀ {b : AVal}, Abs.sub a b → V g D M b v := by
  induction h with
  | snil =>
    intro b hb
    unfold Abs.sub at hb
    split at hb
    · exact .pv .nils
    · rename_i h1; cases h1
    · subst hb; exact .snil
  | agg cs vs hl hv ih =>
    intro b hb
    unfold Abs.sub at hb
    split at hb
    · rename_i h1; cases h1
    · rename_i h1
      cases h1
      rename_i ds
      obtain ⟨h2, h3⟩ := subL_get hb
      exact .agg ds vs (by omega) (fun i hi => ih i (by omega) (h3 i (by omega)))
    · subst hb; exact .agg cs vs hl hv
  | pv r =>
    intro b hb
    rename_i p _
    have : b = .pv p := by cases b <;> simp_all [Abs.sub]
    subst this; exact .pv r
  | ref id off hd => intro b hb; have : b = .ref id off := by cases b <;> simp_all [Abs.sub]
                     subst this; exact .ref id off hd
  | row id n hd hn => intro b hb; have : b = .row id n := by cases b <;> simp_all [Abs.sub]
                      subst this; exact .row id n hd hn
  | rown id hd hn => intro b hb; have : b = .row id 0 := by cases b <;> simp_all [Abs.sub]
                     subst this; exact .rown id hd hn
  | eref id i j sz hd => intro b hb; have : b = .eref id i j sz := by cases b <;> simp_all [Abs.sub]
                         subst this; exact .eref id i j sz hd
  | map id hd => intro b hb; have : b = .map id := by cases b <;> simp_all [Abs.sub]
                 subst this; exact .map id hd
  | tup cs vs hl hv ih => intro b hb; have : b = .tup cs := by cases b <;> simp_all [Abs.sub]
                          subst this; exact .tup cs vs hl hv
  | junk v => intro b hb; have : b = .junk := by cases b <;> simp_all [Abs.sub]
              subst this; exact .junk v

theorem AC.sub {P : Program} {gl : Nat → Option (List PVal)} {f : FuncId} {args args' : List AVal} {objs : List (Option AObj)} {res : AVal} {objs' : List (Option AObj)} (h : AC P gl f args' objs res objs') (hs : subL args args') : AC P gl f args objs res objs' := by
  intro w M g vargs hR hG
  obtain ⟨h1, h2⟩ := subL_get hs
  refine h w M g vargs ⟨by rw [hR.size]; exact h1, hR.defers, fun i hi => ?_, hR.objs, hR.apart, hR.offM, hR.sat, hR.M0, hR.Mnew, hR.size0, hR.same, hR.own0, hR.os, hR.tape, hR.output⟩ hG
  have hi' : i < args.length := by rw [h1]; exact hi
  exact (hR.slots i hi').sub (h2 i hi')

theorem ret0 {env : Env} {rs : List ResultVar} {res : AVal} {e : Exit} {σ : St} {vs : List AVal} (he : e = .ret ∨ e = .normal) (h : ares env σ rs = some vs) (hp : pack vs = res) (hsc : inScope (hasObj []) res = true) : retQ env 0 rs res [] e σ :=
  ⟨he, vs, [], h, ⟨.inr ⟨by rw [ren_none _ _ hsc]; exact hp, hsc⟩, trivial⟩, trivial, fun k hk => by omega, by simp, by simp⟩

theorem getD_map {α : Type} (enc : α → List PVal) (l : List α) (k : Nat) (h : k < l.length) : (l.map enc).getD k [] = enc l[k] := by
  simp [List.getD, h]

theorem wrap64 (n : Int) (h1 : -9223372036854775808 ≤ n) (h2 : n ≤ 9223372036854775807) : IntKind.i64.wrap n = n := IntWalk.i64_in n ⟨h1, h2⟩

theorem SW.condT {P : Program} {env : Env} {pin : Nat} {σ : St} {Q : Exit → St → Prop} {c : Operand} {x y : Code} (hc : aeval env σ c = .pv (.bool true)) (h : SW P env pin x σ Q) : SW P env pin (.cond c x y) σ Q :=
  SW.cond hc (fun _ => h) (fun h => by cases h)
theorem SW.condF {P : Program} {env : Env} {pin : Nat} {σ : St} {Q : Exit → St → Prop} {c : Operand} {x y : Code} (hc : aeval env σ c = .pv (.bool false)) (h : SW P env pin y σ Q) : SW P env pin (.cond c x y) σ Q :=
  SW.cond hc (fun h => by cases h) (fun _ => h)

section
variable {P : Program} {env : Env} {σ : St}

theorem R0.callP {ops : Array Oper} {K : St → Prop} {d : Option Nat} {f : FuncId} {args : Array Operand} {tys : Array TypeId} {ty : TypeId} {pos : String} {aft : Array Edge} {gd : Option (Nat × Bool)} {rest : List Oper} {cargs : List AVal} {res : AVal}
    (hac : AC P env.gl f cargs [] res []) (hent : ∀ vargs w, (callFunc f vargs).run P w = .ok (.enter f vargs) w)
    (hg : aguard ops σ ⟨d, .call ⟨.value (.func f), args, tys⟩, ty, pos, aft, gd⟩ = some true)
    (hargs : args.toList.map (aeval env σ) = cargs) (hsc : inScopeL (hasObj []) cargs = true) (hres : inScope (hasObj []) res = true)
    (h : R0 P env ops K rest (σ.app d ⟨res, []⟩)) : R0 P env ops K (⟨d, .call ⟨.value (.func f), args, tys⟩, ty, pos, aft, gd⟩ :: rest) σ := by
  refine R0.call hg [] [] hac (CallFits.pure rfl hent (by rw [renL_none _ _ hsc]; exact hargs) hsc) ?_
  rw [ren_none _ _ hres]
  exact h
theorem RD.callP {ops : Array Oper} {K : List (List Nat × List Nat) → St → Prop} {acc : List (List Nat × List Nat)} {d : Option Nat} {f : FuncId} {args : Array Operand} {tys : Array TypeId} {ty : TypeId} {pos : String} {aft : Array Edge} {gd : Option (Nat × Bool)} {rest : List Oper} {cargs : List AVal} {res : AVal}
    (hac : AC P env.gl f cargs [] res []) (hent : ∀ vargs w, (callFunc f vargs).run P w = .ok (.enter f vargs) w)
    (hg : aguard ops σ ⟨d, .call ⟨.value (.func f), args, tys⟩, ty, pos, aft, gd⟩ = some true)
    (hargs : args.toList.map (aeval env σ) = cargs) (hsc : inScopeL (hasObj []) cargs = true) (hres : inScope (hasObj []) res = true)
    (h : RD P env ops K rest (acc ++ [([], [])]) (σ.app d ⟨res, []⟩)) : RD P env ops K (⟨d, .call ⟨.value (.func f), args, tys⟩, ty, pos, aft, gd⟩ :: rest) acc σ := by
  refine RD.call hg [] [] hac (CallFits.pure rfl hent (by rw [renL_none _ _ hsc]; exact hargs) hsc) ?_
  rw [ren_none _ _ hres]
  exact h
end
end Go.Abs
namespace Go.Abs
open Go

theorem cast0 : ((0 : Nat) : Int) = 0 := by simp

structure COp where
  dst : Option Nat
  op : Op
  guard : Option (Option (Nat × Bool))

def gres (all : List Oper) : Option (Nat × Bool) → Option (Option (Nat × Bool))
  | none => none
  | some (j, want) => some (((all[j]?).bind (·.dst)).map fun t => (t, want))
def compL (all : List Oper) : List Oper → List COp
  | [] => []
  | o :: r => ⟨o.dst, o.op, gres all o.guard⟩ :: compL all r

def cguard (σ : St) : Option (Option (Nat × Bool)) → Option Bool
  | none => some true
  | some none => none
  | some (some (t, want)) => match σ.slot t with
    | .pv (.bool b) => some (b == want)
    | .tup [] => some false
    | _ => none

inductive CStep (P : Program) (env : Env) (c : COp) (σ : St) : List Nat → Eff → Prop
  | run (o : Oper) (T : List Nat) (e : Eff) : o.dst = c.dst → o.op = c.op → cguard σ c.guard = some true → Step P env o σ T e → CStep P env c σ T e
  | skip : cguard σ c.guard = some false → CStep P env c σ [] ⟨.tup [], []⟩

def R0c (P : Program) (env : Env) (K : St → Prop) : List COp → St → Prop
  | [], σ => K σ
  | c :: rest, σ => ∃ T e, CStep P env c σ T e ∧ R0c P env K rest (σ.app c.dst e)
def RDc (P : Program) (env : Env) (K : List (List Nat × List Nat) → St → Prop) : List COp → List (List Nat × List Nat) → St → Prop
  | [], acc, σ => K acc σ
  | c :: rest, acc, σ => ∃ T e, CStep P env c σ T e ∧ RDc P env K rest (acc ++ [(T, e.upd.map Prod.fst)]) (σ.app c.dst e)

section
variable {P : Program} {env : Env} {pin : Nat} {σ : St} {Q : Exit → St → Prop}

theorem aguard_c (ops : Array Oper) (o : Oper) : aguard ops σ o = cguard σ (gres ops.toList o.guard) := by
  unfold aguard
  cases o.guard with
  | none => rfl
  | some q =>
    obtain ⟨j, want⟩ := q
    simp only [gres, Array.getElem?_toList]
    cases (ops[j]?).bind (·.dst) <;> rfl

theorem Step.congr {o o' : Oper} {T : List Nat} {e : Eff} (hd : o.dst = o'.dst) (hop : o.op = o'.op) (h : Step P env o σ T e) : Step P env o' σ T e := by
  cases h with
  | op _ h =>
    rw [hd, hop] at *
    exact .op e h
  | call f args cargs cobjs ids news res objs' hf hac =>
    refine .call f args cargs cobjs ids news res objs' ?_ hac
    obtain ⟨⟨tys, ho⟩, h2, h3, h4, h5, h6, h7, h8, h9, h10⟩ := hf
    exact ⟨⟨tys, by rw [← hop]; exact ho⟩, h2, h3, h4, h5, h6, h7, h8, h9, h10⟩

theorem R0c.to {ops : Array Oper} {K : St → Prop} : ∀ (l : List Oper) (σ : St), R0c P env K (compL ops.toList l) σ → R0 P env ops K l σ
  | [], _, h => h
  | o :: rest, σ, ⟨T, e, h1, h2⟩ => by
    refine ⟨T, e, ?_, R0c.to rest _ h2⟩
    cases h1 with
    | run o' _ _ hd hop hg hs => exact .run T e (by rw [aguard_c]; exact hg) (hs.congr hd hop)
    | skip hg => exact .skip (by rw [aguard_c]; exact hg)
theorem RDc.to {ops : Array Oper} {K : List (List Nat × List Nat) → St → Prop} : ∀ (l : List Oper) (acc : List (List Nat × List Nat)) (σ : St), RDc P env K (compL ops.toList l) acc σ → RD P env ops K l acc σ
  | [], _, _, h => h
  | o :: rest, acc, σ, ⟨T, e, h1, h2⟩ => by
    refine ⟨T, e, ?_, RDc.to rest _ _ h2⟩
    cases h1 with
    | run o' _ _ hd hop hg hs => exact .run T e (by rw [aguard_c]; exact hg) (hs.congr hd hop)
    | skip hg => exact .skip (by rw [aguard_c]; exact hg)

def W0 (P : Program) (env : Env) (K : St → Prop) : List COp → St → Prop
  | [], σ => K σ
  | c :: rest, σ => match cguard σ c.guard with
    | some true => if isCall c.op = true then R0c P env K (c :: rest) σ else match aop env c.dst (aeval env σ) σ.obj c.op with
      | some e => W0 P env K rest (σ.app c.dst e)
      | none => False
    | some false => W0 P env K rest (σ.app c.dst ⟨.tup [], []⟩)
    | none => False
def WE (P : Program) (env : Env) (K : St → Prop) (r : Option Eff) (d : Option Nat) (rest : List COp) (σ : St) : Prop :=
  match r with | some e => W0 P env K rest (σ.app d e) | none => False
def WG (P : Program) (env : Env) (K : St → Prop) (b : Option Bool) (c : COp) (rest : List COp) (σ : St) : Prop :=
  match b with
  | some true => if isCall c.op = true then R0c P env K (c :: rest) σ else WE P env K (aop env c.dst (aeval env σ) σ.obj c.op) c.dst rest σ
  | some false => W0 P env K rest (σ.app c.dst ⟨.tup [], []⟩)
  | none => False
theorem W0_nil (K : St → Prop) (σ : St) : W0 P env K [] σ = K σ := rfl
theorem W0_cons (K : St → Prop) (c : COp) (rest : List COp) (σ : St) : W0 P env K (c :: rest) σ = WG P env K (cguard σ c.guard) c rest σ := rfl
theorem WG_true (K : St → Prop) (c : COp) (rest : List COp) (σ : St) : WG P env K (some true) c rest σ = if isCall c.op = true then R0c P env K (c :: rest) σ else WE P env K (aop env c.dst (aeval env σ) σ.obj c.op) c.dst rest σ := rfl
theorem WG_false (K : St → Prop) (c : COp) (rest : List COp) (σ : St) : WG P env K (some false) c rest σ = W0 P env K rest (σ.app c.dst ⟨.tup [], []⟩) := rfl
theorem WE_some (K : St → Prop) (e : Eff) (d : Option Nat) (rest : List COp) (σ : St) : WE P env K (some e) d rest σ = W0 P env K rest (σ.app d e) := rfl
theorem WE_ite (K : St → Prop) (p : Prop) [Decidable p] (x : Option Eff) (d : Option Nat) (rest : List COp) (σ : St) : WE P env K (if p then x else none) d rest σ = (p ∧ WE P env K x d rest σ) := by
  by_cases h : p <;> simp [h, WE]
theorem WE_ite' (K : St → Prop) (p : Prop) [Decidable p] (x : Option Eff) (d : Option Nat) (rest : List COp) (σ : St) : WE P env K (if p then none else x) d rest σ = (¬ p ∧ WE P env K x d rest σ) := by
  by_cases h : p <;> simp [h, WE]
theorem WG_split {K : St → Prop} {b : Bool} {c : COp} {rest : List COp} {σ : St} (h : b = true → WG P env K (some true) c rest σ) (k : b = false → WG P env K (some false) c rest σ) : WG P env K (some b) c rest σ := by
  cases b
  · exact k rfl
  · exact h rfl
theorem map_ite {α β : Type} (f : α → β) (p : Prop) [Decidable p] (x : Option α) : (if p then x else none).map f = if p then x.map f else none := by split <;> rfl
theorem map_ite' {α β : Type} (f : α → β) (p : Prop) [Decidable p] (x : Option α) : (if p then none else x).map f = if p then none else x.map f := by split <;> rfl

theorem W0.to {K : St → Prop} : ∀ (l : List COp) (σ : St), W0 P env K l σ → R0c P env K l σ
  | [], _, h => h
  | c :: rest, σ, h => by
    simp only [W0] at h
    split at h
    · rename_i hg
      split at h
      · exact h
      · split at h
        · rename_i e he
          exact ⟨_, e, .run ⟨c.dst, c.op, 0, "", #[], none⟩ _ e rfl rfl hg (.op e he), W0.to rest _ h⟩
        · exact h.elim
    · rename_i hg
      exact ⟨_, _, .skip hg, W0.to rest _ h⟩
    · exact h.elim

def W1 (P : Program) (env : Env) (K : List (List Nat × List Nat) → St → Prop) : List COp → List (List Nat × List Nat) → St → Prop
  | [], acc, σ => K acc σ
  | c :: rest, acc, σ => match cguard σ c.guard with
    | some true => if isCall c.op = true then RDc P env K (c :: rest) acc σ else match aop env c.dst (aeval env σ) σ.obj c.op with
      | some e => W1 P env K rest (acc ++ [(atgt env c.dst (aeval env σ) c.op, e.upd.map Prod.fst)]) (σ.app c.dst e)
      | none => False
    | some false => W1 P env K rest (acc ++ [([], [])]) (σ.app c.dst ⟨.tup [], []⟩)
    | none => False
def XE (P : Program) (env : Env) (K : List (List Nat × List Nat) → St → Prop) (r : Option Eff) (T : List Nat) (d : Option Nat) (rest : List COp) (acc : List (List Nat × List Nat)) (σ : St) : Prop :=
  match r with | some e => W1 P env K rest (acc ++ [(T, e.upd.map Prod.fst)]) (σ.app d e) | none => False
def XG (P : Program) (env : Env) (K : List (List Nat × List Nat) → St → Prop) (b : Option Bool) (c : COp) (rest : List COp) (acc : List (List Nat × List Nat)) (σ : St) : Prop :=
  match b with
  | some true => if isCall c.op = true then RDc P env K (c :: rest) acc σ else XE P env K (aop env c.dst (aeval env σ) σ.obj c.op) (atgt env c.dst (aeval env σ) c.op) c.dst rest acc σ
  | some false => W1 P env K rest (acc ++ [([], [])]) (σ.app c.dst ⟨.tup [], []⟩)
  | none => False
theorem W1_nil (K : List (List Nat × List Nat) → St → Prop) (acc : List (List Nat × List Nat)) (σ : St) : W1 P env K [] acc σ = K acc σ := rfl
theorem W1_cons (K : List (List Nat × List Nat) → St → Prop) (c : COp) (rest : List COp) (acc : List (List Nat × List Nat)) (σ : St) : W1 P env K (c :: rest) acc σ = XG P env K (cguard σ c.guard) c rest acc σ := rfl
theorem XG_true (K : List (List Nat × List Nat) → St → Prop) (c : COp) (rest : List COp) (acc : List (List Nat × List Nat)) (σ : St) : XG P env K (some true) c rest acc σ = if isCall c.op = true then RDc P env K (c :: rest) acc σ else XE P env K (aop env c.dst (aeval env σ) σ.obj c.op) (atgt env c.dst (aeval env σ) c.op) c.dst rest acc σ := rfl
theorem XG_false (K : List (List Nat × List Nat) → St → Prop) (c : COp) (rest : List COp) (acc : List (List Nat × List Nat)) (σ : St) : XG P env K (some false) c rest acc σ = W1 P env K rest (acc ++ [([], [])]) (σ.app c.dst ⟨.tup [], []⟩) := rfl
theorem XE_some (K : List (List Nat × List Nat) → St → Prop) (e : Eff) (T : List Nat) (d : Option Nat) (rest : List COp) (acc : List (List Nat × List Nat)) (σ : St) : XE P env K (some e) T d rest acc σ = W1 P env K rest (acc ++ [(T, e.upd.map Prod.fst)]) (σ.app d e) := rfl
theorem XE_ite (K : List (List Nat × List Nat) → St → Prop) (p : Prop) [Decidable p] (x : Option Eff) (T : List Nat) (d : Option Nat) (rest : List COp) (acc : List (List Nat × List Nat)) (σ : St) : XE P env K (if p then x else none) T d rest acc σ = (p ∧ XE P env K x T d rest acc σ) := by
  by_cases h : p <;> simp [h, XE]
theorem XE_ite' (K : List (List Nat × List Nat) → St → Prop) (p : Prop) [Decidable p] (x : Option Eff) (T : List Nat) (d : Option Nat) (rest : List COp) (acc : List (List Nat × List Nat)) (σ : St) : XE P env K (if p then none else x) T d rest acc σ = (¬ p ∧ XE P env K x T d rest acc σ) := by
  by_cases h : p <;> simp [h, XE]
theorem XG_split {K : List (List Nat × List Nat) → St → Prop} {b : Bool} {c : COp} {rest : List COp} {acc : List (List Nat × List Nat)} {σ : St} (h : b = true → XG P env K (some true) c rest acc σ) (k : b = false → XG P env K (some false) c rest acc σ) : XG P env K (some b) c rest acc σ := by
  cases b
  · exact k rfl
  · exact h rfl
theorem W1.to {K : List (List Nat × List Nat) → St → Prop} : ∀ (l : List COp) (acc : List (List Nat × List Nat)) (σ : St), W1 P env K l acc σ → RDc P env K l acc σ
  | [], _, _, h => h
  | c :: rest, acc, σ, h => by
    simp only [W1] at h
    split at h
    · rename_i hg
      split at h
      · exact h
      · split at h
        · rename_i e he
          exact ⟨_, e, .run ⟨c.dst, c.op, 0, "", #[], none⟩ _ e rfl rfl hg (.op e he), W1.to rest _ _ h⟩
        · exact h.elim
    · rename_i hg
      exact ⟨_, _, .skip hg, W1.to rest _ _ h⟩
    · exact h.elim

theorem SW.rg (hE : EnvOK P env) {id : Nat} {ops : Array Oper} (h : ∀ K : St → Prop, (∀ σ', Q .normal σ' → K σ') → W0 P env K (compL ops.toList ops.toList) σ) : SW P env pin (.region id ops false) σ Q :=
  SW.reg hE (R0c.to _ _ (W0.to _ _ (h _ fun _ h => h)))
theorem SW.rd (hE : EnvOK P env) (hm : P.follows .mixedOrders = true) {id : Nat} {ops : Array Oper} (h : ∀ K : List (List Nat × List Nat) → St → Prop, (∀ tr σ', regT ops (anc ops) (pairAt tr) = true → Q .normal σ' → K tr σ') → W1 P env K (compL ops.toList ops.toList) [] σ) : SW P env pin (.region id ops true) σ Q :=
  SW.drawn hE hm (RDc.to _ _ _ (W1.to _ _ _ (h _ fun _ _ h1 h2 => ⟨h1, h2⟩)))
theorem onK {K : St → Prop} {σ : St} (h : ∀ σ', Q .normal σ' → K σ') (k : Q .normal σ) : K σ := h σ k
theorem onD {K : List (List Nat × List Nat) → St → Prop} {tr : List (List Nat × List Nat)} {p : List (List Nat × List Nat) → Prop} (h : ∀ tr σ', p tr → Q .normal σ' → K tr σ') (k1 : p tr) (k2 : Q .normal σ) : K tr σ := h tr σ k1 k2

theorem R0c.callP {K : St → Prop} {d : Option Nat} {f : FuncId} {args : Array Operand} {tys : Array TypeId} {gd : Option (Option (Nat × Bool))} {rest : List COp} {cargs : List AVal} {res : AVal}
    (hac : AC P env.gl f cargs [] res []) (hent : ∀ vargs w, (callFunc f vargs).run P w = .ok (.enter f vargs) w) (hg : cguard σ gd = some true)
    (hargs : subL (args.toList.map (aeval env σ)) cargs) (hsc : inScopeL (hasObj []) (args.toList.map (aeval env σ)) = true) (hres : inScope (hasObj []) res = true)
    (h : W0 P env K rest (σ.app d ⟨res, []⟩)) : R0c P env K (⟨d, .call ⟨.value (.func f), args, tys⟩, gd⟩ :: rest) σ := by
  refine ⟨_, _, .run ⟨d, .call ⟨.value (.func f), args, tys⟩, 0, "", #[], none⟩ _ _ rfl rfl hg (.call f args (args.toList.map (aeval env σ)) [] [] [] res [] (CallFits.pure rfl hent (by rw [renL_none _ _ hsc]) hsc) (hac.sub hargs)), ?_⟩
  rw [ren_none _ _ hres]
  exact W0.to _ _ h
theorem RDc.callP {K : List (List Nat × List Nat) → St → Prop} {acc : List (List Nat × List Nat)} {d : Option Nat} {f : FuncId} {args : Array Operand} {tys : Array TypeId} {gd : Option (Option (Nat × Bool))} {rest : List COp} {cargs : List AVal} {res : AVal}
    (hac : AC P env.gl f cargs [] res []) (hent : ∀ vargs w, (callFunc f vargs).run P w = .ok (.enter f vargs) w) (hg : cguard σ gd = some true)
    (hargs : subL (args.toList.map (aeval env σ)) cargs) (hsc : inScopeL (hasObj []) (args.toList.map (aeval env σ)) = true) (hres : inScope (hasObj []) res = true)
    (h : W1 P env K rest (acc ++ [([], [])]) (σ.app d ⟨res, []⟩)) : RDc P env K (⟨d, .call ⟨.value (.func f), args, tys⟩, gd⟩ :: rest) acc σ := by
  refine ⟨_, _, .run ⟨d, .call ⟨.value (.func f), args, tys⟩, 0, "", #[], none⟩ _ _ rfl rfl hg (.call f args (args.toList.map (aeval env σ)) [] [] [] res [] (CallFits.pure rfl hent (by rw [renL_none _ _ hsc]) hsc) (hac.sub hargs)), ?_⟩
  rw [ren_none _ _ hres]
  exact W1.to _ _ _ h
theorem R0c.callO {K : St → Prop} {d : Option Nat} {f : FuncId} {args : Array Operand} {tys : Array TypeId} {gd : Option (Option (Nat × Bool))} {rest : List COp} {cargs : List AVal} {cobjs : List (Option AObj)} (ids news : List Nat) {res : AVal} {objs' : List (Option AObj)}
    (hac : AC P env.gl f cargs cobjs res objs') (hg : cguard σ gd = some true) (hf : ∀ o : Oper, o.op = .call ⟨.value (.func f), args, tys⟩ → CallFits P env σ o f args cargs cobjs ids news objs')
    (h : W0 P env K rest (σ.app d ⟨ren (tau (ids ++ news)) res, callUpd (tau (ids ++ news)) (ids ++ news) 0 objs'⟩)) : R0c P env K (⟨d, .call ⟨.value (.func f), args, tys⟩, gd⟩ :: rest) σ :=
  ⟨_, _, .run ⟨d, .call ⟨.value (.func f), args, tys⟩, 0, "", #[], none⟩ _ _ rfl rfl hg (.call f args cargs cobjs ids news res objs' (hf _ rfl) hac), W0.to _ _ h⟩
theorem RDc.callO {K : List (List Nat × List Nat) → St → Prop} {acc : List (List Nat × List Nat)} {d : Option Nat} {f : FuncId} {args : Array Operand} {tys : Array TypeId} {gd : Option (Option (Nat × Bool))} {rest : List COp} {cargs : List AVal} {cobjs : List (Option AObj)} (ids news : List Nat) {res : AVal} {objs' : List (Option AObj)}
    (hac : AC P env.gl f cargs cobjs res objs') (hg : cguard σ gd = some true) (hf : ∀ o : Oper, o.op = .call ⟨.value (.func f), args, tys⟩ → CallFits P env σ o f args cargs cobjs ids news objs')
    (h : W1 P env K rest (acc ++ [(ids ++ news, (callUpd (tau (ids ++ news)) (ids ++ news) 0 objs').map Prod.fst)]) (σ.app d ⟨ren (tau (ids ++ news)) res, callUpd (tau (ids ++ news)) (ids ++ news) 0 objs'⟩)) : RDc P env K (⟨d, .call ⟨.value (.func f), args, tys⟩, gd⟩ :: rest) acc σ :=
  ⟨_, _, .run ⟨d, .call ⟨.value (.func f), args, tys⟩, 0, "", #[], none⟩ _ _ rfl rfl hg (.call f args cargs cobjs ids news res objs' (hf _ rfl) hac), W1.to _ _ _ h⟩

theorem SW.condS {t : Nat} {x y : Code} {b : Bool} (hc : σ.slot t = .pv (.bool b)) (ht : b = true → SW P env pin x ⟨σ.slots.set t (.pv (.bool true)), σ.objs⟩ Q) (hf : b = false → SW P env pin y ⟨σ.slots.set t (.pv (.bool false)), σ.objs⟩ Q) : SW P env pin (.cond (.tmp t) x y) σ Q := by
  have key : ∀ v, σ.slot t = v → v ≠ .junk → (⟨σ.slots.set t v, σ.objs⟩ : St) = σ := fun v hv hn => by
    have hlt : t < σ.slots.length := by
      rcases Nat.lt_or_ge t σ.slots.length with h | h
      · exact h
      · exfalso; apply hn; rw [← hv]; simp [St.slot, List.getElem?_eq_none h]
    have : σ.slots.set t v = σ.slots := by
      apply List.ext_getElem?
      intro i
      by_cases hi : t = i
      · subst hi
        rw [List.getElem?_set_self hlt, List.getElem?_eq_getElem hlt]
        have : σ.slots[t] = v := by simpa [St.slot, List.getD, hlt] using hv
        rw [this]
      · rw [List.getElem?_set_ne hi]
    rw [this]
  refine SW.cond (b := b) hc (fun h => ?_) (fun h => ?_)
  · subst h; have := ht rfl; rwa [key _ hc (by simp)] at this
  · subst h; have := hf rfl; rwa [key _ hc (by simp)] at this
end
end Go.Abs
namespace Go.Abs
open Go
theorem pinsF {σ σ' : St} {n : Nat} (h : (σ'.objs.take n).all Option.isSome = true) (hn : n ≤ σ'.objs.length) : ∀ k, k < n → σ.dom k → σ'.dom k := fun k hk _ hno => by
  have hkl : k < σ'.objs.length := by omega
  rw [List.all_eq_true] at h
  have h1 := h σ'.objs[k] (by rw [List.mem_take_iff_getElem]; exact ⟨k, by omega, rfl⟩)
  have h2 : σ'.objs[k] = none := by simpa [St.obj, List.getD, hkl] using hno
  rw [h2] at h1; cases h1
theorem pinsT {σ σ' : St} {n : Nat} {τ : List Nat} (ht : ∀ k, k < n → tau τ k = k) (h : (σ'.objs.take n).all Option.isSome = true) (hn : n ≤ σ'.objs.length) : ∀ k, k < n → tau τ k = k ∧ (σ.dom k → σ'.dom k) := fun k hk => ⟨ht k hk, pinsF h hn k hk⟩
end Go.Abs
namespace Go.Abs
open Go
variable {env : Env} {pin : Nat} {σ : St}

theorem Rel.nilRow1 {E : Ent} {g : Gh} {M : Mem} {a : Act} {w : World} (id sz : Nat) (hn : σ.obj id = none) (hlt : id < σ.objs.length) (hR : Rel E σ g M a w) : Rel E (σ.set id (.row sz [])) (g.set id 0 0 true) M a w := by
  have hne : ∀ i, σ.dom i → i ≠ id := fun i hi e => hi (by rw [e]; exact hn)
  have hag : ∀ i, σ.dom i → g.agree (g.set id 0 0 true) i := fun i hi => Gh.set_agree (hne i hi)
  have hself : (σ.set id (.row sz [])).obj id = some (.row sz []) := St.obj_set_self hlt
  refine hR.update (fun i => i = id) rfl (fun i hi => St.obj_set_ne (fun e => hi e.symm)) (fun i hi => dom_set i hi) hag ?_ (fun _ _ _ => rfl) ?_ ?_ (Nat.le_refl _) rfl rfl rfl
  · rintro i ob rfl ho
    rw [hself] at ho
    cases ho
    exact ⟨by simp, fun _ => rfl, fun h => by simp [Gh.set] at h⟩
  · rintro i ob b rfl ho hb
    rw [hself] at ho
    cases ho
    simp [owns, Gh.set] at hb
  · rintro i i' _ _ _ rfl rfl _ _ _ _; rfl

theorem Weak.nilRowC (b j id sz : Nat) {cs : List AVal} (hb : σ.obj b = some (.cells cs)) (hj : cs.getD j .junk = .snil) (hn : σ.obj id = none) (hid : id < env.nobj) : Weak env pin σ ⟨σ.slots, (σ.objs.set id (some (.row sz []))).set b (some (.cells (cs.set j (.row id 0))))⟩ := fun hl => ⟨by simp [hl], fun E g M a w hR => by
  have hne : ∀ i, σ.dom i → i ≠ id := fun i hi e => hi (by rw [e]; exact hn)
  have hag : ∀ i, σ.dom i → g.agree (g.set id 0 0 true) i := fun i hi => Gh.set_agree (hne i hi)
  have hbd : σ.dom b := by simp [St.dom, hb]
  have hbi : id ≠ b := fun e => hne b hbd e.symm
  have h1 := hR.nilRow1 id sz hn (by omega)
  generalize hσ : σ.set id (.row sz []) = σ1 at *
  have hl1 : σ1.objs.length = σ.objs.length := by rw [← hσ]; simp [St.set]
  have hdid : σ1.dom id := by rw [← hσ]; simp [St.dom, St.obj_set_self (σ := σ) (ob := .row sz []) (by omega : id < σ.objs.length)]
  have hb1 : σ1.obj b = some (.cells cs) := by rw [← hσ, St.obj_set_ne hbi]; exact hb
  have hblt : b < σ1.objs.length := by
    rcases Nat.lt_or_ge b σ1.objs.length with h | h
    · exact h
    · simp [St.obj, List.getElem?_eq_none h] at hb1
  have e0 : (⟨σ.slots, (σ.objs.set id (some (.row sz []))).set b (some (.cells (cs.set j (.row id 0))))⟩ : St) = σ1.set b (.cells (cs.set j (.row id 0))) := by rw [← hσ]; rfl
  rw [e0]
  have hself : (σ1.set b (.cells (cs.set j (.row id 0)))).obj b = some (.cells (cs.set j (.row id 0))) := St.obj_set_self hblt
  refine ⟨g.set id 0 0 true, M, ?_, Mem.le_refl _, fun k hk hd => ⟨hag k hd, dom_set k (by rw [← hσ]; exact dom_set k hd)⟩⟩
  refine h1.update (fun i => i = b) rfl (fun i hi => St.obj_set_ne (fun e => hi e.symm)) (fun i hi => dom_set i hi) (fun i _ => ⟨rfl, rfl, rfl⟩) ?_ (fun _ _ _ => rfl) ?_ ?_ (Nat.le_refl _) rfl rfl rfl
  · rintro i ob rfl ho
    rw [hself] at ho
    cases ho
    obtain ⟨vals, T, hh, hsz, hc⟩ := h1.objs _ _ hb1
    refine ⟨vals, T, hh, by simpa using hsz, fun k hk => ?_⟩
    simp only [List.length_set] at hk
    by_cases hkj : j = k
    · subst hkj
      have hv := hc j hk
      rw [hj] at hv
      generalize vals.getD j undef = v at hv
      cases hv
      have e2 : (cs.set j (.row id 0)).getD j .junk = .row id 0 := by simp [List.getD, hk]
      rw [e2]
      exact .rown id (dom_set id hdid) (by simp [Gh.set])
    · have e2 : (cs.set j (.row id 0)).getD k .junk = cs.getD k .junk := by simp [List.getD, List.getElem?_set_ne hkj]
      rw [e2]
      exact (hc k hk).mono (fun _ _ => ⟨rfl, rfl, rfl⟩) (fun i hi => dom_set i hi) (Mem.le_refl _)
  · rintro i ob b' rfl ho hb'
    rw [hself] at ho
    cases ho
    exact .inr ⟨_, _, rfl, hb1, hb'⟩
  · rintro i i' _ _ _ rfl rfl _ _ _ _; rfl⟩
end Go.Abs
namespace Go.Abs
open Go
variable {P : Program} {env : Env} {σ : St}
mutual
theorem sub_refl : ∀ a : AVal, sub a a
  | .agg cs => by simp only [sub]; exact subL_refl cs
  | .snil => by simp [sub]
  | .pv _ => by simp [sub]
  | .ref .. => by simp [sub]
  | .row .. => by simp [sub]
  | .eref .. => by simp [sub]
  | .map _ => by simp [sub]
  | .tup _ => by simp [sub]
  | .junk => by simp [sub]
theorem subL_refl : ∀ l : List AVal, subL l l
  | [] => trivial
  | a :: r => ⟨sub_refl a, subL_refl r⟩
end
theorem R0c.callE {K : St → Prop} {d : Option Nat} {f : FuncId} {args : Array Operand} {tys : Array TypeId} {gd : Option (Option (Nat × Bool))} {rest : List COp} {vals : List AVal} {res : AVal}
    (hent : ∀ vargs w, (callFunc f vargs).run P w = .ok (.enter f vargs) w) (hargs : args.toList.map (aeval env σ) = vals) (hac : AC P env.gl f vals [] res []) (hg : cguard σ gd = some true)
    (hsc : inScopeL (hasObj []) vals = true) (hres : inScope (hasObj []) res = true)
    (h : W0 P env K rest (σ.app d ⟨res, []⟩)) : R0c P env K (⟨d, .call ⟨.value (.func f), args, tys⟩, gd⟩ :: rest) σ :=
  R0c.callP hac hent hg (by rw [hargs]; exact subL_refl _) (by rw [hargs]; exact hsc) hres h
theorem RDc.callE {K : List (List Nat × List Nat) → St → Prop} {acc : List (List Nat × List Nat)} {d : Option Nat} {f : FuncId} {args : Array Operand} {tys : Array TypeId} {gd : Option (Option (Nat × Bool))} {rest : List COp} {vals : List AVal} {res : AVal}
    (hent : ∀ vargs w, (callFunc f vargs).run P w = .ok (.enter f vargs) w) (hargs : args.toList.map (aeval env σ) = vals) (hac : AC P env.gl f vals [] res []) (hg : cguard σ gd = some true)
    (hsc : inScopeL (hasObj []) vals = true) (hres : inScope (hasObj []) res = true)
    (h : W1 P env K rest (acc ++ [([], [])]) (σ.app d ⟨res, []⟩)) : RDc P env K (⟨d, .call ⟨.value (.func f), args, tys⟩, gd⟩ :: rest) acc σ :=
  RDc.callP hac hent hg (by rw [hargs]; exact subL_refl _) (by rw [hargs]; exact hsc) hres h
end Go.Abs
namespace Go.Abs
open Go
variable {P : Program} {env : Env} {σ : St}

def cv (b : Bool) (v : AVal) : AVal := if b then v else .tup []
theorem cv_true (v : AVal) : cv true v = v := rfl
theorem cv_false (v : AVal) : cv false v = .tup [] := rfl

def gval (v : AVal) (want : Bool) : Option Bool :=
  match v with
  | .pv (.bool b) => some (b == want)
  | .tup [] => some false
  | _ => none
theorem cguard_none : cguard σ none = some true := rfl
theorem cguard_tmp (t : Nat) (want : Bool) : cguard σ (some (some (t, want))) = gval (σ.slot t) want := rfl
theorem gval_bool (b want : Bool) : gval (.pv (.bool b)) want = some (b == want) := rfl
theorem gval_tup (want : Bool) : gval (.tup []) want = some false := rfl
theorem gval_cv (b y want : Bool) : gval (cv b (.pv (.bool y))) want = some (b && (y == want)) := by cases b <;> rfl
theorem pickOr (t x : Bool) : (if t = true then AVal.pv (.bool true) else cv (!t) (.pv (.bool x))) = .pv (.bool (t || x)) := by cases t <;> rfl
theorem pickAnd (t x : Bool) : (if t = true then cv t (.pv (.bool x)) else AVal.pv (.bool false)) = .pv (.bool (t && x)) := by cases t <;> rfl

theorem WG_spec {K : St → Prop} {b : Bool} {c : COp} {rest : List COp} {v : AVal} (hc : isCall c.op = false) (h : b = true → aop env c.dst (aeval env σ) σ.obj c.op = some ⟨v, []⟩)
    (k : W0 P env K rest (σ.app c.dst ⟨cv b v, []⟩)) : WG P env K (some b) c rest σ := by
  cases b
  · exact k
  · rw [WG_true, hc, if_neg (by simp), h rfl]; exact k
theorem XG_spec {K : List (List Nat × List Nat) → St → Prop} {b : Bool} {c : COp} {rest : List COp} {acc : List (List Nat × List Nat)} {v : AVal} (hc : isCall c.op = false) (h : b = true → aop env c.dst (aeval env σ) σ.obj c.op = some ⟨v, []⟩)
    (ht : b = true → atgt env c.dst (aeval env σ) c.op = []) (k : W1 P env K rest (acc ++ [([], [])]) (σ.app c.dst ⟨cv b v, []⟩)) : XG P env K (some b) c rest acc σ := by
  cases b
  · exact k
  · rw [XG_true, hc, if_neg (by simp), h rfl, ht rfl]; exact k
theorem WG_callE {K : St → Prop} {b : Bool} {d : Option Nat} {f : FuncId} {args : Array Operand} {tys : Array TypeId} {gd : Option (Option (Nat × Bool))} {rest : List COp} {vals : List AVal} {res : AVal}
    (hent : ∀ vargs w, (callFunc f vargs).run P w = .ok (.enter f vargs) w) (hargs : b = true → args.toList.map (aeval env σ) = vals) (hac : b = true → AC P env.gl f vals [] res []) (hg : b = true → cguard σ gd = some true)
    (hsc : inScopeL (hasObj []) vals = true) (hres : inScope (hasObj []) res = true)
    (h : W0 P env K rest (σ.app d ⟨cv b res, []⟩)) : WG P env K (some b) ⟨d, .call ⟨.value (.func f), args, tys⟩, gd⟩ rest σ := by
  cases b
  · exact h
  · rw [WG_true, if_pos (show isCall (COp.mk d (.call ⟨.value (.func f), args, tys⟩) gd).op = true from rfl)]
    exact R0c.callE hent (hargs rfl) (hac rfl) (hg rfl) hsc hres h
theorem XG_callE {K : List (List Nat × List Nat) → St → Prop} {b : Bool} {acc : List (List Nat × List Nat)} {d : Option Nat} {f : FuncId} {args : Array Operand} {tys : Array TypeId} {gd : Option (Option (Nat × Bool))} {rest : List COp} {vals : List AVal} {res : AVal}
    (hent : ∀ vargs w, (callFunc f vargs).run P w = .ok (.enter f vargs) w) (hargs : b = true → args.toList.map (aeval env σ) = vals) (hac : b = true → AC P env.gl f vals [] res []) (hg : b = true → cguard σ gd = some true)
    (hsc : inScopeL (hasObj []) vals = true) (hres : inScope (hasObj []) res = true)
    (h : W1 P env K rest (acc ++ [([], [])]) (σ.app d ⟨cv b res, []⟩)) : XG P env K (some b) ⟨d, .call ⟨.value (.func f), args, tys⟩, gd⟩ rest acc σ := by
  cases b
  · exact h
  · rw [XG_true, if_pos (show isCall (COp.mk d (.call ⟨.value (.func f), args, tys⟩) gd).op = true from rfl)]
    exact RDc.callE hent (hargs rfl) (hac rfl) (hg rfl) hsc hres h
end Go.Abs
namespace Go.Abs
open Go
mutual
def nz : AVal → AVal
  | .snil => .pv (.slice [])
  | .agg cs => .agg (nzL cs)
  | .pv p => .pv p
  | .ref i o => .ref i o
  | .row i n => .row i n
  | .eref i a b c => .eref i a b c
  | .map i => .map i
  | .tup vs => .tup vs
  | .junk => .junk
def nzL : List AVal → List AVal
  | [] => []
  | a :: r => nz a :: nzL r
end
def nzO : Option AObj → Option AObj
  | some (.cells cs) => some (.cells (nzL cs))
  | o => o
def nzOs : List (Option AObj) → List (Option AObj)
  | [] => []
  | o :: r => nzO o :: nzOs r
def St.nz (σ : St) : St := ⟨nzL σ.slots, nzOs σ.objs⟩

theorem nzL_length : ∀ l : List AVal, (nzL l).length = l.length
  | [] => rfl
  | _ :: r => by simp [nzL, nzL_length r]
theorem nzL_get : ∀ (l : List AVal) (i : Nat), (nzL l).getD i .junk = Abs.nz (l.getD i .junk)
  | [], i => by simp [nzL, List.getD, Abs.nz]
  | a :: r, 0 => by simp [nzL, List.getD]
  | a :: r, i + 1 => by have := nzL_get r i; simpa [nzL, List.getD] using this
theorem nzOs_length : ∀ l : List (Option AObj), (nzOs l).length = l.length
  | [] => rfl
  | _ :: r => by simp [nzOs, nzOs_length r]
theorem nzOs_get : ∀ (l : List (Option AObj)) (i : Nat), (nzOs l).getD i none = nzO (l.getD i none)
  | [], i => by simp [nzOs, List.getD, nzO]
  | a :: r, 0 => by simp [nzOs, List.getD]
  | a :: r, i + 1 => by have := nzOs_get r i; simpa [nzOs, List.getD] using this

theorem V.nz {g : Gh} {D : Nat → Prop} {M : Mem} {a : AVal} {v : Value} (h : V g D M a v) : V g D M (Abs.nz a) v := by
  induction h with
  | snil => exact .pv .nils
  | agg cs vs hl _ ih => exact .agg _ vs (by rw [nzL_length]; exact hl) (fun i hi => by rw [nzL_length] at hi; rw [nzL_get]; exact ih i hi)
  | pv r => exact .pv r
  | ref id off hd => exact .ref id off hd
  | row id n hd hn => exact .row id n hd hn
  | rown id hd hn => exact .rown id hd hn
  | eref id i j sz hd => exact .eref id i j sz hd
  | map id hd => exact .map id hd
  | tup cs vs hl h _ => exact .tup cs vs hl h
  | junk v => exact .junk v

variable {env : Env} {pin : Nat} {σ : St}
theorem nz_obj (id : Nat) : σ.nz.obj id = nzO (σ.obj id) := nzOs_get _ _
theorem nz_some {id : Nat} {o : AObj} (h : σ.nz.obj id = some o) : ∃ o', σ.obj id = some o' ∧ nzO (some o') = some o := by
  rw [nz_obj] at h
  cases ho : σ.obj id with
  | none => rw [ho] at h; simp [nzO] at h
  | some o' => rw [ho] at h; exact ⟨o', rfl, h⟩
theorem nz_owns {g : Gh} {id : Nat} {o o' : AObj} (h : nzO (some o') = some o) : owns g id o = owns g id o' := by
  cases o' <;> simp [nzO] at h <;> subst h <;> rfl
theorem Weak.nz : Weak env pin σ σ.nz := fun hl => ⟨by simp [St.nz, nzOs_length, hl], fun E g M a w hR => by
  have hdom : ∀ id, σ.dom id → σ.nz.dom id := fun id h => by
    unfold St.dom at *
    rw [nz_obj]
    cases ho : σ.obj id with
    | none => exact absurd ho h
    | some o => cases o <;> simp [nzO]
  refine ⟨g, M, ⟨by simp [St.nz, nzL_length, hR.size], hR.defers, ?_, ?_, ?_, ?_, hR.sat, hR.M0, hR.Mnew, hR.size0, hR.same, ?_, hR.os, hR.tape, hR.output⟩, Mem.le_refl _, fun k hk hd => ⟨⟨rfl, rfl, rfl⟩, hdom k hd⟩⟩
  · intro i hi
    have e : σ.nz.slot i = Abs.nz (σ.slot i) := nzL_get _ _
    rw [e]
    exact ((hR.slots i (by simpa [St.nz, nzL_length] using hi)).nz).mono (fun _ _ => ⟨rfl, rfl, rfl⟩) hdom (Mem.le_refl _)
  · intro id o ho
    obtain ⟨o', ho', he⟩ := nz_some ho
    have hor := hR.objs id o' ho'
    cases o' with
    | cells cs =>
      simp [nzO] at he
      subst he
      obtain ⟨vals, T, h1, h2, h3⟩ := hor
      refine ⟨vals, T, h1, by rw [nzL_length]; exact h2, fun j hj => ?_⟩
      rw [nzL_length] at hj
      rw [nzL_get]
      exact ((h3 j hj).nz).mono (fun _ _ => ⟨rfl, rfl, rfl⟩) hdom (Mem.le_refl _)
    | row sz xs => simp [nzO] at he; subst he; exact hor
    | map kd es =>
      simp [nzO] at he; subst he
      obtain ⟨ents, clock, h1, h2, h3⟩ := hor
      refine ⟨ents, clock, h1, h2, fun i e hi => ?_⟩
      obtain ⟨en, a1, a2, a3, a4⟩ := h3 i e hi
      exact ⟨en, a1, a2, a3, a4.mono (fun _ _ => ⟨rfl, rfl, rfl⟩) hdom (Mem.le_refl _)⟩
    | dead => simp [nzO] at he; subst he; trivial
  · intro id id' o o' b h1 h2 h3 h4
    obtain ⟨p, hp, hpe⟩ := nz_some h1
    obtain ⟨q, hq, hqe⟩ := nz_some h2
    exact hR.apart id id' p q b hp hq (by rw [← nz_owns hpe]; exact h3) (by rw [← nz_owns hqe]; exact h4)
  · intro id o b h1 h2
    obtain ⟨p, hp, hpe⟩ := nz_some h1
    exact hR.offM id p b hp (by rw [← nz_owns hpe]; exact h2)
  · intro id o b h1 h2
    obtain ⟨p, hp, hpe⟩ := nz_some h1
    exact hR.own0 id p b hp (by rw [← nz_owns hpe]; exact h2)⟩
end Go.Abs
namespace Go.Abs
open Go
variable {P : Program} {env : Env} {pin : Nat} {σ : St} {Q : Exit → St → Prop}
abbrev Tr := List (List Nat × List Nat)
def leP (a b : List Nat × List Nat) : Prop := a = b ∨ (a = ([], []) ∧ b.2 = [])
def leA (l l' : Tr) : Prop := l.length = l'.length ∧ ∀ k, leP (pairAt l k) (pairAt l' k)
def Mono (K : Tr → St → Prop) : Prop := ∀ l l' σ, leA l l' → K l' σ → K l σ

theorem meets_nil_l (l : List Nat) : meets [] l = false := by simp [meets]
theorem meets_nil_r (l : List Nat) : meets l [] = false := by simp [meets]
theorem clashT_mono {ops : Array Oper} {oi oj : Oper} {a b a' b' : List Nat × List Nat} (ha : leP a a') (hb : leP b b') (h : clashT ops oi oj a' b' = false) : clashT ops oi oj a b = false := by
  unfold clashT at *
  rcases ha with rfl | ⟨rfl, h1⟩
  · rcases hb with rfl | ⟨rfl, h2⟩
    · exact h
    · simp only [meets_nil_r, Bool.false_and, Bool.or_false]
      simp only [Bool.or_eq_false_iff] at h
      exact h.1
  · simp only [meets_nil_l, Bool.false_and, Bool.or_false]
    simp only [Bool.or_eq_false_iff] at h
    exact h.1
theorem regT_mono {ops : Array Oper} {A : Nat → List Nat} {l l' : Tr} (hl : leA l l') (h : regT ops A (pairAt l') = true) : regT ops A (pairAt l) = true := by
  unfold regT at *
  rw [List.all_eq_true] at *
  intro k hk
  have := h k hk
  cases ho : ops[k]? with
  | none => rw [ho] at this; exact this
  | some o =>
    rw [ho] at this
    simp only [Bool.and_eq_true] at this ⊢
    obtain ⟨⟨⟨h1, h2⟩, h3⟩, h4⟩ := this
    refine ⟨⟨⟨h1, ?_⟩, h3⟩, ?_⟩
    · rcases hl.2 k with e | ⟨e, _⟩
      · rw [e]; exact h2
      · rw [e]; rfl
    · rw [List.all_eq_true] at *
      intro i hi
      have := h4 i hi
      simp only [Bool.or_eq_true] at this ⊢
      rcases this with h5 | h5
      · exact .inl h5
      · right
        cases hoi : ops[i]? with
        | none => rw [hoi] at h5; exact h5
        | some oi =>
          rw [hoi] at h5
          simp only [Bool.not_eq_true'] at h5 ⊢
          exact clashT_mono (hl.2 i) (hl.2 k) h5
theorem pairAt_snoc (l : Tr) (x : List Nat × List Nat) (k : Nat) : pairAt (l ++ [x]) k = if k < l.length then pairAt l k else if k = l.length then x else ([], []) := by
  unfold pairAt
  simp only [List.getD, List.getElem?_append]
  split
  · rfl
  · split
    · rename_i h; subst h; simp
    · rename_i h1 h2
      have : k - l.length ≠ 0 := by omega
      obtain ⟨m, hm⟩ := Nat.exists_eq_succ_of_ne_zero this
      rw [hm]; simp
theorem leA_snoc {l l' : Tr} (h : leA l l') {x y : List Nat × List Nat} (hx : leP x y) : leA (l ++ [x]) (l' ++ [y]) := by
  refine ⟨by simp [h.1], fun k => ?_⟩
  rw [pairAt_snoc, pairAt_snoc, h.1]
  split
  · exact h.2 k
  · split
    · exact hx
    · exact .inl rfl
theorem leA_refl (l : Tr) : leA l l := ⟨rfl, fun _ => .inl rfl⟩
theorem RDc_mono {K : Tr → St → Prop} (hm : Mono K) : ∀ (rest : List COp) (acc acc' : Tr) (σ : St), leA acc acc' → RDc P env K rest acc' σ → RDc P env K rest acc σ
  | [], acc, acc', σ, hl, h => hm acc acc' σ hl h
  | c :: rest, acc, acc', σ, hl, ⟨T, e, h1, h2⟩ => ⟨T, e, h1, RDc_mono hm rest _ _ _ (leA_snoc hl (.inl rfl)) h2⟩
theorem W1_mono {K : Tr → St → Prop} (hm : Mono K) : ∀ (rest : List COp) (acc acc' : Tr) (σ : St), leA acc acc' → W1 P env K rest acc' σ → W1 P env K rest acc σ
  | [], acc, acc', σ, hl, h => hm acc acc' σ hl h
  | c :: rest, acc, acc', σ, hl, h => by
    simp only [W1] at h ⊢
    split at h
    · rename_i hg
      split at h
      · rename_i hcall
        simp only [hcall, if_true]
        exact RDc_mono hm _ _ _ _ hl h
      · rename_i hcall
        simp only [hcall, Bool.false_eq_true, if_false]
        split at h
        · rename_i e he
          exact W1_mono hm rest _ _ _ (leA_snoc hl (.inl rfl)) h
        · exact h.elim
    · exact W1_mono hm rest _ _ _ (leA_snoc hl (.inl rfl)) h
    · exact h.elim
theorem XG_specM {K : Tr → St → Prop} {b : Bool} {c : COp} {rest : List COp} {acc : Tr} {v : AVal} {T : List Nat} (hm : Mono K) (hc : isCall c.op = false) (h : b = true → aop env c.dst (aeval env σ) σ.obj c.op = some ⟨v, []⟩)
    (ht : b = true → atgt env c.dst (aeval env σ) c.op = T) (k : W1 P env K rest (acc ++ [(T, [])]) (σ.app c.dst ⟨cv b v, []⟩)) : XG P env K (some b) c rest acc σ := by
  cases b
  · exact W1_mono hm rest _ _ _ (leA_snoc (leA_refl _) (.inr ⟨rfl, rfl⟩)) k
  · rw [XG_true, hc, if_neg (by simp), h rfl, ht rfl]; exact k
theorem SW.rdm (hE : EnvOK P env) (hm : P.follows .mixedOrders = true) {id : Nat} {ops : Array Oper} (h : ∀ K : Tr → St → Prop, (∀ tr σ', regT ops (anc ops) (pairAt tr) = true → Q .normal σ' → K tr σ') → Mono K → W1 P env K (compL ops.toList ops.toList) [] σ) : SW P env pin (.region id ops true) σ Q :=
  SW.drawn hE hm (RDc.to _ _ _ (W1.to _ _ _ (h _ (fun _ _ h1 h2 => ⟨h1, h2⟩) (fun _ _ _ hl ⟨h1, h2⟩ => ⟨regT_mono hl h1, h2⟩))))
end Go.Abs
namespace Go.Abs
open Go
variable {P : Program} {env : Env} {σ : St}
def invI : List Nat → Nat → Nat
  | [], _ => 0
  | i :: r, k => if k = i then 0 else invI r k + 1
def renOs (ι : Nat → Nat) : List (Option AObj) → List (Option AObj)
  | [] => []
  | o :: r => o.map (renO ι) :: renOs ι r
theorem renOs_map (ι : Nat → Nat) : ∀ l : List (Option AObj), renOs ι l = l.map (Option.map (renO ι))
  | [] => rfl
  | o :: r => by simp [renOs, renOs_map ι r]
def allS (n : Nat → Bool) : List (Option AObj) → Bool
  | [] => true
  | none :: r => allS n r
  | some o :: r => inScopeO n o && allS n r
theorem allS_get (n : Nat → Bool) : ∀ (l : List (Option AObj)) (o : AObj), allS n l = true → some o ∈ l → inScopeO n o = true
  | [], o, _, h => by simp at h
  | none :: r, o, h, hm => by simp at hm; exact allS_get n r o h hm
  | some x :: r, o, h, hm => by
    simp only [allS, Bool.and_eq_true] at h
    rcases List.mem_cons.1 hm with e | hm
    · cases e; exact h.1
    · exact allS_get n r o h.2 hm
def freshB (σ : St) : List Nat → Bool
  | [] => true
  | i :: r => (σ.obj i).isNone && freshB σ r
theorem freshB_get : ∀ (l : List Nat) (i : Nat), freshB σ l = true → i ∈ l → σ.obj i = none
  | [], i, _, h => by simp at h
  | x :: r, i, h, hm => by
    simp only [freshB, Bool.and_eq_true, Option.isNone_iff_eq_none] at h
    rcases List.mem_cons.1 hm with rfl | hm
    · exact h.1
    · exact freshB_get r i h.2 hm
theorem fits {o : Oper} {f : FuncId} {args : Array Operand} {A vals : List AVal} {O vobjs : List (Option AObj)} {objs' : List (Option AObj)} (ids news : List Nat) {tys : Array TypeId}
    (ho : o.op = .call ⟨.value (.func f), args, tys⟩) (hent : ∀ vargs w, (callFunc f vargs).run P w = .ok (.enter f vargs) w) (hargs : args.toList.map (aeval env σ) = A) (hobjs : ids.map σ.obj = O)
    (hA : renL (tau (ids ++ news)) vals = A) (hO : renOs (tau (ids ++ news)) vobjs = O) (hsA : inScopeL (hasObj vobjs) vals = true) (hsO : allS (hasObj vobjs) vobjs = true)
    (hn : ((ids ++ news).Nodup ∧ ∀ id ∈ ids ++ news, id < env.nobj)) (hf : freshB σ news = true) (hl : objs'.length ≤ (ids ++ news).length) :
    CallFits P env σ o f args vals vobjs ids news objs' :=
  ⟨⟨tys, ho⟩, hent, by rw [hargs]; exact hA.symm, by rw [hobjs]; rw [← hO, renOs_map]; rfl, hsA, fun ob h => allS_get _ _ ob hsO h, hn.1, hn.2, fun id h => freshB_get _ id hf h, hl⟩
theorem R0c.callOE {K : St → Prop} {d : Option Nat} {f : FuncId} {args : Array Operand} {tys : Array TypeId} {gd : Option (Option (Nat × Bool))} {rest : List COp} {A vals : List AVal} {O vobjs : List (Option AObj)} {res : AVal} {objs' : List (Option AObj)} (ids news : List Nat)
    (hent : ∀ vargs w, (callFunc f vargs).run P w = .ok (.enter f vargs) w) (hargs : args.toList.map (aeval env σ) = A) (hv : renL (invI ids) A = vals) (hobjs : ids.map σ.obj = O) (hvo : renOs (invI ids) O = vobjs)
    (hac : AC P env.gl f vals vobjs res objs') (hg : cguard σ gd = some true) (hA : renL (tau (ids ++ news)) vals = A) (hO : renOs (tau (ids ++ news)) vobjs = O) (hsA : inScopeL (hasObj vobjs) vals = true) (hsO : allS (hasObj vobjs) vobjs = true)
    (hn : ((ids ++ news).Nodup ∧ ∀ id ∈ ids ++ news, id < env.nobj)) (hf : freshB σ news = true) (hl : objs'.length ≤ (ids ++ news).length)
    (h : W0 P env K rest (σ.app d ⟨ren (tau (ids ++ news)) res, callUpd (tau (ids ++ news)) (ids ++ news) 0 objs'⟩)) : R0c P env K (⟨d, .call ⟨.value (.func f), args, tys⟩, gd⟩ :: rest) σ :=
  R0c.callO ids news hac hg (fun _ ho => fits ids news ho hent hargs hobjs hA hO hsA hsO hn hf hl) h
theorem RDc.callOE {K : Tr → St → Prop} {acc : Tr} {d : Option Nat} {f : FuncId} {args : Array Operand} {tys : Array TypeId} {gd : Option (Option (Nat × Bool))} {rest : List COp} {A vals : List AVal} {O vobjs : List (Option AObj)} {res : AVal} {objs' : List (Option AObj)} (ids news : List Nat)
    (hent : ∀ vargs w, (callFunc f vargs).run P w = .ok (.enter f vargs) w) (hargs : args.toList.map (aeval env σ) = A) (hv : renL (invI ids) A = vals) (hobjs : ids.map σ.obj = O) (hvo : renOs (invI ids) O = vobjs)
    (hac : AC P env.gl f vals vobjs res objs') (hg : cguard σ gd = some true) (hA : renL (tau (ids ++ news)) vals = A) (hO : renOs (tau (ids ++ news)) vobjs = O) (hsA : inScopeL (hasObj vobjs) vals = true) (hsO : allS (hasObj vobjs) vobjs = true)
    (hn : ((ids ++ news).Nodup ∧ ∀ id ∈ ids ++ news, id < env.nobj)) (hf : freshB σ news = true) (hl : objs'.length ≤ (ids ++ news).length)
    (h : W1 P env K rest (acc ++ [(ids ++ news, (callUpd (tau (ids ++ news)) (ids ++ news) 0 objs').map Prod.fst)]) (σ.app d ⟨ren (tau (ids ++ news)) res, callUpd (tau (ids ++ news)) (ids ++ news) 0 objs'⟩)) : RDc P env K (⟨d, .call ⟨.value (.func f), args, tys⟩, gd⟩ :: rest) acc σ :=
  RDc.callO ids news hac hg (fun _ ho => fits ids news ho hent hargs hobjs hA hO hsA hsO hn hf hl) h
end Go.Abs
namespace Go.Abs
open Go
variable {P : Program} {env : Env} {pin : Nat} {σ : St} {Q : Exit → St → Prop}

def SC (P : Program) (env : Env) (pin : Nat) (v : AVal) (x y : Code) (σ : St) (Q : Exit → St → Prop) : Prop :=
  ∃ b, v = .pv (.bool b) ∧ (b = true → SW P env pin x σ Q) ∧ (b = false → SW P env pin y σ Q)
@[congr] theorem SC_congr {v v' : AVal} {x y : Code} (h : v = v') : SC P env pin v x y σ Q = SC P env pin v' x y σ Q := by rw [h]
theorem SC_true (x y : Code) : SC P env pin (.pv (.bool true)) x y σ Q = SW P env pin x σ Q := by
  unfold SC
  exact propext ⟨fun ⟨b, h, h1, _⟩ => h1 (by cases h; rfl), fun h => ⟨true, rfl, fun _ => h, fun h => by cases h⟩⟩
theorem SC_false (x y : Code) : SC P env pin (.pv (.bool false)) x y σ Q = SW P env pin y σ Q := by
  unfold SC
  exact propext ⟨fun ⟨b, h, _, h2⟩ => h2 (by cases h; rfl), fun h => ⟨false, rfl, fun h => (by cases h), fun _ => h⟩⟩
theorem SC_split {b : Bool} {x y : Code} (h1 : b = true → SW P env pin x σ Q) (h2 : b = false → SW P env pin y σ Q) : SC P env pin (.pv (.bool b)) x y σ Q := ⟨b, rfl, h1, h2⟩
theorem SW.condC {c : Operand} {x y : Code} (h : SC P env pin (aeval env σ c) x y σ Q) : SW P env pin (.cond c x y) σ Q := by
  obtain ⟨b, hb, h1, h2⟩ := h
  exact SW.cond hb h1 h2

theorem W0id {K : St → Prop} {l : List COp} (h : W0 P env K l σ) : W0 P env K l σ := h
theorem W1id {K : Tr → St → Prop} {l : List COp} {acc : Tr} (h : W1 P env K l acc σ) : W1 P env K l acc σ := h
theorem WGid {K : St → Prop} {b : Option Bool} {c : COp} {rest : List COp} (h : WG P env K b c rest σ) : WG P env K b c rest σ := h
theorem XGid {K : Tr → St → Prop} {b : Option Bool} {c : COp} {rest : List COp} {acc : Tr} (h : XG P env K b c rest acc σ) : XG P env K b c rest acc σ := h
theorem WEid {K : St → Prop} {r : Option Eff} {d : Option Nat} {rest : List COp} (h : WE P env K r d rest σ) : WE P env K r d rest σ := h
theorem XEid {K : Tr → St → Prop} {r : Option Eff} {T : List Nat} {d : Option Nat} {rest : List COp} {acc : Tr} (h : XE P env K r T d rest acc σ) : XE P env K r T d rest acc σ := h
theorem SCid {v : AVal} {x y : Code} (h : SC P env pin v x y σ Q) : SC P env pin v x y σ Q := h
theorem EQid {α : Type} {a b : α} (h : a = b) : a = b := h
theorem LEid {a b : Nat} (h : a ≤ b) : a ≤ b := h
theorem IMid {b : Bool} {p : Prop} (h : b = true → p) : b = true → p := h
theorem NDid {l : List Nat} {n : Nat} (h : l.Nodup ∧ ∀ id ∈ l, id < n) : l.Nodup ∧ ∀ id ∈ l, id < n := h
theorem XG_spec2 {K : Tr → St → Prop} {b : Bool} {c : COp} {rest : List COp} {acc : Tr} {v : AVal} {T : List Nat} (hm : Mono K) (hc : isCall c.op = false) (h : b = true → aop env c.dst (aeval env σ) σ.obj c.op = some ⟨v, []⟩ ∧ atgt env c.dst (aeval env σ) c.op = T)
    (k : W1 P env K rest (acc ++ [(T, [])]) (σ.app c.dst ⟨cv b v, []⟩)) : XG P env K (some b) c rest acc σ := XG_specM hm hc (fun hb => (h hb).1) (fun hb => (h hb).2) k

theorem TQn {N : St → Prop} (h : N σ) : thenQ N Q .normal σ := h
theorem TQe {N : St → Prop} {id : Nat} (h : Q (.exit id) σ) : thenQ N Q (.exit id) σ := h
theorem TQr {N : St → Prop} (h : Q .ret σ) : thenQ N Q .ret σ := h
theorem BQn {id : Nat} (h : Q .normal σ) : blockQ id Q .normal σ := h
theorem BQr {id : Nat} (h : Q .ret σ) : blockQ id Q .ret σ := h
theorem BQs {id : Nat} (h : Q .normal σ) : blockQ id Q (.exit id) σ := by simp only [blockQ, if_true]; exact h
theorem BQx {id id' : Nat} (hn : id' ≠ id) (h : Q (.exit id') σ) : blockQ id Q (.exit id') σ := by simp only [blockQ, if_neg hn]; exact h

def kv1 := And.intro @W0_nil <| And.intro @W0_cons <| And.intro @WG_true <| And.intro @WG_false <| And.intro @WE_some <| And.intro @WE_ite <| And.intro @WE_ite' <| @W1_nil
def kv2 := And.intro @W1_cons <| And.intro @XG_true <| And.intro @XG_false <| And.intro @XE_some <| And.intro @XE_ite <| And.intro @XE_ite' <| And.intro @SC_true <| @SC_false
def kv3 := And.intro @cguard_none <| And.intro @cguard_tmp <| And.intro @gval_bool <| And.intro @gval_tup <| And.intro @gval_cv <| And.intro @cv_true <| And.intro @cv_false <| @pickOr
def kv4 := And.intro @pickAnd <| And.intro @map_ite <| And.intro @map_ite' <| And.intro @List.set_cons_zero.{0} <| And.intro @List.set_cons_succ.{0} <| And.intro @List.getD_cons_zero.{0} <| And.intro @List.getD_cons_succ.{0} <| @List.foldl_cons.{0,0}
def kv5 := And.intro @List.foldl_nil.{0,0} <| And.intro @List.map_cons.{0,0} <| And.intro @List.map_nil.{0,0} <| And.intro @List.all_cons.{0} <| And.intro @List.all_nil.{0} <| And.intro @List.take_succ_cons.{0} <| And.intro @List.take_zero.{0} <| @List.drop_succ_cons.{0}
def kv6 := And.intro @List.drop_zero.{0} <| And.intro @List.length_cons.{0} <| And.intro @List.length_nil.{0} <| And.intro @List.length_map.{0,0} <| And.intro @List.nil_append.{0} <| And.intro @List.cons_append.{0} <| And.intro @List.append_nil.{0} <| @List.getElem?_cons_zero.{0}
def kv7 := And.intro @List.getElem?_cons_succ.{0} <| And.intro @List.size_toArray.{0} <| And.intro @Option.bind_some.{0,0} <| And.intro @Option.map_some.{0,0} <| And.intro @Option.map_none.{0,0} <| And.intro @Option.getD_some.{0} <| And.intro @Bool.and_self <| @Bool.and_true
def kv8 := And.intro @Bool.true_and <| And.intro @Bool.not_true <| And.intro @Bool.not_false <| And.intro @Int.toNat_natCast <| And.intro @Nat.zero_add <| And.intro @Nat.add_zero <| And.intro @Nat.zero_mul <| @Nat.one_mul
def kv9 := And.intro @cast0 <| And.intro @Int.cast_ofNat_Int <| And.intro @beq_true <| And.intro @beq_false <| And.intro and_self <| And.intro and_true <| And.intro true_and <| true_or
def kv10 := And.intro or_true <| And.intro @if_true.{1} <| And.intro @if_false.{1} <| And.intro @ite_self.{1} <| And.intro Bool.false_eq_true <| And.intro @eq_self.{1} <| And.intro @beq_self_eq_true.{0} <| Nat.lt_irrefl
def kv11 := And.intro @ne_eq.{1} <| And.intro not_true_eq_false <| And.intro not_false_eq_true <| And.intro @decide_true <| And.intro @decide_false <| And.intro Nat.succ_ne_self <| Int.natCast_nonneg
end Go.Abs
namespace Go.Abs
open Go
variable {P : Program} {env : Env} {pin : Nat} {σ : St} {Q : Exit → St → Prop}

inductive Tg {α : Type} (a : α) : Type
  | mk : Tg a

noncomputable def cw (p : Prop) (v : AVal) : AVal := @ite AVal p (Classical.propDecidable p) v (.tup [])
theorem cw_pos {p : Prop} (h : p) (v : AVal) : cw p v = v := if_pos h
theorem cw_neg {p : Prop} (h : ¬ p) (v : AVal) : cw p v = .tup [] := if_neg h
theorem cw_true (v : AVal) : cw True v = v := cw_pos trivial v
theorem cw_false (v : AVal) : cw False v = .tup [] := cw_neg id v
theorem cw_self (v : AVal) : cw (true = true) v = v := cw_pos rfl v

def gw (v : AVal) (w : Bool) : Option Prop :=
  match v with
  | .pv (.bool b) => some (b = w)
  | .tup [] => some False
  | _ => none
theorem gw_bool (b w : Bool) : gw (.pv (.bool b)) w = some (b = w) := rfl
theorem gw_tup (w : Bool) : gw (.tup []) w = some False := rfl
theorem gw_cw (p : Prop) (y w : Bool) : gw (cw p (.pv (.bool y))) w = some (p ∧ y = w) := by
  by_cases h : p
  · rw [cw_pos h, gw_bool]; congr 1; simp [h]
  · rw [cw_neg h, gw_tup]; congr 1; simp [h]
def gd (σ : St) : Option (Option (Nat × Bool)) → Option Prop
  | none => some True
  | some none => none
  | some (some (t, w)) => gw (σ.slot t) w
theorem pickOrW (t x : Bool) : (if t = true then AVal.pv (.bool true) else cw (t = false) (.pv (.bool x))) = .pv (.bool (t || x)) := by
  cases t
  · simp [cw_pos]
  · rfl
theorem pickAndW (t x : Bool) : (if t = true then cw (t = true) (.pv (.bool x)) else AVal.pv (.bool false)) = .pv (.bool (t && x)) := by
  cases t
  · rfl
  · simp [cw_pos]

theorem pickO2 (t x : Bool) : (if t = true then AVal.pv (.bool true) else .pv (.bool x)) = .pv (.bool (t || x)) := by cases t <;> rfl
theorem pickA2 (t x : Bool) : (if t = true then AVal.pv (.bool x) else .pv (.bool false)) = .pv (.bool (t && x)) := by cases t <;> rfl

def callOf : Op → Option (FuncId × List Operand)
  | .call ⟨.value (.func f), args, _⟩ => some (f, args.toList)
  | _ => none
def notCall : Op → Bool
  | .call ⟨.value _, _, _⟩ => false
  | _ => true
def accAdd (acc : Option Tr) (x : List Nat × List Nat) : Option Tr := acc.map (· ++ [x])
theorem accAdd_none (x : List Nat × List Nat) : accAdd none x = none := rfl
theorem accAdd_some (l : Tr) (x : List Nat × List Nat) : accAdd (some l) x = some (l ++ [x]) := rfl

def Ctr (P : Program) (env : Env) (f : FuncId) (vals : List AVal) (σ : St) (K : List Nat → Eff → Prop) : Prop :=
  ∃ cargs cobjs ids news res objs', AC P env.gl f cargs cobjs res objs' ∧
    (∀ (o : Oper) (args : Array Operand) (tys : Array TypeId), o.op = .call ⟨.value (.func f), args, tys⟩ → args.toList.map (aeval env σ) = vals → CallFits P env σ o f args cargs cobjs ids news objs') ∧
    K (ids ++ news) ⟨ren (tau (ids ++ news)) res, callUpd (tau (ids ++ news)) (ids ++ news) 0 objs'⟩

def VL (P : Program) (env : Env) (K : Option Tr → St → Prop) (t : Tg K) : List COp → Option Tr → St → Prop
  | [], acc, σ => K acc σ
  | c :: rest, acc, σ => match gd σ c.guard with
    | none => False
    | some p => (p → match callOf c.op with
        | some (f, args) => Ctr P env f (args.map (aeval env σ)) σ fun T e => VL P env K t rest (accAdd acc (T, e.upd.map Prod.fst)) (σ.app c.dst e)
        | none => notCall c.op = true ∧ match aop env c.dst (aeval env σ) σ.obj c.op with
          | some e => VL P env K t rest (accAdd acc (atgt env c.dst (aeval env σ) c.op, e.upd.map Prod.fst)) (σ.app c.dst e)
          | none => False) ∧
      (¬ p → VL P env K t rest (accAdd acc ([], [])) (σ.app c.dst ⟨.tup [], []⟩))

def VX (P : Program) (env : Env) (K : Option Tr → St → Prop) (t : Tg K) (p : Prop) (r : Option Eff) (T : List Nat) (d : Option Nat) (rest : List COp) (acc : Option Tr) (σ : St) : Prop :=
  (p → match r with
    | some e => VL P env K t rest (accAdd acc (T, e.upd.map Prod.fst)) (σ.app d e)
    | none => False) ∧ (¬ p → VL P env K t rest (accAdd acc ([], [])) (σ.app d ⟨.tup [], []⟩))
def CK (P : Program) (env : Env) (K : Option Tr → St → Prop) (t : Tg K) (p : Prop) (f : FuncId) (vals : List AVal) (d : Option Nat) (rest : List COp) (acc : Option Tr) (σ : St) : Prop :=
  (p → Ctr P env f vals σ fun T e => VL P env K t rest (accAdd acc (T, e.upd.map Prod.fst)) (σ.app d e)) ∧ (¬ p → VL P env K t rest (accAdd acc ([], [])) (σ.app d ⟨.tup [], []⟩))
def VG (P : Program) (env : Env) (K : Option Tr → St → Prop) (t : Tg K) (g : Option Prop) (d : Option Nat) (op : Op) (rest : List COp) (acc : Option Tr) (σ : St) : Prop :=
  match g with
  | none => False
  | some p => match callOf op with
    | some (f, args) => CK P env K t p f (args.map (aeval env σ)) d rest acc σ
    | none => (p → notCall op = true) ∧ VX P env K t p (aop env d (aeval env σ) σ.obj op) (atgt env d (aeval env σ) op) d rest acc σ

theorem VL_nil (K : Option Tr → St → Prop) (t : Tg K) (acc : Option Tr) (σ : St) : VL P env K t [] acc σ = K acc σ := rfl
theorem VL_cons (K : Option Tr → St → Prop) (t : Tg K) (d : Option Nat) (op : Op) (g : Option (Option (Nat × Bool))) (rest : List COp) (acc : Option Tr) (σ : St) : VL P env K t (⟨d, op, g⟩ :: rest) acc σ = VG P env K t (gd σ g) d op rest acc σ := by
  unfold VL VG CK VX
  cases gd σ g with
  | none => rfl
  | some p =>
    dsimp only
    cases callOf op with
    | some q => rfl
    | none =>
      apply propext
      constructor
      · rintro ⟨h1, h2⟩; exact ⟨fun hp => (h1 hp).1, fun hp => (h1 hp).2, h2⟩
      · rintro ⟨h0, h1, h2⟩; exact ⟨fun hp => ⟨h0 hp, h1 hp⟩, h2⟩
theorem VG_call (K : Option Tr → St → Prop) (t : Tg K) (p : Prop) (d : Option Nat) (f : FuncId) (args : Array Operand) (tys : Array TypeId) (rest : List COp) (acc : Option Tr) (σ : St) :
    VG P env K t (some p) d (.call ⟨.value (.func f), args, tys⟩) rest acc σ = CK P env K t p f (args.toList.map (aeval env σ)) d rest acc σ := rfl
theorem VG_op (K : Option Tr → St → Prop) (t : Tg K) (p : Prop) (d : Option Nat) (op : Op) (h : (callOf op).isNone = true ∧ notCall op = true) (rest : List COp) (acc : Option Tr) (σ : St) :
    VG P env K t (some p) d op rest acc σ = VX P env K t p (aop env d (aeval env σ) σ.obj op) (atgt env d (aeval env σ) op) d rest acc σ := by
  unfold VG
  dsimp only
  have h0 : callOf op = none := by simpa using h.1
  rw [h0]
  simp [h.2]
theorem VX_true (K : Option Tr → St → Prop) (t : Tg K) (e : Eff) (T : List Nat) (d : Option Nat) (rest : List COp) (acc : Option Tr) (σ : St) : VX P env K t True (some e) T d rest acc σ = VL P env K t rest (accAdd acc (T, e.upd.map Prod.fst)) (σ.app d e) := by simp [VX]
theorem VX_false (K : Option Tr → St → Prop) (t : Tg K) (r : Option Eff) (T : List Nat) (d : Option Nat) (rest : List COp) (acc : Option Tr) (σ : St) : VX P env K t False r T d rest acc σ = VL P env K t rest (accAdd acc ([], [])) (σ.app d ⟨.tup [], []⟩) := by simp [VX]
theorem VX_some (K : Option Tr → St → Prop) (t : Tg K) (p : Prop) (v : AVal) (T : List Nat) (d : Option Nat) (rest : List COp) (σ : St) : VX P env K t p (some ⟨v, []⟩) T d rest none σ = VL P env K t rest none (σ.app d ⟨cw p v, []⟩) := by
  by_cases h : p
  · simp [VX, h, cw_true, accAdd]
  · simp [VX, h, cw_false, accAdd]
theorem VX_ite (K : Option Tr → St → Prop) (t : Tg K) (p q : Prop) [Decidable q] (x : Option Eff) (T : List Nat) (d : Option Nat) (rest : List COp) (acc : Option Tr) (σ : St) : VX P env K t p (if q then x else none) T d rest acc σ = ((p → q) ∧ VX P env K t p x T d rest acc σ) := by
  by_cases h : p
  · by_cases hq : q <;> simp [VX, h, hq]
  · simp [VX, h]
theorem VX_ite' (K : Option Tr → St → Prop) (t : Tg K) (p q : Prop) [Decidable q] (x : Option Eff) (T : List Nat) (d : Option Nat) (rest : List COp) (acc : Option Tr) (σ : St) : VX P env K t p (if q then none else x) T d rest acc σ = ((p → ¬ q) ∧ VX P env K t p x T d rest acc σ) := by
  by_cases h : p
  · by_cases hq : q <;> simp [VX, h, hq]
  · simp [VX, h]
theorem CK_false (K : Option Tr → St → Prop) (t : Tg K) (f : FuncId) (vals : List AVal) (d : Option Nat) (rest : List COp) (acc : Option Tr) (σ : St) : CK P env K t False f vals d rest acc σ = VL P env K t rest (accAdd acc ([], [])) (σ.app d ⟨.tup [], []⟩) := by simp [CK]
@[congr] theorem VL_congr {K : Option Tr → St → Prop} {t : Tg K} {l l' : List COp} {acc acc' : Option Tr} {σ σ' : St} (h1 : l = l') (h2 : acc = acc') (h3 : σ = σ') : VL P env K t l acc σ = VL P env K t l' acc' σ' := by rw [h1, h2, h3]
@[congr] theorem VX_congr {K : Option Tr → St → Prop} {t : Tg K} {p p' : Prop} {r r' : Option Eff} {T T' : List Nat} {d : Option Nat} {rest : List COp} {acc : Option Tr} {σ : St} (h1 : p = p') (h2 : p' → r = r') (h3 : p' → T = T') :
    VX P env K t p r T d rest acc σ = VX P env K t p' r' T' d rest acc σ := by
  subst h1
  by_cases h : p
  · rw [h2 h, h3 h]
  · simp [VX, h]
@[congr] theorem CK_congr {K : Option Tr → St → Prop} {t : Tg K} {p p' : Prop} {f : FuncId} {vals vals' : List AVal} {d : Option Nat} {rest : List COp} {acc : Option Tr} {σ : St} (h1 : p = p') (h2 : p' → vals = vals') :
    CK P env K t p f vals d rest acc σ = CK P env K t p' f vals' d rest acc σ := by
  subst h1
  by_cases h : p
  · rw [h2 h]
  · simp [CK, h]
@[congr] theorem VG_congr {K : Option Tr → St → Prop} {t : Tg K} {g g' : Option Prop} {d : Option Nat} {op : Op} {rest : List COp} {acc : Option Tr} {σ : St} (h1 : g = g') : VG P env K t g d op rest acc σ = VG P env K t g' d op rest acc σ := by rw [h1]

def REG (ops : Array Oper) (t : Tg ops) (tr : Tr) : Prop := regT ops (anc ops) (pairAt tr) = true
def KQ (ops : Array Oper) (Q : Exit → St → Prop) (t : Tg (ops, Q)) : Option Tr → St → Prop
  | none, σ => Q .normal σ
  | some tr, σ => REG ops .mk tr ∧ Q .normal σ
theorem KQ_none (ops : Array Oper) (t : Tg (ops, Q)) (σ : St) : KQ ops Q t none σ = Q .normal σ := rfl
theorem KQ_some (ops : Array Oper) (t : Tg (ops, Q)) (tr : Tr) (σ : St) : KQ ops Q t (some tr) σ = (REG ops .mk tr ∧ Q .normal σ) := rfl
@[congr] theorem KQ_congr {ops : Array Oper} {t : Tg (ops, Q)} {acc acc' : Option Tr} {σ σ' : St} (h1 : acc = acc') (h2 : σ = σ') : KQ ops Q t acc σ = KQ ops Q t acc' σ' := by rw [h1, h2]
@[congr] theorem REG_congr {ops : Array Oper} {t : Tg ops} {tr tr' : Tr} (h1 : tr = tr') : REG ops t tr = REG ops t tr' := by rw [h1]
@[congr] theorem thenQ_congr {N : St → Prop} {e e' : Exit} {σ σ' : St} (h0 : e = e') (h : σ = σ') : thenQ N Q e σ = thenQ N Q e' σ' := by rw [h0, h]
@[congr] theorem blockQ_congr {id : Nat} {e e' : Exit} {σ σ' : St} (h0 : e = e') (h : σ = σ') : blockQ id Q e σ = blockQ id Q e' σ' := by rw [h0, h]

def SCd (v : AVal) (A B : Prop) (t : Tg (A, B)) : Prop := ∃ b, v = .pv (.bool b) ∧ (b = true → A) ∧ (b = false → B)
def SB (b : Bool) (A B : Prop) (t : Tg (A, B)) : Prop := (b = true → A) ∧ (b = false → B)
@[congr] theorem SCd_congr {v v' : AVal} {A B : Prop} (h : v = v') : SCd v A B .mk = SCd v' A B .mk := by rw [h]
theorem SCd_bool (b : Bool) (A B : Prop) : SCd (.pv (.bool b)) A B .mk = SB b A B .mk := by
  apply propext
  constructor
  · rintro ⟨b', h, h1, h2⟩; cases h; exact ⟨h1, h2⟩
  · rintro ⟨h1, h2⟩; exact ⟨b, rfl, h1, h2⟩
theorem SCd_true (A B : Prop) : SCd (.pv (.bool true)) A B .mk = A := by simp [SCd_bool, SB]
theorem SCd_false (A B : Prop) : SCd (.pv (.bool false)) A B .mk = B := by simp [SCd_bool, SB]
theorem SB_true (A B : Prop) : SB true A B .mk = A := by simp [SB]
theorem SB_false (A B : Prop) : SB false A B .mk = B := by simp [SB]
@[congr] theorem SB_congr {b b' : Bool} {A A' B B' : Prop} (h : b = b') (h1 : b' = true → A = A') (h2 : b' = false → B = B') : SB b A B .mk = SB b' A' B' .mk := by
  subst h
  cases b
  · simp [SB, h2 rfl]
  · simp [SB, h1 rfl]
theorem SB.mk {b : Bool} {A B : Prop} (h1 : b = true → A) (h2 : b = false → B) : SB b A B .mk := ⟨h1, h2⟩

theorem SW.label {l : Nat} (h : Q .normal σ) : SW P env pin (.label l) σ Q := fun hl _ g M _ _ hR _ => wp_label ⟨σ, g, M, h, hR, Mem.le_refl _, Agr.refl _ _ _, hl⟩
def scopeQ (Q : Exit → St → Prop) : Exit → St → Prop
  | .goto _, _ => False
  | e, σ => Q e σ
theorem SW.scope {c : Code} (h : SW P env pin c σ (scopeQ Q)) : SW P env pin (.scope c) σ Q := fun hl E g M a w hR hG =>
  wp_scope_straight (wp_mono (h hl E g M a w hR hG) fun e a' w' ⟨σ', g', M', q, r⟩ => by
    cases e with
    | goto l => exact q.elim
    | _ => exact ⟨σ', g', M', q, r⟩)
def LW (P : Program) (env : Env) (pin : Nat) (c : Code) (σ : St) (Q : Exit → St → Prop) (t : Tg (c, Q)) : Prop := SW P env pin c σ Q

def VC (P : Program) (env : Env) (pin : Nat) : Code → St → (Exit → St → Prop) → Prop
  | .skip, σ, Q => Q .normal σ
  | .label _, σ, Q => Q .normal σ
  | .ret, σ, Q => Q .ret σ
  | .exit id, σ, Q => Q (.exit id) σ
  | .seq x y, σ, Q => VC P env pin x σ (thenQ (fun σ' => VC P env pin y σ' Q) Q)
  | .block id c, σ, Q => VC P env pin c σ (blockQ id Q)
  | .scope c, σ, Q => VC P env pin c σ (scopeQ Q)
  | .cond c x y, σ, Q => SCd (aeval env σ c) (VC P env pin x σ Q) (VC P env pin y σ Q) .mk
  | .region _ ops dr, σ, Q => VL P env (KQ ops Q .mk) .mk (compL ops.toList ops.toList) (if dr then some [] else none) σ
  | c, σ, Q => LW P env pin c σ Q .mk
@[congr] theorem VC_congr {c : Code} {σ σ' : St} (h : σ = σ') : VC P env pin c σ Q = VC P env pin c σ' Q := by rw [h]
theorem VC_skip (σ : St) : VC P env pin .skip σ Q = Q .normal σ := rfl
theorem VC_label (l : Nat) (σ : St) : VC P env pin (.label l) σ Q = Q .normal σ := rfl
theorem VC_scope (c : Code) (σ : St) : VC P env pin (.scope c) σ Q = VC P env pin c σ (scopeQ Q) := rfl
theorem scopeQ_n (σ : St) : scopeQ Q .normal σ = Q .normal σ := rfl
theorem scopeQ_r (σ : St) : scopeQ Q .ret σ = Q .ret σ := rfl
theorem scopeQ_x (id : Nat) (σ : St) : scopeQ Q (.exit id) σ = Q (.exit id) σ := rfl
theorem VC_ret (σ : St) : VC P env pin .ret σ Q = Q .ret σ := rfl
theorem VC_exit (id : Nat) (σ : St) : VC P env pin (.exit id) σ Q = Q (.exit id) σ := rfl
theorem VC_seq (x y : Code) (σ : St) : VC P env pin (.seq x y) σ Q = VC P env pin x σ (thenQ (fun σ' => VC P env pin y σ' Q) Q) := rfl
theorem VC_block (id : Nat) (c : Code) (σ : St) : VC P env pin (.block id c) σ Q = VC P env pin c σ (blockQ id Q) := rfl
theorem VC_cond (c : Operand) (x y : Code) (σ : St) : VC P env pin (.cond c x y) σ Q = SCd (aeval env σ c) (VC P env pin x σ Q) (VC P env pin y σ Q) .mk := rfl
theorem VC_reg (id : Nat) (ops : Array Oper) (σ : St) : VC P env pin (.region id ops false) σ Q = VL P env (KQ ops Q .mk) .mk (compL ops.toList ops.toList) none σ := rfl
theorem VC_draw (id : Nat) (ops : Array Oper) (σ : St) : VC P env pin (.region id ops true) σ Q = VL P env (KQ ops Q .mk) .mk (compL ops.toList ops.toList) (some []) σ := rfl
theorem VC_loop (c : Code) (σ : St) : VC P env pin (.loop c) σ Q = LW P env pin (.loop c) σ Q .mk := rfl
theorem thenQ_n (N : St → Prop) (σ : St) : thenQ N Q .normal σ = N σ := rfl
theorem thenQ_r (N : St → Prop) (σ : St) : thenQ N Q .ret σ = Q .ret σ := rfl
theorem thenQ_x (N : St → Prop) (id : Nat) (σ : St) : thenQ N Q (.exit id) σ = Q (.exit id) σ := rfl
theorem blockQ_n (id : Nat) (σ : St) : blockQ id Q .normal σ = Q .normal σ := rfl
theorem blockQ_r (id : Nat) (σ : St) : blockQ id Q .ret σ = Q .ret σ := rfl
theorem blockQ_s (id : Nat) (σ : St) : blockQ id Q (.exit id) σ = Q .normal σ := by simp [blockQ]
theorem blockQ_x (id id' : Nat) (h : id' ≠ id) (σ : St) : blockQ id Q (.exit id') σ = Q (.exit id') σ := by simp [blockQ, h]

theorem gd_of {c : COp} {p : Prop} (h : gd σ c.guard = some p) : (p → cguard σ c.guard = some true) ∧ (¬ p → cguard σ c.guard = some false) := by
  unfold gd at h
  unfold cguard
  split at h
  · rename_i e; cases h; (try rw [e]); simp
  · cases h
  · rename_i t w e
    (try rw [e])
    (try dsimp only)
    unfold gw at h
    split at h
    · rename_i b eb
      cases h
      (try rw [eb])
      (try dsimp only)
      cases b <;> cases w <;> simp
    · rename_i et; cases h; (try rw [et]); simp
    · cases h

theorem VL.to0 {K : St → Prop} {K' : Option Tr → St → Prop} {t : Tg K'} (hk : ∀ σ, K' none σ → K σ) : ∀ (l : List COp) (σ : St), VL P env K' t l none σ → R0c P env K l σ
  | [], σ, h => hk σ h
  | c :: rest, σ, h => by
    unfold VL at h
    split at h
    · exact h.elim
    · rename_i p hp
      obtain ⟨g1, g2⟩ := gd_of hp
      by_cases hq : p
      · have h1 := h.1 hq
        split at h1
        · rename_i f args hcall
          obtain ⟨cargs, cobjs, ids, news, res, objs', hac, hfit, hk2⟩ := h1
          have : ∃ a t, c.op = .call ⟨.value (.func f), a, t⟩ ∧ args = a.toList := by
            unfold callOf at hcall
            split at hcall
            · rename_i f' a t e; cases hcall; exact ⟨a, t, e, rfl⟩
            · cases hcall
          obtain ⟨a, t, e1, e2⟩ := this
          subst e2
          refine ⟨_, _, .run ⟨c.dst, c.op, 0, "", #[], none⟩ _ _ rfl rfl (g1 hq) (.call f a cargs cobjs ids news res objs' (hfit _ a t e1 rfl) hac), VL.to0 hk rest _ hk2⟩
        · obtain ⟨hn, h1⟩ := h1
          split at h1
          · rename_i e he
            exact ⟨_, e, .run ⟨c.dst, c.op, 0, "", #[], none⟩ _ e rfl rfl (g1 hq) (.op e he), VL.to0 hk rest _ h1⟩
          · exact h1.elim
      · exact ⟨_, _, .skip (g2 hq), VL.to0 hk rest _ (h.2 hq)⟩

theorem VL.to1 {K : Tr → St → Prop} {K' : Option Tr → St → Prop} {t : Tg K'} (hk : ∀ tr σ, K' (some tr) σ → K tr σ) : ∀ (l : List COp) (acc : Tr) (σ : St), VL P env K' t l (some acc) σ → RDc P env K l acc σ
  | [], acc, σ, h => hk acc σ h
  | c :: rest, acc, σ, h => by
    unfold VL at h
    split at h
    · exact h.elim
    · rename_i p hp
      obtain ⟨g1, g2⟩ := gd_of hp
      by_cases hq : p
      · have h1 := h.1 hq
        split at h1
        · rename_i f args hcall
          obtain ⟨cargs, cobjs, ids, news, res, objs', hac, hfit, hk2⟩ := h1
          have : ∃ a t, c.op = .call ⟨.value (.func f), a, t⟩ ∧ args = a.toList := by
            unfold callOf at hcall
            split at hcall
            · rename_i f' a t e; cases hcall; exact ⟨a, t, e, rfl⟩
            · cases hcall
          obtain ⟨a, t, e1, e2⟩ := this
          subst e2
          refine ⟨_, _, .run ⟨c.dst, c.op, 0, "", #[], none⟩ _ _ rfl rfl (g1 hq) (.call f a cargs cobjs ids news res objs' (hfit _ a t e1 rfl) hac), VL.to1 hk rest _ _ hk2⟩
        · obtain ⟨hn, h1⟩ := h1
          split at h1
          · rename_i e he
            exact ⟨_, e, .run ⟨c.dst, c.op, 0, "", #[], none⟩ _ e rfl rfl (g1 hq) (.op e he), VL.to1 hk rest _ _ h1⟩
          · exact h1.elim
      · exact ⟨_, _, .skip (g2 hq), VL.to1 hk rest _ _ (h.2 hq)⟩

theorem thenQ_imp {N N' : St → Prop} (h : ∀ σ, N σ → N' σ) : ∀ e σ, thenQ N Q e σ → thenQ N' Q e σ := by
  intro e σ hh
  cases e <;> first | exact h _ hh | exact hh

theorem VC.to (hE : EnvOK P env) (hm : P.follows .mixedOrders = true) : ∀ (c : Code) {σ : St} {Q : Exit → St → Prop}, VC P env pin c σ Q → SW P env pin c σ Q
  | .skip, _, _, h => SW.skip h
  | .ret, _, _, h => SW.ret h
  | .exit _, _, _, h => SW.exit h
  | .seq x y, _, _, h => SW.seq ((VC.to hE hm x h).mono (thenQ_imp fun _ hh => VC.to hE hm y hh))
  | .block _ c, _, _, h => SW.block (VC.to hE hm c h)
  | .cond _ x y, _, _, h => by
    obtain ⟨b, hb, h1, h2⟩ := h
    exact SW.cond hb (fun e => VC.to hE hm x (h1 e)) (fun e => VC.to hE hm y (h2 e))
  | .region _ ops dr, σ, Q, h => by
    cases dr with
    | false => exact SW.reg hE (R0c.to _ _ (VL.to0 (fun _ hh => hh) _ _ h))
    | true => exact SW.drawn hE hm (RDc.to _ _ _ (VL.to1 (fun _ _ hh => hh) _ _ _ h))
  | .loop _, _, _, h => h
  | .rangeFunc .., _, _, h => h
  | .scope c, _, _, h => SW.scope (VC.to hE hm c h)
  | .label _, _, _, h => SW.label h
  | .goto _, _, _, h => h
  | .refuse _, _, _, h => h
end Go.Abs
namespace Go.Abs
open Go
variable {P : Program} {env : Env} {pin : Nat} {σ : St} {Q : Exit → St → Prop}

def rowIs (o : Option AObj) (n : Nat) (xs : List (List PVal)) : Prop := ∃ sz, o = some (.row sz xs) ∧ n = xs.length
mutual
def rdV (ob : Nat → Option AObj) : AVal → AVal → Prop
  | .pv p, b => match b with | .pv q => p = q | .junk => True | _ => False
  | .snil, b => match b with | .pv (.slice xs) => xs = [] | .snil => True | .junk => True | _ => False
  | .row id n, b => match b with | .pv (.slice xs) => rowIs (ob id) n xs | .junk => True | _ => False
  | .agg cs, b => match b with | .agg ds => rdL ob cs ds | .junk => True | _ => False
  | .tup cs, b => match b with | .tup ds => rdL ob cs ds | .junk => True | _ => False
  | .ref _ _, b => match b with | .junk => True | _ => False
  | .eref _ _ _ _, b => match b with | .junk => True | _ => False
  | .map _, b => match b with | .junk => True | _ => False
  | .junk, b => match b with | .junk => True | _ => False
def rdL (ob : Nat → Option AObj) : List AVal → List AVal → Prop
  | [], l => match l with | [] => True | _ => False
  | a :: r, l => match l with | b :: s => rdV ob a b ∧ rdL ob r s | [] => False
end
theorem rd_pv (ob : Nat → Option AObj) (p q : PVal) : rdV ob (.pv p) (.pv q) = (p = q) := by simp [rdV]
theorem rd_snil (ob : Nat → Option AObj) (xs : List (List PVal)) : rdV ob .snil (.pv (.slice xs)) = (xs = []) := by simp [rdV]
theorem rd_row (ob : Nat → Option AObj) (id n : Nat) (xs : List (List PVal)) : rdV ob (.row id n) (.pv (.slice xs)) = rowIs (ob id) n xs := by simp [rdV]
theorem rd_agg (ob : Nat → Option AObj) (cs ds : List AVal) : rdV ob (.agg cs) (.agg ds) = rdL ob cs ds := by simp [rdV]
theorem rd_tup (ob : Nat → Option AObj) (cs ds : List AVal) : rdV ob (.tup cs) (.tup ds) = rdL ob cs ds := by simp [rdV]
theorem rd_junk (ob : Nat → Option AObj) (v : AVal) : rdV ob v .junk = True := by cases v <;> simp [rdV]
theorem rd_nil (ob : Nat → Option AObj) : rdL ob [] [] = True := by simp [rdL]
theorem rd_cons (ob : Nat → Option AObj) (a b : AVal) (r s : List AVal) : rdL ob (a :: r) (b :: s) = (rdV ob a b ∧ rdL ob r s) := by simp [rdL]
theorem rowIs_some (sz n : Nat) (ys xs : List (List PVal)) : rowIs (some (.row sz ys)) n xs = (ys = xs ∧ n = xs.length) := by
  apply propext
  constructor
  · rintro ⟨_, h, h2⟩; cases h; exact ⟨rfl, h2⟩
  · rintro ⟨rfl, h2⟩; exact ⟨sz, rfl, h2⟩

theorem frzO_row {k : Nat} {xs : List (List PVal)} {o : Option AObj} {n : Nat} {ys : List (List PVal)} (h : rowIs o n ys) : rowIs (frzO k xs o) n ys := by
  obtain ⟨sz, rfl, h2⟩ := h
  exact ⟨sz, rfl, h2⟩
mutual
theorem rd_frz {ob ob' : Nat → Option AObj} {k sz : Nat} {xs : List (List PVal)} (hk : ob k = some (.row sz xs)) (ho : ∀ i, i ≠ k → ob' i = frzO k xs (ob i)) : ∀ (x b : AVal), rdV ob x b → rdV ob' (frz k xs x) b
  | .pv p, b, h => by simp only [frz]; cases b <;> simp only [rdV] at h ⊢ <;> exact h
  | .snil, b, h => by simp only [frz]; simp only [rdV] at h ⊢; exact h
  | .junk, b, h => by simp only [frz]; simp only [rdV] at h ⊢; exact h
  | .map i, b, h => by simp only [frz]; simp only [rdV] at h ⊢; exact h
  | .ref i o, b, h => by
    cases b <;> simp only [rdV] at h
    rw [rd_junk]; trivial
  | .eref i a c d, b, h => by
    cases b <;> simp only [rdV] at h
    rw [rd_junk]; trivial
  | .row i n, b, h => by
    by_cases hj : b = .junk
    · subst hj; rw [rd_junk]; trivial
    have : ∃ ys, b = .pv (.slice ys) ∧ rowIs (ob i) n ys := by
      unfold rdV at h
      split at h
      · exact ⟨_, rfl, h⟩
      · exact absurd rfl hj
      · exact h.elim
    obtain ⟨ys, rfl, hr⟩ := this
    simp only [frz]
    by_cases hik : i = k
    · subst hik
      obtain ⟨sz', h1, h2⟩ := hr
      rw [hk] at h1
      cases h1
      rw [if_pos rfl, if_pos h2, rd_pv]
    · rw [if_neg hik, rd_row, ho i hik]
      exact frzO_row hr
  | .agg cs, b, h => by
    simp only [frz]
    cases b <;> simp only [rdV] at h ⊢
    exact rdL_frz hk ho cs _ h
  | .tup cs, b, h => by
    simp only [frz]
    cases b <;> simp only [rdV] at h ⊢
    exact rdL_frz hk ho cs _ h
theorem rdL_frz {ob ob' : Nat → Option AObj} {k sz : Nat} {xs : List (List PVal)} (hk : ob k = some (.row sz xs)) (ho : ∀ i, i ≠ k → ob' i = frzO k xs (ob i)) : ∀ (x b : List AVal), rdL ob x b → rdL ob' (frzL k xs x) b
  | [], b, h => by simp only [frzL]; cases b <;> simp only [rdL] at h ⊢
  | a :: r, b, h => by
    simp only [frzL]
    cases b with
    | nil => simp only [rdL] at h
    | cons c s =>
      rw [rd_cons] at h ⊢
      exact ⟨rd_frz hk ho a c h.1, rdL_frz hk ho r s h.2⟩
end

theorem rdL_get {ob : Nat → Option AObj} : ∀ {x b : List AVal}, rdL ob x b → x.length = b.length ∧ ∀ i, i < x.length → rdV ob (x.getD i .junk) (b.getD i .junk)
  | [], [], _ => ⟨rfl, fun i hi => by simp at hi⟩
  | [], _ :: _, h => by simp [rdL] at h
  | _ :: _, [], h => by simp [rdL] at h
  | a :: r, c :: s, h => by
    rw [rd_cons] at h
    obtain ⟨h1, h2⟩ := rdL_get h.2
    refine ⟨by simp [h1], fun i hi => ?_⟩
    cases i with
    | zero => simpa [List.getD] using h.1
    | succ i => simpa [List.getD] using h2 i (by simpa using hi)

theorem V.read {g : Gh} {D D' : Nat → Prop} {M : Mem} {ob : Nat → Option AObj} (hno : ∀ i n ys, ¬ rowIs (ob i) n ys) {x : AVal} {v : Value} (h : V g D M x v) : ∀ {b : AVal}, rdV ob x b → V g D' M b v := by
  induction h with
  | pv r => intro b hb; cases b <;> simp only [rdV] at hb <;> first | (subst hb; exact .pv r) | exact .junk _
  | snil =>
    intro b hb
    unfold rdV at hb
    split at hb
    · subst hb; exact .pv .nils
    · exact .snil
    · exact .junk _
    · exact hb.elim
  | ref id off hd => intro b hb; cases b <;> simp only [rdV] at hb; exact .junk _
  | row id n hd hn =>
    intro b hb
    unfold rdV at hb
    split at hb
    · exact absurd hb (hno _ _ _)
    · exact .junk _
    · exact hb.elim
  | rown id hd hn =>
    intro b hb
    unfold rdV at hb
    split at hb
    · exact absurd hb (hno _ _ _)
    · exact .junk _
    · exact hb.elim
  | eref id i j sz hd => intro b hb; cases b <;> simp only [rdV] at hb; exact .junk _
  | map id hd => intro b hb; cases b <;> simp only [rdV] at hb; exact .junk _
  | agg cs vs hl _ ih =>
    intro b hb
    cases b <;> simp only [rdV] at hb
    · obtain ⟨h1, h2⟩ := rdL_get hb
      exact .agg _ vs (by omega) (fun i hi => ih i (by omega) (h2 i (by omega)))
    · exact .junk _
  | tup cs vs hl _ ih =>
    intro b hb
    cases b <;> simp only [rdV] at hb
    · obtain ⟨h1, h2⟩ := rdL_get hb
      exact .tup _ vs (by omega) (fun i hi => ih i (by omega) (h2 i (by omega)))
    · exact .junk _
  | junk v => intro b hb; cases b <;> simp only [rdV] at hb; exact .junk _

theorem frz_obj (id : Nat) (xs : List (List PVal)) (i : Nat) (h : i ≠ id) : (σ.frz id xs).obj i = frzO id xs (σ.obj i) := by
  simp only [St.frz, St.obj, List.getD]
  rw [List.getElem?_set_ne (fun e => h e.symm), List.getElem?_map]
  cases σ.objs[i]? <;> rfl
theorem frz_self (id : Nat) (xs : List (List PVal)) (h : id < σ.objs.length) : (σ.frz id xs).obj id = some .dead := by
  simp [St.frz, St.obj, List.getD, h]

theorem Rel.read1 {E : Ent} {g : Gh} {M : Mem} {w : World} {v : Value} {x b : AVal} (hR : Rel E ⟨[x], σ.objs⟩ g M ⟨#[v], []⟩ w) (h : rdV σ.obj x b) :
    ∀ k, k ≤ σ.objs.length → ∃ (σk : St) (xk : AVal) (gk : Gh) (Mk : Mem), σk.slots = [xk] ∧ σk.objs.length = σ.objs.length ∧ Rel E σk gk Mk ⟨#[v], []⟩ w ∧ Mem.le M Mk ∧ rdV σk.obj xk b ∧ ∀ i n ys, i < k → ¬ rowIs (σk.obj i) n ys
  | 0, _ => ⟨⟨[x], σ.objs⟩, x, g, M, rfl, rfl, hR, Mem.le_refl _, h, fun i _ _ hi => by omega⟩
  | k + 1, hk => by
    obtain ⟨σk, xk, gk, Mk, h1, h2, h3, h4, h5, h6⟩ := Rel.read1 hR h k (by omega)
    by_cases hr : ∃ sz xs, σk.obj k = some (.row sz xs)
    · obtain ⟨sz, xs, hr⟩ := hr
      obtain ⟨_, hw⟩ := Weak.freeze (env := ⟨fun _ => none, fun _ => none, fun _ => 0, σk.objs.length⟩) (pin := 0) k hr rfl
      obtain ⟨g', M', hR', hM, _⟩ := hw E gk Mk _ w h3
      refine ⟨σk.frz k xs, frz k xs xk, g', M', by simp [St.frz, h1, frzL], by simp [St.frz, h2], hR', Mem.le_trans h4 hM, rd_frz hr (fun i hi => frz_obj k xs i hi) xk b h5, fun i n ys hi hh => ?_⟩
      by_cases hik : i = k
      · subst hik
        rw [frz_self i xs (by omega)] at hh
        obtain ⟨_, hh, _⟩ := hh
        cases hh
      · rw [frz_obj k xs i hik] at hh
        obtain ⟨sz', e, e2⟩ := hh
        refine h6 i n ys (by omega) ⟨sz', ?_, e2⟩
        cases ho : σk.obj i with
        | none => rw [ho] at e; cases e
        | some o =>
          rw [ho] at e
          cases o <;> simp only [frzO, Option.some.injEq, reduceCtorEq] at e
          rw [e]
    · refine ⟨σk, xk, gk, Mk, h1, h2, h3, h4, h5, fun i n ys hi hh => ?_⟩
      by_cases hik : i = k
      · subst hik
        obtain ⟨sz, e, _⟩ := hh
        exact hr ⟨sz, ys, e⟩
      · exact h6 i n ys (by omega) hh

def PK (ob : Nat → Option AObj) (r : Option (List AVal)) (res : AVal) : Prop := match r with | some vs => rdV ob (pack vs) res | none => False
def RQ (env : Env) (rs : List ResultVar) (res : AVal) : Exit → St → Prop
  | .ret, σ => PK σ.obj (ares env σ rs) res
  | .normal, σ => PK σ.obj (ares env σ rs) res
  | _, _ => False
theorem RQ_ret (rs : List ResultVar) (res : AVal) (σ : St) : RQ env rs res .ret σ = PK σ.obj (ares env σ rs) res := rfl
theorem RQ_normal (rs : List ResultVar) (res : AVal) (σ : St) : RQ env rs res .normal σ = PK σ.obj (ares env σ rs) res := rfl
theorem PK_some (ob : Nat → Option AObj) (vs : List AVal) (res : AVal) : PK ob (some vs) res = rdV ob (pack vs) res := rfl

theorem AC.of_vc (hE : EnvOK P env) (hm : P.follows .mixedOrders = true) {f : FuncId} {fn : Func} {code : Code} (hf : P.funcs[f]? = some fn) (hb : fn.body = some code) {args : List AVal} {res : AVal}
    (hargs : args.length ≤ fn.ntmps)
    (h : VC P env 0 code ⟨args ++ List.replicate (fn.ntmps - args.length) .junk, List.replicate env.nobj none⟩ (RQ env fn.results.toList res)) :
    AC P env.gl f args [] res [] := by
  intro w M g vargs hR hG
  have hla : vargs.length = args.length := by simpa using hR.size
  refine calls_of_wp hf hb ?_
  have hobj : ∀ id, St.obj ⟨args ++ List.replicate (fn.ntmps - args.length) .junk, List.replicate env.nobj none⟩ id = none := fun id => by
    simp only [St.obj, List.getD]
    rw [List.getElem?_replicate]
    split <;> rfl
  have hdom : St.dom ⟨args ++ List.replicate (fn.ntmps - args.length) .junk, List.replicate env.nobj none⟩ = St.dom ⟨args, []⟩ := by
    funext id; simp only [St.dom, hobj]; simp [St.obj]
  have hR0 : Rel ⟨w, M, blocksOf g []⟩ ⟨args ++ List.replicate (fn.ntmps - args.length) .junk, List.replicate env.nobj none⟩ g M
      { tmps := vargs.toArray ++ Array.replicate (fn.ntmps - vargs.toArray.size) undef, defers := [] } w := by
    refine ⟨by simp [hla], rfl, ?_, ?_, ?_, ?_, hR.sat, hR.M0, hR.Mnew, hR.size0, hR.same, ?_, hR.os, hR.tape, hR.output⟩
    · intro i hi
      rw [hdom]
      by_cases hia : i < args.length
      · have e1 : St.slot ⟨args ++ List.replicate (fn.ntmps - args.length) .junk, List.replicate env.nobj none⟩ i = St.slot ⟨args, []⟩ i := by
          simp [St.slot, List.getElem?_append_left hia]
        have e2 : (vargs.toArray ++ Array.replicate (fn.ntmps - vargs.toArray.size) undef).getD i undef = vargs.toArray.getD i undef := by
          simp only [Array.getD_eq_getD_getElem?]
          rw [Array.getElem?_append_left (by simp; omega)]
        rw [e1, e2]; exact hR.slots i hia
      · have e1 : St.slot ⟨args ++ List.replicate (fn.ntmps - args.length) .junk, List.replicate env.nobj none⟩ i = .junk := by
          simp only [St.slot, List.getD]
          rw [List.getElem?_append_right (by omega), List.getElem?_replicate]
          split <;> rfl
        rw [e1]; exact .junk _
    · intro id o ho; rw [hobj] at ho; cases ho
    · intro id id' o o' b ho; rw [hobj] at ho; cases ho
    · intro id o b ho; rw [hobj] at ho; cases ho
    · intro id o b ho; rw [hobj] at ho; cases ho
  refine wp_mono (VC.to hE hm code h (by simp) _ g M _ w hR0 hG) fun e a' w' ⟨σ', g', M', hq, hR', hM, hA, hl'⟩ => ?_
  have key : PK σ'.obj (ares env σ' fn.results.toList) res → a'.defers = [] ∧ ∃ v, (results fn a'.tmps).run P w' = .ok v w' ∧ ∃ v' g' M', Ending.returned v = .returned v' ∧ Rel ⟨w, M, blocksOf g []⟩ ⟨[res], []⟩ g' M' ⟨#[v'], []⟩ w' ∧ ∀ id, hasObj [] id = true → g.agree g' id := by
    intro hpk
    cases hvs : ares env σ' fn.results.toList with
    | none => rw [hvs] at hpk; exact hpk.elim
    | some vs =>
      rw [hvs, PK_some] at hpk
      obtain ⟨v, hrun, hV⟩ := results_run (P := P) hR' hE hvs
      have hR1 : Rel ⟨w, M, blocksOf g []⟩ ⟨[pack vs], σ'.objs⟩ g' M' ⟨#[v], []⟩ w' := by
        refine ⟨rfl, rfl, fun i hi => ?_, hR'.objs, hR'.apart, hR'.offM, hR'.sat, hR'.M0, hR'.Mnew, hR'.size0, hR'.same, hR'.own0, hR'.os, hR'.tape, hR'.output⟩
        have hi0 : i = 0 := by simpa using hi
        subst hi0
        exact hV
      obtain ⟨σk, xk, gk, Mk, h1, h2, h3, h4, h5, h6⟩ := hR1.read1 (σ := σ') hpk σ'.objs.length (Nat.le_refl _)
      have hno : ∀ i n ys, ¬ rowIs (σk.obj i) n ys := fun i n ys => by
        by_cases hi : i < σ'.objs.length
        · exact h6 i n ys hi
        · rintro ⟨sz, e, _⟩
          simp [St.obj, List.getD, List.getElem?_eq_none (by omega : σk.objs.length ≤ i)] at e
      refine ⟨hR'.defers, v, hrun, v, gk, Mk, rfl, ⟨rfl, rfl, fun i hi => ?_, fun id o ho => by simp [St.obj] at ho, fun id id' o o' b ho => by simp [St.obj] at ho, fun id o b ho => by simp [St.obj] at ho, h3.sat, h3.M0, h3.Mnew, h3.size0, h3.same, fun id o b ho => by simp [St.obj] at ho, h3.os, h3.tape, h3.output⟩, fun id hid => by simp [hasObj] at hid⟩
      have hi0 : i = 0 := by simpa using hi
      subst hi0
      have h7 := h3.slot 0
      have e : σk.slot 0 = xk := by simp [St.slot, h1]
      rw [e] at h7
      exact V.read hno h7 h5
  cases e with
  | ret => exact key hq
  | normal => exact key hq
  | _ => exact hq.elim
end Go.Abs
namespace Go.Abs
open Go
def kw1 := And.intro @VL_nil <| And.intro @VL_cons <| And.intro @VG_call <| And.intro @CK_false <| And.intro @VX_true <| And.intro @VX_false <| And.intro @VX_some <| And.intro @VX_ite <| @VX_ite'
def kw2 := And.intro @KQ_none <| And.intro @KQ_some <| And.intro @SCd_true <| And.intro @SCd_false <| @SCd_bool
def kw3 := And.intro @VC_skip <| And.intro @VC_label <| And.intro @VC_scope <| And.intro @VC_ret <| And.intro @VC_exit <| And.intro @VC_seq <| And.intro @VC_block <| And.intro @VC_cond <| And.intro @VC_reg <| And.intro @VC_draw <| @VC_loop
def kw4 := And.intro @SB_true <| And.intro @SB_false <| And.intro @scopeQ_n <| And.intro @scopeQ_r <| And.intro @scopeQ_x <| And.intro @thenQ_n <| And.intro @thenQ_r <| And.intro @thenQ_x <| And.intro @blockQ_n <| And.intro @blockQ_r <| And.intro @blockQ_s <| @blockQ_x
def kw5 := And.intro @cw_true <| And.intro @cw_false <| And.intro @cw_self <| And.intro @gw_bool <| And.intro @gw_tup <| And.intro @gw_cw <| And.intro @pickOrW <| And.intro @pickAndW <| And.intro @pickO2 <| And.intro @pickA2 <| And.intro @accAdd_none <| @accAdd_some
def kw6 := And.intro @RQ_ret <| And.intro @RQ_normal <| And.intro @PK_some <| And.intro @rd_pv <| And.intro @rd_snil <| And.intro @rd_row <| And.intro @rd_agg <| And.intro @rd_tup <| And.intro @rd_junk <| And.intro @rd_nil <| And.intro @rd_cons <| @rowIs_some
end Go.Abs
namespace Go.Abs
open Go
variable {P : Program} {env : Env} {pin : Nat} {σ : St} {Q : Exit → St → Prop}
theorem aopE1 : ∀ (env : Env) (dst : Option Nat) (ev : Operand → AVal) (ob : Nat → Option AObj), ∀ x, aop env dst ev ob (.move x) = (some ⟨ev x, []⟩) := fun _ _ _ _ _ => rfl
theorem aopE2 : ∀ (env : Env) (dst : Option Nat) (ev : Operand → AVal) (ob : Nat → Option AObj), ∀ x, aop env dst ev ob (.assign x) = (some ⟨ev x, []⟩) := fun _ _ _ _ _ => rfl
theorem aopE3 : ∀ (env : Env) (dst : Option Nat) (ev : Operand → AVal) (ob : Nat → Option AObj), ∀ c a b, aop env dst ev ob (.pick c a b) = (match ev c with
    | .pv (.bool t) => some ⟨if t then ev a else ev b, []⟩
    | _ => none) := fun _ _ _ _ _ _ _ => rfl
theorem aopE4 : ∀ (env : Env) (dst : Option Nat) (ev : Operand → AVal) (ob : Nat → Option AObj), ∀ t, aop env dst ev ob (.alloc t) = (match env.ty t, dst with
    | some ty, some d => match ty.zero, ob (env.site d) with
      | some z, none => if env.site d < env.nobj ∧ z.all AVal.isCell = true then some ⟨.ref (env.site d) 0, [(env.site d, .cells z)]⟩ else none
      | _, _ => none
    | _, _ => none) := fun _ _ _ _ _ => rfl
theorem aopE5 : ∀ (env : Env) (dst : Option Nat) (ev : Operand → AVal) (ob : Nat → Option AObj), ∀ z1 x, aop env dst ev ob (.box z1 x) = (match dst with
    | some d => match ob (env.site d) with
      | none => if env.site d < env.nobj ∧ (ev x).cells.all AVal.isCell = true then some ⟨.ref (env.site d) 0, [(env.site d, .cells (ev x).cells)]⟩ else none
      | _ => none
    | none => none) := fun _ _ _ _ _ _ => rfl
theorem aopE6 : ∀ (env : Env) (dst : Option Nat) (ev : Operand → AVal) (ob : Nat → Option AObj), ∀ t parts, aop env dst ev ob (.build t parts) = (match env.ty t with
    | some ty => match ty.zero, ty.kind with
      | some z, .struct => if (ty.fields.all fun q => decide (0 < q.2)) = false then none else (afill (fun i => ty.fields[i]?) z (parts.toList.map fun q => (q.1, ev q.2))).map fun cs => ⟨.agg cs, []⟩
      | some z, .array _ => if ty.eSize = 0 then none else (afill (fun i => some (i * ty.eSize, ty.eSize)) z (parts.toList.map fun q => (q.1, ev q.2))).map fun cs => ⟨.agg cs, []⟩
      | _, _ => none
    | none => none) := fun _ _ _ _ _ _ => rfl
theorem aopE7 : ∀ (env : Env) (dst : Option Nat) (ev : Operand → AVal) (ob : Nat → Option AObj), ∀ t len parts, aop env dst ev ob (.buildSlice t len parts) = (match env.ty t with
    | some ty => match ty.kind with
      | .slice => if 0 < ty.eSize ∧ parts.size = len ∧ len * ty.eSize ≤ 65536 ∧ ty.eZero = true then
          match arows ty.eSize 0 (parts.toList.map fun q => (q.1, ev q.2)) with
          | some xs => some ⟨.pv (.slice xs), []⟩
          | none => none
        else none
      | _ => none
    | none => none) := fun _ _ _ _ _ _ _ => rfl
theorem aopE8 : ∀ (env : Env) (dst : Option Nat) (ev : Operand → AVal) (ob : Nat → Option AObj), ∀ t p, aop env dst ev ob (.load t p) = (match env.ty t, ev p with
    | some ty, .ref id off => match ob id with
      | some (.cells cs) => if off + ty.size ≤ cs.length ∧ 0 < ty.size then
          some ⟨if ty.agg then .agg ((cs.drop off).take ty.size) else cs.getD off .junk, []⟩ else none
      | _ => none
    | some ty, .pv (.ptr cs) => if ty.size ≤ cs.length ∧ 0 < ty.size then
          some ⟨if ty.agg then .agg ((cs.take ty.size).map .pv) else .pv (cs.getD 0 .nilptr), []⟩ else none
    | some ty, .eref id i j sz => match ob id with
      | some (.row sz' xs) => if sz = sz' ∧ i < xs.length ∧ j + ty.size ≤ sz ∧ 0 < ty.size then
          some ⟨if ty.agg then .agg ((((xs.getD i []).drop j).take ty.size).map .pv) else .pv (pcell xs i j), []⟩ else none
      | _ => none
    | _, _ => none) := fun _ _ _ _ _ _ => rfl
theorem aopE9 : ∀ (env : Env) (dst : Option Nat) (ev : Operand → AVal) (ob : Nat → Option AObj), ∀ t p x, aop env dst ev ob (.store t p x) = (match env.ty t, ev p with
    | some ty, .ref id off => match ob id with
      | some (.cells cs) => if (ev x).cells.length = ty.size ∧ off + ty.size ≤ cs.length ∧ (ev x).cells.all AVal.isCell = true then
          some ⟨.junk, [(id, .cells (splice cs off (ev x).cells))]⟩ else none
      | _ => none
    | some ty, .eref id i j sz => match ob id, toPs (ev x).cells with
      | some (.row sz' xs), some ps => if sz = sz' ∧ i < xs.length ∧ j + ty.size ≤ sz ∧ ps.length = ty.size then
          some ⟨.junk, [(id, .row sz' (rowSet xs i j ps))]⟩ else none
      | _, _ => none
    | _, _ => none) := fun _ _ _ _ _ _ _ => rfl
theorem aopE10 : ∀ (env : Env) (dst : Option Nat) (ev : Operand → AVal) (ob : Nat → Option AObj), ∀ x, aop env dst ev ob (.nilCheck x) = (match ev x with
    | .ref id off => some ⟨.ref id off, []⟩
    | .eref id i j sz => some ⟨.eref id i j sz, []⟩
    | .pv (.ptr cs) => some ⟨.pv (.ptr cs), []⟩
    | _ => none) := fun _ _ _ _ _ => rfl
theorem aopE11 : ∀ (env : Env) (dst : Option Nat) (ev : Operand → AVal) (ob : Nat → Option AObj), ∀ op t x y z1, aop env dst ev ob (.binOp op t x y z1) = (match ev x, ev y with
    | .pv p, .pv q => (if isNilC y = true then anil op ((env.ty t).map Ty.kind) p else abin op ((env.ty t).map Ty.kind) p q).map fun r => ⟨.pv r, []⟩
    | _, _ => none) := fun _ _ _ _ _ _ _ _ _ => rfl
theorem aopE12 : ∀ (env : Env) (dst : Option Nat) (ev : Operand → AVal) (ob : Nat → Option AObj), ∀ op z1 x, aop env dst ev ob (.unOp op z1 x) = (match op, ev x with
    | .not, .pv (.bool b) => some ⟨.pv (.bool !b), []⟩
    | .neg, .pv (.int k n) => some ⟨.pv (.int k (k.wrap (0 - n))), []⟩
    | _, _ => none) := fun _ _ _ _ _ _ _ => rfl
theorem aopE13 : ∀ (env : Env) (dst : Option Nat) (ev : Operand → AVal) (ob : Nat → Option AObj), ∀ st dt x, aop env dst ev ob (.convert st dt x) = (match env.ty st, env.ty dt, ev x with
    | some _, some ty, .pv (.int _ n) => match ty.kind with
      | .int k => some ⟨.pv (.int k (k.wrap n)), []⟩
      | _ => none
    | some sty, some ty, .pv (.slice xs) => match sty.kind, ty.kind, numsOf xs with
      | .slice, .string, some ns => if sty.kKind = .int .u8 then some ⟨.pv (.str (strOf ns)), []⟩ else none
      | _, _, _ => none
    | _, _, _ => none) := fun _ _ _ _ _ _ _ => rfl
theorem aopE14 : ∀ (env : Env) (dst : Option Nat) (ev : Operand → AVal) (ob : Nat → Option AObj), ∀ s x k, aop env dst ev ob (.fieldAddr s x k) = (match env.ty s with
    | some ty => match ty.kind, ty.fields[k]? with
      | .struct, some (fo, fs) => if 0 < fs then match ev x with
          | .ref id off => some ⟨.ref id (off + fo), []⟩
          | .pv (.ptr cs) => if fo + fs ≤ cs.length then some ⟨.pv (.ptr ((cs.drop fo).take fs)), []⟩ else none
          | .eref id i j sz => some ⟨.eref id i (j + fo) sz, []⟩
          | _ => none
        else none
      | _, _ => none
    | none => none) := fun _ _ _ _ _ _ _ => rfl
theorem aopE15 : ∀ (env : Env) (dst : Option Nat) (ev : Operand → AVal) (ob : Nat → Option AObj), ∀ t x ix, aop env dst ev ob (.indexAddr t x ix) = (match env.ty t, ev ix with
    | some ty, .pv (.int _ i) => if ty.eSize = 0 then none else match ty.kind, ev x with
      | .slice, .pv (.slice xs) => if 0 ≤ i ∧ i.toNat < xs.length ∧ (xs.getD i.toNat []).length = ty.eSize then some ⟨.pv (.ptr (xs.getD i.toNat [])), []⟩ else none
      | .slice, .row id n => match ob id with
        | some (.row sz _) => if 0 ≤ i ∧ i.toNat < n ∧ sz = ty.eSize then some ⟨.eref id i.toNat 0 sz, []⟩ else none
        | _ => none
      | .array n, .ref id off => if 0 ≤ i ∧ i.toNat < n then some ⟨.ref id (off + i.toNat * ty.eSize), []⟩ else none
      | .array n, .pv (.ptr cs) => if 0 ≤ i ∧ i.toNat < n ∧ i.toNat * ty.eSize < cs.length then some ⟨.pv (.ptr ((cs.drop (i.toNat * ty.eSize)).take ty.eSize)), []⟩ else none
      | _, _ => none
    | _, _ => none) := fun _ _ _ _ _ _ _ => rfl
theorem aopE16 : ∀ (env : Env) (dst : Option Nat) (ev : Operand → AVal) (ob : Nat → Option AObj), ∀ t x ix, aop env dst ev ob (.index t x ix) = (match env.ty t, ev ix with
    | some ty, .pv (.int _ i) => match ty.kind, ev x with
      | .string, .pv (.str s) => if 0 ≤ i ∧ i.toNat < s.length then some ⟨.pv (.int .u8 ((s.getD i.toNat 0).toNat : Int)), []⟩ else none
      | _, _ => none
    | _, _ => none) := fun _ _ _ _ _ _ _ => rfl
theorem aopE17 : ∀ (env : Env) (dst : Option Nat) (ev : Operand → AVal) (ob : Nat → Option AObj), ∀ x k, aop env dst ev ob (.extract x k) = (match ev x with
    | .tup vs => match vs[k]? with
      | some v => some ⟨v, []⟩
      | none => none
    | _ => none) := fun _ _ _ _ _ _ => rfl
theorem aopE18 : ∀ (env : Env) (dst : Option Nat) (ev : Operand → AVal) (ob : Nat → Option AObj), ∀ t x lo hi mx, aop env dst ev ob (.slice t x lo hi mx) = (match env.ty t, mx with
    | some ty, none =>
      match ty.kind, ev x with
      | .string, .pv (.str s) => match abound ev lo 0, abound ev hi s.length with
        | some l, some h => if 0 ≤ l ∧ l ≤ h ∧ h ≤ s.length then some ⟨.pv (.str ((s.take h.toNat).drop l.toNat)), []⟩ else none
        | _, _ => none
      | .slice, .pv (.slice xs) => match abound ev lo 0, abound ev hi xs.length with
        | some l, some h => if 0 ≤ l ∧ l ≤ h ∧ h ≤ xs.length ∧ (l = 0 ∨ (xs.getD 0 []).length = ty.eSize) ∧ 0 < ty.eSize then some ⟨.pv (.slice ((xs.take h.toNat).drop l.toNat)), []⟩ else none
        | _, _ => none
      | _, _ => none
    | _, _ => none) := fun _ _ _ _ _ _ _ _ _ => rfl
theorem aopE19 : ∀ (env : Env) (dst : Option Nat) (ev : Operand → AVal) (ob : Nat → Option AObj), ∀ t, aop env dst ev ob (.makeMap t none) = (match env.ty t, dst with
    | some ty, some d => match ty.kind, ob (env.site d) with
      | .map, none => if env.site d < env.nobj ∧ ty.kKind ≠ .other then some ⟨.map (env.site d), [(env.site d, .map ty.kKind [])]⟩ else none
      | _, _ => none
    | _, _ => none) := fun _ _ _ _ _ => rfl
theorem aopE20 : ∀ (env : Env) (dst : Option Nat) (ev : Operand → AVal) (ob : Nat → Option AObj), ∀ t len cap, aop env dst ev ob (.makeSlice t len cap) = (match env.ty t, dst with
    | some ty, some d => match ty.kind, ev len, ev cap with
      | .slice, .pv (.int _ n), .pv (.int _ c) => match ty.eZV, ob (env.site d) with
        | some z, none => match toPs (mval z).cells with
          | some ps => if env.site d < env.nobj ∧ 0 ≤ n ∧ n = c ∧ n * ty.eBytes ≤ 140737488355328 ∧ 0 < ty.eBytes ∧ 0 < ty.eSize ∧ ps.length = ty.eSize then
              some ⟨.row (env.site d) n.toNat, [(env.site d, .row ty.eSize (List.replicate n.toNat ps))]⟩ else none
          | none => none
        | _, _ => none
      | _, _, _ => none
    | _, _ => none) := fun _ _ _ _ _ _ _ => rfl
theorem aopE21 : ∀ (env : Env) (dst : Option Nat) (ev : Operand → AVal) (ob : Nat → Option AObj), ∀ t x k ok, aop env dst ev ob (.lookup t x k ok) = (match env.ty t, ev x, ev k with
    | some ty, .map id, .pv key => match ty.kind, ob id, ty.eZV with
      | .map, some (.map kd es), some z => if kd = ty.kKind ∧ keyOk kd key = true then
          some ⟨if ok then .tup [mval ((mfind key es).getD z), .pv (.bool (mfind key es).isSome)] else mval ((mfind key es).getD z), []⟩ else none
      | _, _, _ => none
    | _, _, _ => none) := fun _ _ _ _ _ _ _ _ => rfl
theorem aopE22 : ∀ (env : Env) (dst : Option Nat) (ev : Operand → AVal) (ob : Nat → Option AObj), ∀ t m k x, aop env dst ev ob (.mapUpdate t m k x) = (match env.ty t, ev m, ev k, toMV (ev x) with
    | some ty, .map id, .pv key, some v => match ty.kind, ob id with
      | .map, some (.map kd es) => if kd = ty.kKind ∧ keyOk kd key = true then some ⟨.junk, [(id, .map kd (mset key v es))]⟩ else none
      | _, _ => none
    | _, _, _, _ => none) := fun _ _ _ _ _ _ _ _ => rfl
theorem aopE23 : ∀ (env : Env) (dst : Option Nat) (ev : Operand → AVal) (ob : Nat → Option AObj), ∀ args tys, aop env dst ev ob (.call ⟨.builtin .len, args, tys⟩) = (match args.toList, tys.toList with
    | [x], [t] => match env.ty t with
      | some ty => match ty.kind, ev x with
        | .string, .pv (.str s) => some ⟨.pv (.int .i64 s.length), []⟩
        | .slice, .pv (.slice xs) => some ⟨.pv (.int .i64 xs.length), []⟩
        | .slice, .snil => some ⟨.pv (.int .i64 0), []⟩
        | .slice, .row _ n => some ⟨.pv (.int .i64 n), []⟩
        | .array n, _ => some ⟨.pv (.int .i64 n), []⟩
        | _, _ => none
      | none => none
    | _, _ => none) := fun _ _ _ _ _ _ => rfl
theorem aopE24 : ∀ (env : Env) (dst : Option Nat) (ev : Operand → AVal) (ob : Nat → Option AObj), ∀ args z1, aop env dst ev ob (.call ⟨.builtin .max, args, z1⟩) = (match args.toList with
    | x :: r => match ev x with
      | .pv p => (afold amax p (r.map ev)).map fun q => ⟨.pv q, []⟩
      | _ => none
    | [] => none) := fun _ _ _ _ _ _ => rfl
theorem aopE25 : ∀ (env : Env) (dst : Option Nat) (ev : Operand → AVal) (ob : Nat → Option AObj), ∀ args z1, aop env dst ev ob (.call ⟨.builtin .min, args, z1⟩) = (match args.toList with
    | x :: r => match ev x with
      | .pv p => (afold amin p (r.map ev)).map fun q => ⟨.pv q, []⟩
      | _ => none
    | [] => none) := fun _ _ _ _ _ _ => rfl
theorem aopE26 : ∀ (env : Env) (dst : Option Nat) (ev : Operand → AVal) (ob : Nat → Option AObj), ∀ args tys, aop env dst ev ob (.call ⟨.builtin .append, args, tys⟩) = (match args.toList, tys.toList, dst with
    | [x, y], [t, t'], some d => match env.ty t, env.ty t', ob (env.site d) with
      | some ty, some ty', none => match ty.kind, ty'.kind, srcRows ob (ev y) with
        | .slice, .slice, some ys => match ev x with
          | .snil => if env.site d < env.nobj ∧ 0 < ty.eBytes ∧ 0 < ty.eSize ∧ ty.eSize = ty'.eSize ∧ roomOk (ys.length) ty.eBytes = true ∧ (ys.all fun y => y.length == ty.eSize) = true ∧ ty.eZero = true then
              some ⟨.row (env.site d) ys.length, [(env.site d, .row ty.eSize ys)]⟩ else none
          | .row id n => match ob id with
            | some (.row sz xs) => if env.site d < env.nobj ∧ env.site d ≠ id ∧ 0 < ty.eBytes ∧ xs.length = n ∧ sz = ty.eSize ∧ 0 < sz ∧ ty'.eSize = sz ∧ roomOk (xs.length + ys.length) ty.eBytes = true ∧ (ys.all fun y => y.length == sz) = true ∧ ty.eZero = true then
                some ⟨.row (env.site d) (n + ys.length), [(id, .dead), (env.site d, .row sz (xs ++ ys))]⟩ else none
            | _ => none
          | _ => none
        | _, _, _ => none
      | _, _, _ => none
    | _, _, _ => none) := fun _ _ _ _ _ _ => rfl
theorem atgE1 : ∀ (env : Env) (dst : Option Nat) (ev : Operand → AVal), ∀ z1, atgt env dst ev (.alloc z1) = (match dst with | some d => [env.site d] | none => []) := fun _ _ _ _ => rfl
theorem atgE2 : ∀ (env : Env) (dst : Option Nat) (ev : Operand → AVal), ∀ z1 z2, atgt env dst ev (.box z1 z2) = (match dst with | some d => [env.site d] | none => []) := fun _ _ _ _ _ => rfl
theorem atgE3 : ∀ (env : Env) (dst : Option Nat) (ev : Operand → AVal), ∀ z1 p, atgt env dst ev (.load z1 p) = (match ev p with | .ref id _ => [id] | .eref id _ _ _ => [id] | _ => []) := fun _ _ _ _ _ => rfl
theorem atgE4 : ∀ (env : Env) (dst : Option Nat) (ev : Operand → AVal), ∀ z1 p z2, atgt env dst ev (.store z1 p z2) = (match ev p with | .ref id _ => [id] | .eref id _ _ _ => [id] | _ => []) := fun _ _ _ _ _ _ => rfl
theorem atgE5 : ∀ (env : Env) (dst : Option Nat) (ev : Operand → AVal), ∀ z1 x z2, atgt env dst ev (.indexAddr z1 x z2) = (match ev x with | .row id _ => [id] | _ => []) := fun _ _ _ _ _ _ => rfl
theorem atgE6 : ∀ (env : Env) (dst : Option Nat) (ev : Operand → AVal), ∀ z1, atgt env dst ev (.makeMap z1 none) = (match dst with | some d => [env.site d] | none => []) := fun _ _ _ _ => rfl
theorem atgE7 : ∀ (env : Env) (dst : Option Nat) (ev : Operand → AVal), ∀ z1 z2 z3, atgt env dst ev (.makeSlice z1 z2 z3) = (match dst with | some d => [env.site d] | none => []) := fun _ _ _ _ _ _ => rfl
theorem atgE8 : ∀ (env : Env) (dst : Option Nat) (ev : Operand → AVal), ∀ z1 x z2 z3, atgt env dst ev (.lookup z1 x z2 z3) = (match ev x with | .map id => [id] | _ => []) := fun _ _ _ _ _ _ _ => rfl
theorem atgE9 : ∀ (env : Env) (dst : Option Nat) (ev : Operand → AVal), ∀ z1 m z2 z3, atgt env dst ev (.mapUpdate z1 m z2 z3) = (match ev m with | .map id => [id] | _ => []) := fun _ _ _ _ _ _ _ => rfl
theorem atgE10 : ∀ (env : Env) (dst : Option Nat) (ev : Operand → AVal), ∀ args z1, atgt env dst ev (.call ⟨.builtin .append, args, z1⟩) = (match args.toList with
    | [x, y] => (match dst with | some d => [env.site d] | none => []) ++ (match ev x with | .row id _ => [id] | _ => []) ++ (match ev y with | .row id _ => [id] | _ => [])
    | _ => []) := fun _ _ _ _ _ => rfl
theorem atgE11 : ∀ (env : Env) (dst : Option Nat) (ev : Operand → AVal), ∀ x, atgt env dst ev (.move x) = [] := fun _ _ _ _ => rfl
theorem atgE12 : ∀ (env : Env) (dst : Option Nat) (ev : Operand → AVal), ∀ x, atgt env dst ev (.assign x) = [] := fun _ _ _ _ => rfl
theorem atgE13 : ∀ (env : Env) (dst : Option Nat) (ev : Operand → AVal), ∀ c a b, atgt env dst ev (.pick c a b) = [] := fun _ _ _ _ _ _ => rfl
theorem atgE14 : ∀ (env : Env) (dst : Option Nat) (ev : Operand → AVal), ∀ t parts, atgt env dst ev (.build t parts) = [] := fun _ _ _ _ _ => rfl
theorem atgE15 : ∀ (env : Env) (dst : Option Nat) (ev : Operand → AVal), ∀ t len parts, atgt env dst ev (.buildSlice t len parts) = [] := fun _ _ _ _ _ _ => rfl
theorem atgE16 : ∀ (env : Env) (dst : Option Nat) (ev : Operand → AVal), ∀ x, atgt env dst ev (.nilCheck x) = [] := fun _ _ _ _ => rfl
theorem atgE17 : ∀ (env : Env) (dst : Option Nat) (ev : Operand → AVal), ∀ op t x y z1, atgt env dst ev (.binOp op t x y z1) = [] := fun _ _ _ _ _ _ _ _ => rfl
theorem atgE18 : ∀ (env : Env) (dst : Option Nat) (ev : Operand → AVal), ∀ op z1 x, atgt env dst ev (.unOp op z1 x) = [] := fun _ _ _ _ _ _ => rfl
theorem atgE19 : ∀ (env : Env) (dst : Option Nat) (ev : Operand → AVal), ∀ st dt x, atgt env dst ev (.convert st dt x) = [] := fun _ _ _ _ _ _ => rfl
theorem atgE20 : ∀ (env : Env) (dst : Option Nat) (ev : Operand → AVal), ∀ s x k, atgt env dst ev (.fieldAddr s x k) = [] := fun _ _ _ _ _ _ => rfl
theorem atgE21 : ∀ (env : Env) (dst : Option Nat) (ev : Operand → AVal), ∀ t x ix, atgt env dst ev (.index t x ix) = [] := fun _ _ _ _ _ _ => rfl
theorem atgE22 : ∀ (env : Env) (dst : Option Nat) (ev : Operand → AVal), ∀ x k, atgt env dst ev (.extract x k) = [] := fun _ _ _ _ _ => rfl
theorem atgE23 : ∀ (env : Env) (dst : Option Nat) (ev : Operand → AVal), ∀ t x lo hi mx, atgt env dst ev (.slice t x lo hi mx) = [] := fun _ _ _ _ _ _ _ _ => rfl
theorem atgE24 : ∀ (env : Env) (dst : Option Nat) (ev : Operand → AVal), ∀ args tys, atgt env dst ev (.call ⟨.builtin .len, args, tys⟩) = [] := fun _ _ _ _ _ => rfl
theorem atgE25 : ∀ (env : Env) (dst : Option Nat) (ev : Operand → AVal), ∀ args z1, atgt env dst ev (.call ⟨.builtin .max, args, z1⟩) = [] := fun _ _ _ _ _ => rfl
theorem atgE26 : ∀ (env : Env) (dst : Option Nat) (ev : Operand → AVal), ∀ args z1, atgt env dst ev (.call ⟨.builtin .min, args, z1⟩) = [] := fun _ _ _ _ _ => rfl
theorem vgE1 : ∀ (K : Option Tr → St → Prop) (tg : Tg K) (gp : Prop) (dd : Option Nat), ∀ x, ∀ (rest : List COp) (acc : Option Tr) (σ : St), VG P env K tg (some gp) dd (.move x) rest acc σ = VX P env K tg gp (aop env dd (aeval env σ) σ.obj (.move x)) (atgt env dd (aeval env σ) (.move x)) dd rest acc σ := fun _ _ _ _ _ _ _ _ => VG_op _ _ _ _ _ ⟨rfl, rfl⟩ _ _ _
theorem vgE2 : ∀ (K : Option Tr → St → Prop) (tg : Tg K) (gp : Prop) (dd : Option Nat), ∀ x, ∀ (rest : List COp) (acc : Option Tr) (σ : St), VG P env K tg (some gp) dd (.assign x) rest acc σ = VX P env K tg gp (aop env dd (aeval env σ) σ.obj (.assign x)) (atgt env dd (aeval env σ) (.assign x)) dd rest acc σ := fun _ _ _ _ _ _ _ _ => VG_op _ _ _ _ _ ⟨rfl, rfl⟩ _ _ _
theorem vgE3 : ∀ (K : Option Tr → St → Prop) (tg : Tg K) (gp : Prop) (dd : Option Nat), ∀ c a b, ∀ (rest : List COp) (acc : Option Tr) (σ : St), VG P env K tg (some gp) dd (.pick c a b) rest acc σ = VX P env K tg gp (aop env dd (aeval env σ) σ.obj (.pick c a b)) (atgt env dd (aeval env σ) (.pick c a b)) dd rest acc σ := fun _ _ _ _ _ _ _ _ _ _ => VG_op _ _ _ _ _ ⟨rfl, rfl⟩ _ _ _
theorem vgE4 : ∀ (K : Option Tr → St → Prop) (tg : Tg K) (gp : Prop) (dd : Option Nat), ∀ t, ∀ (rest : List COp) (acc : Option Tr) (σ : St), VG P env K tg (some gp) dd (.alloc t) rest acc σ = VX P env K tg gp (aop env dd (aeval env σ) σ.obj (.alloc t)) (atgt env dd (aeval env σ) (.alloc t)) dd rest acc σ := fun _ _ _ _ _ _ _ _ => VG_op _ _ _ _ _ ⟨rfl, rfl⟩ _ _ _
theorem vgE5 : ∀ (K : Option Tr → St → Prop) (tg : Tg K) (gp : Prop) (dd : Option Nat), ∀ z1 x, ∀ (rest : List COp) (acc : Option Tr) (σ : St), VG P env K tg (some gp) dd (.box z1 x) rest acc σ = VX P env K tg gp (aop env dd (aeval env σ) σ.obj (.box z1 x)) (atgt env dd (aeval env σ) (.box z1 x)) dd rest acc σ := fun _ _ _ _ _ _ _ _ _ => VG_op _ _ _ _ _ ⟨rfl, rfl⟩ _ _ _
theorem vgE6 : ∀ (K : Option Tr → St → Prop) (tg : Tg K) (gp : Prop) (dd : Option Nat), ∀ t parts, ∀ (rest : List COp) (acc : Option Tr) (σ : St), VG P env K tg (some gp) dd (.build t parts) rest acc σ = VX P env K tg gp (aop env dd (aeval env σ) σ.obj (.build t parts)) (atgt env dd (aeval env σ) (.build t parts)) dd rest acc σ := fun _ _ _ _ _ _ _ _ _ => VG_op _ _ _ _ _ ⟨rfl, rfl⟩ _ _ _
theorem vgE7 : ∀ (K : Option Tr → St → Prop) (tg : Tg K) (gp : Prop) (dd : Option Nat), ∀ t len parts, ∀ (rest : List COp) (acc : Option Tr) (σ : St), VG P env K tg (some gp) dd (.buildSlice t len parts) rest acc σ = VX P env K tg gp (aop env dd (aeval env σ) σ.obj (.buildSlice t len parts)) (atgt env dd (aeval env σ) (.buildSlice t len parts)) dd rest acc σ := fun _ _ _ _ _ _ _ _ _ _ => VG_op _ _ _ _ _ ⟨rfl, rfl⟩ _ _ _
theorem vgE8 : ∀ (K : Option Tr → St → Prop) (tg : Tg K) (gp : Prop) (dd : Option Nat), ∀ t p, ∀ (rest : List COp) (acc : Option Tr) (σ : St), VG P env K tg (some gp) dd (.load t p) rest acc σ = VX P env K tg gp (aop env dd (aeval env σ) σ.obj (.load t p)) (atgt env dd (aeval env σ) (.load t p)) dd rest acc σ := fun _ _ _ _ _ _ _ _ _ => VG_op _ _ _ _ _ ⟨rfl, rfl⟩ _ _ _
theorem vgE9 : ∀ (K : Option Tr → St → Prop) (tg : Tg K) (gp : Prop) (dd : Option Nat), ∀ t p x, ∀ (rest : List COp) (acc : Option Tr) (σ : St), VG P env K tg (some gp) dd (.store t p x) rest acc σ = VX P env K tg gp (aop env dd (aeval env σ) σ.obj (.store t p x)) (atgt env dd (aeval env σ) (.store t p x)) dd rest acc σ := fun _ _ _ _ _ _ _ _ _ _ => VG_op _ _ _ _ _ ⟨rfl, rfl⟩ _ _ _
theorem vgE10 : ∀ (K : Option Tr → St → Prop) (tg : Tg K) (gp : Prop) (dd : Option Nat), ∀ x, ∀ (rest : List COp) (acc : Option Tr) (σ : St), VG P env K tg (some gp) dd (.nilCheck x) rest acc σ = VX P env K tg gp (aop env dd (aeval env σ) σ.obj (.nilCheck x)) (atgt env dd (aeval env σ) (.nilCheck x)) dd rest acc σ := fun _ _ _ _ _ _ _ _ => VG_op _ _ _ _ _ ⟨rfl, rfl⟩ _ _ _
theorem vgE11 : ∀ (K : Option Tr → St → Prop) (tg : Tg K) (gp : Prop) (dd : Option Nat), ∀ op t x y z1, ∀ (rest : List COp) (acc : Option Tr) (σ : St), VG P env K tg (some gp) dd (.binOp op t x y z1) rest acc σ = VX P env K tg gp (aop env dd (aeval env σ) σ.obj (.binOp op t x y z1)) (atgt env dd (aeval env σ) (.binOp op t x y z1)) dd rest acc σ := fun _ _ _ _ _ _ _ _ _ _ _ _ => VG_op _ _ _ _ _ ⟨rfl, rfl⟩ _ _ _
theorem vgE12 : ∀ (K : Option Tr → St → Prop) (tg : Tg K) (gp : Prop) (dd : Option Nat), ∀ op z1 x, ∀ (rest : List COp) (acc : Option Tr) (σ : St), VG P env K tg (some gp) dd (.unOp op z1 x) rest acc σ = VX P env K tg gp (aop env dd (aeval env σ) σ.obj (.unOp op z1 x)) (atgt env dd (aeval env σ) (.unOp op z1 x)) dd rest acc σ := fun _ _ _ _ _ _ _ _ _ _ => VG_op _ _ _ _ _ ⟨rfl, rfl⟩ _ _ _
theorem vgE13 : ∀ (K : Option Tr → St → Prop) (tg : Tg K) (gp : Prop) (dd : Option Nat), ∀ st dt x, ∀ (rest : List COp) (acc : Option Tr) (σ : St), VG P env K tg (some gp) dd (.convert st dt x) rest acc σ = VX P env K tg gp (aop env dd (aeval env σ) σ.obj (.convert st dt x)) (atgt env dd (aeval env σ) (.convert st dt x)) dd rest acc σ := fun _ _ _ _ _ _ _ _ _ _ => VG_op _ _ _ _ _ ⟨rfl, rfl⟩ _ _ _
theorem vgE14 : ∀ (K : Option Tr → St → Prop) (tg : Tg K) (gp : Prop) (dd : Option Nat), ∀ s x k, ∀ (rest : List COp) (acc : Option Tr) (σ : St), VG P env K tg (some gp) dd (.fieldAddr s x k) rest acc σ = VX P env K tg gp (aop env dd (aeval env σ) σ.obj (.fieldAddr s x k)) (atgt env dd (aeval env σ) (.fieldAddr s x k)) dd rest acc σ := fun _ _ _ _ _ _ _ _ _ _ => VG_op _ _ _ _ _ ⟨rfl, rfl⟩ _ _ _
theorem vgE15 : ∀ (K : Option Tr → St → Prop) (tg : Tg K) (gp : Prop) (dd : Option Nat), ∀ t x ix, ∀ (rest : List COp) (acc : Option Tr) (σ : St), VG P env K tg (some gp) dd (.indexAddr t x ix) rest acc σ = VX P env K tg gp (aop env dd (aeval env σ) σ.obj (.indexAddr t x ix)) (atgt env dd (aeval env σ) (.indexAddr t x ix)) dd rest acc σ := fun _ _ _ _ _ _ _ _ _ _ => VG_op _ _ _ _ _ ⟨rfl, rfl⟩ _ _ _
theorem vgE16 : ∀ (K : Option Tr → St → Prop) (tg : Tg K) (gp : Prop) (dd : Option Nat), ∀ t x ix, ∀ (rest : List COp) (acc : Option Tr) (σ : St), VG P env K tg (some gp) dd (.index t x ix) rest acc σ = VX P env K tg gp (aop env dd (aeval env σ) σ.obj (.index t x ix)) (atgt env dd (aeval env σ) (.index t x ix)) dd rest acc σ := fun _ _ _ _ _ _ _ _ _ _ => VG_op _ _ _ _ _ ⟨rfl, rfl⟩ _ _ _
theorem vgE17 : ∀ (K : Option Tr → St → Prop) (tg : Tg K) (gp : Prop) (dd : Option Nat), ∀ x k, ∀ (rest : List COp) (acc : Option Tr) (σ : St), VG P env K tg (some gp) dd (.extract x k) rest acc σ = VX P env K tg gp (aop env dd (aeval env σ) σ.obj (.extract x k)) (atgt env dd (aeval env σ) (.extract x k)) dd rest acc σ := fun _ _ _ _ _ _ _ _ _ => VG_op _ _ _ _ _ ⟨rfl, rfl⟩ _ _ _
theorem vgE18 : ∀ (K : Option Tr → St → Prop) (tg : Tg K) (gp : Prop) (dd : Option Nat), ∀ t x lo hi mx, ∀ (rest : List COp) (acc : Option Tr) (σ : St), VG P env K tg (some gp) dd (.slice t x lo hi mx) rest acc σ = VX P env K tg gp (aop env dd (aeval env σ) σ.obj (.slice t x lo hi mx)) (atgt env dd (aeval env σ) (.slice t x lo hi mx)) dd rest acc σ := fun _ _ _ _ _ _ _ _ _ _ _ _ => VG_op _ _ _ _ _ ⟨rfl, rfl⟩ _ _ _
theorem vgE19 : ∀ (K : Option Tr → St → Prop) (tg : Tg K) (gp : Prop) (dd : Option Nat), ∀ t, ∀ (rest : List COp) (acc : Option Tr) (σ : St), VG P env K tg (some gp) dd (.makeMap t none) rest acc σ = VX P env K tg gp (aop env dd (aeval env σ) σ.obj (.makeMap t none)) (atgt env dd (aeval env σ) (.makeMap t none)) dd rest acc σ := fun _ _ _ _ _ _ _ _ => VG_op _ _ _ _ _ ⟨rfl, rfl⟩ _ _ _
theorem vgE20 : ∀ (K : Option Tr → St → Prop) (tg : Tg K) (gp : Prop) (dd : Option Nat), ∀ t len cap, ∀ (rest : List COp) (acc : Option Tr) (σ : St), VG P env K tg (some gp) dd (.makeSlice t len cap) rest acc σ = VX P env K tg gp (aop env dd (aeval env σ) σ.obj (.makeSlice t len cap)) (atgt env dd (aeval env σ) (.makeSlice t len cap)) dd rest acc σ := fun _ _ _ _ _ _ _ _ _ _ => VG_op _ _ _ _ _ ⟨rfl, rfl⟩ _ _ _
theorem vgE21 : ∀ (K : Option Tr → St → Prop) (tg : Tg K) (gp : Prop) (dd : Option Nat), ∀ t x k ok, ∀ (rest : List COp) (acc : Option Tr) (σ : St), VG P env K tg (some gp) dd (.lookup t x k ok) rest acc σ = VX P env K tg gp (aop env dd (aeval env σ) σ.obj (.lookup t x k ok)) (atgt env dd (aeval env σ) (.lookup t x k ok)) dd rest acc σ := fun _ _ _ _ _ _ _ _ _ _ _ => VG_op _ _ _ _ _ ⟨rfl, rfl⟩ _ _ _
theorem vgE22 : ∀ (K : Option Tr → St → Prop) (tg : Tg K) (gp : Prop) (dd : Option Nat), ∀ t m k x, ∀ (rest : List COp) (acc : Option Tr) (σ : St), VG P env K tg (some gp) dd (.mapUpdate t m k x) rest acc σ = VX P env K tg gp (aop env dd (aeval env σ) σ.obj (.mapUpdate t m k x)) (atgt env dd (aeval env σ) (.mapUpdate t m k x)) dd rest acc σ := fun _ _ _ _ _ _ _ _ _ _ _ => VG_op _ _ _ _ _ ⟨rfl, rfl⟩ _ _ _
theorem vgE23 : ∀ (K : Option Tr → St → Prop) (tg : Tg K) (gp : Prop) (dd : Option Nat), ∀ args tys, ∀ (rest : List COp) (acc : Option Tr) (σ : St), VG P env K tg (some gp) dd (.call ⟨.builtin .len, args, tys⟩) rest acc σ = VX P env K tg gp (aop env dd (aeval env σ) σ.obj (.call ⟨.builtin .len, args, tys⟩)) (atgt env dd (aeval env σ) (.call ⟨.builtin .len, args, tys⟩)) dd rest acc σ := fun _ _ _ _ _ _ _ _ _ => VG_op _ _ _ _ _ ⟨rfl, rfl⟩ _ _ _
theorem vgE24 : ∀ (K : Option Tr → St → Prop) (tg : Tg K) (gp : Prop) (dd : Option Nat), ∀ args z1, ∀ (rest : List COp) (acc : Option Tr) (σ : St), VG P env K tg (some gp) dd (.call ⟨.builtin .max, args, z1⟩) rest acc σ = VX P env K tg gp (aop env dd (aeval env σ) σ.obj (.call ⟨.builtin .max, args, z1⟩)) (atgt env dd (aeval env σ) (.call ⟨.builtin .max, args, z1⟩)) dd rest acc σ := fun _ _ _ _ _ _ _ _ _ => VG_op _ _ _ _ _ ⟨rfl, rfl⟩ _ _ _
theorem vgE25 : ∀ (K : Option Tr → St → Prop) (tg : Tg K) (gp : Prop) (dd : Option Nat), ∀ args z1, ∀ (rest : List COp) (acc : Option Tr) (σ : St), VG P env K tg (some gp) dd (.call ⟨.builtin .min, args, z1⟩) rest acc σ = VX P env K tg gp (aop env dd (aeval env σ) σ.obj (.call ⟨.builtin .min, args, z1⟩)) (atgt env dd (aeval env σ) (.call ⟨.builtin .min, args, z1⟩)) dd rest acc σ := fun _ _ _ _ _ _ _ _ _ => VG_op _ _ _ _ _ ⟨rfl, rfl⟩ _ _ _
theorem vgE26 : ∀ (K : Option Tr → St → Prop) (tg : Tg K) (gp : Prop) (dd : Option Nat), ∀ args tys, ∀ (rest : List COp) (acc : Option Tr) (σ : St), VG P env K tg (some gp) dd (.call ⟨.builtin .append, args, tys⟩) rest acc σ = VX P env K tg gp (aop env dd (aeval env σ) σ.obj (.call ⟨.builtin .append, args, tys⟩)) (atgt env dd (aeval env σ) (.call ⟨.builtin .append, args, tys⟩)) dd rest acc σ := fun _ _ _ _ _ _ _ _ _ => VG_op _ _ _ _ _ ⟨rfl, rfl⟩ _ _ _
theorem aeval_tmp : ∀ (sl : List AVal) (ob : List (Option AObj)) (i : Nat), aeval env ⟨sl, ob⟩ (.tmp i) = sl.getD i .junk := fun _ _ _ => rfl
theorem aeval_int : ∀ (k : IntKind) (n : Int), aeval env σ (.const (.int k n)) = .pv (.int k n) := fun _ _ => rfl
theorem aeval_bool : ∀ (b : Bool), aeval env σ (.const (.bool b)) = .pv (.bool b) := fun _ => rfl
theorem aeval_str : ∀ (l : List UInt8), aeval env σ (.const (.string ⟨l.toArray⟩)) = .pv (.str l) := fun _ => rfl
theorem aeval_snil : aeval env σ (.const (.slice none 0 0)) = .snil := rfl
theorem aeval_nptr : aeval env σ (.const (.pointer none)) = .pv .nilptr := rfl
theorem aeval_nmap : aeval env σ (.const (.map none)) = .pv .nilmap := rfl
theorem aeval_agg : ∀ (l : List Value), aeval env σ (.const (.agg l.toArray)) = .agg (l.map absCell) := fun _ => rfl
theorem absC_int : ∀ (k : IntKind) (n : Int), absCell (.int k n) = .pv (.int k n) := fun _ _ => rfl
theorem absC_bool : ∀ (b : Bool), absCell (.bool b) = .pv (.bool b) := fun _ => rfl
theorem absC_str : ∀ (l : List UInt8), absCell (.string ⟨l.toArray⟩) = .pv (.str l) := fun _ => rfl
theorem absC_snil : absCell (.slice none 0 0) = .snil := rfl
theorem absC_nptr : absCell (.pointer none) = .pv .nilptr := rfl
theorem absC_nmap : absCell (.map none) = .pv .nilmap := rfl
theorem aeval_glob : ∀ (b : Nat), aeval env σ (.global b) = (match env.gl b with | some cs => .pv (.ptr cs) | none => .junk) := fun _ => rfl
theorem obj_lit : ∀ (sl : List AVal) (ob : List (Option AObj)) (i : Nat), St.obj ⟨sl, ob⟩ i = ob.getD i none := fun _ _ _ => rfl
theorem slot_lit : ∀ (sl : List AVal) (ob : List (Option AObj)) (i : Nat), St.slot ⟨sl, ob⟩ i = sl.getD i .junk := fun _ _ _ => rfl
theorem app_none : ∀ (σ : St) (d : Nat) (v : AVal), σ.app (some d) ⟨v, []⟩ = ⟨σ.slots.set d v, σ.objs⟩ := fun _ _ _ => rfl
theorem app_nn : ∀ (σ : St) (v : AVal), σ.app none ⟨v, []⟩ = ⟨σ.slots, σ.objs⟩ := fun _ _ => rfl
theorem app_upd : ∀ (σ : St) (d : Nat) (v : AVal) (q : Nat × AObj) (r : List (Nat × AObj)), σ.app (some d) ⟨v, q :: r⟩ = (⟨σ.slots, σ.objs.set q.1 (some q.2)⟩ : St).app (some d) ⟨v, r⟩ := fun _ _ _ _ _ => rfl
theorem app_updn : ∀ (σ : St) (v : AVal) (q : Nat × AObj) (r : List (Nat × AObj)), σ.app none ⟨v, q :: r⟩ = (⟨σ.slots, σ.objs.set q.1 (some q.2)⟩ : St).app none ⟨v, r⟩ := fun _ _ _ _ => rfl
theorem gd_none : gd σ none = some True := rfl
theorem gd_some : ∀ (i : Nat) (w : Bool), gd σ (some (some (i, w))) = gw (σ.slot i) w := fun _ _ => rfl
theorem cells_agg : ∀ (cs : List AVal), AVal.cells (.agg cs) = cs := fun _ => rfl
theorem cells_pv : ∀ (p : PVal), AVal.cells (.pv p) = [.pv p] := fun _ => rfl
theorem cells_snil : AVal.cells .snil = [.snil] := rfl
theorem cells_ref : ∀ (i o : Nat), AVal.cells (.ref i o) = [.ref i o] := fun _ _ => rfl
theorem cells_row : ∀ (i o : Nat), AVal.cells (.row i o) = [.row i o] := fun _ _ => rfl
theorem cells_map : ∀ (i : Nat), AVal.cells (.map i) = [.map i] := fun _ => rfl
theorem isC_pv : ∀ (p : PVal), AVal.isCell (.pv p) = true := fun _ => rfl
theorem isC_snil : AVal.isCell .snil = true := rfl
theorem isC_ref : ∀ (i o : Nat), AVal.isCell (.ref i o) = true := fun _ _ => rfl
theorem isC_row : ∀ (i o : Nat), AVal.isCell (.row i o) = true := fun _ _ => rfl
theorem isC_map : ∀ (i : Nat), AVal.isCell (.map i) = true := fun _ => rfl
theorem toPs_nil : toPs [] = some [] := rfl
theorem toPs_pv : ∀ (p : PVal) (r : List AVal), toPs (.pv p :: r) = (toPs r).map (p :: ·) := fun p r => by simp only [toPs, AVal.toP]; cases toPs r <;> rfl
theorem toPs_snil : ∀ (r : List AVal), toPs (.snil :: r) = (toPs r).map (.slice [] :: ·) := fun r => by simp only [toPs, AVal.toP]; cases toPs r <;> rfl
theorem arows_nil : ∀ (sz k : Nat), arows sz k [] = some [] := fun _ _ => rfl
theorem arows_cons : ∀ (sz k i : Nat) (v : AVal) (r : List (Nat × AVal)), arows sz k ((i, v) :: r) = (if i = k ∧ v.cells.length = sz then (match toPs v.cells, arows sz (k + 1) r with | some ps, some r => some (ps :: r) | _, _ => none) else none) := fun _ _ _ _ _ => rfl
theorem afill_nil : ∀ (pl : Nat → Option (Nat × Nat)) (cs : List AVal), afill pl cs [] = some cs := fun _ _ => rfl
theorem afill_cons : ∀ (pl : Nat → Option (Nat × Nat)) (cs : List AVal) (i : Nat) (v : AVal) (r : List (Nat × AVal)), afill pl cs ((i, v) :: r) = (match pl i with | none => none | some (off, size) => if v.cells.length = size ∧ off + size ≤ cs.length ∧ v.cells.all AVal.isCell = true then afill pl (splice cs off v.cells) r else none) := fun _ _ _ _ _ => rfl
theorem splice_e : ∀ (cs : List AVal) (off : Nat) (v : List AVal), splice cs off v = cs.take off ++ v ++ cs.drop (off + v.length) := fun _ _ _ => rfl
theorem src_snil : ∀ (ob : Nat → Option AObj), srcRows ob .snil = some [] := fun _ => rfl
theorem src_pv : ∀ (ob : Nat → Option AObj) (xs : List (List PVal)), srcRows ob (.pv (.slice xs)) = some xs := fun _ _ => rfl
theorem src_row : ∀ (ob : Nat → Option AObj) (id n : Nat), srcRows ob (.row id n) = (match ob id with | some (.row _ xs) => if xs.length = n then some xs else none | _ => none) := fun _ _ _ => rfl
theorem bnd_none : ∀ (ev : Operand → AVal) (n : Nat), abound ev none n = some (n : Int) := fun _ _ => rfl
theorem bnd_some : ∀ (ev : Operand → AVal) (q : Operand) (n : Nat), abound ev (some q) n = (match ev q with | .pv (.int _ i) => some i | _ => none) := fun _ _ _ => rfl
theorem fold_nil : ∀ (f : PVal → PVal → Option PVal) (p : PVal), afold f p [] = some p := fun _ _ => rfl
theorem fold_cons : ∀ (f : PVal → PVal → Option PVal) (p q : PVal) (r : List AVal), afold f p (.pv q :: r) = (match f p q with | some x => afold f x r | none => none) := fun _ _ _ _ => rfl
theorem amax_e : ∀ (k k2 : IntKind) (x y : Int), amax (.int k x) (.int k2 y) = some (.int k (imax x y)) := fun _ _ _ _ => rfl
theorem amin_e : ∀ (k k2 : IntKind) (x y : Int), amin (.int k x) (.int k2 y) = some (.int k (imin x y)) := fun _ _ _ _ => rfl
theorem comp_nil : ∀ (l : List Oper), compL l [] = [] := fun _ => rfl
theorem comp_cons : ∀ (l : List Oper) (d : Option Nat) (op : Op) (ty : TypeId) (ps : String) (af : Array Edge) (g : Option (Nat × Bool)) (r : List Oper), compL l (⟨d, op, ty, ps, af, g⟩ :: r) = ⟨d, op, gres l g⟩ :: compL l r := fun _ _ _ _ _ _ _ _ => rfl
theorem gres_none : ∀ (l : List Oper), gres l none = none := fun _ => rfl
theorem gres_some : ∀ (l : List Oper) (j : Nat) (w : Bool), gres l (some (j, w)) = some (((l[j]?).bind (·.dst)).map fun t => (t, w)) := fun _ _ _ => rfl
theorem ares_nil : ares env σ [] = some [] := rfl
theorem ares_tmp : ∀ (i : Nat) (r : List ResultVar), ares env σ (.tmp i :: r) = (ares env σ r).map (σ.slot i :: ·) := fun i r => by simp only [ares, aresOne]; cases ares env σ r <;> rfl
theorem ares_cell : ∀ (i t : Nat) (r : List ResultVar), ares env σ (.cell i t :: r) = (match aresOne env σ (.cell i t), ares env σ r with | some v, some vs => some (v :: vs) | _, _ => none) := fun _ _ _ => rfl
theorem aresO_cell : ∀ (i t : Nat), aresOne env σ (.cell i t) = (match env.ty t, σ.slot i with | some ty, .ref id off => (match σ.obj id with | some (.cells cs) => if off + ty.size ≤ cs.length ∧ 0 < ty.size then some (if ty.agg then .agg ((cs.drop off).take ty.size) else cs.getD off .junk) else none | _ => none) | _, _ => none) := fun _ _ => rfl
theorem pack_one : ∀ (v : AVal), pack [v] = v := fun _ => rfl
theorem pack_nil : pack [] = .tup [] := rfl
theorem pack_two : ∀ (a b : AVal) (r : List AVal), pack (a :: b :: r) = .tup (a :: b :: r) := fun _ _ _ => rfl
theorem toMV_agg : ∀ (cs : List AVal), toMV (.agg cs) = (toPs cs).map fun ps => (true, ps) := fun _ => rfl
theorem nilC_tmp : ∀ (i : Nat), isNilC (.tmp i) = false := fun _ => rfl
theorem nilC_int : ∀ (k : IntKind) (n : Int), isNilC (.const (.int k n)) = false := fun _ _ => rfl
theorem nilC_bool : ∀ (b : Bool), isNilC (.const (.bool b)) = false := fun _ => rfl
theorem nilC_str : ∀ (s : ByteArray), isNilC (.const (.string s)) = false := fun _ => rfl
theorem nilC_nil : isNilC (.const .nilIface) = true := rfl
theorem anil_eq : ∀ (b : Bool), anil .eql (some .iface) (.err b) = some (.bool b) := fun _ => rfl
theorem anil_ne : ∀ (b : Bool), anil .neq (some .iface) (.err b) = some (.bool (!b)) := fun _ => rfl
theorem aeval_nili : aeval env σ (.const .nilIface) = .pv (.err true) := rfl
theorem absC_nili : absCell .nilIface = .pv (.err true) := rfl
theorem nums_nil : numsOf [] = some [] := rfl
theorem nums_cons : ∀ (n : Int) (r : List (List PVal)), numsOf ([.int .u8 n] :: r) = (numsOf r).map (n :: ·) := fun _ _ => rfl
theorem mval_t : ∀ (l : List PVal), mval (true, l) = .agg (l.map .pv) := fun _ => rfl
theorem mval_f : ∀ (l : List PVal), mval (false, l) = .pv (l.getD 0 .nilptr) := fun _ => rfl
theorem toMV_pv : ∀ (p : PVal), toMV (.pv p) = some (false, [p]) := fun _ => rfl
theorem abinE1 : ∀ (kd : Option Kd) (k : IntKind) (a b : Int), abin .add kd (.int k a) (.int k b) = some (.int k (k.wrap (a + b))) := fun _ _ _ _ => by simp [abin]
theorem abinE2 : ∀ (kd : Option Kd) (k : IntKind) (a b : Int), abin .sub kd (.int k a) (.int k b) = some (.int k (k.wrap (a - b))) := fun _ _ _ _ => by simp [abin]
theorem abinE3 : ∀ (kd : Option Kd) (k : IntKind) (a b : Int), abin .mul kd (.int k a) (.int k b) = some (.int k (k.wrap (a * b))) := fun _ _ _ _ => by simp [abin]
theorem abinE4 : ∀ (kd : Option Kd) (k : IntKind) (a b : Int), abin .quo kd (.int k a) (.int k b) = if b = 0 then none else some (.int k (k.wrap (a.tdiv b))) := fun _ _ _ _ => by simp [abin]
theorem abinE5 : ∀ (kd : Option Kd) (k : IntKind) (a b : Int), abin .rem kd (.int k a) (.int k b) = if b = 0 then none else some (.int k (a.tmod b)) := fun _ _ _ _ => by simp [abin]
theorem abinE6 : ∀ (kd : Option Kd) (k : IntKind) (a b : Int), abin .eql kd (.int k a) (.int k b) = some (.bool (a == b)) := fun _ _ _ _ => by simp [abin]
theorem abinE7 : ∀ (kd : Option Kd) (k : IntKind) (a b : Int), abin .neq kd (.int k a) (.int k b) = some (.bool (a != b)) := fun _ _ _ _ => by simp [abin]
theorem abinE8 : ∀ (kd : Option Kd) (k : IntKind) (a b : Int), abin .lss kd (.int k a) (.int k b) = some (.bool (decide (a < b))) := fun _ _ _ _ => by simp [abin]
theorem abinE9 : ∀ (kd : Option Kd) (k : IntKind) (a b : Int), abin .leq kd (.int k a) (.int k b) = some (.bool (decide (a ≤ b))) := fun _ _ _ _ => by simp [abin]
theorem abinE10 : ∀ (kd : Option Kd) (k : IntKind) (a b : Int), abin .gtr kd (.int k a) (.int k b) = some (.bool (decide (a > b))) := fun _ _ _ _ => by simp [abin]
theorem abinE11 : ∀ (kd : Option Kd) (k : IntKind) (a b : Int), abin .geq kd (.int k a) (.int k b) = some (.bool (decide (a ≥ b))) := fun _ _ _ _ => by simp [abin]
theorem abinE12 : ∀ (kd : Option Kd) (a b : List UInt8), abin .eql kd (.str a) (.str b) = some (.bool (a == b)) := fun _ _ _ => rfl
theorem abinE13 : ∀ (kd : Option Kd) (a b : List UInt8), abin .neq kd (.str a) (.str b) = some (.bool (!(a == b))) := fun _ _ _ => rfl
theorem abinE14 : ∀ (kd : Option Kd) (a b : List UInt8), abin .add kd (.str a) (.str b) = if a.length + b.length ≤ 4611686018427387904 then some (.str (a ++ b)) else none := fun _ _ _ => rfl
theorem abinE15 : ∀ (a b : Bool), abin .eql (some .bool) (.bool a) (.bool b) = some (.bool (a == b)) := fun _ _ => rfl
theorem abinE16 : ∀ (a b : Bool), abin .neq (some .bool) (.bool a) (.bool b) = some (.bool (!(a == b))) := fun _ _ => rfl
theorem get0 : ∀ {α : Type} (a0 : α) (l : List α) (x : α), (a0 :: l).getD 0 x = a0 := fun _ _ _ => rfl
theorem set0 : ∀ {α : Type} (a0 : α) (l : List α) (x : α), (a0 :: l).set 0 x = x :: l := fun _ _ _ => rfl
theorem get1 : ∀ {α : Type} (a0 a1 : α) (l : List α) (x : α), (a0 :: a1 :: l).getD 1 x = a1 := fun _ _ _ _ => rfl
theorem set1 : ∀ {α : Type} (a0 a1 : α) (l : List α) (x : α), (a0 :: a1 :: l).set 1 x = a0 :: x :: l := fun _ _ _ _ => rfl
theorem get2 : ∀ {α : Type} (a0 a1 a2 : α) (l : List α) (x : α), (a0 :: a1 :: a2 :: l).getD 2 x = a2 := fun _ _ _ _ _ => rfl
theorem set2 : ∀ {α : Type} (a0 a1 a2 : α) (l : List α) (x : α), (a0 :: a1 :: a2 :: l).set 2 x = a0 :: a1 :: x :: l := fun _ _ _ _ _ => rfl
theorem get3 : ∀ {α : Type} (a0 a1 a2 a3 : α) (l : List α) (x : α), (a0 :: a1 :: a2 :: a3 :: l).getD 3 x = a3 := fun _ _ _ _ _ _ => rfl
theorem set3 : ∀ {α : Type} (a0 a1 a2 a3 : α) (l : List α) (x : α), (a0 :: a1 :: a2 :: a3 :: l).set 3 x = a0 :: a1 :: a2 :: x :: l := fun _ _ _ _ _ _ => rfl
theorem get4 : ∀ {α : Type} (a0 a1 a2 a3 a4 : α) (l : List α) (x : α), (a0 :: a1 :: a2 :: a3 :: a4 :: l).getD 4 x = a4 := fun _ _ _ _ _ _ _ => rfl
theorem set4 : ∀ {α : Type} (a0 a1 a2 a3 a4 : α) (l : List α) (x : α), (a0 :: a1 :: a2 :: a3 :: a4 :: l).set 4 x = a0 :: a1 :: a2 :: a3 :: x :: l := fun _ _ _ _ _ _ _ => rfl
theorem get5 : ∀ {α : Type} (a0 a1 a2 a3 a4 a5 : α) (l : List α) (x : α), (a0 :: a1 :: a2 :: a3 :: a4 :: a5 :: l).getD 5 x = a5 := fun _ _ _ _ _ _ _ _ => rfl
theorem set5 : ∀ {α : Type} (a0 a1 a2 a3 a4 a5 : α) (l : List α) (x : α), (a0 :: a1 :: a2 :: a3 :: a4 :: a5 :: l).set 5 x = a0 :: a1 :: a2 :: a3 :: a4 :: x :: l := fun _ _ _ _ _ _ _ _ => rfl
theorem get6 : ∀ {α : Type} (a0 a1 a2 a3 a4 a5 a6 : α) (l : List α) (x : α), (a0 :: a1 :: a2 :: a3 :: a4 :: a5 :: a6 :: l).getD 6 x = a6 := fun _ _ _ _ _ _ _ _ _ => rfl
theorem set6 : ∀ {α : Type} (a0 a1 a2 a3 a4 a5 a6 : α) (l : List α) (x : α), (a0 :: a1 :: a2 :: a3 :: a4 :: a5 :: a6 :: l).set 6 x = a0 :: a1 :: a2 :: a3 :: a4 :: a5 :: x :: l := fun _ _ _ _ _ _ _ _ _ => rfl
theorem get7 : ∀ {α : Type} (a0 a1 a2 a3 a4 a5 a6 a7 : α) (l : List α) (x : α), (a0 :: a1 :: a2 :: a3 :: a4 :: a5 :: a6 :: a7 :: l).getD 7 x = a7 := fun _ _ _ _ _ _ _ _ _ _ => rfl
theorem set7 : ∀ {α : Type} (a0 a1 a2 a3 a4 a5 a6 a7 : α) (l : List α) (x : α), (a0 :: a1 :: a2 :: a3 :: a4 :: a5 :: a6 :: a7 :: l).set 7 x = a0 :: a1 :: a2 :: a3 :: a4 :: a5 :: a6 :: x :: l := fun _ _ _ _ _ _ _ _ _ _ => rfl
theorem getJ : ∀ {α : Type} (a0 a1 a2 a3 a4 a5 a6 a7 : α) (l : List α) (n : Nat) (x : α), (a0 :: a1 :: a2 :: a3 :: a4 :: a5 :: a6 :: a7 :: l).getD (n + 8) x = l.getD n x := fun _ _ _ _ _ _ _ _ _ _ _ => rfl
theorem setJ : ∀ {α : Type} (a0 a1 a2 a3 a4 a5 a6 a7 : α) (l : List α) (n : Nat) (x : α), (a0 :: a1 :: a2 :: a3 :: a4 :: a5 :: a6 :: a7 :: l).set (n + 8) x = a0 :: a1 :: a2 :: a3 :: a4 :: a5 :: a6 :: a7 :: l.set n x := fun _ _ _ _ _ _ _ _ _ _ _ => rfl
def kxA0 := And.intro @aopE1 <| And.intro @aopE2 <| And.intro @aopE3 <| And.intro @aopE4 <| And.intro @aopE5 <| And.intro @aopE6 <| And.intro @aopE7 <| And.intro @aopE8 <| And.intro @aopE9 <| @aopE10
def kxA1 := And.intro @aopE11 <| And.intro @aopE12 <| And.intro @aopE13 <| And.intro @aopE14 <| And.intro @aopE15 <| And.intro @aopE16 <| And.intro @aopE17 <| And.intro @aopE18 <| And.intro @aopE19 <| @aopE20
def kxA2 := And.intro @aopE21 <| And.intro @aopE22 <| And.intro @aopE23 <| And.intro @aopE24 <| And.intro @aopE25 <| And.intro @aopE26 <| And.intro @atgE1 <| And.intro @atgE2 <| And.intro @atgE3 <| @atgE4
def kxA3 := And.intro @atgE5 <| And.intro @atgE6 <| And.intro @atgE7 <| And.intro @atgE8 <| And.intro @atgE9 <| And.intro @atgE10 <| And.intro @atgE11 <| And.intro @atgE12 <| And.intro @atgE13 <| @atgE14
def kxA4 := And.intro @atgE15 <| And.intro @atgE16 <| And.intro @atgE17 <| And.intro @atgE18 <| And.intro @atgE19 <| And.intro @atgE20 <| And.intro @atgE21 <| And.intro @atgE22 <| And.intro @atgE23 <| @atgE24
def kxA5 := And.intro @atgE25 <| @atgE26
def kxB0 := And.intro @vgE1 <| And.intro @vgE2 <| And.intro @vgE3 <| And.intro @vgE4 <| And.intro @vgE5 <| And.intro @vgE6 <| And.intro @vgE7 <| And.intro @vgE8 <| And.intro @vgE9 <| @vgE10
def kxB1 := And.intro @vgE11 <| And.intro @vgE12 <| And.intro @vgE13 <| And.intro @vgE14 <| And.intro @vgE15 <| And.intro @vgE16 <| And.intro @vgE17 <| And.intro @vgE18 <| And.intro @vgE19 <| @vgE20
def kxB2 := And.intro @vgE21 <| And.intro @vgE22 <| And.intro @vgE23 <| And.intro @vgE24 <| And.intro @vgE25 <| @vgE26
def kxC0 := And.intro @aeval_tmp <| And.intro @aeval_int <| And.intro @aeval_bool <| And.intro @aeval_str <| And.intro @aeval_snil <| And.intro @aeval_nptr <| And.intro @aeval_nmap <| And.intro @aeval_agg <| And.intro @absC_int <| @absC_bool
def kxC1 := And.intro @absC_str <| And.intro @absC_snil <| And.intro @absC_nptr <| And.intro @absC_nmap <| And.intro @aeval_glob <| And.intro @obj_lit <| And.intro @slot_lit <| And.intro @app_none <| And.intro @app_nn <| @app_upd
def kxC2 := And.intro @app_updn <| And.intro @gd_none <| And.intro @gd_some <| And.intro @cells_agg <| And.intro @cells_pv <| And.intro @cells_snil <| And.intro @cells_ref <| And.intro @cells_row <| And.intro @cells_map <| @isC_pv
def kxC3 := And.intro @isC_snil <| And.intro @isC_ref <| And.intro @isC_row <| And.intro @isC_map <| And.intro @toPs_nil <| And.intro @toPs_pv <| And.intro @toPs_snil <| And.intro @arows_nil <| And.intro @arows_cons <| @afill_nil
def kxC4 := And.intro @afill_cons <| And.intro @splice_e <| And.intro @src_snil <| And.intro @src_pv <| And.intro @src_row <| And.intro @bnd_none <| And.intro @bnd_some <| And.intro @fold_nil <| And.intro @fold_cons <| @amax_e
def kxC5 := And.intro @amin_e <| And.intro @comp_nil <| And.intro @comp_cons <| And.intro @gres_none <| And.intro @gres_some <| And.intro @ares_nil <| And.intro @ares_tmp <| And.intro @ares_cell <| And.intro @aresO_cell <| @pack_one
def kxC6 := And.intro @pack_nil <| And.intro @pack_two <| And.intro @toMV_agg <| And.intro @nilC_tmp <| And.intro @nilC_int <| And.intro @nilC_bool <| And.intro @nilC_str <| And.intro @nilC_nil <| And.intro @anil_eq <| @anil_ne
def kxC7 := And.intro @aeval_nili <| And.intro @absC_nili <| And.intro @nums_nil <| And.intro @nums_cons <| And.intro @mval_t <| And.intro @mval_f <| And.intro @toMV_pv <| And.intro @abinE1 <| And.intro @abinE2 <| @abinE3
def kxC8 := And.intro @abinE4 <| And.intro @abinE5 <| And.intro @abinE6 <| And.intro @abinE7 <| And.intro @abinE8 <| And.intro @abinE9 <| And.intro @abinE10 <| And.intro @abinE11 <| And.intro @abinE12 <| @abinE13
def kxC9 := And.intro @abinE14 <| And.intro @abinE15 <| And.intro @abinE16 <| And.intro @get0 <| And.intro @set0 <| And.intro @get1 <| And.intro @set1 <| And.intro @get2 <| And.intro @set2 <| @get3
def kxC10 := And.intro @set3 <| And.intro @get4 <| And.intro @set4 <| And.intro @get5 <| And.intro @set5 <| And.intro @get6 <| And.intro @set6 <| And.intro @get7 <| And.intro @set7 <| @getJ
def kxC11 := @setJ
def kxP0 := And.intro @List.map_cons.{0,0} <| And.intro @List.map_nil.{0,0} <| And.intro @List.all_cons.{0} <| And.intro @List.all_nil.{0} <| And.intro @List.take_succ_cons.{0} <| And.intro @List.take_zero.{0} <| And.intro @List.drop_succ_cons.{0} <| And.intro @List.drop_zero.{0} <| And.intro @List.length_cons.{0} <| @List.length_nil.{0}
def kxP1 := And.intro @List.length_map.{0,0} <| And.intro @List.nil_append.{0} <| And.intro @List.cons_append.{0} <| And.intro @List.append_nil.{0} <| And.intro @List.getElem?_cons_zero.{0} <| And.intro @List.getElem?_cons_succ.{0} <| And.intro @List.size_toArray.{0} <| And.intro @List.toList_toArray.{0} <| And.intro @Option.bind_some.{0,0} <| @Option.map_some.{0,0}
def kxP2 := And.intro @Option.map_none.{0,0} <| And.intro @Option.getD_some.{0} <| And.intro @Bool.and_self <| And.intro @Bool.and_true <| And.intro @Bool.true_and <| And.intro @Bool.not_true <| And.intro @Bool.not_false <| And.intro @Int.toNat_natCast <| And.intro @Nat.zero_add <| @Nat.add_zero
def kxP3 := And.intro @Nat.zero_mul <| And.intro @Nat.one_mul <| And.intro @cast0 <| And.intro @Int.cast_ofNat_Int <| And.intro @beq_true <| And.intro @beq_false <| And.intro and_self <| And.intro and_true <| And.intro true_and <| true_or
def kxP4 := And.intro or_true <| And.intro @if_true.{1} <| And.intro @if_false.{1} <| And.intro @ite_self.{1} <| And.intro Bool.false_eq_true <| And.intro @eq_self.{1} <| And.intro @beq_self_eq_true.{0} <| And.intro Nat.lt_irrefl <| And.intro @ne_eq.{1} <| not_true_eq_false
def kxP5 := And.intro not_false_eq_true <| And.intro @decide_true <| And.intro @decide_false <| And.intro Nat.succ_ne_self <| And.intro Int.natCast_nonneg <| And.intro @implies_true.{1} <| And.intro @true_implies <| And.intro @map_ite <| And.intro @map_ite' <| @List.replicate_zero.{0}
def kxP6 := And.intro @List.replicate_succ.{0} <| And.intro @Bool.true_eq_false <| And.intro @PVal.int.injEq <| And.intro @PVal.bool.injEq <| And.intro @PVal.str.injEq <| @PVal.slice.injEq
def kx := And.intro @kxA0 <| And.intro @kxA1 <| And.intro @kxA2 <| And.intro @kxA3 <| And.intro @kxA4 <| And.intro @kxA5 <| And.intro @kxB0 <| And.intro @kxB1 <| And.intro @kxB2 <| And.intro @kxC0 <| And.intro @kxC1 <| And.intro @kxC2 <| And.intro @kxC3 <| And.intro @kxC4 <| And.intro @kxC5 <| And.intro @kxC6 <| And.intro @kxC7 <| And.intro @kxC8 <| And.intro @kxC9 <| And.intro @kxC10 <| And.intro @kxC11 <| And.intro @kxP0 <| And.intro @kxP1 <| And.intro @kxP2 <| And.intro @kxP3 <| And.intro @kxP4 <| And.intro @kxP5 <| And.intro @kxP6 <| And.intro @kw1 <| And.intro @kw2 <| And.intro @kw5 <| @kw6
def ky := And.intro @kw3 <| @kw4
end Go.Abs
namespace Go.Abs
open Go
variable {P : Program} {env : Env} {pin : Nat} {σ : St} {Q : Exit → St → Prop}

section
variable {K : Option Tr → St → Prop} {t : Tg K} {p : Prop} {f : FuncId} {vals cargs : List AVal} {res : AVal} {d : Option Nat} {rest : List COp} {acc : Option Tr}
theorem Ctr.pure (hent : ∀ vargs w, (callFunc f vargs).run P w = .ok (.enter f vargs) w) (hac : AC P env.gl f cargs [] res []) (hs : subL vals cargs) (hsc : inScopeL (hasObj []) vals = true) (hres : inScope (hasObj []) res = true)
    {K' : List Nat → Eff → Prop} (h : K' [] ⟨res, []⟩) : Ctr P env f vals σ K' := by
  refine ⟨vals, [], [], [], res, [], hac.sub hs, fun o args tys ho ha => CallFits.pure ho hent (by rw [renL_none _ _ hsc]; exact ha) hsc, ?_⟩
  rw [ren_none _ _ hres]
  exact h
theorem CK.c0 (hent : ∀ vargs w, (callFunc f vargs).run P w = .ok (.enter f vargs) w) (hac : AC P env.gl f vals [] res []) (hsc : inScopeL (hasObj []) vals = true) (hres : inScope (hasObj []) res = true)
    (h : VL P env K t rest (accAdd acc ([], [])) (σ.app d ⟨res, []⟩)) : CK P env K t True f vals d rest acc σ :=
  ⟨fun _ => Ctr.pure hent hac (subL_refl _) hsc hres h, fun h => (h trivial).elim⟩
theorem CK.cs (hent : ∀ vargs w, (callFunc f vargs).run P w = .ok (.enter f vargs) w) (hac : AC P env.gl f cargs [] res []) (hs : subL vals cargs) (hsc : inScopeL (hasObj []) vals = true) (hres : inScope (hasObj []) res = true)
    (h : VL P env K t rest (accAdd acc ([], [])) (σ.app d ⟨res, []⟩)) : CK P env K t True f vals d rest acc σ :=
  ⟨fun _ => Ctr.pure hent hac hs hsc hres h, fun h => (h trivial).elim⟩
theorem CK.cp (hent : ∀ vargs w, (callFunc f vargs).run P w = .ok (.enter f vargs) w) (hac : p → AC P env.gl f vals [] res []) (hsc : inScopeL (hasObj []) vals = true) (hres : inScope (hasObj []) res = true)
    (h : VL P env K t rest (accAdd acc ([], [])) (σ.app d ⟨cw p res, []⟩)) : CK P env K t p f vals d rest acc σ :=
  ⟨fun hp => Ctr.pure hent (hac hp) (subL_refl _) hsc hres (by rw [cw_pos hp] at h; exact h), fun hp => by rw [cw_neg hp] at h; exact h⟩
theorem CK.split (h1 : p → CK P env K t True f vals d rest acc σ) (h2 : ¬ p → VL P env K t rest (accAdd acc ([], [])) (σ.app d ⟨.tup [], []⟩)) : CK P env K t p f vals d rest acc σ :=
  ⟨fun hp => (h1 hp).1 trivial, h2⟩
theorem VX.split {r : Option Eff} {T : List Nat} (h1 : p → VX P env K t True r T d rest acc σ) (h2 : ¬ p → VL P env K t rest (accAdd acc ([], [])) (σ.app d ⟨.tup [], []⟩)) : VX P env K t p r T d rest acc σ :=
  ⟨fun hp => (h1 hp).1 trivial, h2⟩
theorem CK.co {A : List AVal} {O vobjs : List (Option AObj)} {objs' : List (Option AObj)} (ids news : List Nat) (hent : ∀ vargs w, (callFunc f vargs).run P w = .ok (.enter f vargs) w)
    (hac : AC P env.gl f A vobjs res objs') (hobjs : ids.map σ.obj = O)
    (hA : renL (tau (ids ++ news)) A = vals) (hO : renOs (tau (ids ++ news)) vobjs = O) (hsA : inScopeL (hasObj vobjs) A = true) (hsO : allS (hasObj vobjs) vobjs = true)
    (hn : ((ids ++ news).Nodup ∧ ∀ id ∈ ids ++ news, id < env.nobj)) (hf : freshB σ news = true) (hl : objs'.length ≤ (ids ++ news).length)
    (h : VL P env K t rest (accAdd acc (ids ++ news, (callUpd (tau (ids ++ news)) (ids ++ news) 0 objs').map Prod.fst)) (σ.app d ⟨ren (tau (ids ++ news)) res, callUpd (tau (ids ++ news)) (ids ++ news) 0 objs'⟩)) : CK P env K t True f vals d rest acc σ :=
  ⟨fun _ => ⟨A, vobjs, ids, news, res, objs', hac, fun _ _ _ ho ha => fits ids news ho hent ha hobjs hA hO hsA hsO hn hf hl, h⟩, fun h => (h trivial).elim⟩
end

theorem mapTake {α β : Type} (f : α → β) (l : List α) (k : Nat) (h : k < l.length) : (l.take (k + 1)).map f = (l.take k).map f ++ [f l[k]] := by rw [List.take_succ_eq_append_getElem h, List.map_append]; rfl
theorem mapTakeLen {α β : Type} (f : α → β) (l : List α) (k : Nat) (h : k ≤ l.length) : ((l.take k).map f).length = k := by rw [List.length_map, List.length_take]; omega
theorem wrapS (k : Nat) (h : k < 9223372036854775807) : IntKind.i64.wrap ((k : Int) + 1) = ((k + 1 : Nat) : Int) := by rw [wrap64 _ (by omega) (by omega)]; rfl
theorem getDm {α : Type} (f : α → List PVal) (l : List α) (k : Nat) (d : α) (h : k < l.length) : (l.map f).getD k [] = f (l.getD k d) := by simp [List.getD, h]
theorem SB.d {p : Prop} [Decidable p] {A B : Prop} {t : Tg (A, B)} (h1 : p → A) (h2 : ¬ p → B) : SB (decide p) A B t := ⟨fun h => h1 (by simpa using h), fun h => h2 (by simpa using h)⟩
theorem SB.e {α : Type} [BEq α] [LawfulBEq α] {a b : α} {A B : Prop} {t : Tg (A, B)} (h1 : a = b → A) (h2 : a ≠ b → B) : SB (a == b) A B t := ⟨fun h => h1 (by simpa using h), fun h => h2 (by simpa using h)⟩
theorem SB.n {α : Type} [BEq α] [LawfulBEq α] {a b : α} {A B : Prop} {t : Tg (A, B)} (h1 : a ≠ b → A) (h2 : a = b → B) : SB (a != b) A B t := ⟨fun h => h1 (by simpa using h), fun h => h2 (by simpa using h)⟩
theorem SB.b {b : Bool} {A B : Prop} {t : Tg (A, B)} (h1 : b = true → A) (h2 : b = false → B) : SB b A B t := ⟨h1, h2⟩

theorem ren_e1 (ι : Nat → Nat) (i o : Nat) : ren ι (.ref i o) = .ref (ι i) o := by simp [ren]
theorem ren_e2 (ι : Nat → Nat) (i o : Nat) : ren ι (.row i o) = .row (ι i) o := by simp [ren]
theorem ren_e3 (ι : Nat → Nat) (i : Nat) : ren ι (.map i) = .map (ι i) := by simp [ren]
theorem ren_e4 (ι : Nat → Nat) (p : PVal) : ren ι (.pv p) = .pv p := by simp [ren]
theorem ren_e5 (ι : Nat → Nat) : ren ι .snil = .snil := by simp [ren]
theorem ren_e6 (ι : Nat → Nat) (l : List AVal) : ren ι (.agg l) = .agg (renL ι l) := by simp [ren]
theorem ren_e7 (ι : Nat → Nat) (l : List AVal) : ren ι (.tup l) = .tup (renL ι l) := by simp [ren]
theorem ren_e8 (ι : Nat → Nat) : ren ι .junk = .junk := by simp [ren]
theorem renL_e1 (ι : Nat → Nat) : renL ι [] = [] := by simp [renL]
theorem renL_e2 (ι : Nat → Nat) (a : AVal) (r : List AVal) : renL ι (a :: r) = ren ι a :: renL ι r := by simp [renL]
theorem renO_e1 (ι : Nat → Nat) (l : List AVal) : renO ι (.cells l) = .cells (renL ι l) := rfl
theorem renO_e2 (ι : Nat → Nat) (sz : Nat) (xs : List (List PVal)) : renO ι (.row sz xs) = .row sz xs := rfl
theorem renO_e3 (ι : Nat → Nat) (kd : Kd) (es : List (PVal × Bool × List PVal)) : renO ι (.map kd es) = .map kd es := rfl
theorem renO_e4 (ι : Nat → Nat) : renO ι .dead = .dead := rfl
theorem cu_e1 (ι : Nat → Nat) (k : Nat) (o : List (Option AObj)) : callUpd ι [] k o = [] := rfl
theorem cu_e2 (ι : Nat → Nat) (i : Nat) (l : List Nat) (k : Nat) (o : List (Option AObj)) : callUpd ι (i :: l) k o = (i, renO ι ((o.getD k none).getD .dead)) :: callUpd ι l (k + 1) o := rfl
theorem tau_e (l : List Nat) (k : Nat) : tau l k = l.getD k 0 := rfl
def kz1 := And.intro @ren_e1 <| And.intro @ren_e2 <| And.intro @ren_e3 <| And.intro @ren_e4 <| And.intro @ren_e5 <| And.intro @ren_e6 <| And.intro @ren_e7 <| And.intro @ren_e8 <| And.intro @renL_e1 <| @renL_e2
def kz2 := And.intro @renO_e1 <| And.intro @renO_e2 <| And.intro @renO_e3 <| And.intro @renO_e4 <| And.intro @cu_e1 <| And.intro @cu_e2 <| @tau_e
def kz := And.intro @kz1 @kz2

def NX {ι : Type} (env : Env) (pin : Nat) (I : ι → St) (μ : ι → Nat) (t : Tg (I, μ)) (m : Nat) (σ : St) : Prop := ∃ j, Weak env pin σ (I j) ∧ μ j < m
theorem LW.loop {ι : Type} {c : Code} {t : Tg (Code.loop c, Q)} (hE : EnvOK P env) (hm : P.follows .mixedOrders = true) (I : ι → St) (μ : ι → Nat) (i0 : ι) (h0 : Weak env pin σ (I i0))
    (round : ∀ i, VC P env pin c (I i) (thenQ (NX env pin I μ .mk (μ i)) Q)) : LW P env pin (.loop c) σ Q t :=
  SW.loop I μ i0 h0 fun i => VC.to hE hm c (round i)
theorem REG.ok {ops : Array Oper} {t : Tg ops} {tr : Tr} (h : regT ops (anc ops) (pairAt tr) = true) : REG ops t tr := h
theorem LW.weak {c : Code} {σ' : St} {t : Tg (c, Q)} (hw : Weak env pin σ σ') (h : LW P env pin c σ' Q .mk) : LW P env pin c σ Q t := SW.weak hw h
end Go.Abs
namespace Go.Abs
open Go
abbrev Ext (w w' : World) : Prop := Go.RowKit.Below w.heap.size w w'
theorem Ext.refl (w : World) : Ext w w := Go.RowKit.Below.refl _ w
theorem ext_cell {w w' : World} (h : Ext w w') {b i : Nat} {u : Value} (hc : w.cell? ⟨b, i, none⟩ = some u) : w'.cell? ⟨b, i, none⟩ = some u := by
  have hb : b < w.heap.size := by
    unfold World.cell? at hc
    rcases Nat.lt_or_ge b w.heap.size with h' | h'
    · exact h'
    · simp [Array.getElem?_eq_none h'] at hc
  unfold World.cell? at hc ⊢
  simp only [h.block b hb] at *
  exact hc
theorem AC.ofCalls {P : Program} {gl : Nat → Option (List PVal)} {f : FuncId} {ps : List PVal} {res : AVal}
    (h : ∀ (w : World) (M : Mem) (vs : List Value), vs.length = ps.length → (∀ i, i < ps.length → Rd M (ps.getD i .nilptr) (vs.getD i undef)) → (∀ b i u, M b i = some u → w.cell? ⟨b, i, none⟩ = some u) →
      GOK ⟨fun _ => none, gl, fun _ => 0, 0⟩ M → (∀ b cs, gl b = some cs → cs ≠ [] → ∃ vals T l, w.heap[b]? = some (.cells vals T l) ∧ vals.size = cs.length) → Calls P f vs.toArray w fun e w' => ∃ v, e = .returned v ∧ (∀ g D M', V g D M' res v) ∧ Ext w w') :
    AC P gl f (ps.map .pv) [] res [] := by
  intro w M g vargs hR hG
  have hl : vargs.length = ps.length := by simpa using hR.size
  refine Calls.mono (h w M vargs hl (fun i hi => ?_) hR.sat hG.1 (fun b cs hb hne => (hG.2 b cs hb hne).2)) ?_
  · have := hR.slots i (by simpa using hi)
    have e1 : St.slot ⟨ps.map .pv, []⟩ i = .pv (ps.getD i .nilptr) := by simp [St.slot, List.getD, hi]
    rw [e1] at this
    have e2 : vargs.toArray.getD i undef = vargs.getD i undef := by simp [List.getD]
    rw [← e2]
    exact this.pv_inv
  · rintro e w' ⟨v, rfl, hv, hx⟩
    refine ⟨v, g, M, rfl, ⟨rfl, rfl, fun i hi => ?_, fun id o ho => by simp [St.obj] at ho, fun id id' o o' b ho => by simp [St.obj] at ho, fun id o b ho => by simp [St.obj] at ho, fun b i u hu => ext_cell hx (hR.sat b i u hu), Mem.le_refl _, fun _ _ _ _ => rfl, hx.size, fun b hb _ => hx.block b hb, fun id o b ho => by simp [St.obj] at ho, hx.os, hx.tape, hx.output⟩, fun id hid => by simp [hasObj] at hid⟩
    have hi0 : i = 0 := by simpa using hi
    subst hi0
    exact hv _ _ _
theorem V_int (g : Gh) (D : Nat → Prop) (M : Mem) (k : IntKind) (n : Int) : V g D M (.pv (.int k n)) (.int k n) := .pv (.int k n)
theorem V_str (g : Gh) (D : Nat → Prop) (M : Mem) (s : List UInt8) : V g D M (.pv (.str s)) (.string ⟨s.toArray⟩) := .pv (.str s)
theorem V_tup2 {g : Gh} {D : Nat → Prop} {M : Mem} {a b : AVal} {x y : Value} (h1 : V g D M a x) (h2 : V g D M b y) : V g D M (.tup [a, b]) (.tuple #[x, y]) :=
  .tup [a, b] [x, y] rfl (fun i hi => by
    match i, hi with
    | 0, _ => exact h1
    | 1, _ => exact h2)
end Go.Abs
namespace Go.Abs
open Go

structure VarD where
  name : List UInt8
  size : Int
  init : Int
def encVar (v : VarD) : List PVal := [.str v.name, .int .i64 v.size, .int .i64 v.init]
theorem encVar_length (v : VarD) : (encVar v).length = 3 := rfl

inductive Ex where
  | mk (op value : Int) (name : List UInt8) (slot size : Int) (args : List Ex)
def Ex.op : Ex → Int | .mk a _ _ _ _ _ => a
def Ex.value : Ex → Int | .mk _ a _ _ _ _ => a
def Ex.name : Ex → List UInt8 | .mk _ _ a _ _ _ => a
def Ex.slot : Ex → Int | .mk _ _ _ a _ _ => a
def Ex.size : Ex → Int | .mk _ _ _ _ a _ => a
def Ex.args : Ex → List Ex | .mk _ _ _ _ _ a => a
mutual
def encEx : Ex → List PVal
  | .mk op value name slot size args => [.int .i64 op, .int .i64 value, .str name, .int .i64 slot, .int .i64 size, .slice (encExs args)]
def encExs : List Ex → List (List PVal)
  | [] => []
  | e :: r => encEx e :: encExs r
end
theorem encExs_map : ∀ l : List Ex, encExs l = l.map encEx
  | [] => by simp [encExs]
  | e :: r => by simp [encExs, encExs_map r]
theorem encEx_eq (e : Ex) : encEx e = [.int .i64 e.op, .int .i64 e.value, .str e.name, .int .i64 e.slot, .int .i64 e.size, .slice (e.args.map encEx)] := by
  cases e; simp [encEx, encExs_map, Ex.op, Ex.value, Ex.name, Ex.slot, Ex.size, Ex.args]
theorem encEx_length (e : Ex) : (encEx e).length = 6 := by rw [encEx_eq]; rfl

inductive Sm where
  | mk (kind : Int) (name : List UInt8) (slot size : Int) (place value : Ex) (body els : List Sm)
def Sm.kind : Sm → Int | .mk a _ _ _ _ _ _ _ => a
def Sm.name : Sm → List UInt8 | .mk _ a _ _ _ _ _ _ => a
def Sm.slot : Sm → Int | .mk _ _ a _ _ _ _ _ => a
def Sm.size : Sm → Int | .mk _ _ _ a _ _ _ _ => a
def Sm.place : Sm → Ex | .mk _ _ _ _ a _ _ _ => a
def Sm.value : Sm → Ex | .mk _ _ _ _ _ a _ _ => a
def Sm.body : Sm → List Sm | .mk _ _ _ _ _ _ a _ => a
def Sm.els : Sm → List Sm | .mk _ _ _ _ _ _ _ a => a
mutual
def encSm : Sm → List PVal
  | .mk kind name slot size place value body els => [.int .i64 kind, .str name, .int .i64 slot, .int .i64 size] ++ encEx place ++ encEx value ++ [.slice (encSms body), .slice (encSms els)]
def encSms : List Sm → List (List PVal)
  | [] => []
  | e :: r => encSm e :: encSms r
end
theorem encSms_map : ∀ l : List Sm, encSms l = l.map encSm
  | [] => by simp [encSms]
  | e :: r => by simp [encSms, encSms_map r]
theorem encSm_eq (s : Sm) : encSm s = [.int .i64 s.kind, .str s.name, .int .i64 s.slot, .int .i64 s.size,
    .int .i64 s.place.op, .int .i64 s.place.value, .str s.place.name, .int .i64 s.place.slot, .int .i64 s.place.size, .slice (s.place.args.map encEx),
    .int .i64 s.value.op, .int .i64 s.value.value, .str s.value.name, .int .i64 s.value.slot, .int .i64 s.value.size, .slice (s.value.args.map encEx),
    .slice (s.body.map encSm), .slice (s.els.map encSm)] := by
  cases s; simp [encSm, encSms_map, encEx_eq, Sm.kind, Sm.name, Sm.slot, Sm.size, Sm.place, Sm.value, Sm.body, Sm.els]
theorem encSm_length (s : Sm) : (encSm s).length = 18 := by rw [encSm_eq]; rfl

abbrev mx := imax
mutual
def szE : Ex → Nat
  | .mk _ _ _ _ _ args => 1 + szEs args
def szEs : List Ex → Nat
  | [] => 0
  | e :: r => szE e + szEs r
end
theorem szE_eq (e : Ex) : szE e = 1 + szEs e.args := by cases e; rfl
theorem szE_pos (e : Ex) : 1 ≤ szE e := by rw [szE_eq]; omega
theorem szEs_len : ∀ l : List Ex, l.length ≤ szEs l
  | [] => by simp
  | e :: r => by have := szEs_len r; have := szE_pos e; simp only [szEs, List.length_cons]; omega
theorem szEs_mem : ∀ (l : List Ex) (e : Ex), e ∈ l → szE e ≤ szEs l
  | [], _, h => by cases h
  | x :: r, e, h => by
    simp only [szEs]
    rcases List.mem_cons.1 h with rfl | h
    · omega
    · have := szEs_mem r e h; omega
mutual
def szS : Sm → Nat
  | .mk _ _ _ _ place value body els => 1 + szE place + szE value + szSs body + szSs els
def szSs : List Sm → Nat
  | [] => 0
  | e :: r => szS e + szSs r
end
theorem szS_eq (s : Sm) : szS s = 1 + szE s.place + szE s.value + szSs s.body + szSs s.els := by cases s; rfl
theorem szS_pos (s : Sm) : 1 ≤ szS s := by rw [szS_eq]; omega
theorem szSs_len : ∀ l : List Sm, l.length ≤ szSs l
  | [] => by simp
  | e :: r => by have := szSs_len r; have := szS_pos e; simp only [szSs, List.length_cons]; omega
theorem szSs_mem : ∀ (l : List Sm) (e : Sm), e ∈ l → szS e ≤ szSs l
  | [], _, h => by cases h
  | x :: r, e, h => by
    simp only [szSs]
    rcases List.mem_cons.1 h with rfl | h
    · omega
    · have := szSs_mem r e h; omega
mutual
def depE : Ex → Int
  | .mk _ _ _ _ _ args => 1 + depEs 0 args
def depEs : Int → List Ex → Int
  | d, [] => d
  | d, e :: r => depEs (mx d (depE e)) r
end
theorem depE_eq (e : Ex) : depE e = 1 + depEs 0 e.args := by cases e; rfl
mutual
theorem depE_pos : ∀ e : Ex, 1 ≤ depE e
  | .mk _ _ _ _ _ args => by simp only [depE]; have := depEs_le 0 args; omega
theorem depEs_le : ∀ (d : Int) (l : List Ex), d ≤ depEs d l
  | d, [] => by simp [depEs]
  | d, e :: r => by
    have h1 := depEs_le (mx d (depE e)) r
    have h2 : d ≤ mx d (depE e) := by unfold mx imax; split <;> omega
    simp only [depEs]; omega
end
theorem depEs_mem : ∀ (l : List Ex) (d : Int) (e : Ex), e ∈ l → depE e ≤ depEs d l
  | [], _, _, h => by cases h
  | x :: r, d, e, h => by
    simp only [depEs]
    rcases List.mem_cons.1 h with rfl | h
    · have h1 := depEs_le (mx d (depE e)) r
      have h2 : depE e ≤ mx d (depE e) := by unfold mx imax; split <;> omega
      omega
    · exact depEs_mem r _ e h
theorem depEs_snoc (x : Ex) : ∀ (l : List Ex) (d : Int), depEs d (l ++ [x]) = mx (depEs d l) (depE x)
  | [], d => by simp [depEs]
  | e :: r, d => by simp only [List.cons_append, depEs]; exact depEs_snoc x r _
mutual
def depS : Sm → Int
  | .mk _ _ _ _ place value body els => 1 + mx (mx (mx (depE place) (depE value)) (depSs 0 body)) (depSs 0 els)
def depSs : Int → List Sm → Int
  | d, [] => d
  | d, s :: r => depSs (mx d (depS s)) r
end
theorem depS_eq (s : Sm) : depS s = 1 + mx (mx (mx (depE s.place) (depE s.value)) (depSs 0 s.body)) (depSs 0 s.els) := by cases s; rfl
theorem depSs_snoc (x : Sm) : ∀ (l : List Sm) (d : Int), depSs d (l ++ [x]) = mx (depSs d l) (depS x)
  | [], d => by simp [depSs]
  | e :: r, d => by simp only [List.cons_append, depSs]; exact depSs_snoc x r _
theorem mx_l (x y : Int) : x ≤ mx x y := by unfold mx imax; split <;> omega
theorem mx_r (x y : Int) : y ≤ mx x y := by unfold mx imax; split <;> omega
theorem depSs_le : ∀ (l : List Sm) (d : Int), d ≤ depSs d l
  | [], d => by simp [depSs]
  | s :: r, d => by
    have h1 := depSs_le r (mx d (depS s))
    have h2 := mx_l d (depS s)
    simp only [depSs]; omega
theorem depS_pos (s : Sm) : 1 ≤ depS s := by
  rw [depS_eq]
  have h1 := depE_pos s.place
  have h2 := mx_l (depE s.place) (depE s.value)
  have h3 := mx_l (mx (depE s.place) (depE s.value)) (depSs 0 s.body)
  have h4 := mx_l (mx (mx (depE s.place) (depE s.value)) (depSs 0 s.body)) (depSs 0 s.els)
  omega
theorem depSs_mem : ∀ (l : List Sm) (d : Int) (e : Sm), e ∈ l → depS e ≤ depSs d l
  | [], _, _, h => by cases h
  | x :: r, d, e, h => by
    simp only [depSs]
    rcases List.mem_cons.1 h with rfl | h
    · have h1 := depSs_le r (mx d (depS e))
      have h2 := mx_r d (depS e)
      omega
    · exact depSs_mem r _ e h
mutual
theorem depE_sz : ∀ e : Ex, depE e ≤ szE e
  | .mk _ _ _ _ _ args => by simp only [depE, szE]; have := depEs_sz 0 args; unfold mx imax at this; split at this <;> omega
theorem depEs_sz : ∀ (d : Int) (l : List Ex), depEs d l ≤ mx d (szEs l)
  | d, [] => by simp only [depEs, szEs]; exact mx_l _ _
  | d, e :: r => by
    have h1 := depEs_sz (mx d (depE e)) r
    have h2 := depE_sz e
    simp only [depEs, szEs]
    unfold mx imax at *
    split at h1 <;> split at h1 <;> split <;> omega
end
mutual
theorem depS_sz : ∀ s : Sm, depS s ≤ szS s
  | .mk _ _ _ _ place value body els => by
    have h1 := depE_sz place
    have h2 := depE_sz value
    have h3 := depSs_sz 0 body
    have h4 := depSs_sz 0 els
    have p1 := szE_pos place
    simp only [depS, szS]
    generalize depE place = a at *
    generalize depE value = b at *
    generalize depSs 0 body = c at *
    generalize depSs 0 els = d at *
    unfold mx imax at *
    split at h3 <;> split at h4 <;> (repeat' split) <;> omega
theorem depSs_sz : ∀ (d : Int) (l : List Sm), depSs d l ≤ mx d (szSs l)
  | d, [] => by simp only [depSs, szSs]; exact mx_l _ _
  | d, e :: r => by
    have h1 := depSs_sz (mx d (depS e)) r
    have h2 := depS_sz e
    simp only [depSs, szSs]
    generalize depSs (mx d (depS e)) r = q at *
    unfold mx imax at *
    split at h1 <;> split at h1 <;> split <;> omega
end
end Go.Abs
