/- New memory and stores keep the relation. No condition. -/
import Derived.Test.YtlgilgaiibdgoaaAbs6
set_option linter.unusedSimpArgs false
set_option linter.unusedVariables false
namespace Go.Abs
open Go
section
variable {P : Program} {env : Env} {o : Oper} {E : Ent} {σ : St} {g : Gh} {M : Mem} {a : Act} {w : World} {e : Eff}

theorem owns_lt {D : Nat → Prop} {id b : Nat} {ob : AObj} (h : OR g D M w id ob) (ho : owns g id ob = some b) : b < w.heap.size := by
  cases ob with
  | cells cs =>
    obtain ⟨vals, T, hh, _⟩ := h
    simp [owns] at ho; subst ho
    exact (Array.getElem?_eq_some_iff.1 hh).1
  | row sz xs =>
    simp only [owns] at ho
    split at ho
    · cases ho
    · rename_i hn
      cases ho
      obtain ⟨vals, T, hh, _⟩ := h.2.2 (by simpa using hn)
      exact (Array.getElem?_eq_some_iff.1 hh).1
  | map kd es =>
    obtain ⟨ents, clock, hh, _⟩ := h
    simp [owns] at ho; subst ho
    exact (Array.getElem?_eq_some_iff.1 hh).1
  | dead => simp [owns] at ho

theorem owns_agree {g' : Gh} {id : Nat} (h : g.agree g' id) (ob : AObj) : owns g' id ob = owns g id ob := by
  cases ob <;> simp [owns, h.1, h.2.2]

theorem OR.keep {g' : Gh} {D D' : Nat → Prop} {M' : Mem} {w' : World} {id : Nat} {ob : AObj} (h : OR g D M w id ob) (hag : ∀ i, D i → g.agree g' i) (hself : g.agree g' id)
    (hD : ∀ i, D i → D' i) (hM : Mem.le M M') (hw : ∀ b, owns g id ob = some b → w'.heap[b]? = w.heap[b]?) : OR g' D' M' w' id ob := by
  cases ob with
  | cells cs =>
    obtain ⟨vals, T, hh, hs, hv⟩ := h
    refine ⟨vals, T, ?_, hs, fun j hj => (hv j hj).mono hag hD hM⟩
    rw [hself.1, hw _ rfl]; exact hh
  | row sz xs =>
    obtain ⟨h1, h2, h3⟩ := h
    refine ⟨h1, fun hn => h2 (by rw [← hself.2.2]; exact hn), fun hn => ?_⟩
    rw [hself.2.2] at hn
    obtain ⟨vals, T, hh, h4, h5, h6⟩ := h3 hn
    refine ⟨vals, T, ?_, by rw [hself.2.1]; exact h4, by rw [hself.2.1]; exact h5, fun i j hi hj => (h6 i j hi hj).mono hM⟩
    rw [hself.1, hw _ (by simp [owns, hn])]; exact hh
  | map kd es =>
    obtain ⟨ents, clock, hh, hs, hv⟩ := h
    refine ⟨ents, clock, ?_, hs, fun i e he => ?_⟩
    · rw [hself.1, hw _ rfl]; exact hh
    · obtain ⟨en, h1, h2, h3, h4⟩ := hv i e he
      exact ⟨en, h1, h2, h3.mono hM, h4.mono hag hD hM⟩
  | dead => trivial

/-- Some objects change; every block that is written was theirs; every block that they have afterwards is new or was theirs. -/
theorem Rel.update (h : Rel E σ g M a w) {σ' : St} {g' : Gh} {w' : World} (C : Nat → Prop)
    (slots : σ'.slots = σ.slots)
    (unch : ∀ id, ¬ C id → σ'.obj id = σ.obj id)
    (hdom : ∀ id, σ.dom id → σ'.dom id)
    (ag : ∀ id, σ.dom id → g.agree g' id)
    (objs' : ∀ id ob, C id → σ'.obj id = some ob → OR g' σ'.dom M w' id ob)
    (heap : ∀ b, b < w.heap.size → (∀ id ob, C id → σ.obj id = some ob → owns g id ob ≠ some b) → w'.heap[b]? = w.heap[b]?)
    (own' : ∀ id ob b, C id → σ'.obj id = some ob → owns g' id ob = some b → w.heap.size ≤ b ∨ ∃ id0 ob0, C id0 ∧ σ.obj id0 = some ob0 ∧ owns g id0 ob0 = some b)
    (apart' : ∀ id id' ob ob' b, C id → C id' → σ'.obj id = some ob → σ'.obj id' = some ob' → owns g' id ob = some b → owns g' id' ob' = some b → id = id')
    (hsize : w.heap.size ≤ w'.heap.size) (hos : w'.os = w.os) (htape : w'.tape = w.tape) (hout : w'.output = w.output) : Rel E σ' g' M a w' := by
  have unown : ∀ id ob b, ¬ C id → σ'.obj id = some ob → owns g' id ob = some b → σ.obj id = some ob ∧ owns g id ob = some b ∧ b < w.heap.size := fun id ob b hc ho hb => by
    have h1 : σ.obj id = some ob := by rw [← unch id hc]; exact ho
    have h2 : owns g id ob = some b := by rw [← owns_agree (ag id (by simp [St.dom, h1]))]; exact hb
    exact ⟨h1, h2, owns_lt (h.objs id ob h1) h2⟩
  have keepb : ∀ id ob b, ¬ C id → σ.obj id = some ob → owns g id ob = some b → w'.heap[b]? = w.heap[b]? := fun id ob b hc ho hb =>
    heap b (owns_lt (h.objs id ob ho) hb) (fun id0 ob0 hc0 ho0 hb0 => hc (by rw [h.apart id id0 ob ob0 b ho ho0 hb hb0]; exact hc0))
  refine ⟨by rw [slots]; exact h.size, h.defers, ?_, ?_, ?_, ?_, ?_, h.M0, h.Mnew, Nat.le_trans h.size0 hsize, ?_, ?_, hos.trans h.os, htape.trans h.tape, hout.trans h.output⟩
  · intro i hi
    rw [slots] at hi
    have : σ'.slot i = σ.slot i := by simp [St.slot, slots]
    rw [this]
    exact (h.slots i hi).mono ag hdom (Mem.le_refl _)
  · intro id ob ho
    by_cases hc : C id
    · exact objs' id ob hc ho
    · have h1 : σ.obj id = some ob := by rw [← unch id hc]; exact ho
      exact (h.objs id ob h1).keep ag (ag id (by simp [St.dom, h1])) hdom (Mem.le_refl _) (fun b hb => keepb id ob b hc h1 hb)
  · intro id id' ob ob' b ho ho' hb hb'
    by_cases hc : C id
    · by_cases hc' : C id'
      · exact apart' id id' ob ob' b hc hc' ho ho' hb hb'
      · obtain ⟨h1, h2, h3⟩ := unown id' ob' b hc' ho' hb'
        rcases own' id ob b hc ho hb with h4 | ⟨id0, ob0, hc0, ho0, hb0⟩
        · omega
        · exact absurd (by rw [h.apart id' id0 ob' ob0 b h1 ho0 h2 hb0]; exact hc0) hc'
    · obtain ⟨h1, h2, h3⟩ := unown id ob b hc ho hb
      by_cases hc' : C id'
      · rcases own' id' ob' b hc' ho' hb' with h4 | ⟨id0, ob0, hc0, ho0, hb0⟩
        · omega
        · exact absurd (by rw [h.apart id id0 ob ob0 b h1 ho0 h2 hb0]; exact hc0) hc
      · obtain ⟨h4, h5, _⟩ := unown id' ob' b hc' ho' hb'
        exact h.apart id id' ob ob' b h1 h4 h2 h5
  · intro id ob b ho hb i
    by_cases hc : C id
    · rcases own' id ob b hc ho hb with h4 | ⟨id0, ob0, hc0, ho0, hb0⟩
      · cases hm : M b i with
        | none => rfl
        | some u =>
          have := World.block_lt_of_cell? _ _ (h.sat b i u hm)
          simp at this; omega
      · exact h.offM id0 ob0 b ho0 hb0 i
    · obtain ⟨h1, h2, _⟩ := unown id ob b hc ho hb
      exact h.offM id ob b h1 h2 i
  · intro b i u hm
    have hs := h.sat b i u hm
    have hlt := World.block_lt_of_cell? _ _ hs
    simp at hlt
    have hh := heap b hlt (fun id ob _ ho hb => by have := h.offM id ob b ho hb i; rw [hm] at this; cases this)
    unfold World.cell? at *
    simp only [hh]; exact hs
  · intro b hb hB
    rw [← h.same b hb hB]
    refine heap b (Nat.lt_of_lt_of_le hb h.size0) (fun id ob _ ho hbo => ?_)
    rcases h.own0 id ob b ho hbo with h1 | h1
    · exact hB h1
    · omega
  · intro id ob b ho hb
    by_cases hc : C id
    · rcases own' id ob b hc ho hb with h4 | ⟨id0, ob0, hc0, ho0, hb0⟩
      · right; have := h.size0; omega
      · exact h.own0 id0 ob0 b ho0 hb0
    · obtain ⟨h1, h2, _⟩ := unown id ob b hc ho hb
      exact h.own0 id ob b h1 h2

def St.set (σ : St) (id : Nat) (ob : AObj) : St := { σ with objs := σ.objs.set id (some ob) }
theorem St.obj_set_self {id : Nat} {ob : AObj} (h : id < σ.objs.length) : (σ.set id ob).obj id = some ob := by simp [St.set, St.obj, h]
theorem St.obj_set_ne {id id' : Nat} {ob : AObj} (h : id ≠ id') : (σ.set id ob).obj id' = σ.obj id' := by simp [St.set, St.obj, List.getElem?_set_ne h]

def Gh.set (g : Gh) (id b c : Nat) (n : Bool) : Gh where
  ρ := fun i => if i = id then b else g.ρ i
  κ := fun i => if i = id then c else g.κ i
  ν := fun i => if i = id then n else g.ν i
theorem Gh.set_agree {id b c : Nat} {n : Bool} {i : Nat} (h : i ≠ id) : g.agree (g.set id b c n) i := by simp [Gh.agree, Gh.set, h]

theorem dom_set {id : Nat} {ob : AObj} (i : Nat) (h : σ.dom i) : (σ.set id ob).dom i := by
  unfold St.dom at *
  by_cases hi : id = i
  · subst hi
    have : id < σ.objs.length := by
      rcases Nat.lt_or_ge id σ.objs.length with h' | h'
      · exact h'
      · exfalso; apply h; simp [St.obj, List.getElem?_eq_none h']
    rw [St.obj_set_self this]; simp
  · rw [St.obj_set_ne hi]; exact h

/-- A new block for a new object. -/
theorem Rel.freshO (h : Rel E σ g M a w) {id : Nat} (hid : id < σ.objs.length) (hn : σ.obj id = none) (obj : Obj) (c : Nat) (ob : AObj)
    (hor : OR (g.set id w.heap.size c false) (σ.set id ob).dom M (w.alloc obj) id ob) :
    Rel E (σ.set id ob) (g.set id w.heap.size c false) M a (w.alloc obj) := by
  have hne : ∀ i, σ.dom i → i ≠ id := fun i hi e => hi (by rw [e]; exact hn)
  refine h.update (fun i => i = id) rfl (fun i hi => St.obj_set_ne (fun e => hi e.symm)) (fun i hi => dom_set i hi) (fun i hi => Gh.set_agree (hne i hi)) ?_ ?_ ?_ ?_ (by simp) rfl rfl rfl
  · rintro i ob' rfl ho
    rw [St.obj_set_self hid] at ho
    cases ho; exact hor
  · intro b hb _
    show (w.heap.push _)[b]? = _
    rw [Array.getElem?_push, if_neg (by omega)]
  · rintro i ob' b rfl ho hb
    rw [St.obj_set_self hid] at ho
    cases ho
    left
    cases ob with
    | cells cs => simp [owns, Gh.set] at hb; omega
    | row sz xs => simp [owns, Gh.set] at hb; omega
    | map kd es => simp [owns, Gh.set] at hb; omega
    | dead => simp [owns] at hb
  · rintro i i' _ _ _ rfl rfl _ _ _ _; rfl

theorem Rel.fresh (h : Rel E σ g M a w) {id : Nat} (hid : id < σ.objs.length) (hn : σ.obj id = none) (vals : Array Value) (T : TypeId) (c : Nat) (ob : AObj)
    (hor : OR (g.set id w.heap.size c false) (σ.set id ob).dom M (w.alloc (.cells vals T)) id ob) :
    Rel E (σ.set id ob) (g.set id w.heap.size c false) M a (w.alloc (.cells vals T)) := h.freshO hid hn _ c ob hor

theorem heap_alloc_new (w : World) (o : Obj) : (w.alloc o).heap[w.heap.size]? = some o := by
  show (w.heap.push o)[w.heap.size]? = _
  simp

end
end Go.Abs
