/- Forgetting and renaming, freezing a row, a nil slice as an empty row; a function's contract out of the walk of its body. No condition. -/
import Derived.Test.YtlgilgaiibdgoaaAbs16
set_option linter.unusedSimpArgs false
set_option linter.unusedVariables false
namespace Go.Abs
open Go

/-- Slots that are kept, under other names, or forgotten. -/
def wkSlots (τ : Nat → Nat) (n : Nat → Bool) : List AVal → List AVal → Prop
  | [], [] => True
  | a :: r, b :: s => (b = .junk ∨ (a = ren τ b ∧ inScope n b = true)) ∧ wkSlots τ n r s
  | _, _ => False

/-- Objects that are kept, under other names; the others are forgotten. -/
def wkObjs (τ : Nat → Nat) (n : Nat → Bool) (σ : St) : Nat → List (Option AObj) → Prop
  | _, [] => True
  | k, o :: r => (match o with | none => True | some .dead => True | some ob => σ.obj (τ k) = some (renO τ ob) ∧ inScopeO n ob = true) ∧ wkObjs τ n σ (k + 1) r

theorem wkSlots_get {τ : Nat → Nat} {n : Nat → Bool} : ∀ {l l' : List AVal}, wkSlots τ n l l' → l.length = l'.length ∧ ∀ i, l'.getD i .junk = .junk ∨ (l.getD i .junk = ren τ (l'.getD i .junk) ∧ inScope n (l'.getD i .junk) = true)
  | [], [], _ => ⟨rfl, fun i => .inl (by simp [List.getD])⟩
  | a :: r, b :: s, h => by
    obtain ⟨h1, h2⟩ := h
    obtain ⟨h3, h4⟩ := wkSlots_get h2
    refine ⟨by simp [h3], fun i => ?_⟩
    cases i with
    | zero => simpa [List.getD] using h1
    | succ i => simpa [List.getD] using h4 i
  | [], _ :: _, h => h.elim
  | _ :: _, [], h => h.elim

theorem wkObjs_get {τ : Nat → Nat} {n : Nat → Bool} {σ : St} : ∀ {l : List (Option AObj)} {k : Nat}, wkObjs τ n σ k l → ∀ i ob, l.getD i none = some ob → ob = .dead ∨ (σ.obj (τ (k + i)) = some (renO τ ob) ∧ inScopeO n ob = true)
  | [], k, _, i, ob, h => by simp [List.getD] at h
  | o :: r, k, h, i, ob, hi => by
    obtain ⟨h1, h2⟩ := h
    cases i with
    | zero =>
      simp only [List.getD_cons_zero] at hi
      subst hi
      cases ob with
      | dead => exact .inl rfl
      | cells cs => exact .inr h1
      | row sz xs => exact .inr h1
      | map kd es => exact .inr h1
    | succ i =>
      have := wkObjs_get h2 i ob (by simpa [List.getD] using hi)
      rwa [show k + 1 + i = k + (i + 1) by omega] at this

section
variable {P : Program} {env : Env} {pin : Nat} {σ σ' : St} {Q : Exit → St → Prop}

/-- The relation over a state that forgets and renames. -/
theorem Rel.wk {E : Ent} {g : Gh} {M : Mem} {a a' : Act} {w : World} (hR : Rel E σ g M a w) (τ : Nat → Nat) (hsize : a'.tmps.size = σ'.slots.length) (hdef : a'.defers = [])
    (hs : ∀ i, i < σ'.slots.length → σ'.slot i = .junk ∨ ∃ x, V g σ.dom M x (a'.tmps.getD i undef) ∧ x = ren τ (σ'.slot i) ∧ inScope (hasObj σ'.objs) (σ'.slot i) = true)
    (ho : wkObjs τ (hasObj σ'.objs) σ 0 σ'.objs) (hinj : ∀ i j, i < σ'.objs.length → j < σ'.objs.length → τ i = τ j → i = j) :
    Rel E σ' ⟨fun k => g.ρ (τ k), fun k => g.κ (τ k), fun k => g.ν (τ k)⟩ M a' w := by
  have hdom : ∀ k, hasObj σ'.objs k = true → σ'.dom k := fun k hk h0 => by
    have h1 : σ'.objs.getD k none = none := h0
    simp only [hasObj] at hk
    rw [h1] at hk; cases hk
  have hsc : ∀ k, hasObj σ'.objs k = true → σ'.dom k ∧ (⟨fun k => g.ρ (τ k), fun k => g.κ (τ k), fun k => g.ν (τ k)⟩ : Gh).ρ k = g.ρ (τ k) ∧ (⟨fun k => g.ρ (τ k), fun k => g.κ (τ k), fun k => g.ν (τ k)⟩ : Gh).κ k = g.κ (τ k) ∧ (⟨fun k => g.ρ (τ k), fun k => g.κ (τ k), fun k => g.ν (τ k)⟩ : Gh).ν k = g.ν (τ k) :=
    fun k hk => ⟨hdom k hk, rfl, rfl, rfl⟩
  have hown : ∀ k ob, owns (⟨fun k => g.ρ (τ k), fun k => g.κ (τ k), fun k => g.ν (τ k)⟩ : Gh) k ob = owns g (τ k) ob := fun k ob => by cases ob <;> rfl
  have hget : ∀ k ob b, σ'.obj k = some ob → owns (⟨fun k => g.ρ (τ k), fun k => g.κ (τ k), fun k => g.ν (τ k)⟩ : Gh) k ob = some b → σ.obj (τ k) = some (renO τ ob) ∧ owns g (τ k) (renO τ ob) = some b ∧ k < σ'.objs.length := fun k ob b hk hb => by
    rcases wkObjs_get ho k ob hk with rfl | ⟨h1, _⟩
    · simp [owns] at hb
    · rw [Nat.zero_add] at h1
      exact ⟨h1, by rw [owns_ren, ← hown]; exact hb, dom_of_some hk⟩
  refine ⟨hsize, hdef, ?_, ?_, ?_, ?_, hR.sat, hR.M0, hR.Mnew, hR.size0, hR.same, ?_, hR.os, hR.tape, hR.output⟩
  · intro i hi
    rcases hs i hi with h1 | ⟨x, h1, h2, h3⟩
    · rw [h1]; exact .junk _
    · exact V_in hsc h1 _ h2 h3
  · intro k ob hk
    rcases wkObjs_get ho k ob hk with rfl | ⟨h1, h2⟩
    · trivial
    · rw [Nat.zero_add] at h1
      have hor := hR.objs _ _ h1
      cases ob with
      | cells cs =>
        obtain ⟨vals, T, hh, hsz, hv⟩ := hor
        refine ⟨vals, T, hh, by rw [hsz, renL_length], fun j hj => ?_⟩
        exact V_in hsc (hv j (by rw [renL_length]; exact hj)) _ (renL_get τ cs j) (inScopeL_get _ _ _ h2)
      | row sz xs => exact hor
      | map kd es =>
        obtain ⟨ents, clock, hh, hsz, hv⟩ := hor
        refine ⟨ents, clock, hh, hsz, fun i e he => ?_⟩
        obtain ⟨en, q1, q2, q3, q4⟩ := hv i e he
        exact ⟨en, q1, q2, q3, V_in hsc q4 _ (ren_mval _ _).symm (inScope_mval _ _)⟩
      | dead => trivial
  · intro k k' ob ob' b hk hk' hb hb'
    obtain ⟨h1, h2, h3⟩ := hget k ob b hk hb
    obtain ⟨h4, h5, h6⟩ := hget k' ob' b hk' hb'
    exact hinj k k' h3 h6 (hR.apart _ _ _ _ b h1 h4 h2 h5)
  · intro k ob b hk hb i
    obtain ⟨h1, h2, _⟩ := hget k ob b hk hb
    exact hR.offM _ _ b h1 h2 i
  · intro k ob b hk hb
    obtain ⟨h1, h2, _⟩ := hget k ob b hk hb
    exact hR.own0 _ _ b h1 h2

def tau (l : List Nat) (k : Nat) : Nat := l.getD k 0

/-- Forgetting and renaming. The list gives for each id of the new state the id that it had. -/
theorem Weak.wk (τ : List Nat) (hlen : σ'.objs.length = env.nobj) (hτ : τ.length = env.nobj) (hnd : τ.Nodup) (hpin : ∀ k, k < pin → tau τ k = k ∧ (σ.dom k → σ'.dom k))
    (hs : wkSlots (tau τ) (hasObj σ'.objs) σ.slots σ'.slots) (ho : wkObjs (tau τ) (hasObj σ'.objs) σ 0 σ'.objs) : Weak env pin σ σ' := fun _ => ⟨hlen, fun E g M a w hR => by
  obtain ⟨hl, hg⟩ := wkSlots_get hs
  refine ⟨_, M, hR.wk (tau τ) (by rw [hR.size, hl]) hR.defers (fun i hi => ?_) ho (fun i j hi hj e => nodup_get_inj hnd (by omega) (by omega) e), Mem.le_refl _, fun id hid hd => ?_⟩
  · rcases hg i with h1 | ⟨h1, h2⟩
    · exact .inl h1
    · exact .inr ⟨σ.slot i, hR.slot i, h1, h2⟩
  · obtain ⟨h1, h2⟩ := hpin id hid
    refine ⟨?_, h2 hd⟩
    simp [Gh.agree, h1]⟩

/-- Forgetting alone. -/
theorem Weak.forget (hlen : σ'.objs.length = env.nobj) (hpin : ∀ k, k < pin → σ.dom k → σ'.dom k)
    (hs : wkSlots id (hasObj σ'.objs) σ.slots σ'.slots) (ho : wkObjs id (hasObj σ'.objs) σ 0 σ'.objs) : Weak env pin σ σ' := fun _ => ⟨hlen, fun E g M a w hR => by
  obtain ⟨hl, hg⟩ := wkSlots_get hs
  refine ⟨_, M, hR.wk id (by rw [hR.size, hl]) hR.defers (fun i hi => ?_) ho (fun i j hi hj e => e), Mem.le_refl _, fun k hk hd => ⟨⟨rfl, rfl, rfl⟩, hpin k hk hd⟩⟩
  rcases hg i with h1 | ⟨h1, h2⟩
  · exact .inl h1
  · exact .inr ⟨σ.slot i, hR.slot i, h1, h2⟩⟩

mutual
def frz (id : Nat) (xs : List (List PVal)) : AVal → AVal
  | .row id' n => if id' = id then (if n = xs.length then .pv (.slice xs) else .junk) else .row id' n
  | .eref id' i j sz => if id' = id then .junk else .eref id' i j sz
  | .ref id' off => if id' = id then .junk else .ref id' off
  | .map id' => .map id'
  | .agg cs => .agg (frzL id xs cs)
  | .tup cs => .tup (frzL id xs cs)
  | .pv p => .pv p
  | .snil => .snil
  | .junk => .junk
def frzL (id : Nat) (xs : List (List PVal)) : List AVal → List AVal
  | [] => []
  | a :: r => frz id xs a :: frzL id xs r
end
def frzO (id : Nat) (xs : List (List PVal)) : Option AObj → Option AObj
  | some (.cells cs) => some (.cells (frzL id xs cs))
  | o => o
def St.frz (σ : St) (id : Nat) (xs : List (List PVal)) : St := ⟨frzL id xs σ.slots, (σ.objs.map (frzO id xs)).set id (some .dead)⟩

theorem frzL_length (id : Nat) (xs : List (List PVal)) : ∀ cs : List AVal, (frzL id xs cs).length = cs.length
  | [] => rfl
  | _ :: r => by simp [frzL, frzL_length id xs r]
theorem frzL_get (id : Nat) (xs : List (List PVal)) : ∀ (cs : List AVal) (i : Nat), (frzL id xs cs).getD i .junk = Abs.frz id xs (cs.getD i .junk)
  | [], i => by simp [frzL, List.getD, Abs.frz]
  | c :: r, 0 => by simp [frzL, List.getD]
  | c :: r, i + 1 => by have := frzL_get id xs r i; simpa [frzL, List.getD] using this

theorem frzL_pv (id : Nat) (xs : List (List PVal)) : ∀ ps : List PVal, frzL id xs (ps.map .pv) = ps.map .pv
  | [] => rfl
  | p :: r => by simp [frzL, Abs.frz, frzL_pv id xs r]
theorem frz_mval (id : Nat) (xs : List (List PVal)) (q : Bool × List PVal) : Abs.frz id xs (mval q) = mval q := by
  unfold mval
  cases q.1 <;> simp [Abs.frz, frzL_pv]

/-- The row of a finished slice becomes data that nobody writes. -/
theorem Weak.freeze (id : Nat) {sz : Nat} {xs : List (List PVal)} (hob : σ.obj id = some (.row sz xs)) : Weak env pin σ (σ.frz id xs) := fun hl => ⟨by simp [St.frz, hl], fun E g M a w hR => by
  obtain ⟨r1, r2, r3⟩ := hR.objs id _ hob
  have hlt := dom_of_some hob
  -- the memory grows by the row
  let M' : Mem := fun b i => if g.ν id = false ∧ b = g.ρ id ∧ i < xs.length * sz then w.cell? ⟨b, i, none⟩ else M b i
  have hMle : Mem.le M M' := fun b i u hu => by
    simp only [M']
    split
    · exact hR.sat b i u hu
    · exact hu
  have hslice : V g σ.dom M (.row id xs.length) (if g.ν id then .slice none 0 0 else .slice (some ⟨g.ρ id, 0, none⟩) xs.length (g.κ id)) → True := fun _ => trivial
  have hrd : ∀ v n, V g σ.dom M (.row id n) v → n = xs.length → Rd M' (.slice xs) v := fun v n hv hn => by
    cases hv with
    | rown _ _ hnu => rw [r2 hnu]; exact .nils
    | row _ _ _ hnu =>
      subst hn
      obtain ⟨vals, T, hh, h4, h5, h6⟩ := r3 hnu
      refine .slice xs sz (g.ρ id) 0 (g.κ id) (fun i j => vals.getD (i * sz + j) undef) r1 (fun i j hi hj => ?_) (fun i j hi hj => (h6 i j hi hj).mono hMle) h4
      have hlt2 : i * sz + j < xs.length * sz := by
        have : (i + 1) * sz ≤ xs.length * sz := Nat.mul_le_mul_right _ hi
        rw [Nat.add_mul] at this; omega
      have hle : xs.length * sz ≤ g.κ id * sz := Nat.mul_le_mul_right _ h4
      simp only [M', Nat.zero_add, hnu, hlt2, and_self, if_true]
      rw [cell_of_heap hh]
      have : i * sz + j < vals.size := by omega
      simp [this]
  have hobj' : ∀ k ob, (σ.frz id xs).obj k = some ob → (k = id ∧ ob = .dead) ∨ (k ≠ id ∧ ∃ ob0, σ.obj k = some ob0 ∧ frzO id xs (some ob0) = some ob) := fun k ob hk => by
    by_cases hki : id = k
    · subst hki
      have : (σ.frz id xs).obj id = some .dead := by simp [St.frz, St.obj, hlt]
      rw [this] at hk; cases hk; exact .inl ⟨rfl, rfl⟩
    · refine .inr ⟨fun e => hki e.symm, ?_⟩
      have e1 : (σ.frz id xs).obj k = frzO id xs (σ.obj k) := by
        simp only [St.frz, St.obj, List.getD, List.getElem?_set_ne hki, List.getElem?_map]
        cases σ.objs[k]? <;> rfl
      rw [e1] at hk
      cases ho : σ.obj k with
      | none => rw [ho] at hk; cases hk
      | some ob0 => rw [ho] at hk; exact ⟨ob0, rfl, hk⟩
  have hdom' : ∀ k, σ.dom k → (σ.frz id xs).dom k := fun k hd => by
    by_cases hki : id = k
    · subst hki; simp [St.dom, St.frz, St.obj, hlt]
    · have e1 : (σ.frz id xs).obj k = frzO id xs (σ.obj k) := by
        simp only [St.frz, St.obj, List.getD, List.getElem?_set_ne hki, List.getElem?_map]
        cases σ.objs[k]? <;> rfl
      unfold St.dom
      rw [e1]
      cases ho : σ.obj k with
      | none => exact absurd ho hd
      | some ob0 => cases ob0 <;> simp [frzO]
  have hV : ∀ x v, V g σ.dom M x v → V g (σ.frz id xs).dom M' (Abs.frz id xs x) v := by
    intro x v h
    induction h with
    | pv r => exact .pv (r.mono hMle)
    | snil => exact .snil
    | ref k off hd =>
      simp only [Abs.frz]
      split
      · exact .junk _
      · exact .ref _ _ (hdom' _ hd)
    | row k m hd hnu =>
      simp only [Abs.frz]
      split
      · rename_i hk
        subst hk
        split
        · rename_i hm; exact .pv (hrd _ m (.row _ _ hd hnu) hm)
        · exact .junk _
      · exact .row _ _ (hdom' _ hd) hnu
    | rown k hd hnu =>
      simp only [Abs.frz]
      split
      · rename_i hk
        subst hk
        split
        · rename_i hm; exact .pv (hrd _ 0 (.rown _ hd hnu) hm)
        · exact .junk _
      · exact .rown _ (hdom' _ hd) hnu
    | eref k i j s hd =>
      simp only [Abs.frz]
      split
      · exact .junk _
      · exact .eref _ _ _ _ (hdom' _ hd)
    | map k hd => exact .map _ (hdom' _ hd)
    | agg cs vs hl _ ih => exact .agg _ vs (by rw [frzL_length]; exact hl) (fun i hi => by rw [frzL_length] at hi; rw [frzL_get]; exact ih i hi)
    | tup cs vs hl _ ih => exact .tup _ vs (by rw [frzL_length]; exact hl) (fun i hi => by rw [frzL_length] at hi; rw [frzL_get]; exact ih i hi)
    | junk v => exact .junk v
  have hownf : ∀ k ob ob0, frzO id xs (some ob0) = some ob → owns g k ob = owns g k ob0 := fun k ob ob0 h => by cases ob0 <;> simp [frzO] at h <;> subst h <;> rfl
  refine ⟨g, M', ⟨by simp [St.frz, frzL_length, hR.size], hR.defers, ?_, ?_, ?_, ?_, ?_, Mem.le_trans hR.M0 hMle, ?_, hR.size0, hR.same, ?_, hR.os, hR.tape, hR.output⟩, hMle, fun k hk hd => ⟨Gh.agree_refl _ _, hdom' k hd⟩⟩
  · intro i hi
    have e1 : (σ.frz id xs).slot i = Abs.frz id xs (σ.slot i) := frzL_get id xs σ.slots i
    rw [e1]; exact hV _ _ (hR.slot i)
  · intro k ob hk
    rcases hobj' k ob hk with ⟨rfl, rfl⟩ | ⟨hne, ob0, h1, h2⟩
    · trivial
    · have hor := hR.objs k ob0 h1
      cases ob0 with
      | cells cs =>
        simp only [frzO, Option.some.injEq] at h2
        subst h2
        obtain ⟨vals, T, hh, hs, hv⟩ := hor
        exact ⟨vals, T, hh, by rw [hs, frzL_length], fun j hj => by rw [frzL_length] at hj; rw [frzL_get]; exact hV _ _ (hv j hj)⟩
      | row sz' xs' =>
        simp only [frzO, Option.some.injEq] at h2
        subst h2
        obtain ⟨q1, q2, q3⟩ := hor
        exact ⟨q1, q2, fun hnu => let ⟨vals, T, hh, q4, q5, q6⟩ := q3 hnu; ⟨vals, T, hh, q4, q5, fun i j hi hj => (q6 i j hi hj).mono hMle⟩⟩
      | map kd es =>
        simp only [frzO, Option.some.injEq] at h2
        subst h2
        obtain ⟨ents, clock, hh, hs, hv⟩ := hor
        refine ⟨ents, clock, hh, hs, fun i e he => ?_⟩
        obtain ⟨en, q1, q2, q3, q4⟩ := hv i e he
        exact ⟨en, q1, q2, q3.mono hMle, frz_mval id xs e.2 ▸ hV _ _ q4⟩
      | dead => simp only [frzO, Option.some.injEq] at h2; subst h2; trivial
  · intro k k' ob ob' b hk hk' hb hb'
    rcases hobj' k ob hk with ⟨rfl, rfl⟩ | ⟨hne, ob0, h1, h2⟩
    · simp [owns] at hb
    · rcases hobj' k' ob' hk' with ⟨rfl, rfl⟩ | ⟨hne', ob0', h1', h2'⟩
      · simp [owns] at hb'
      · exact hR.apart k k' ob0 ob0' b h1 h1' (by rw [← hownf k ob ob0 h2]; exact hb) (by rw [← hownf k' ob' ob0' h2']; exact hb')
  · intro k ob b hk hb i
    rcases hobj' k ob hk with ⟨rfl, rfl⟩ | ⟨hne, ob0, h1, h2⟩
    · simp [owns] at hb
    · have hb0 : owns g k ob0 = some b := by rw [← hownf k ob ob0 h2]; exact hb
      simp only [M']
      rw [if_neg]
      · exact hR.offM k ob0 b h1 hb0 i
      · rintro ⟨hnu, hbe, _⟩
        exact hne (hR.apart k id ob0 _ b h1 hob hb0 (by simp [owns, hnu, hbe]))
  · intro b i u hu
    simp only [M'] at hu
    split at hu
    · exact hu
    · exact hR.sat b i u hu
  · intro b i hb hB
    simp only [M']
    rw [if_neg]
    · exact hR.Mnew b i hb hB
    · rintro ⟨hnu, hbe, _⟩
      rcases hR.own0 id _ b hob (by simp [owns, hnu, hbe]) with h1 | h1
      · exact hB h1
      · omega
  · intro k ob b hk hb
    rcases hobj' k ob hk with ⟨rfl, rfl⟩ | ⟨hne, ob0, h1, h2⟩
    · simp [owns] at hb
    · exact hR.own0 k ob0 b h1 (by rw [← hownf k ob ob0 h2]; exact hb)⟩

/-- A nil slice is an empty row. -/
theorem Weak.nilRow (t id sz : Nat) (hs : σ.slot t = .snil) (hn : σ.obj id = none) (hid : id < env.nobj) : Weak env pin σ ⟨σ.slots.set t (.row id 0), σ.objs.set id (some (.row sz []))⟩ := fun hl => ⟨by simp [hl], fun E g M a w hR => by
  have hne : ∀ i, σ.dom i → i ≠ id := fun i hi e => hi (by rw [e]; exact hn)
  have hag : ∀ i, σ.dom i → g.agree (g.set id 0 0 true) i := fun i hi => Gh.set_agree (hne i hi)
  have hself : (σ.set id (.row sz [])).obj id = some (.row sz []) := St.obj_set_self (by omega)
  have hR' : Rel E (σ.set id (.row sz [])) (g.set id 0 0 true) M a w := by
    refine hR.update (fun i => i = id) rfl (fun i hi => St.obj_set_ne (fun e => hi e.symm)) (fun i hi => dom_set i hi) hag ?_ (fun _ _ _ => rfl) ?_ ?_ (Nat.le_refl _) rfl rfl rfl
    · rintro i ob rfl ho
      rw [hself] at ho
      cases ho
      exact ⟨by simp, fun _ => rfl, fun h => by simp [Gh.set] at h⟩
    · rintro i ob b rfl ho hb
      rw [hself] at ho
      cases ho
      simp [owns, Gh.set] at hb
    · rintro i i' _ _ _ rfl rfl _ _ _ _; rfl
  refine ⟨_, M, ?_, Mem.le_refl _, fun k hk hd => ⟨hag k hd, dom_set k hd⟩⟩
  refine ⟨by simp [hR.size], hR.defers, ?_, hR'.objs, hR'.apart, hR'.offM, hR'.sat, hR'.M0, hR'.Mnew, hR'.size0, hR'.same, hR'.own0, hR'.os, hR'.tape, hR'.output⟩
  intro i hi
  simp only [List.length_set] at hi
  by_cases hti : t = i
  · subst hti
    have e1 : St.slot ⟨σ.slots.set t (.row id 0), σ.objs.set id (some (.row sz []))⟩ t = .row id 0 := by simp [St.slot, hi]
    rw [e1]
    have hv := hR.slots t hi
    rw [hs] at hv
    generalize a.tmps.getD t undef = v at hv
    cases hv
    exact .rown id (by show (σ.set id (.row sz [])).dom id; simp [St.dom, hself]) (by simp [Gh.set])
  · have e1 : St.slot ⟨σ.slots.set t (.row id 0), σ.objs.set id (some (.row sz []))⟩ i = σ.slot i := by simp [St.slot, List.getElem?_set_ne hti]
    rw [e1]
    exact hR'.slots i hi⟩
end
end Go.Abs
