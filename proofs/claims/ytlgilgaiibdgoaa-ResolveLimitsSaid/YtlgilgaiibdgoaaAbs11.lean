/- The abstract append is what the model's append does. No condition. -/
import Derived.Test.YtlgilgaiibdgoaaAbs10
set_option linter.unusedSimpArgs false
set_option linter.unusedVariables false
namespace Go.Abs
open Go
section
variable {P : Program} {env : Env} {o : Oper} {E : Ent} {σ : St} {g : Gh} {M : Mem} {a : Act} {w : World} {e : Eff}

theorem growBy_le (need : Nat) (h : 257 ≤ need) : ∀ (r c : Nat), c ≤ 2 * need → Builtin.growBy need r c ≤ 2 * need
  | 0, c, hc => by simpa [Builtin.growBy] using hc
  | r + 1, c, hc => by
    simp only [Builtin.growBy]
    split
    · exact hc
    · exact growBy_le need h r _ (by omega)

theorem nextcap_le (need c : Nat) (h : c < need) : Builtin.nextslicecap need c ≤ 2 * need := by
  unfold Builtin.nextslicecap
  split
  · omega
  · split
    · omega
    · exact growBy_le need (by omega) 4 c (by omega)

def SrcOK (P : Program) (M : Mem) (w : World) (v : Value) (ys : List (List PVal)) (sz : Nat) : Prop :=
  ∃ ad cap, v = .slice ad ys.length cap ∧ ∃ cells : List Value, cells.length = ys.length * sz ∧
      (∀ w' : World, (∀ b, b < w.heap.size → w'.heap[b]? = w.heap[b]?) → (Builtin.firstCells sz ys.length v).run P w' = .ok cells.toArray w') ∧
      (∀ i j, i < ys.length → j < sz → Rd M (pcell ys i j) (cells.getD (i * sz + j) undef)) ∧ ∀ u, u ∈ cells → u.oneCell' = true

/-- The cells of what is appended. -/
theorem src_cells (hR : Rel E σ g M a w) (hG : GOK env M) {y : Operand} {ys : List (List PVal)} (h : srcRows σ.obj (aeval env σ y) = some ys) (sz : Nat) (hlen : ∀ x, x ∈ ys → x.length = sz) :
    SrcOK P M w (a.eval y) ys sz := by
  have hy := V_aeval (env := env) hR hG y
  have one : ∀ (p : PVal) (u : Value), Rd M p u → u.oneCell' = true := fun p u h => by cases h <;> rfl
  have mk : ∀ (b off cap : Nat) (f : Nat → Value), a.eval y = .slice (some ⟨b, off, none⟩) ys.length cap → b < w.heap.size →
      (∀ q, q < ys.length * sz → w.cell? ⟨b, off + q, none⟩ = some (f q)) → (∀ i j, i < ys.length → j < sz → Rd M (pcell ys i j) (f (i * sz + j))) → SrcOK P M w (a.eval y) ys sz := by
    intro b off cap f hv hb hc hrd
    refine ⟨_, _, hv, (List.range (ys.length * sz)).map f, by simp, fun w' hw' => ?_, fun i j hi hj => ?_, fun u hu => ?_⟩
    · rw [hv]
      simp only [Builtin.firstCells]
      rw [run_loadCells w' ⟨b, off, none⟩ (ys.length * sz) f (fun j hj => by
        rw [add_none, ← hc j hj]
        unfold World.cell?
        simp only [hw' b hb])]
    · have hlt : i * sz + j < ys.length * sz := by
        have : (i + 1) * sz ≤ ys.length * sz := Nat.mul_le_mul_right _ hi
        rw [Nat.add_mul] at this; omega
      have e1 : ((List.range (ys.length * sz)).map f).getD (i * sz + j) undef = f (i * sz + j) := by simp [List.getD, hlt]
      rw [e1]; exact hrd i j hi hj
    · simp only [List.mem_map, List.mem_range] at hu
      obtain ⟨q, hq, rfl⟩ := hu
      have hsz : 0 < sz := by rcases Nat.eq_zero_or_pos sz with h0 | h0; · subst h0; simp at hq
                              · exact h0
      have h1 : q / sz < ys.length := Nat.div_lt_of_lt_mul (by rw [Nat.mul_comm]; exact hq)
      have h2 := hrd (q / sz) (q % sz) h1 (Nat.mod_lt _ hsz)
      have e2 : q / sz * sz + q % sz = q := by rw [Nat.mul_comm]; exact Nat.div_add_mod q sz
      rw [e2] at h2
      exact one _ _ h2
  unfold srcRows at h
  split at h
  · rename_i hx
    cases h
    rw [hx] at hy
    generalize hv : a.eval y = v at hy
    cases hy
    exact ⟨none, 0, rfl, [], by simp, fun w' _ => rfl, fun i j hi => by simp at hi, fun u hu => by simp at hu⟩
  · rename_i xs hx
    cases h
    rw [hx] at hy
    have hr := hy.pv_inv
    generalize hv : a.eval y = v at hr
    cases hr with
    | nils => exact ⟨none, 0, rfl, [], by simp, fun w' _ => rfl, fun i j hi => by simp at hi, fun u hu => by simp at hu⟩
    | slice _ sz' b off cap us h1 h2 h3 h4 =>
      by_cases hn : ys = []
      · subst hn
        refine ⟨_, _, rfl, [], by simp, fun w' _ => ?_, fun i j hi => by simp at hi, fun u hu => by simp at hu⟩
        simp [Builtin.firstCells, loadCells, loadCellsFrom]
      · have hsz : sz' = sz := by
          cases ys with
          | nil => exact absurd rfl hn
          | cons y0 yr => rw [← h1 y0 (by simp), hlen y0 (by simp)]
        subst hsz
        have hpos : 0 < ys.length := List.length_pos_iff.2 hn
        by_cases hz : sz' = 0
        · subst hz
          refine ⟨_, _, rfl, [], by simp, fun w' _ => ?_, fun i j hi hj => by omega, fun u hu => by simp at hu⟩
          simp [Builtin.firstCells, loadCells, loadCellsFrom]
        · rw [← hv]
          refine mk b off cap (fun q => us (q / sz') (q % sz')) hv ?_ (fun q hq => ?_) (fun i j hi hj => ?_)
          · have := World.block_lt_of_cell? _ _ (hR.sat _ _ _ (h2 0 0 hpos (Nat.pos_of_ne_zero hz)))
            simpa using this
          · have h5 : q / sz' < ys.length := Nat.div_lt_of_lt_mul (by rw [Nat.mul_comm]; exact hq)
            have h6 := hR.sat _ _ _ (h2 (q / sz') (q % sz') h5 (Nat.mod_lt _ (Nat.pos_of_ne_zero hz)))
            have e2 : q / sz' * sz' + q % sz' = q := by rw [Nat.mul_comm]; exact Nat.div_add_mod q sz'
            rw [Nat.add_assoc, e2] at h6
            exact h6
          · have e1 : (i * sz' + j) / sz' = i := by rw [Nat.mul_comm, Nat.mul_add_div (Nat.pos_of_ne_zero hz), Nat.div_eq_of_lt hj]; rfl
            have e2 : (i * sz' + j) % sz' = j := by rw [Nat.mul_comm, Nat.mul_add_mod, Nat.mod_eq_of_lt hj]
            simp only [e1, e2]
            exact h3 i j hi hj
  · rename_i id n hx
    split at h
    · rename_i sz' xs hob
      split at h
      · rename_i hn
        cases h
        rw [hx] at hy
        obtain ⟨h1, h2, h3⟩ := hR.objs id _ hob
        generalize hv : a.eval y = v at hy
        cases hy with
        | rown _ hd hnu =>
          have h0 := h2 hnu
          subst h0
          exact ⟨none, 0, rfl, [], by simp, fun w' _ => rfl, fun i j hi => by simp at hi, fun u hu => by simp at hu⟩
        | row _ _ hd hnu =>
          subst hn
          obtain ⟨vals, T, hh, h4, h5, h6⟩ := h3 hnu
          by_cases hn : ys = []
          · subst hn
            refine ⟨_, _, rfl, [], by simp, fun w' _ => ?_, fun i j hi => by simp at hi, fun u hu => by simp at hu⟩
            simp [Builtin.firstCells, loadCells, loadCellsFrom]
          · have hsz : sz' = sz := by
              cases ys with
              | nil => exact absurd rfl hn
              | cons y0 yr => rw [← h1 y0 (by simp), hlen y0 (by simp)]
            subst hsz
            rw [← hv]
            refine mk (g.ρ id) 0 (g.κ id) (fun q => vals.getD q undef) hv ((Array.getElem?_eq_some_iff.1 hh).1) (fun q hq => ?_) (fun i j hi hj => h6 i j hi hj)
            rw [Nat.zero_add, cell_of_heap hh]
            have : ys.length * sz' ≤ g.κ id * sz' := Nat.mul_le_mul_right _ h4
            have : q < vals.size := by omega
            simp [this]
      · cases h
    · cases h
  · cases h

/-- The run of append where there is room. -/
theorem run_append_fits {t t' el el' : TypeId} {ty : TypeId} (hu : P.underlying t = some (.slice el)) (hu' : P.underlying t' = some (.slice el')) (hpos : 0 < tySize P el)
    {base : Option Addr} {sLen sCap n : Nat} {y : Value} {ad : Option Addr} {cap : Nat} (hy : y = .slice ad n cap) (hfit : sLen + n ≤ sCap) {cells : List Value} {w w1 : World}
    (hfc : (Builtin.firstCells (tySize P el) n y).run P w = .ok cells.toArray w)
    (hst : ∀ b, base = some b → (storeCells (b.add (sLen * tySize P el)) cells 0).run P w = .ok () w1) (hst0 : base = none → w1 = w) :
    (Builtin.append_ #[t, t'] ty #[.slice base sLen sCap, y]).run P w = .ok (.slice base (sLen + n) sCap) w1 := by
  subst hy
  simp only [Builtin.append_, List.getElem?_toArray, List.getElem?_cons_zero, List.getElem?_cons_succ, Sem.run_bind, run_underlying' w hu, run_underlying' w hu', Result.andThen, run_tySize w hpos, Sem.run_pure,
    Builtin.lenOf, Bool.false_eq_true, if_false, hfit, if_true, Bool.not_false, hfc]
  cases base with
  | none => rw [hst0 rfl]; rfl
  | some b => simp only [Sem.run_bind, hst b rfl, Result.andThen, Sem.run_pure]

/-- The run of append where there is no room. -/
theorem run_append_grows {t t' el el' : TypeId} {ty : TypeId} (hu : P.underlying t = some (.slice el)) (hu' : P.underlying t' = some (.slice el')) (hpos : 0 < tySize P el)
    (hby : 0 < tyBytes P el) {z : Value} (hz : ∀ w, (zeroValue el).run P w = .ok z w)
    {base : Option Addr} {sLen sCap n : Nat} {y : Value} {ad : Option Addr} {cap : Nat} (hy : y = .slice ad n cap) (hfit : ¬ sLen + n ≤ sCap) (hroom : (sLen + n) * tyBytes P el ≤ 140737488355328) {cells old : List Value} {w : World}
    (hfc : ∀ w' : World, w'.heap = w.heap → (Builtin.firstCells (tySize P el) n y).run P w' = .ok cells.toArray w')
    (hold : ∀ w' : World, w'.heap = w.heap → (Builtin.firstCells (tySize P el) sLen (.slice base sLen sCap)).run P w' = .ok old.toArray w') :
    ∃ newCap, sLen + n ≤ newCap ∧ (Builtin.append_ #[t, t'] ty #[.slice base sLen sCap, y]).run P w =
      .ok (.slice (some ⟨w.heap.size, 0, none⟩) (sLen + n) newCap) (w.drew.alloc (.cells (old.toArray ++ cells.toArray ++ Builtin.zeroCells z.cells (newCap - (sLen + n))) el)) := by
  subst hy
  have hinfo : ∃ i, P.info? el = some i ∧ i.bytes = tyBytes P el := by
    unfold tyBytes at *
    cases hi : P.info? el with
    | none => simp [hi] at hby
    | some i => exact ⟨i, rfl, rfl⟩
  obtain ⟨i, hi, hib⟩ := hinfo
  have hneed : sLen + n ≤ 140737488355328 := Nat.le_trans (Nat.le_mul_of_pos_right _ hby) hroom
  have hcap := nextcap_le (sLen + n) sCap (by omega)
  have hcap2 : ¬ (Builtin.nextslicecap (sLen + n) sCap * i.bytes > 2 ^ 48) := by
    rw [hib]
    have : Builtin.nextslicecap (sLen + n) sCap * tyBytes P el ≤ 2 * (sLen + n) * tyBytes P el := Nat.mul_le_mul_right _ hcap
    rw [Nat.mul_assoc] at this
    omega
  have hmax : ¬ ((((sLen + n : Nat) : Int) > IntKind.i64.max) ∧ (False ∨ i.bytes = 0)) := by
    rintro ⟨h1, h2⟩
    rcases h2 with h2 | h2
    · exact h2
    · omega
  refine ⟨(sLen + n) + (w.tape w.drawn (.appendCap (sLen + n) sCap el)) % (2 ^ 63 - (sLen + n)), by omega, ?_⟩
  simp only [Builtin.append_, List.getElem?_toArray, List.getElem?_cons_zero, List.getElem?_cons_succ, Sem.run_bind, run_underlying' w hu, run_underlying' w hu', Result.andThen, run_tySize w hpos, Sem.run_pure,
    Builtin.lenOf, Bool.false_eq_true, if_false, hfit, run_typeInfo' w hi]
  rw [if_neg hmax]
  simp only [Sem.run_bind, run_typeInfo' w hi, Result.andThen]
  rw [if_neg hcap2]
  have hd : ∀ x, ({ w with drawn := x } : World).heap = w.heap := fun _ => rfl
  simp only [Sem.run_bind, run_choose, Question.forced, Bool.false_eq_true, if_false, Result.andThen, run_typeInfo' _ hi, run_askRoom, Question.cut, hold _ (hd _), Bool.not_false, if_true, hfc _ (hd _), hz, newRow, run_newObj, Sem.run_pure]
  rfl
theorem append_get (old cells : List Value) (rest : Array Value) (q : Nat) (h : q < old.length + cells.length) :
    (old.toArray ++ cells.toArray ++ rest).getD q undef = if q < old.length then old.getD q undef else cells.getD (q - old.length) undef := by
  simp only [Array.getD_eq_getD_getElem?, List.getD_eq_getElem?_getD]
  rw [Array.getElem?_append_left (by simp; omega), Array.getElem?_append]
  simp only [List.size_toArray, List.getElem?_toArray]
  split <;> rfl

theorem pcell_append (xs ys : List (List PVal)) (i j : Nat) : pcell (xs ++ ys) i j = if i < xs.length then pcell xs i j else pcell ys (i - xs.length) j := by
  simp only [pcell, List.getD_eq_getElem?_getD]
  split
  · rename_i h; rw [List.getElem?_append_left h]
  · rename_i h; rw [List.getElem?_append_right (by omega)]

/-- What an append to an owned row (or to nil) comes to, as a value and a world. -/
theorem does_appendTo (hR : Rel E σ g M a w) (hl : σ.objs.length = env.nobj) {d id' : Nat} (hd : o.dst = some d) (hid : id' < env.nobj) (hn : σ.obj id' = none)
    (C : Nat → Prop) (σ1 : St) (hσ1s : σ1.slots = σ.slots) (hσ1l : σ1.objs.length = σ.objs.length) (hun : ∀ i, ¬ C i → σ1.obj i = σ.obj i) (hdead : ∀ i, C i → σ1.obj i = some .dead) (hCid : ¬ C id')
    {sz n : Nat} {zs : List (List PVal)} (hzl : zs.length = n) (hzs : ∀ x, x ∈ zs → x.length = sz)
    {v : Value} {w' : World} (hrun : (execOp a.eval o).run P w = .ok (.value v) w') (hos : w'.os = w.os) (htape : w'.tape = w.tape) (hout : w'.output = w.output) (hsize : w.heap.size ≤ w'.heap.size)
    (heap : ∀ b, b < w.heap.size → (∀ i ob, C i → σ.obj i = some ob → owns g i ob ≠ some b) → w'.heap[b]? = w.heap[b]?)
    (b c : Nat) (nu : Bool) (hv : (nu = false ∧ v = .slice (some ⟨b, 0, none⟩) n c) ∨ (nu = true ∧ n = 0 ∧ v = .slice none 0 0))
    (hb : nu = false → w.heap.size ≤ b ∨ ∃ i ob, C i ∧ σ.obj i = some ob ∧ owns g i ob = some b)
    (hrow : nu = false → ∃ vals T, w'.heap[b]? = some (.cells vals T (0, 0)) ∧ n ≤ c ∧ c * sz ≤ vals.size ∧ ∀ i j, i < n → j < sz → Rd M (pcell zs i j) (vals.getD (i * sz + j) undef)) :
    ∃ g' M', Rel E ((σ1.set id' (.row sz zs)).app o.dst ⟨.row id' n, []⟩) g' M' (a.put o.dst v) w' ∧ (∀ i, σ.dom i → g.agree g' i) ∧ Mem.le M M' := by
  have hne : ∀ i, σ.dom i → i ≠ id' := fun i hi e => hi (by rw [e]; exact hn)
  have hag : ∀ i, σ.dom i → g.agree (g.set id' b c nu) i := fun i hi => Gh.set_agree (hne i hi)
  have hdom1 : ∀ i, σ.dom i → σ1.dom i := fun i hi => by
    by_cases hc : C i
    · simp [St.dom, hdead i hc]
    · simp only [St.dom, hun i hc]; exact hi
  have hself : (σ1.set id' (.row sz zs)).obj id' = some (.row sz zs) := St.obj_set_self (by omega)
  have hρ : (g.set id' b c nu).ρ id' = b := by simp [Gh.set]
  have hκ : (g.set id' b c nu).κ id' = c := by simp [Gh.set]
  have hν : (g.set id' b c nu).ν id' = nu := by simp [Gh.set]
  have hR' : Rel E (σ1.set id' (.row sz zs)) (g.set id' b c nu) M a w' := by
    refine hR.update (fun i => i = id' ∨ C i) hσ1s (fun i hi => ?_) (fun i hi => dom_set i (hdom1 i hi)) hag ?_ ?_ ?_ ?_ hsize hos htape hout
    · rw [St.obj_set_ne (fun e => hi (.inl e.symm))]; exact hun i (fun hc => hi (.inr hc))
    · rintro i ob hc ho
      by_cases hi : i = id'
      · subst hi
        rw [hself] at ho
        cases ho
        refine ⟨hzs, fun hnu => ?_, fun hnu => ?_⟩
        · rw [hν] at hnu
          rcases hv with ⟨h1, _⟩ | ⟨_, h2, _⟩
          · rw [h1] at hnu; cases hnu
          · exact List.eq_nil_of_length_eq_zero (by omega)
        · rw [hν] at hnu
          obtain ⟨vals, T, h1, h2, h3, h4⟩ := hrow hnu
          refine ⟨vals, T, by rw [hρ]; exact h1, by rw [hκ]; omega, by rw [hκ]; exact h3, fun i j hi hj => h4 i j (by omega) hj⟩
      · rw [St.obj_set_ne (fun e => hi e.symm), hdead i (hc.resolve_left hi)] at ho
        cases ho; trivial
    · intro b' hb' hno
      exact heap b' hb' (fun i ob hc ho => hno i ob (.inr hc) ho)
    · rintro i ob b' hc ho hob
      by_cases hi : i = id'
      · subst hi
        rw [hself] at ho
        cases ho
        simp only [owns, hν, hρ] at hob
        cases hnu : nu with
        | true => rw [hnu] at hob; simp at hob
        | false =>
          rw [hnu] at hob
          simp at hob
          subst hob
          rcases hb hnu with h1 | ⟨i, ob, h1, h2, h3⟩
          · exact .inl h1
          · exact .inr ⟨i, ob, .inr h1, h2, h3⟩
      · rw [St.obj_set_ne (fun e => hi e.symm), hdead i (hc.resolve_left hi)] at ho
        cases ho; simp [owns] at hob
    · rintro i i' ob ob' b' hc hc' ho ho' hob hob'
      by_cases hi : i = id'
      · by_cases hi' : i' = id'
        · rw [hi, hi']
        · rw [St.obj_set_ne (fun e => hi' e.symm), hdead i' (hc'.resolve_left hi')] at ho'
          cases ho'; simp [owns] at hob'
      · rw [St.obj_set_ne (fun e => hi e.symm), hdead i (hc.resolve_left hi)] at ho
        cases ho; simp [owns] at hob
  refine ⟨_, M, hR'.put o.dst ?_, hag, Mem.le_refl _⟩
  have hdm : (σ1.set id' (.row sz zs)).dom id' := by simp [St.dom, hself]
  rcases hv with ⟨h1, rfl⟩ | ⟨h1, h2, rfl⟩
  · have e1 : Value.slice (some ⟨b, 0, none⟩) n c = .slice (some ⟨(g.set id' b c nu).ρ id', 0, none⟩) n ((g.set id' b c nu).κ id') := by rw [hρ, hκ]
    rw [e1]
    exact .row _ _ hdm (by rw [hν]; exact h1)
  · subst h2
    exact .rown _ hdm (by rw [hν]; exact h1)
end
end Go.Abs
