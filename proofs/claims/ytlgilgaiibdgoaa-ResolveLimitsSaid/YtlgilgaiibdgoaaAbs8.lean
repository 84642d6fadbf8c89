/- Each abstract operation is what the model's operation does: variables, stores, literals, cuts. No condition. -/
import Derived.Test.YtlgilgaiibdgoaaAbs7
set_option linter.unusedSimpArgs false
set_option linter.unusedVariables false
namespace Go.Abs
open Go
section
variable {P : Program} {env : Env} {o : Oper} {E : Ent} {σ : St} {g : Gh} {M : Mem} {a : Act} {w : World} {e : Eff}

theorem app_one (dst : Option Nat) (v : AVal) (id : Nat) (ob : AObj) : σ.app dst ⟨v, [(id, ob)]⟩ = (σ.set id ob).app dst ⟨v, []⟩ := rfl
theorem app_two (dst : Option Nat) (v : AVal) (id id' : Nat) (ob ob' : AObj) : σ.app dst ⟨v, [(id, ob), (id', ob')]⟩ = ((σ.set id ob).set id' ob').app dst ⟨v, []⟩ := rfl

theorem ty_zero (hE : EnvOK P env) {t : Nat} {ty : Ty} (h : env.ty t = some ty) {z : List AVal} (hz : ty.zero = some z) :
    ∃ zv : Value, (∀ w, (zeroValue t).run P w = .ok zv w) ∧ z = zv.cells.toList.map absCell := by
  obtain ⟨i, d, hi, hd, hty⟩ := hE.get h
  simp only [tyOf, hi, hd, Option.some.injEq] at hty
  subst hty
  simp only [tyZero, hi] at hz
  cases hz' : i.zero with
  | none => rw [hz'] at hz; cases hz
  | some zv =>
    rw [hz'] at hz
    cases hz
    exact ⟨zv, fun w => by simp [zeroValue, run_typeInfo' w hi, hz'], rfl⟩

/-- A new variable. -/
theorem does_var (hR : Rel E σ g M a w) (hl : σ.objs.length = env.nobj) {d id : Nat} (hd : o.dst = some d) (hid : id < env.nobj) (hn : σ.obj id = none)
    (v : Value) (T : TypeId) (cs : List AVal) (hrun : (execOp a.eval o).run P w = .ok (.value (.pointer (some ⟨w.heap.size, 0, none⟩))) (w.alloc (.cells v.cells T)))
    (hs : v.cells.size = cs.length) (hv : ∀ j, j < cs.length → V g σ.dom M (cs.getD j .junk) (v.cells.getD j undef)) :
    Does P env o E σ g M a w ⟨.ref id 0, [(id, .cells cs)]⟩ := by
  have hne : ∀ i, σ.dom i → i ≠ id := fun i hi e => hi (by rw [e]; exact hn)
  have hag : ∀ i, σ.dom i → g.agree (g.set id w.heap.size 0 false) i := fun i hi => Gh.set_agree (hne i hi)
  have hR' := hR.fresh (by omega) hn v.cells T 0 (.cells cs) (by
    refine ⟨v.cells, T, ?_, hs, fun j hj => (hv j hj).mono hag (fun i hi => dom_set i hi) (Mem.le_refl _)⟩
    have e1 : (g.set id w.heap.size 0 false).ρ id = w.heap.size := by simp [Gh.set]
    rw [e1]; exact heap_alloc_new _ _)
  refine ⟨_, _, _, _, M, hrun, .inl rfl, ?_, hag, Mem.le_refl _⟩
  rw [app_one]
  refine hR'.put o.dst ?_
  have : (⟨w.heap.size, 0, none⟩ : Addr) = ⟨(g.set id w.heap.size 0 false).ρ id, 0, none⟩ := by simp [Gh.set]
  rw [this]
  exact .ref id 0 (by simp [St.dom, St.obj_set_self (σ := σ) (id := id) (by omega)])

theorem does_alloc (hR : Rel E σ g M a w) (hE : EnvOK P env) (hl : σ.objs.length = env.nobj) {t : TypeId} (ho : o.op = .alloc t)
    (h : aop env o.dst (aeval env σ) σ.obj o.op = some e) : Does P env o E σ g M a w e := by
  rw [ho] at h
  simp only [aop] at h
  split at h
  · rename_i ty d ht hd
    split at h
    · rename_i z hz hn
      split at h
      · rename_i hc
        cases h
        obtain ⟨zv, hrun, rfl⟩ := ty_zero hE ht hz
        refine does_var hR hl hd hc.1 hn zv t _ ?_ (by simp) (fun j hj => ?_)
        · simp [execOp, ho, Instr.alloc, hrun, newVar, newRow]
        · simp at hj
          have : (zv.cells.toList.map absCell).getD j .junk = absCell (zv.cells.getD j undef) := by simp [List.getD, hj]
          rw [this]; exact V_absCell _ _ _ _
      · cases h
    · cases h
  · cases h

theorem does_box (hR : Rel E σ g M a w) (hG : GOK env M) (hl : σ.objs.length = env.nobj) {t : TypeId} {x : Operand} (ho : o.op = .box t x)
    (h : aop env o.dst (aeval env σ) σ.obj o.op = some e) : Does P env o E σ g M a w e := by
  rw [ho] at h
  simp only [aop] at h
  split at h
  · rename_i d hd
    split at h
    · rename_i hn
      split at h
      · rename_i hc
        cases h
        have hx := V_cells (V_aeval (env := env) hR hG x) hc.2
        refine does_var hR hl hd hc.1 hn (a.eval x) t _ ?_ hx.1 (fun j hj => (hx.2 j hj).1)
        simp [execOp, ho, Instr.box, newVar, newRow]
      · cases h
    · cases h
  · cases h

theorem dom_of_some {id : Nat} {ob : AObj} (h : σ.obj id = some ob) : id < σ.objs.length := by
  rcases Nat.lt_or_ge id σ.objs.length with h' | h'
  · exact h'
  · simp [St.obj, List.getElem?_eq_none h'] at h

theorem does_store (hR : Rel E σ g M a w) (hG : GOK env M) (hE : EnvOK P env) {t : TypeId} {p x : Operand} (ho : o.op = .store t p x)
    (h : aop env o.dst (aeval env σ) σ.obj o.op = some e) : Does P env o E σ g M a w e := by
  rw [ho] at h
  simp only [aop] at h
  have hp := V_aeval (env := env) hR hG p
  split at h
  · rename_i ty id off ht hx
    rw [hx] at hp
    obtain ⟨hv, hd⟩ := hp.ref_inv
    split at h
    · rename_i cs hob
      split at h
      · rename_i hc
        cases h
        obtain ⟨hc1, hc2, hc3⟩ := hc
        obtain ⟨hs, hvv⟩ := V_cells (V_aeval (env := env) hR hG x) hc3
        obtain ⟨vals, T, hh, hsz, hvals⟩ := hR.objs id _ hob
        have hlt : g.ρ id < w.heap.size := (Array.getElem?_eq_some_iff.1 hh).1
        have hl' := dom_of_some hob
        have hvl : (a.eval x).cells.toList.length = (aeval env σ x).cells.length := by simp [hs]
        have hrun : (execOp a.eval o).run P w = .ok .skip (setBlk w (g.ρ id) (overlay vals off (a.eval x).cells.toList) T) := by
          have h1 := run_storeCells (P := P) (g.ρ id) T (a.eval x).cells.toList 0 off vals w hh (by rw [hvl]; omega) (fun u hu => by
            obtain ⟨j, hj, rfl⟩ := List.mem_iff_getElem.1 hu
            have hj' : j < (aeval env σ x).cells.length := by rw [← hvl]; exact hj
            have h5 := (hvv j hj').2
            have hj2 : j < (a.eval x).cells.size := by simpa using hj
            rw [Array.getD_eq_getD_getElem?, Array.getElem?_eq_getElem hj2] at h5
            simpa using h5)
          simp only [Nat.add_zero] at h1
          simp only [execOp, ho, Instr.storeAt, hv, Instr.sureAddr, storeVar, Sem.run_bind, Sem.run_pure, Result.andThen, run_size hE ht w]
          rw [if_neg (by rw [hs, hc1]; simp)]
          simp only [Sem.run_bind, Sem.run_pure, Result.andThen, h1]
        refine ⟨_, undef, _, g, M, hrun, .inr ⟨rfl, rfl⟩, ?_, fun _ _ => Gh.agree_refl _ _, Mem.le_refl _⟩
        rw [app_one]
        have hR' : Rel E (σ.set id (.cells (splice cs off (aeval env σ x).cells))) g M a (setBlk w (g.ρ id) (overlay vals off (a.eval x).cells.toList) T) := by
          refine hR.update (fun i => i = id) rfl (fun i hi => St.obj_set_ne (fun e => hi e.symm)) (fun i hi => dom_set i hi) (fun i hi => Gh.agree_refl _ _) ?_ ?_ ?_ ?_ (by simp [setBlk]) rfl rfl rfl
          · rintro i ob' rfl ho'
            rw [St.obj_set_self hl'] at ho'
            cases ho'
            refine ⟨overlay vals off (a.eval x).cells.toList, T, by rw [setBlk_heap w _ _ T hlt]; simp, ?_, fun j hj => ?_⟩
            · rw [overlay_size (by rw [hvl]; omega), splice_length (by omega)]; exact hsz
            · rw [splice_length (by omega)] at hj
              rw [splice_get (by omega), overlay_get (by rw [hvl]; omega), hvl]
              by_cases hcc : off ≤ j ∧ j < off + (aeval env σ x).cells.length
              · rw [if_pos hcc, if_pos hcc]
                have := (hvv (j - off) (by omega)).1
                have e1 : (a.eval x).cells.toList.getD (j - off) undef = (a.eval x).cells.getD (j - off) undef := by simp [List.getD]
                rw [e1]
                exact this.mono (fun _ _ => Gh.agree_refl _ _) (fun i hi => dom_set i hi) (Mem.le_refl _)
              · rw [if_neg hcc, if_neg hcc]
                exact (hvals j hj).mono (fun _ _ => Gh.agree_refl _ _) (fun i hi => dom_set i hi) (Mem.le_refl _)
          · intro b hb hno
            rw [setBlk_heap w _ _ T hlt, if_neg (fun hbe => hno id _ rfl hob (by simp [owns, hbe]))]
          · rintro i ob' b rfl ho' hb
            rw [St.obj_set_self hl'] at ho'
            cases ho'
            right
            exact ⟨i, _, rfl, hob, hb⟩
          · rintro i i' _ _ _ rfl rfl _ _ _ _; rfl
        exact hR'.put o.dst (.junk _)
      · cases h
    · cases h
  · cases h

/-- Setting the cells of a list one by one lays the list over. -/
theorem foldSet (off : Nat) : ∀ (l : List Value) (n : Nat) (cells : Array Value), off + n + l.length ≤ cells.size →
    (l.zipIdx n).foldl (fun (cs : Array Value) (q : Value × Nat) => cs.setIfInBounds (off + q.2) q.1) cells = overlay cells (off + n) l
  | [], n, cells, _ => by simp [overlay]
  | v :: l, n, cells, h => by
    simp only [List.length_cons] at h
    simp only [List.zipIdx_cons, List.foldl_cons]
    rw [foldSet off l (n + 1) _ (by simp; omega)]
    apply Array.ext
    · rw [overlay_size (by simp; omega), overlay_size (by simp; omega)]; simp
    · intro q h1 h2
      have e1 := overlay_get (vals := cells.setIfInBounds (off + n) v) (vs := l) (off := off + (n + 1)) (by simp; omega) q
      have e2 := overlay_get (vals := cells) (vs := v :: l) (off := off + n) (by simp; omega) q
      rw [Array.getD_eq_getD_getElem?, Array.getElem?_eq_getElem h1] at e1
      rw [Array.getD_eq_getD_getElem?, Array.getElem?_eq_getElem h2] at e2
      simp only [Option.getD_some] at e1 e2
      rw [e1, e2]
      have hq : q < cells.size := by rw [overlay_size (by simp; omega)] at h2; exact h2
      by_cases c1 : off + n = q
      · subst c1; rw [if_neg (by omega), if_pos (by simp)]; simp [hq]
      · by_cases c2 : off + (n + 1) ≤ q ∧ q < off + (n + 1) + l.length
        · rw [if_pos c2, if_pos (by simp; omega)]
          have : q - (off + n) = (q - (off + (n + 1))) + 1 := by omega
          rw [this]; simp [List.getD]
        · rw [if_neg c2, if_neg (by simp; omega)]
          simp [Array.getElem?_setIfInBounds_ne c1]

theorem fill_cons (place : Nat → Option (Nat × Nat)) (cells : Array Value) (i : Nat) (v : Value) (rest : List (Nat × Value)) {off size : Nat} (hp : place i = some (off, size))
    (h1 : v.cells.size = size) (h2 : off + size ≤ cells.size) : Instr.fill place cells ((i, v) :: rest) = Instr.fill place (overlay cells off v.cells.toList) rest := by
  simp only [Instr.fill, hp]
  rw [if_neg (by simp [h1]; omega)]
  have h3 := foldSet off v.cells.toList 0 cells (by simp; omega)
  simp only [Nat.add_zero] at h3
  rw [← h3]
  congr 1
  rw [← Array.foldl_toList]
  simp

theorem fill_rel (hR : Rel E σ g M a w) (hG : GOK env M) (place : Nat → Option (Nat × Nat)) : ∀ (parts : List (Nat × Operand)) (cs : List AVal) (vals : Array Value) (cs' : List AVal),
    vals.size = cs.length → (∀ j, j < cs.length → V g σ.dom M (cs.getD j .junk) (vals.getD j undef)) →
    afill place cs (parts.map fun q => (q.1, aeval env σ q.2)) = some cs' →
    ∃ vals' : Array Value, Instr.fill place vals (parts.map fun q => (q.1, a.eval q.2)) = some vals' ∧ vals'.size = cs'.length ∧ ∀ j, j < cs'.length → V g σ.dom M (cs'.getD j .junk) (vals'.getD j undef)
  | [], cs, vals, cs', hs, hv, h => by
    simp only [List.map_nil, afill] at h
    cases h
    exact ⟨vals, rfl, hs, hv⟩
  | (i, x) :: rest, cs, vals, cs', hs, hv, h => by
    simp only [List.map_cons, afill] at h
    split at h
    · cases h
    · rename_i off size hp
      split at h
      · rename_i hc
        obtain ⟨hc1, hc2, hc3⟩ := hc
        obtain ⟨hxs, hxv⟩ := V_cells (V_aeval (env := env) hR hG x) hc3
        have hvl : (a.eval x).cells.toList.length = (aeval env σ x).cells.length := by simp [hxs]
        obtain ⟨vals', h1, h2, h3⟩ := fill_rel hR hG place rest (splice cs off (aeval env σ x).cells) (overlay vals off (a.eval x).cells.toList) cs'
          (by rw [overlay_size (by rw [hvl]; omega), splice_length (by omega)]; exact hs) (fun j hj => by
            rw [splice_length (by omega)] at hj
            rw [splice_get (by omega), overlay_get (by rw [hvl]; omega), hvl]
            by_cases hcc : off ≤ j ∧ j < off + (aeval env σ x).cells.length
            · rw [if_pos hcc, if_pos hcc]
              have := (hxv (j - off) (by omega)).1
              have e1 : (a.eval x).cells.toList.getD (j - off) undef = (a.eval x).cells.getD (j - off) undef := by simp [List.getD]
              rw [e1]; exact this
            · rw [if_neg hcc, if_neg hcc]; exact hv j hj) h
        refine ⟨vals', ?_, h2, h3⟩
        simp only [List.map_cons]
        rw [fill_cons place vals i (a.eval x) _ hp (by omega) (by omega)]
        exact h1
      · cases h

theorem V_aggArr {D : Nat → Prop} {cs : List AVal} {vals : Array Value} (h : vals.size = cs.length) (hv : ∀ j, j < cs.length → V g D M (cs.getD j .junk) (vals.getD j undef)) :
    V g D M (.agg cs) (.agg vals) := by
  have := V.agg (g := g) (D := D) (M := M) cs vals.toList (by simp [h]) (fun i hi => by
    have e1 : vals.toList.getD i undef = vals.getD i undef := by simp [List.getD]
    rw [e1]; exact hv i hi)
  simpa using this

theorem run_places (w : World) (fs : Array Field) (h : ∀ f ∈ fs, 0 < tySize P f.type) :
    ((fs.mapM fun f => do pure (f.offset, ← sizeOf f.type) : Sem (Array (Nat × Nat)))).run P w = .ok (fs.map fun f => (f.offset, tySize P f.type)) w := by
  have key : ∀ (l : List Field), (∀ f ∈ l, 0 < tySize P f.type) →
      ((l.mapM fun f => do pure (f.offset, ← sizeOf f.type) : Sem (List (Nat × Nat)))).run P w = .ok (l.map fun f => (f.offset, tySize P f.type)) w := by
    intro l
    induction l with
    | nil => intro _; rfl
    | cons f r ih =>
      intro h
      rw [List.mapM_cons]
      simp only [Sem.run_bind, run_tySize w (h f (by simp)), Result.andThen, Sem.run_pure, ih (fun q hq => h q (by simp [hq])), List.map_cons]
  rw [Array.mapM_eq_mapM_toList, Sem.run_map, key fs.toList (by simpa using h)]
  simp only [Result.andThen]
  congr 1
  apply Array.ext'
  simp

theorem does_build (hR : Rel E σ g M a w) (hG : GOK env M) (hE : EnvOK P env) {t : TypeId} {parts : Array (Nat × Operand)} (ho : o.op = .build t parts)
    (h : aop env o.dst (aeval env σ) σ.obj o.op = some e) : Does P env o E σ g M a w e := by
  rw [ho] at h
  simp only [aop] at h
  split at h
  · rename_i ty ht
    split at h
    · rename_i z hz hk
      split at h
      · cases h
      · rename_i hpos
        obtain ⟨zv, hrun, rfl⟩ := ty_zero hE ht hz
        obtain ⟨fs, hu, hfs⟩ := ty_struct hE ht hk
        cases hf : afill (fun i => ty.fields[i]?) (zv.cells.toList.map absCell) (parts.toList.map fun q => (q.1, aeval env σ q.2)) with
        | none => rw [hf] at h; cases h
        | some cs =>
          rw [hf] at h
          cases h
          obtain ⟨vals, h1, h2, h3⟩ := fill_rel hR hG _ parts.toList _ zv.cells cs (by simp) (fun j hj => by
            simp at hj
            have : (zv.cells.toList.map absCell).getD j .junk = absCell (zv.cells.getD j undef) := by simp [List.getD, hj]
            rw [this]; exact V_absCell _ _ _ _) hf
          refine Does.pure hR (v := .agg vals) ?_ (V_aggArr h2 h3)
          have hpos' : ∀ f ∈ fs, 0 < tySize P f.type := fun f hf' => by
            simp only [Bool.not_eq_false] at hpos
            rw [hfs, List.all_eq_true] at hpos
            have := hpos (f.offset, tySize P f.type) (List.mem_map.2 ⟨f, by simpa using hf', rfl⟩)
            simpa using this
          simp only [execOp, ho, Instr.build, Sem.run_bind, hrun, Result.andThen, run_underlying' w hu, run_places w fs hpos']
          have hplace : (fun i : Nat => (fs.map fun f => (f.offset, tySize P f.type))[i]?) = fun i : Nat => ty.fields[i]? := by
            funext i; rw [hfs]; simp
          rw [hplace]
          simp only [Array.toList_map]
          rw [h1]
          rfl
    · rename_i z n hz hk
      split at h
      · cases h
      · rename_i hpos
        obtain ⟨zv, hrun, rfl⟩ := ty_zero hE ht hz
        obtain ⟨el, hu, hes⟩ := ty_array hE ht hk
        cases hf : afill (fun i => some (i * ty.eSize, ty.eSize)) (zv.cells.toList.map absCell) (parts.toList.map fun q => (q.1, aeval env σ q.2)) with
        | none => rw [hf] at h; cases h
        | some cs =>
          rw [hf] at h
          cases h
          obtain ⟨vals, h1, h2, h3⟩ := fill_rel hR hG _ parts.toList _ zv.cells cs (by simp) (fun j hj => by
            simp at hj
            have : (zv.cells.toList.map absCell).getD j .junk = absCell (zv.cells.getD j undef) := by simp [List.getD, hj]
            rw [this]; exact V_absCell _ _ _ _) hf
          refine Does.pure hR (v := .agg vals) ?_ (V_aggArr h2 h3)
          rw [hes] at h1 hpos
          simp only [execOp, ho, Instr.build, Sem.run_bind, hrun, Result.andThen, run_underlying' w hu, run_tySize w (Nat.pos_of_ne_zero hpos)]
          simp only [Array.toList_map]
          rw [h1]
          rfl
    · cases h
  · cases h
end
end Go.Abs
