/- The abstract append is what the model's append does, joined. No condition. -/
import Derived.Test.YtlgilgaiibdgoaaAbs11m
set_option linter.unusedSimpArgs false
set_option linter.unusedVariables false
namespace Go.Abs
open Go
section
variable {P : Program} {env : Env} {o : Oper} {E : Ent} {σ : St} {g : Gh} {M : Mem} {a : Act} {w : World} {e : Eff}

theorem run_append_op {x y : Operand} {t t' : TypeId} {v : Value} {w' : World} (ho : o.op = .call ⟨.builtin .append, #[x, y], #[t, t']⟩)
    (h : (Builtin.append_ #[t, t'] o.type #[a.eval x, a.eval y]).run P w = .ok v w') : (execOp a.eval o).run P w = .ok (.value v) w' := by
  simp only [execOp, ho, resolve, Sem.run_bind, Sem.run_pure, Result.andThen, invoke, builtin]
  simp only [List.map_toArray, List.map_cons, List.map_nil, h]

theorem heap_drew_alloc (w : World) (o : Obj) (b : Nat) (h : b < w.heap.size) : (w.drew.alloc o).heap[b]? = w.heap[b]? := by
  show (w.heap.push o)[b]? = _
  rw [Array.getElem?_push, if_neg (by omega)]

theorem zeroCells_size (z : Array Value) (n : Nat) : (Builtin.zeroCells z n).size = n * z.size := by simp [Builtin.zeroCells]

/-- Append to a slice value whose row is nil or owned. -/
theorem does_append_core (hR : Rel E σ g M a w) (hG : GOK env M) (hE : EnvOK P env) (hl : σ.objs.length = env.nobj) {x y : Operand} {t t' : TypeId} (ho : o.op = .call ⟨.builtin .append, #[x, y], #[t, t']⟩)
    {d : Nat} (hd : o.dst = some d) {ty ty' : Ty} (ht : env.ty t = some ty) (ht' : env.ty t' = some ty') (hk : ty.kind = .slice) (hk' : ty'.kind = .slice) {ys xs : List (List PVal)}
    (hsrc : srcRows σ.obj (aeval env σ y) = some ys) (hsite : env.site d < env.nobj) (hn : σ.obj (env.site d) = none) (hby : 0 < ty.eBytes) (hpos : 0 < ty.eSize)
    (hroom : roomOk (xs.length + ys.length) ty.eBytes = true) (hys : (ys.all fun y => y.length == ty.eSize) = true) (hez : ty.eZero = true) (hxs : ∀ x, x ∈ xs → x.length = ty.eSize)
    (C : Nat → Prop) (σ1 : St) (hσ1s : σ1.slots = σ.slots) (hσ1l : σ1.objs.length = σ.objs.length) (hun : ∀ i, ¬ C i → σ1.obj i = σ.obj i) (hdead : ∀ i, C i → σ1.obj i = some .dead) (hCid : ¬ C (env.site d))
    (hx : (a.eval x = .slice none 0 0 ∧ xs = []) ∨ ∃ id, C id ∧ σ.obj id = some (.row ty.eSize xs) ∧ g.ν id = false ∧ a.eval x = .slice (some ⟨g.ρ id, 0, none⟩) xs.length (g.κ id)) :
    ∃ v w' g' M', (execOp a.eval o).run P w = .ok (.value v) w' ∧ Rel E ((σ1.set (env.site d) (.row ty.eSize (xs ++ ys))).app o.dst ⟨.row (env.site d) (xs.length + ys.length), []⟩) g' M' (a.put o.dst v) w' ∧
      (∀ i, σ.dom i → g.agree g' i) ∧ Mem.le M M' := by
  obtain ⟨el, hu, hes, heb, hezz⟩ := ty_slice hE ht hk
  obtain ⟨el', hu', _⟩ := ty_slice hE ht' hk'
  have hys' : ∀ y, y ∈ ys → y.length = ty.eSize := fun y hy => by
    rw [List.all_eq_true] at hys
    simpa using hys y hy
  have hall : ∀ x, x ∈ xs ++ ys → x.length = ty.eSize := fun x hx => by
    rcases List.mem_append.1 hx with h | h
    · exact hxs x h
    · exact hys' x h
  obtain ⟨ad, cap, hyv, cells, hcl, hfc, hrd, hone⟩ := src_cells (P := P) hR hG hsrc ty.eSize hys'
  have hposP : 0 < tySize P el := by rw [← hes]; exact hpos
  have hbyP : 0 < tyBytes P el := by rw [← heb]; exact hby
  have hroomP : (xs.length + ys.length) * tyBytes P el ≤ 140737488355328 := by
    rw [← heb]; simpa [roomOk] using hroom
  obtain ⟨z, hz, hzsz⟩ := ez_run (P := P) (el := el) (hezz ▸ hez)
  have hmul : ∀ i n, i < n → i * ty.eSize + ty.eSize ≤ n * ty.eSize := fun i n h => by
    have : (i + 1) * ty.eSize ≤ n * ty.eSize := Nat.mul_le_mul_right _ h
    rw [Nat.add_mul] at this; omega
  -- where there is no room
  have grow : ∀ (base : Option Addr) (sCap : Nat) (old : List Value), a.eval x = .slice base xs.length sCap → ¬ xs.length + ys.length ≤ sCap → old.length = xs.length * ty.eSize →
      (∀ w' : World, w'.heap = w.heap → (Builtin.firstCells ty.eSize xs.length (.slice base xs.length sCap)).run P w' = .ok old.toArray w') →
      (∀ i j, i < xs.length → j < ty.eSize → Rd M (pcell xs i j) (old.getD (i * ty.eSize + j) undef)) → 
      ∃ v w' g' M', (execOp a.eval o).run P w = .ok (.value v) w' ∧ Rel E ((σ1.set (env.site d) (.row ty.eSize (xs ++ ys))).app o.dst ⟨.row (env.site d) (xs.length + ys.length), []⟩) g' M' (a.put o.dst v) w' ∧
        (∀ i, σ.dom i → g.agree g' i) ∧ Mem.le M M' := by
    intro base sCap old hv hfit hol hold hord
    rw [hes] at hold
    obtain ⟨newCap, hnc, hrun⟩ := run_append_grows (ty := o.type) hu hu' hposP hbyP hz hyv hfit hroomP (cells := cells) (old := old) (fun w' hw' => by
      rw [← hes]; exact hfc w' (fun b _ => by rw [hw'])) hold
    have hrun' := run_append_op ho (by rw [hv]; exact hrun)
    obtain ⟨g', M', h1, h2, h3⟩ := does_appendTo (n := xs.length + ys.length) (sz := ty.eSize) (zs := xs ++ ys) (b := w.heap.size) (c := newCap) (nu := false) hR hl hd hsite hn C σ1 hσ1s hσ1l hun hdead hCid (by simp) hall hrun' rfl rfl rfl (by
        show w.heap.size ≤ (w.heap.push _).size
        simp) (fun b hb _ => heap_drew_alloc _ _ _ hb) (.inl ⟨rfl, rfl⟩) (fun _ => .inl (Nat.le_refl _)) (fun _ => by
      refine ⟨_, el, heap_alloc_new w.drew _, hnc, ?_, fun i j hi hj => ?_⟩
      · rw [Array.size_append, Array.size_append, zeroCells_size]
        simp only [List.size_toArray, hol, hcl]
        rw [hzsz, ← hes, ← Nat.add_mul, ← Nat.add_mul]
        exact Nat.mul_le_mul_right _ (by omega)
      · have hlt : i * ty.eSize + j < old.length + cells.length := by
          rw [hol, hcl, ← Nat.add_mul]; have := hmul i _ hi; omega
        rw [append_get _ _ _ _ hlt, pcell_append, hol]
        by_cases hix : i < xs.length
        · have := hmul i _ hix
          rw [if_pos hix, if_pos (by omega)]
          exact hord i j hix hj
        · have h5 : xs.length * ty.eSize ≤ i * ty.eSize := Nat.mul_le_mul_right _ (by omega)
          rw [if_neg hix, if_neg (by omega)]
          have e1 : i * ty.eSize + j - xs.length * ty.eSize = (i - xs.length) * ty.eSize + j := by
            rw [Nat.sub_mul]; omega
          rw [e1]
          exact hrd (i - xs.length) j (by omega) hj)
    exact ⟨_, _, g', M', hrun', h1, h2, h3⟩
  rcases hx with ⟨hv, rfl⟩ | ⟨id, hCi, hob, hnu, hv⟩
  · by_cases hy0 : ys.length = 0
    · have hyn : ys = [] := List.eq_nil_of_length_eq_zero hy0
      subst hyn
      have hcn : cells = [] := List.eq_nil_of_length_eq_zero (by simpa using hcl)
      subst hcn
      have hrun := run_append_fits (P := P) (ty := o.type) (base := none) (sLen := 0) (sCap := 0) hu hu' hposP hyv (by simp) (w := w) (w1 := w) (cells := []) (by rw [← hes]; exact hfc w (fun _ _ => rfl)) (fun b hb => by cases hb) (fun _ => rfl)
      have hrun' := run_append_op ho (by rw [hv]; exact hrun)
      obtain ⟨g', M', h1, h2, h3⟩ := does_appendTo (n := 0) (sz := ty.eSize) (zs := []) (b := 0) (c := 0) (nu := true) hR hl hd hsite hn C σ1 hσ1s hσ1l hun hdead hCid rfl (by simp) hrun' rfl rfl rfl (Nat.le_refl _) (fun _ _ _ => rfl) (.inr ⟨rfl, rfl, rfl⟩) (fun h => by cases h) (fun h => by cases h)
      exact ⟨_, _, g', M', hrun', h1, h2, h3⟩
    · exact grow none 0 [] (by simpa using hv) (by simp only [List.length_nil]; omega) (by simp) (fun w' _ => rfl) (fun i j hi => by simp at hi)
  · obtain ⟨_, _, hrw⟩ := hR.objs id _ hob
    obtain ⟨vals, T, hh, h4, h5, h6⟩ := hrw hnu
    have hblt : g.ρ id < w.heap.size := (Array.getElem?_eq_some_iff.1 hh).1
    by_cases hfit : xs.length + ys.length ≤ g.κ id
    · have hle : (xs.length + ys.length) * ty.eSize ≤ g.κ id * ty.eSize := Nat.mul_le_mul_right _ hfit
      rw [Nat.add_mul] at hle
      have hst := run_storeCells (P := P) (g.ρ id) T cells 0 (xs.length * ty.eSize) vals w hh (by rw [hcl]; omega) hone
      have hrun := run_append_fits (P := P) (ty := o.type) (base := some ⟨g.ρ id, 0, none⟩) (sLen := xs.length) (sCap := g.κ id) hu hu' hposP hyv hfit (w := w) (cells := cells) (by rw [← hes]; exact hfc w (fun _ _ => rfl))
        (fun b hb => by cases hb; rw [add_none, Nat.zero_add, ← hes]; exact hst) (fun h => by cases h)
      have hrun' := run_append_op ho (by rw [hv]; exact hrun)
      have hos : (overlay vals (xs.length * ty.eSize + 0) cells).size = vals.size := overlay_size (by rw [hcl]; omega)
      obtain ⟨g', M', h1, h2, h3⟩ := does_appendTo (n := xs.length + ys.length) (sz := ty.eSize) (zs := xs ++ ys) (b := g.ρ id) (c := g.κ id) (nu := false) hR hl hd hsite hn C σ1 hσ1s hσ1l hun hdead hCid (by simp) hall hrun' rfl rfl rfl (by simp [setBlk])
        (fun b hb hno => by rw [setBlk_heap w _ _ T hblt, if_neg (fun hbe => hno id _ hCi hob (by simp [owns, hnu, hbe]))]) (.inl ⟨rfl, rfl⟩) (fun _ => .inr ⟨id, _, hCi, hob, by simp [owns, hnu]⟩) (fun _ => by
          refine ⟨_, T, by rw [setBlk_heap w _ _ T hblt, if_pos rfl], hfit, by rw [hos]; exact h5, fun i j hi hj => ?_⟩
          rw [overlay_get (by rw [hcl]; omega), pcell_append, hcl]
          by_cases hix : i < xs.length
          · have := hmul i _ hix
            rw [if_pos hix, if_neg (by omega)]
            exact h6 i j hix hj
          · have h7 : xs.length * ty.eSize ≤ i * ty.eSize := Nat.mul_le_mul_right _ (by omega)
            have h8 := hmul i _ hi
            rw [Nat.add_mul] at h8
            rw [if_neg hix, if_pos (by omega)]
            have e1 : i * ty.eSize + j - (xs.length * ty.eSize + 0) = (i - xs.length) * ty.eSize + j := by
              rw [Nat.sub_mul]; omega
            rw [e1]
            exact hrd (i - xs.length) j (by omega) hj)
      exact ⟨_, _, g', M', hrun', h1, h2, h3⟩
    · refine grow (some ⟨g.ρ id, 0, none⟩) (g.κ id) ((List.range (xs.length * ty.eSize)).map fun q => vals.getD q undef) hv hfit (by simp) (fun w' hw' => ?_) (fun i j hi hj => ?_)
      · simp only [Builtin.firstCells]
        have hle : xs.length * ty.eSize ≤ g.κ id * ty.eSize := Nat.mul_le_mul_right _ h4
        rw [run_loadCells w' ⟨g.ρ id, 0, none⟩ (xs.length * ty.eSize) (fun q => vals.getD q undef) (fun q hq => by
          rw [add_none, Nat.zero_add]
          have hh' : w'.heap[g.ρ id]? = some (.cells vals T (0, 0)) := by rw [hw']; exact hh
          rw [cell_of_heap hh']
          have : q < vals.size := by omega
          simp [this])]
      · have := hmul i _ hi
        have e1 : ((List.range (xs.length * ty.eSize)).map fun q => vals.getD q undef).getD (i * ty.eSize + j) undef = vals.getD (i * ty.eSize + j) undef := by
          have hlt : i * ty.eSize + j < xs.length * ty.eSize := by omega
          simp only [List.getD_eq_getElem?_getD, List.getElem?_map, List.getElem?_range hlt, Option.map_some, Option.getD_some]
        rw [e1]; exact h6 i j hi hj

theorem does_append (hR : Rel E σ g M a w) (hG : GOK env M) (hE : EnvOK P env) (hl : σ.objs.length = env.nobj) {args : Array Operand} {tys : Array TypeId} (ho : o.op = .call ⟨.builtin .append, args, tys⟩)
    (h : aop env o.dst (aeval env σ) σ.obj o.op = some e) : Does P env o E σ g M a w e := by
  rw [ho] at h
  simp only [aop] at h
  split at h
  · rename_i x y t t' d hargs htys hd
    have e1 := toList_two hargs
    have e2 := toList_two htys
    subst e1 e2
    have hx := V_aeval (env := env) hR hG x
    split at h
    · rename_i ty ty' ht ht' hn
      split at h
      · rename_i ys hk hk' hsrc
        split at h
        · rename_i hx'
          split at h
          · rename_i hc
            obtain ⟨c1, c2, c3, c4, c5, c6, c7⟩ := hc
            cases h
            rw [hx'] at hx
            generalize hv : a.eval x = v at hx
            cases hx
            obtain ⟨v, w', g', M', h1, h2, h3, h4⟩ := does_append_core (xs := []) hR hG hE hl ho hd ht ht' hk hk' hsrc c1 hn c2 c3 (by simpa using c5) c6 c7 (by simp) (fun _ => False) σ rfl rfl (fun _ _ => rfl) (fun _ h => h.elim) (fun h => h) (.inl ⟨hv, rfl⟩)
            refine ⟨_, v, w', g', M', h1, .inl rfl, ?_, h3, h4⟩
            rw [app_one]
            simpa using h2
          · cases h
        · rename_i id n hx'
          split at h
          · rename_i sz xs hob
            split at h
            · rename_i hc
              obtain ⟨c1, c2, c3, c4, rfl, c6, c7, c8, c9, c10⟩ := hc
              cases h
              rw [hx'] at hx
              obtain ⟨r1, r2, _⟩ := hR.objs id _ hob
              have hlen := dom_of_some hob
              have hxx : (a.eval x = .slice none 0 0 ∧ xs = []) ∨ ∃ i, i = id ∧ σ.obj i = some (.row ty.eSize xs) ∧ g.ν i = false ∧ a.eval x = .slice (some ⟨g.ρ i, 0, none⟩) xs.length (g.κ i) := by
                generalize hv : a.eval x = v at hx
                cases hx with
                | rown _ _ hnu => exact .inl ⟨rfl, r2 hnu⟩
                | row _ _ _ hnu => exact .inr ⟨id, rfl, hob, hnu, by rw [c4]⟩
              obtain ⟨v, w', g', M', h1, h2, h3, h4⟩ := does_append_core (xs := xs) hR hG hE hl ho hd ht ht' hk hk' hsrc c1 hn c3 c6 c8 c9 c10 r1 (fun i => i = id) (σ.set id .dead) rfl (by simp [St.set]) (fun i hi => St.obj_set_ne (fun e => hi e.symm))
                (fun i hi => by rw [hi]; exact St.obj_set_self hlen) c2 hxx
              refine ⟨_, v, w', g', M', h1, .inl rfl, ?_, h3, h4⟩
              rw [app_two]
              subst c4
              exact h2
            · cases h
          · cases h
        · cases h
      · cases h
    · cases h
  · cases h

/-- Every abstract operation is what the model's operation does. -/
theorem aop_does (hR : Rel E σ g M a w) (hG : GOK env M) (hE : EnvOK P env) (hl : σ.objs.length = env.nobj)
    (h : aop env o.dst (aeval env σ) σ.obj o.op = some e) : Does P env o E σ g M a w e := by
  cases ho : o.op with
  | move x => rw [ho] at h; simp only [aop, Option.some.injEq] at h; exact does_move hR hG (.inl ho) h.symm
  | assign x => rw [ho] at h; simp only [aop, Option.some.injEq] at h; exact does_move hR hG (.inr ho) h.symm
  | pick c x y => exact does_pick hR hG ho h
  | alloc t => exact does_alloc hR hE hl ho h
  | box t x => exact does_box hR hG hl ho h
  | build t ps => exact does_build hR hG hE ho h
  | buildSlice t n ps => exact does_buildSlice hR hG hE ho h
  | load t p => exact does_load hR hG hE ho h
  | store t p x => exact does_store hR hG hE ho h
  | nilCheck x => exact does_nilCheck hR hG ho h
  | binOp op t x y t' => exact does_binOp hR hG hE ho h
  | unOp op t x => exact does_unOp hR hG ho h
  | convert s d x => exact does_convert hR hG hE ho h
  | fieldAddr s x k => exact does_fieldAddr hR hG hE ho h
  | indexAddr t x i => exact does_indexAddr hR hG hE ho h
  | index t x i => exact does_index hR hG hE ho h
  | extract x k => exact does_extract hR hG ho h
  | makeMap t r => exact does_makeMap hR hE hl ho h
  | lookup t x k ok => exact does_lookup hR hG hE ho h
  | mapUpdate t m k x => exact does_mapUpdate hR hG hE ho h
  | slice t x lo hi mx => exact does_slice hR hG hE ho h
  | call c =>
    obtain ⟨cl, args, tys⟩ := c
    cases cl with
    | builtin b =>
      cases b with
      | len => exact does_len hR hG hE ho h
      | max => exact does_max hR hG ho h
      | min => exact does_min hR hG ho h
      | append => exact does_append hR hG hE hl ho h
      | _ => rw [ho] at h; simp [aop] at h
    | value f => rw [ho] at h; simp [aop] at h
    | invoke r m => rw [ho] at h; simp [aop] at h
  | _ => rw [ho] at h; simp [aop] at h
end
end Go.Abs
