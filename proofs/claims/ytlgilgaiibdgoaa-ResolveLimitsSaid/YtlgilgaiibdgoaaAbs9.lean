/- Each abstract operation is what the model's operation does: slice literals, cuts, append. No condition. -/
import Derived.Test.YtlgilgaiibdgoaaAbs8
set_option linter.unusedSimpArgs false
set_option linter.unusedVariables false
namespace Go.Abs
open Go
section
variable {P : Program} {env : Env} {o : Oper} {E : Ent} {σ : St} {g : Gh} {M : Mem} {a : Act} {w : World} {e : Eff}

theorem V_toP {D : Nat → Prop} {x : AVal} {p : PVal} {v : Value} (h : V g D M x v) (hp : x.toP = some p) : Rd M p v := by
  cases x <;> simp only [AVal.toP, Option.some.injEq, reduceCtorEq] at hp
  · subst hp; exact h.pv_inv
  · subst hp; cases h; exact .nils

theorem toPs_length : ∀ {cs : List AVal} {ps : List PVal}, toPs cs = some ps → ps.length = cs.length
  | [], ps, h => by cases h; rfl
  | c :: r, ps, h => by
    simp only [toPs] at h
    split at h
    · rename_i p qs h1 h2
      cases h
      simp [toPs_length h2]
    · cases h

theorem toPs_get : ∀ {cs : List AVal} {ps : List PVal}, toPs cs = some ps → ∀ j, j < cs.length → (cs.getD j .junk).toP = some (ps.getD j .nilptr)
  | [], ps, h, j, hj => by simp at hj
  | c :: r, ps, h, j, hj => by
    simp only [toPs] at h
    split at h
    · rename_i p qs h1 h2
      cases h
      cases j with
      | zero => simpa [List.getD] using h1
      | succ j =>
        have := toPs_get h2 j (by simpa using hj)
        simpa [List.getD] using this
    · cases h

theorem toP_isCell {x : AVal} {p : PVal} (h : x.toP = some p) : x.isCell = true := by
  cases x <;> simp [AVal.toP] at h <;> rfl

theorem toPs_all {cs : List AVal} {ps : List PVal} (h : toPs cs = some ps) : cs.all AVal.isCell = true := by
  rw [List.all_eq_true]
  intro x hx
  obtain ⟨j, hj, rfl⟩ := List.mem_iff_getElem.1 hx
  have := toPs_get h j hj
  rw [List.getD_eq_getElem?_getD, List.getElem?_eq_getElem hj] at this
  exact toP_isCell this

theorem pcell_cons_zero (x : List PVal) (xs : List (List PVal)) (j : Nat) : pcell (x :: xs) 0 j = x.getD j .nilptr := by simp [pcell, List.getD]
theorem pcell_cons_succ (x : List PVal) (xs : List (List PVal)) (i j : Nat) : pcell (x :: xs) (i + 1) j = pcell xs i j := by simp [pcell, List.getD]

theorem fill_rows (hR : Rel E σ g M a w) (hG : GOK env M) (sz : Nat) : ∀ (parts : List (Nat × Operand)) (k : Nat) (vals : Array Value) (xs : List (List PVal)),
    arows sz k (parts.map fun q => (q.1, aeval env σ q.2)) = some xs → k * sz + parts.length * sz ≤ vals.size →
    xs.length = parts.length ∧ (∀ x, x ∈ xs → x.length = sz) ∧ ∃ vals' : Array Value, Instr.fill (fun i => some (i * sz, sz)) vals (parts.map fun q => (q.1, a.eval q.2)) = some vals' ∧ vals'.size = vals.size ∧
      (∀ q, q < k * sz → vals'.getD q undef = vals.getD q undef) ∧ ∀ i j, i < xs.length → j < sz → Rd M (pcell xs i j) (vals'.getD ((k + i) * sz + j) undef)
  | [], k, vals, xs, h, hs => by
    simp only [List.map_nil, arows] at h
    cases h
    exact ⟨rfl, by simp, vals, rfl, rfl, fun _ _ => rfl, fun i j hi => by simp at hi⟩
  | (i, x) :: rest, k, vals, xs, h, hs => by
    simp only [List.map_cons, arows] at h
    split at h
    · rename_i hc
      obtain ⟨rfl, hlen⟩ := hc
      split at h
      · rename_i ps r hps hr
        cases h
        have hcell := toPs_all hps
        obtain ⟨hxs, hxv⟩ := V_cells (V_aeval (env := env) hR hG x) hcell
        have hvl : (a.eval x).cells.toList.length = sz := by simp [hxs, hlen]
        simp only [List.length_cons] at hs
        have e3 : (rest.length + 1) * sz = rest.length * sz + sz := by rw [Nat.add_mul, Nat.one_mul]
        have e4 : (i + 1) * sz = i * sz + sz := by rw [Nat.add_mul, Nat.one_mul]
        have hos : (overlay vals (i * sz) (a.eval x).cells.toList).size = vals.size := overlay_size (by rw [hvl]; omega)
        obtain ⟨h1, h2, vals', h3, h4, h5, h6⟩ := fill_rows hR hG sz rest (i + 1) (overlay vals (i * sz) (a.eval x).cells.toList) r hr (by rw [hos]; omega)
        refine ⟨by simp [h1], ?_, vals', ?_, by rw [h4, hos], ?_, ?_⟩
        · intro y hy
          rcases List.mem_cons.1 hy with rfl | hy
          · rw [toPs_length hps]; exact hlen
          · exact h2 y hy
        · simp only [List.map_cons]
          rw [fill_cons _ vals i (a.eval x) _ rfl (by omega) (by omega)]
          exact h3
        · intro q hq
          rw [h5 q (by omega), overlay_get (by rw [hvl]; omega), if_neg (by omega)]
        · intro i' j hi hj
          cases i' with
          | zero =>
            rw [pcell_cons_zero, Nat.add_zero, h5 _ (by omega), overlay_get (by rw [hvl]; omega), if_pos (by rw [hvl]; omega)]
            have e1 : i * sz + j - i * sz = j := by omega
            rw [e1]
            have e2 : (a.eval x).cells.toList.getD j undef = (a.eval x).cells.getD j undef := by simp [List.getD]
            rw [e2]
            exact V_toP (hxv j (by omega)).1 (toPs_get hps j (by omega))
          | succ i' =>
            rw [pcell_cons_succ]
            have := h6 i' j (by simpa using hi) hj
            have e1 : i + (i' + 1) = i + 1 + i' := by omega
            rw [e1]; exact this
      · cases h
    · cases h

theorem ez_run {el : TypeId} (h : tyEZ P el = true) : ∃ z : Value, (∀ w, (zeroValue el).run P w = .ok z w) ∧ z.cells.size = tySize P el := by
  unfold tyEZ at h
  split at h
  · rename_i zl hzl
    unfold tyZero at hzl
    split at hzl
    · rename_i i hi
      split at hzl
      · rename_i z hz
        cases hzl
        exact ⟨z, fun w => by simp [zeroValue, run_typeInfo' w hi, hz], by simpa using h⟩
      · cases hzl
    · cases hzl
  · cases h

/-- A new block that nobody will write. -/
theorem Rel.allocM (hR : Rel E σ g M a w) (vals : Array Value) (T : TypeId) :
    let M' : Mem := fun b i => if b = w.heap.size then vals[i]? else M b i
    Mem.le M M' ∧ Rel E σ g M' a (w.alloc (.cells vals T)) := by
  intro M'
  have hlt : ∀ b i u, M b i = some u → b < w.heap.size := fun b i u hu => by
    have := World.block_lt_of_cell? _ _ (hR.sat b i u hu); simpa using this
  have hM : Mem.le M M' := fun b i u hu => by
    have := hlt b i u hu
    simp only [M']
    rw [if_neg (by omega)]; exact hu
  have hheap : ∀ b, b < w.heap.size → (w.alloc (.cells vals T)).heap[b]? = w.heap[b]? := fun b hb => by
    show (w.heap.push _)[b]? = _
    rw [Array.getElem?_push, if_neg (by omega)]
  refine ⟨hM, hR.size, hR.defers, fun i hi => (hR.slots i hi).mono (fun _ _ => Gh.agree_refl _ _) (fun _ h => h) hM, fun id ob ho => ?_, hR.apart, fun id ob b ho hb i => ?_, fun b i u hu => ?_, fun b i u hu => hM b i u (hR.M0 b i u hu), fun b i hb hB => ?_, ?_, fun b hb hB => ?_, hR.own0, hR.os, hR.tape, hR.output⟩
  · exact (hR.objs id ob ho).keep (fun _ _ => Gh.agree_refl _ _) (Gh.agree_refl _ _) (fun _ h => h) hM (fun b hb => hheap b (owns_lt (hR.objs id ob ho) hb))
  · have := owns_lt (hR.objs id ob ho) hb
    simp only [M']
    rw [if_neg (by omega)]; exact hR.offM id ob b ho hb i
  · simp only [M'] at hu
    split at hu
    · rename_i hb
      subst hb
      rw [← hu]
      exact World.cell?_alloc_new w vals T i
    · rw [← hR.sat b i u hu]
      unfold World.cell?
      simp only [hheap b (hlt b i u hu)]
  · have := hR.size0
    simp only [M']
    rw [if_neg (by omega)]; exact hR.Mnew b i hb hB
  · have := hR.size0; simp; omega
  · rw [hheap b (Nat.lt_of_lt_of_le hb hR.size0)]; exact hR.same b hb hB

theorem does_buildSlice (hR : Rel E σ g M a w) (hG : GOK env M) (hE : EnvOK P env) {t : TypeId} {len : Nat} {parts : Array (Nat × Operand)} (ho : o.op = .buildSlice t len parts)
    (h : aop env o.dst (aeval env σ) σ.obj o.op = some e) : Does P env o E σ g M a w e := by
  rw [ho] at h
  simp only [aop] at h
  split at h
  · rename_i ty ht
    split at h
    · rename_i hk
      split at h
      · rename_i hc
        obtain ⟨hc1, hc2, hc3, hc4⟩ := hc
        split at h
        · rename_i xs hxs
          cases h
          obtain ⟨el, hu, hes, _, hez⟩ := ty_slice hE ht hk
          obtain ⟨z, hz, _⟩ := ez_run (hez ▸ hc4)
          have hpos : 0 < tySize P el := by rw [← hes]; exact hc1
          obtain ⟨zc, hz1, hz2⟩ : ∃ zc : Array Value, (len * tySize P el = 0 → zc = #[]) ∧ (len * tySize P el ≠ 0 → zc = z.cells) := by
            by_cases h0 : len * tySize P el = 0
            · exact ⟨#[], fun _ => rfl, fun h => absurd h0 h⟩
            · exact ⟨z.cells, fun h => absurd h h0, fun _ => rfl⟩
          have hvsz : ((Array.range (len * tySize P el)).map (zc[· % zc.size]!)).size = len * tySize P el := by simp
          obtain ⟨h1, h2, vals, h3, h4, _, h6⟩ := fill_rows hR hG ty.eSize parts.toList 0 ((Array.range (len * tySize P el)).map (zc[· % zc.size]!)) xs hxs (by
            rw [hvsz, ← hes]; simp [hc2])
          have hxl : xs.length = len := by rw [h1]; simp [hc2]
          have hrun : (execOp a.eval o).run P w = .ok (.value (.slice (some ⟨w.heap.size, 0, none⟩) len len)) (w.alloc (.cells vals el)) := by
            rw [hes] at h3 hc3
            have hno : ¬ (len * tySize P el > 2 ^ 24) := by omega
            simp only [execOp, ho, Instr.buildSlice, Sem.run_bind, run_underlying' w hu, Result.andThen, run_tySize w hpos]
            rw [if_neg hno]
            by_cases h0 : len * tySize P el = 0
            · obtain rfl := hz1 h0
              rw [if_pos h0]
              simp only [Sem.run_bind, Sem.run_pure, Result.andThen, Array.toList_map]
              rw [h3]
              simp [newRow]
            · obtain rfl := hz2 h0
              rw [if_neg h0]
              simp only [Sem.run_bind, Sem.run_pure, Result.andThen, Array.toList_map, hz]
              rw [h3]
              simp [newRow]
          obtain ⟨hM, hR'⟩ := hR.allocM vals el
          refine ⟨_, _, _, g, _, hrun, .inl rfl, hR'.put o.dst (.pv ?_), fun _ _ => Gh.agree_refl _ _, hM⟩
          have e0 : Value.slice (some ⟨w.heap.size, 0, none⟩) len len = .slice (some ⟨w.heap.size, 0, none⟩) xs.length len := by rw [hxl]
          rw [e0]
          refine .slice xs ty.eSize w.heap.size 0 len (fun i j => vals.getD (i * ty.eSize + j) undef) h2 (fun i j hi hj => ?_) (fun i j hi hj => ?_) (by omega)
          · have hlt : i * ty.eSize + j < vals.size := by
              have : (i + 1) * ty.eSize ≤ len * ty.eSize := Nat.mul_le_mul_right _ (by omega)
              rw [Nat.add_mul] at this
              rw [h4, hvsz, ← hes]; omega
            simp only [if_true, Nat.zero_add]
            simp [hlt]
          · have := h6 i j hi hj
            rw [Nat.zero_add] at this
            exact this.mono hM
        · cases h
      · cases h
    · cases h
  · cases h
end
end Go.Abs
