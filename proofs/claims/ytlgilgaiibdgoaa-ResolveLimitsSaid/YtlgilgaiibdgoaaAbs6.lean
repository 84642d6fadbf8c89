/- Each abstract operation is what the model's operation does: cuts, structs, new memory, stores. No condition. -/
import Derived.Test.YtlgilgaiibdgoaaAbs5
set_option linter.unusedSimpArgs false
set_option linter.unusedVariables false
namespace Go.Abs
open Go
section ops
variable {P : Program} {env : Env} {o : Oper} {E : Ent} {σ : St} {g : Gh} {M : Mem} {a : Act} {w : World} {e : Eff}

theorem toList_two {α : Type} {xs : Array α} {x y : α} (h : xs.toList = [x, y]) : xs = #[x, y] := by
  cases xs; simp at h; subst h; rfl

/-- The cells of a value. -/
theorem V_cells {D : Nat → Prop} {x : AVal} {v : Value} (h : V g D M x v) (hc : x.cells.all AVal.isCell = true) :
    v.cells.size = x.cells.length ∧ ∀ j, j < x.cells.length → V g D M (x.cells.getD j .junk) (v.cells.getD j undef) ∧ (v.cells.getD j undef).oneCell' = true := by
  have key : ∀ y : AVal, V g D M y v → y.isCell = true → v.cells = #[v] := fun y hy hcell => by
    have := hy.oneCell hcell
    cases v <;> simp_all [Value.cells, Value.oneCell']
  cases x with
  | agg cs =>
    cases h with
    | agg _ vs hl hv =>
      simp only [AVal.cells, Value.cells] at *
      refine ⟨by simp [hl], fun j hj => ?_⟩
      have e1 : vs.toArray.getD j undef = vs.getD j undef := by simp [List.getD]
      rw [e1]
      refine ⟨hv j hj, (hv j hj).oneCell ?_⟩
      rw [List.all_eq_true] at hc
      exact hc _ (by simp [List.getD, hj])
  | _ =>
    first
    | (simp [AVal.cells, AVal.isCell] at hc; done)
    | (have e1 := key _ h rfl
       have h1 := h.oneCell rfl
       simp only [AVal.cells, e1]
       refine ⟨rfl, fun j hj => ?_⟩
       simp at hj
       subst hj
       exact ⟨h, h1⟩)

theorem splice_length {cs v : List AVal} {off : Nat} (h : off + v.length ≤ cs.length) : (splice cs off v).length = cs.length := by
  simp [splice]; omega

theorem splice_get {cs v : List AVal} {off : Nat} (h : off + v.length ≤ cs.length) (j : Nat) :
    (splice cs off v).getD j .junk = if off ≤ j ∧ j < off + v.length then v.getD (j - off) .junk else cs.getD j .junk := by
  simp only [splice, List.getD]
  by_cases h1 : j < off
  · rw [if_neg (by omega), List.append_assoc, List.getElem?_append_left (by simp; omega), List.getElem?_take]
    simp [h1]
  · by_cases h2 : j < off + v.length
    · rw [if_pos (by omega), List.append_assoc, List.getElem?_append_right (by simp; omega), List.getElem?_append_left (by simp; omega)]
      congr 2; simp; omega
    · rw [if_neg (by omega), List.getElem?_append_right (by simp; omega)]
      simp only [List.getElem?_drop, List.length_append, List.length_take]
      congr 2; omega

/-- An array of values with a piece laid over it. -/
def overlay (vals : Array Value) (off : Nat) (vs : List Value) : Array Value :=
  (vals.toList.take off ++ vs ++ vals.toList.drop (off + vs.length)).toArray

theorem overlay_size {vals : Array Value} {vs : List Value} {off : Nat} (h : off + vs.length ≤ vals.size) : (overlay vals off vs).size = vals.size := by
  simp [overlay]; omega

theorem overlay_get {vals : Array Value} {vs : List Value} {off : Nat} (h : off + vs.length ≤ vals.size) (j : Nat) :
    (overlay vals off vs).getD j undef = if off ≤ j ∧ j < off + vs.length then vs.getD (j - off) undef else vals.getD j undef := by
  have e0 : (overlay vals off vs).getD j undef = (vals.toList.take off ++ vs ++ vals.toList.drop (off + vs.length)).getD j undef := by simp [overlay, List.getD]
  have e1 : vals.getD j undef = vals.toList.getD j undef := by simp [List.getD]
  rw [e0, e1]
  simp only [List.getD]
  by_cases h1 : j < off
  · rw [if_neg (by omega), List.append_assoc, List.getElem?_append_left (by simp; omega), List.getElem?_take]
    simp [h1]
  · by_cases h2 : j < off + vs.length
    · rw [if_pos (by omega), List.append_assoc, List.getElem?_append_right (by simp; omega), List.getElem?_append_left (by simp; omega)]
      congr 2; simp; omega
    · rw [if_neg (by omega), List.getElem?_append_right (by simp; omega)]
      simp only [List.getElem?_drop, List.length_append, List.length_take]
      congr 2; simp; omega

/-- The world in which one block's cells are others. -/
def setBlk (w : World) (b : Nat) (vals : Array Value) (T : TypeId) : World := { w with heap := w.heap.setIfInBounds b (.cells vals T (0, 0)) }

theorem setBlk_heap (w : World) (b : Nat) (vals : Array Value) (T : TypeId) (hb : b < w.heap.size) (k : Nat) :
    (setBlk w b vals T).heap[k]? = if k = b then some (.cells vals T (0, 0)) else w.heap[k]? := by
  simp only [setBlk, Array.getElem?_setIfInBounds]
  by_cases hk : b = k
  · subst hk; simp [hb]
  · rw [if_neg hk, if_neg (fun h => hk h.symm)]

theorem run_storeCells (b : Nat) (T : TypeId) : ∀ (vs : List Value) (i off : Nat) (vals : Array Value) (w : World),
    w.heap[b]? = some (.cells vals T (0, 0)) → off + i + vs.length ≤ vals.size → (∀ v, v ∈ vs → v.oneCell' = true) →
    (storeCells ⟨b, off, none⟩ vs i).run P w = .ok () (setBlk w b (overlay vals (off + i) vs) T)
  | [], i, off, vals, w, hb, hsz, _ => by
    have e : setBlk w b (overlay vals (off + i) []) T = w := by
      have hlt : b < w.heap.size := (Array.getElem?_eq_some_iff.1 hb).1
      have h1 : overlay vals (off + i) [] = vals := by simp [overlay]
      rw [h1]
      unfold setBlk
      have : w.heap.setIfInBounds b (.cells vals T (0, 0)) = w.heap := by
        apply Array.ext'
        apply List.ext_getElem?
        intro k
        simp only [Array.getElem?_toList, Array.getElem?_setIfInBounds]
        by_cases hk : b = k
        · subst hk; simp [hlt, hb] at *; exact hb.symm
        · rw [if_neg hk]
      rw [this]
    rw [e]; rfl
  | v :: vs, i, off, vals, w, hb, hsz, hone => by
    have hlt : b < w.heap.size := (Array.getElem?_eq_some_iff.1 hb).1
    simp only [List.length_cons] at hsz
    have hcell : w.cell? ⟨b, off + i, none⟩ = some (vals.getD (off + i) undef) := by
      rw [cell_of_heap hb]
      have : off + i < vals.size := by omega
      simp [this]
    have hfz : w.frozen? ⟨b, off + i, none⟩ = false := by simp [World.frozen?, hb]
    have hset : w.setCell ⟨b, off + i, none⟩ v = setBlk w b (overlay vals (off + i) [v]) T := by
      unfold World.setCell setBlk
      congr 1
      apply Array.ext'
      apply List.ext_getElem?
      intro k
      simp only [Array.getElem?_toList, Array.getElem?_modify, Array.getElem?_setIfInBounds]
      by_cases hk : b = k
      · subst hk
        simp only [if_true, hb, Option.map_some, hlt]
        congr 1
        have : (vals.setIfInBounds (off + i) v) = overlay vals (off + i) [v] := by
          apply Array.ext
          · rw [overlay_size (by simp; omega)]; simp
          · intro q h1 h2
            have h3 : q < vals.size := by simpa using h1
            have e1 := overlay_get (vals := vals) (vs := [v]) (off := off + i) (by simp; omega) q
            rw [Array.getD_eq_getD_getElem?, Array.getElem?_eq_getElem h2] at e1
            simp only [Option.getD_some] at e1
            rw [e1, Array.getElem_setIfInBounds h3]
            by_cases hq : off + i = q
            · subst hq; simp
            · rw [if_neg hq, if_neg (by simp; omega)]
              simp [h3]
        simp [this]
      · simp [hk]
    have hhead : (store ((⟨b, off, none⟩ : Addr).add i) v).run P w = .ok () (setBlk w b (overlay vals (off + i) [v]) T) := by
      rw [add_none, run_store P w _ v _ (hone v (by simp)), hcell]
      simp only [hfz, Bool.false_eq_true, if_false, hset]
    simp only [storeCells, Sem.run_bind, hhead, Result.andThen]
    have hb2 : (setBlk w b (overlay vals (off + i) [v]) T).heap[b]? = some (.cells (overlay vals (off + i) [v]) T (0, 0)) := by
      rw [setBlk_heap w b _ T hlt]; simp
    have hs2 : (overlay vals (off + i) [v]).size = vals.size := overlay_size (by simp; omega)
    rw [run_storeCells b T vs (i + 1) off _ _ hb2 (by rw [hs2]; omega) (fun u hu => hone u (by simp [hu]))]
    congr 1
    have h1 : overlay (overlay vals (off + i) [v]) (off + (i + 1)) vs = overlay vals (off + i) (v :: vs) := by
      apply Array.ext
      · rw [overlay_size (by rw [hs2]; omega), hs2, overlay_size (by simp; omega)]
      · intro q h1 h2
        have e1 := overlay_get (vals := overlay vals (off + i) [v]) (vs := vs) (off := off + (i + 1)) (by rw [hs2]; omega) q
        have e2 := overlay_get (vals := vals) (vs := v :: vs) (off := off + i) (by simp; omega) q
        have e3 := overlay_get (vals := vals) (vs := [v]) (off := off + i) (by simp; omega) q
        rw [Array.getD_eq_getD_getElem?, Array.getElem?_eq_getElem h1] at e1
        rw [Array.getD_eq_getD_getElem?, Array.getElem?_eq_getElem h2] at e2
        simp only [Option.getD_some] at e1 e2
        rw [e1, e2, e3]
        by_cases c1 : off + i = q
        · subst c1; rw [if_neg (by omega), if_pos (by simp), if_pos (by simp)]; simp
        · by_cases c2 : off + (i + 1) ≤ q ∧ q < off + (i + 1) + vs.length
          · rw [if_pos c2, if_pos (by simp; omega)]
            have : q - (off + i) = (q - (off + (i + 1))) + 1 := by omega
            rw [this]; simp [List.getD]
          · rw [if_neg c2, if_neg (by simp; omega), if_neg (by simp; omega)]
    rw [h1]
    unfold setBlk
    simp
end ops
end Go.Abs
