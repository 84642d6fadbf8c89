/- A nil slice in a cell of a box is an empty row. No condition. -/
import Derived.Test.YtlgilgaiibdgoaaAbs22
set_option linter.unusedSimpArgs false
set_option linter.unusedVariables false
namespace Go.Abs
open Go
variable {env : Env} {pin : Nat} {σ : St}

theorem Rel.nilRow1 {E : Ent} {g : Gh} {M : Mem} {a : Act} {w : World} (id sz : Nat) (hn : σ.obj id = none) (hlt : id < σ.objs.length) (hR : Rel E σ g M a w) : Rel E (σ.set id (.row sz [])) (g.set id 0 0 true) M a w := by
  have hne : ∀ i, σ.dom i → i ≠ id := fun i hi e => hi (by rw [e]; exact hn)
  have hag : ∀ i, σ.dom i → g.agree (g.set id 0 0 true) i := fun i hi => Gh.set_agree (hne i hi)
  have hself : (σ.set id (.row sz [])).obj id = some (.row sz []) := St.obj_set_self hlt
  refine hR.update (fun i => i = id) rfl (fun i hi => St.obj_set_ne (fun e => hi e.symm)) (fun i hi => dom_set i hi) hag ?_ (fun _ _ _ => rfl) ?_ ?_ (Nat.le_refl _) rfl rfl rfl
  · rintro i ob rfl ho
    rw [hself] at ho
    cases ho
    exact ⟨by simp, fun _ => rfl, fun h => by simp [Gh.set] at h⟩
  · rintro i ob b rfl ho hb
    rw [hself] at ho
    cases ho
    simp [owns, Gh.set] at hb
  · rintro i i' _ _ _ rfl rfl _ _ _ _; rfl

theorem Weak.nilRowC (b j id sz : Nat) {cs : List AVal} (hb : σ.obj b = some (.cells cs)) (hj : cs.getD j .junk = .snil) (hn : σ.obj id = none) (hid : id < env.nobj) : Weak env pin σ ⟨σ.slots, (σ.objs.set id (some (.row sz []))).set b (some (.cells (cs.set j (.row id 0))))⟩ := fun hl => ⟨by simp [hl], fun E g M a w hR => by
  have hne : ∀ i, σ.dom i → i ≠ id := fun i hi e => hi (by rw [e]; exact hn)
  have hag : ∀ i, σ.dom i → g.agree (g.set id 0 0 true) i := fun i hi => Gh.set_agree (hne i hi)
  have hbd : σ.dom b := by simp [St.dom, hb]
  have hbi : id ≠ b := fun e => hne b hbd e.symm
  have h1 := hR.nilRow1 id sz hn (by omega)
  generalize hσ : σ.set id (.row sz []) = σ1 at *
  have hl1 : σ1.objs.length = σ.objs.length := by rw [← hσ]; simp [St.set]
  have hdid : σ1.dom id := by rw [← hσ]; simp [St.dom, St.obj_set_self (σ := σ) (ob := .row sz []) (by omega : id < σ.objs.length)]
  have hb1 : σ1.obj b = some (.cells cs) := by rw [← hσ, St.obj_set_ne hbi]; exact hb
  have hblt : b < σ1.objs.length := by
    rcases Nat.lt_or_ge b σ1.objs.length with h | h
    · exact h
    · simp [St.obj, List.getElem?_eq_none h] at hb1
  have e0 : (⟨σ.slots, (σ.objs.set id (some (.row sz []))).set b (some (.cells (cs.set j (.row id 0))))⟩ : St) = σ1.set b (.cells (cs.set j (.row id 0))) := by rw [← hσ]; rfl
  rw [e0]
  have hself : (σ1.set b (.cells (cs.set j (.row id 0)))).obj b = some (.cells (cs.set j (.row id 0))) := St.obj_set_self hblt
  refine ⟨g.set id 0 0 true, M, ?_, Mem.le_refl _, fun k hk hd => ⟨hag k hd, dom_set k (by rw [← hσ]; exact dom_set k hd)⟩⟩
  refine h1.update (fun i => i = b) rfl (fun i hi => St.obj_set_ne (fun e => hi e.symm)) (fun i hi => dom_set i hi) (fun i _ => ⟨rfl, rfl, rfl⟩) ?_ (fun _ _ _ => rfl) ?_ ?_ (Nat.le_refl _) rfl rfl rfl
  · rintro i ob rfl ho
    rw [hself] at ho
    cases ho
    obtain ⟨vals, T, hh, hsz, hc⟩ := h1.objs _ _ hb1
    refine ⟨vals, T, hh, by simpa using hsz, fun k hk => ?_⟩
    simp only [List.length_set] at hk
    by_cases hkj : j = k
    · subst hkj
      have hv := hc j hk
      rw [hj] at hv
      generalize vals.getD j undef = v at hv
      cases hv
      have e2 : (cs.set j (.row id 0)).getD j .junk = .row id 0 := by simp [List.getD, hk]
      rw [e2]
      exact .rown id (dom_set id hdid) (by simp [Gh.set])
    · have e2 : (cs.set j (.row id 0)).getD k .junk = cs.getD k .junk := by simp [List.getD, List.getElem?_set_ne hkj]
      rw [e2]
      exact (hc k hk).mono (fun _ _ => ⟨rfl, rfl, rfl⟩) (fun i hi => dom_set i hi) (Mem.le_refl _)
  · rintro i ob b' rfl ho hb'
    rw [hself] at ho
    cases ho
    exact .inr ⟨_, _, rfl, hb1, hb'⟩
  · rintro i i' _ _ _ rfl rfl _ _ _ _; rfl⟩
end Go.Abs
