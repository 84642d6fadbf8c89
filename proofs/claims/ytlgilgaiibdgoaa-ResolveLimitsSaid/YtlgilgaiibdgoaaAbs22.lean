/- A part of a sound walk of the program by abstract states (Abs22): its theorems have no condition beyond what they state. -/
import Derived.Test.YtlgilgaiibdgoaaAbs21
set_option linter.unusedSimpArgs false
set_option linter.unusedVariables false
namespace Go.Abs
open Go
theorem pinsF {σ σ' : St} {n : Nat} (h : (σ'.objs.take n).all Option.isSome = true) (hn : n ≤ σ'.objs.length) : ∀ k, k < n → σ.dom k → σ'.dom k := fun k hk _ hno => by
  have hkl : k < σ'.objs.length := by omega
  rw [List.all_eq_true] at h
  have h1 := h σ'.objs[k] (by rw [List.mem_take_iff_getElem]; exact ⟨k, by omega, rfl⟩)
  have h2 : σ'.objs[k] = none := by simpa [St.obj, List.getD, hkl] using hno
  rw [h2] at h1; cases h1
theorem pinsT {σ σ' : St} {n : Nat} {τ : List Nat} (ht : ∀ k, k < n → tau τ k = k) (h : (σ'.objs.take n).all Option.isSome = true) (hn : n ≤ σ'.objs.length) : ∀ k, k < n → tau τ k = k ∧ (σ.dom k → σ'.dom k) := fun k hk => ⟨ht k hk, pinsF h hn k hk⟩
end Go.Abs
