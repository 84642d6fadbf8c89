/- Arguments read: a slice of structs of a string and two ints; a slice of bytes. -/
import Derived.Test.YtlgilgaiibdgoaaAbs30
import Derived.Test.YtlgilgaiibdgoaaD0
set_option linter.unusedSimpArgs false
set_option linter.unusedVariables false
namespace Go.Abs
open Go Go.ChangeShapes Go.WideShapes Go.ChangeAt Go.RowKit Go.Deep

section
variable {H : Type} {enc : TypeId × Value → H} {P : Program} {W : World} {spare : Nat → Bool} {held : Bool}

theorem addr_add (b off k : Nat) : (⟨b, off, none⟩ : Addr).add k = ⟨b, off + k, none⟩ := by
  unfold Addr.add
  split
  · rename_i h; subst h; rfl
  · rfl

theorem spot_none {base : Nat} {t e : TypeId} {a : Addr} {len cap : Nat} (ht : P.underlying t = some (.slice e)) (hv : Value.okWide P W .any base t (.slice (some a) len cap)) : a.spot = none := by
  simp only [Value.okWide, ht, Cell.okWide, Cell.ok] at hv
  exact hv.2.2.2.1

theorem open_vars {base : Nat} {t e : TypeId} {f0 f1 f2 : Field} {v : Value} {d : DataW H} {p : List MemPlace} (ht : P.underlying t = some (.slice e)) (he : P.underlying e = some (.struct #[f0, f1, f2])) (hC : P.cellsOf e = 3)
    (o0 : f0.offset = 0 ∧ P.cellsOf f0.type = 1) (o1 : f1.offset = 1 ∧ P.cellsOf f1.type = 1) (o2 : f2.offset = 2 ∧ P.cellsOf f2.type = 1)
    (h0 : P.underlying f0.type = some .string) (h1 : P.underlying f1.type = some (.int .i64)) (h2 : P.underlying f2.type = some (.int .i64))
    (hval : Value.okWide P W .any base t v) (h : DataW.Trod enc P W 0 spare held t v d p) : ∃ l : List VarD, Rd (memOf W) (.slice (l.map encVar)) v := by
  obtain ⟨a', len', cap', rfl⟩ := okWide_slice ht hval
  obtain ⟨fuel, hf⟩ := h
  rcases open_slice ht hf with ⟨hcs, _⟩ | ⟨a, len, cap, m, n, D, Pl, hcs, _, hlc, _, hm, _, hi⟩
  · simp [Value.cells] at hcs
    obtain ⟨rfl, rfl, rfl⟩ := hcs
    exact ⟨[], .nils⟩
  · simp [Value.cells] at hcs
    obtain ⟨rfl, rfl, rfl⟩ := hcs
    have hsp := spot_none ht hval
    obtain ⟨b, off, sp⟩ := a
    cases hsp
    have hml : len' ≤ m := by rw [hm]; split <;> omega
    have key : ∀ i, ∃ x : VarD, i < len' → memOf W b (off + i * 3 + 0) = some (.string ⟨x.name.toArray⟩) ∧ memOf W b (off + i * 3 + 1) = some (.int .i64 x.size) ∧ memOf W b (off + i * 3 + 2) = some (.int .i64 x.init) := by
      intro i
      by_cases hil : i < len'
      · obtain ⟨cs, hc, ht'⟩ := hi i (by omega)
        rw [hC] at hc
        obtain ⟨_, hcl, hat⟩ := World.cells?_some hc
        obtain ⟨xs, n', _, _, _, hxl, hfd⟩ := DataW.trod_struct he ht'
        match cs, hcl with
        | [c0, c1, c2], _ =>
          have e0 := hfd 0 f0 rfl
          have e1 := hfd 1 f1 rfl
          have e2 := hfd 2 f2 rfl
          rw [o0.1, o0.2] at e0
          rw [o1.1, o1.2] at e1
          rw [o2.1, o2.2] at e2
          have hx : xs.length = 3 := hxl
          match xs, hx with
          | [x0, x1, x2], _ =>
            obtain ⟨s, hs, _, _⟩ := DataW.trod_string h0 e0
            obtain ⟨z1, hz1, _, _⟩ := DataW.trod_int h1 e1
            obtain ⟨z2, hz2, _, _⟩ := DataW.trod_int h2 e2
            simp at hs hz1 hz2
            subst hs hz1 hz2
            have a0 := hat 0 (by omega)
            have a1 := hat 1 (by omega)
            have a2 := hat 2 (by omega)
            rw [addr_add, addr_add] at a0 a1 a2
            refine ⟨⟨s.data.toList, z1, z2⟩, fun _ => ⟨?_, ?_, ?_⟩⟩
            · simpa [memOf] using a0
            · simpa [memOf] using a1
            · simpa [memOf] using a2
      · exact ⟨⟨[], 0, 0⟩, fun h => absurd h hil⟩
    let g : Nat → VarD := fun i => Classical.choose (key i)
    have hg : ∀ i, i < len' → _ := fun i hi => Classical.choose_spec (key i) hi
    refine ⟨(List.range len').map g, ?_⟩
    have hlen : (((List.range len').map g).map encVar).length = len' := by simp
    have := Rd.slice (M := memOf W) (((List.range len').map g).map encVar) 3 b off cap' (fun i j => match j with | 0 => .string ⟨(g i).name.toArray⟩ | 1 => .int .i64 (g i).size | _ => .int .i64 (g i).init)
      (fun x hx => by simp at hx; obtain ⟨i, _, rfl⟩ := hx; rfl) (fun i j hi hj => ?_) (fun i j hi hj => ?_) (by rw [hlen]; exact hlc)
    · rw [hlen] at this; exact this
    · rw [hlen] at hi
      obtain ⟨g0, g1, g2⟩ := hg i hi
      match j, hj with
      | 0, _ => exact g0
      | 1, _ => exact g1
      | 2, _ => exact g2
    · rw [hlen] at hi
      have hc : pcell (((List.range len').map g).map encVar) i j = (encVar (g i)).getD j .nilptr := by simp [pcell, List.getD, hi]
      rw [hc]
      match j, hj with
      | 0, _ => exact .str _
      | 1, _ => exact .int _ _
      | 2, _ => exact .int _ _
end
end Go.Abs
