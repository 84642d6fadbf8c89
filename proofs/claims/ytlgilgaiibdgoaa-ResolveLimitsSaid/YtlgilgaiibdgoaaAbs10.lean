/- Each abstract operation is what the model's operation does: cuts of strings and slices. No condition. -/
import Derived.Test.YtlgilgaiibdgoaaAbs9
set_option linter.unusedSimpArgs false
set_option linter.unusedVariables false
namespace Go.Abs
open Go
section
variable {P : Program} {env : Env} {o : Oper} {E : Ent} {σ : St} {g : Gh} {M : Mem} {a : Act} {w : World} {e : Eff}

theorem bound_run (hR : Rel E σ g M a w) (hG : GOK env M) {q : Option Operand} {dflt : Nat} {i : Int} (h : abound (aeval env σ) q dflt = some i) :
    (q = none ∧ i = dflt) ∨ ∃ x k, q = some x ∧ a.eval x = .int k i := by
  unfold abound at h
  cases q with
  | none => cases h; exact .inl ⟨rfl, rfl⟩
  | some x =>
    have hx := V_aeval (env := env) hR hG x
    simp only at h
    split at h
    · rename_i k j hj
      cases h
      rw [hj] at hx
      exact .inr ⟨x, k, rfl, hx.int_inv⟩
    · cases h

theorem run_bound {k : IntKind} {i : Int} {y : Nat} {code : BoundsCode} (h0 : 0 ≤ i) (h1 : i ≤ y) : (Instr.sliceBound (.int k i) y code).run P w = .ok i.toNat w := by
  simp [Instr.sliceBound, asIntOf, h0, h1]

theorem run_sliceBounds (hR : Rel E σ g M a w) (hG : GOK env M) (isS : Bool) {len cap : Nat} {lo hi : Option Operand} {l h : Int}
    (hl : abound (aeval env σ) lo 0 = some l) (hh : abound (aeval env σ) hi len = some h) (h0 : 0 ≤ l) (h1 : l ≤ h) (h2 : h ≤ len) (hc : len ≤ cap) :
    (Instr.sliceBounds isS len cap (lo.map a.eval) (hi.map a.eval) none).run P w = .ok (l.toNat, h.toNat, cap) w := by
  have hh0 : (h.toNat : Int) = h := Int.toNat_of_nonneg (by omega)
  rcases bound_run hR hG hh with ⟨rfl, rfl⟩ | ⟨x, k, rfl, hx⟩
  · rcases bound_run hR hG hl with ⟨rfl, rfl⟩ | ⟨y, k', rfl, hy⟩
    · simp [Instr.sliceBounds]
    · have := run_bound (P := P) (w := w) (k := k') (code := .sliceB) h0 h1
      simp [Instr.sliceBounds, hy, this]
  · have h3 := fun code => run_bound (P := P) (w := w) (k := k) (i := h) (y := cap) (code := code) (by omega) (by omega)
    rcases bound_run hR hG hl with ⟨rfl, rfl⟩ | ⟨y, k', rfl, hy⟩
    · simp [Instr.sliceBounds, hx, h3]
    · have := run_bound (P := P) (w := w) (k := k') (i := l) (y := h.toNat) (code := .sliceB) h0 (by omega)
      simp [Instr.sliceBounds, hx, h3, hy, this]

theorem does_slice (hR : Rel E σ g M a w) (hG : GOK env M) (hE : EnvOK P env) {t : TypeId} {x : Operand} {lo hi mx : Option Operand} (ho : o.op = .slice t x lo hi mx)
    (h : aop env o.dst (aeval env σ) σ.obj o.op = some e) : Does P env o E σ g M a w e := by
  rw [ho] at h
  simp only [aop] at h
  have hx := V_aeval (env := env) hR hG x
  split at h
  · rename_i ty ht
    split at h
    · rename_i s hk hx'
      rw [hx'] at hx
      have hs := hx.str_inv
      split at h
      · rename_i l hh hl hhh
        split at h
        · rename_i hc
          cases h
          refine Does.pure hR (v := .string ⟨((s.take hh.toNat).drop l.toNat).toArray⟩) ?_ (.pv (.str _))
          have hsz : (ByteArray.mk s.toArray).size = s.length := by simp [ByteArray.size]
          have hb := run_sliceBounds (P := P) hR hG false (len := s.length) (cap := s.length) hl hhh hc.1 hc.2.1 hc.2.2 (Nat.le_refl _)
          have hu := ty_string hE ht hk
          have hex : (ByteArray.mk s.toArray).extract l.toNat hh.toNat = ⟨((s.take hh.toNat).drop l.toNat).toArray⟩ := by
            apply ByteArray.ext
            simp [List.drop_take]
          simp only [execOp, ho, Instr.sliceAt, Sem.run_bind, run_underlying' w hu, Result.andThen, hs, Instr.slice, Option.map_none, Option.isSome_none, Bool.false_eq_true, if_false, Sem.run_pure, hsz, hb, hex]
        · cases h
      · cases h
    · rename_i xs hk hx'
      rw [hx'] at hx
      split at h
      · rename_i l hh hl hhh
        split at h
        · rename_i hc
          obtain ⟨hc1, hc2, hc3, hc4, hc5⟩ := hc
          cases h
          obtain ⟨el, hu, hes, _⟩ := ty_slice hE ht hk
          have hpos : 0 < tySize P el := by rw [← hes]; exact hc5
          have hr := hx.pv_inv
          have hrun : ∀ (ad : Option Addr) (cap : Nat), a.eval x = .slice ad xs.length cap → xs.length ≤ cap →
              (execOp a.eval o).run P w = .ok (.value (.slice (if cap = l.toNat then ad else ad.map (·.add (l.toNat * ty.eSize))) (hh.toNat - l.toNat) (cap - l.toNat))) w := by
            intro ad cap hv hcap
            have hb := run_sliceBounds (P := P) hR hG true (len := xs.length) (cap := cap) hl hhh hc1 hc2 hc3 hcap
            simp only [execOp, ho, Instr.sliceAt, Sem.run_bind, run_underlying' w hu, Result.andThen, hv, Instr.slice, Option.map_none, Sem.run_pure, hb, run_tySize w hpos, hes]
          have hlen : ((xs.take hh.toNat).drop l.toNat).length = hh.toNat - l.toNat := by simp; omega
          generalize hv : a.eval x = v at hr
          cases hr with
          | nils =>
            have hl0 : l.toNat = 0 := by simp at hc3; omega
            have hh0 : hh.toNat = 0 := by simp at hc3; omega
            have := hrun none 0 (by simpa using hv) (by simp)
            refine Does.pure hR this (.pv ?_)
            rw [hl0, hh0]
            simp
            exact .nils
          | slice _ sz b off cap us h1 h2 h3 h4 =>
            refine Does.pure hR (hrun _ cap hv h4) (.pv ?_)
            rw [← hlen]
            by_cases hlz : xs = []
            · subst hlz
              have hl0 : l.toNat = 0 := by simp at hc3; omega
              rw [hl0]
              simp only [List.take_nil, List.drop_nil, Nat.zero_mul, Nat.sub_zero]
              have e1 : (if cap = 0 then some (⟨b, off, none⟩ : Addr) else Option.map (fun x : Addr => x.add 0) (some (⟨b, off, none⟩ : Addr))) = some ⟨b, off, none⟩ := by
                split <;> simp [Addr.add]
              rw [e1]
              exact .slice [] 0 b off cap (fun _ _ => undef) (by simp) (fun i j hi => by simp at hi) (fun i j hi => by simp at hi) (by simp)
            · have hsz : l.toNat * ty.eSize = l.toNat * sz := by
                rcases hc4 with h5 | h5
                · subst h5; simp
                · have : xs.getD 0 [] ∈ xs := by
                    cases xs with
                    | nil => exact absurd rfl hlz
                    | cons y ys => simp [List.getD]
                  rw [← h5, h1 _ this]
              by_cases hce : cap = l.toNat
              · rw [if_pos hce]
                have hnil : (xs.take hh.toNat).drop l.toNat = [] := by
                  apply List.eq_nil_of_length_eq_zero; rw [hlen]; omega
                rw [hnil]
                exact .slice [] 0 b off _ (fun _ _ => undef) (by simp) (fun i j hi => by simp at hi) (fun i j hi => by simp at hi) (by simp)
              · rw [if_neg hce]
                simp only [Option.map_some, add_none, hsz]
                have hpc : ∀ i j, i < ((xs.take hh.toNat).drop l.toNat).length → pcell ((xs.take hh.toNat).drop l.toNat) i j = pcell xs (l.toNat + i) j := fun i j hi => by
                  rw [hlen] at hi
                  simp only [pcell, List.getD_eq_getElem?_getD, List.getElem?_drop, List.getElem?_take]
                  rw [if_pos (by omega)]
                refine .slice _ sz b _ _ (fun i j => us (l.toNat + i) j) (fun y hy => h1 y (List.mem_of_mem_take (List.mem_of_mem_drop hy))) (fun i j hi hj => ?_) (fun i j hi hj => ?_) (by rw [hlen]; omega)
                · rw [hlen] at hi
                  have := h2 (l.toNat + i) j (by omega) hj
                  rw [Nat.add_mul] at this
                  rw [← this]; congr 1; omega
                · rw [hpc i j hi]
                  rw [hlen] at hi
                  exact h3 (l.toNat + i) j (by omega) hj
        · cases h
      · cases h
    · cases h
  · cases h
end
end Go.Abs
