/- Each abstract operation is what the model's operation does: addresses, loads, lengths, parts. No condition. -/
import Derived.Test.YtlgilgaiibdgoaaAbs3
set_option linter.unusedSimpArgs false
set_option linter.unusedVariables false
namespace Go.Abs
open Go

theorem add_none (b off n : Nat) : (⟨b, off, none⟩ : Addr).add n = ⟨b, off + n, none⟩ := by
  unfold Addr.add; split <;> simp_all

section tyfacts
variable {P : Program} {env : Env} {t : Nat} {ty : Ty}

theorem ty_struct (hE : EnvOK P env) (h : env.ty t = some ty) (hk : ty.kind = .struct) :
    ∃ fs, P.underlying t = some (.struct fs) ∧ ty.fields = fs.toList.map fun f => (f.offset, tySize P f.type) := by
  obtain ⟨i, d, hi, hd, hty⟩ := hE.get h
  simp only [tyOf, hi, hd, Option.some.injEq] at hty
  subst hty
  cases d <;> simp at hk
  exact ⟨_, hd, rfl⟩

theorem ty_slice (hE : EnvOK P env) (h : env.ty t = some ty) (hk : ty.kind = .slice) :
    ∃ e, P.underlying t = some (.slice e) ∧ ty.eSize = tySize P e ∧ ty.eBytes = tyBytes P e ∧ ty.eZero = tyEZ P e := by
  obtain ⟨i, d, hi, hd, hty⟩ := hE.get h
  simp only [tyOf, hi, hd, Option.some.injEq] at hty
  subst hty
  cases d <;> simp at hk
  exact ⟨_, hd, rfl, rfl, rfl⟩

theorem ty_array (hE : EnvOK P env) (h : env.ty t = some ty) {n : Nat} (hk : ty.kind = .array n) :
    ∃ e, P.underlying t = some (.array n e) ∧ ty.eSize = tySize P e := by
  obtain ⟨i, d, hi, hd, hty⟩ := hE.get h
  simp only [tyOf, hi, hd, Option.some.injEq] at hty
  subst hty
  cases d <;> simp at hk
  subst hk
  exact ⟨_, hd, rfl⟩

theorem ty_string (hE : EnvOK P env) (h : env.ty t = some ty) (hk : ty.kind = .string) : P.underlying t = some .string := by
  obtain ⟨i, d, hi, hd, hty⟩ := hE.get h
  simp only [tyOf, hi, hd, Option.some.injEq] at hty
  subst hty
  cases d <;> simp at hk
  exact hd

theorem ty_int (hE : EnvOK P env) (h : env.ty t = some ty) {k : IntKind} (hk : ty.kind = .int k) : P.underlying t = some (.int k) := by
  obtain ⟨i, d, hi, hd, hty⟩ := hE.get h
  simp only [tyOf, hi, hd, Option.some.injEq] at hty
  subst hty
  cases d <;> simp at hk
  subst hk
  exact hd

theorem run_tySize {e : TypeId} (w : World) (h : 0 < tySize P e) : (sizeOf e).run P w = .ok (tySize P e) w := by
  unfold tySize at *
  cases hi : P.info? e with
  | none => simp [hi] at h
  | some i => simp [run_sizeOf' w hi]

theorem run_size (hE : EnvOK P env) (h : env.ty t = some ty) (w : World) : (sizeOf t).run P w = .ok ty.size w := by
  obtain ⟨i, d, hi, hd, hty⟩ := hE.get h
  simp only [tyOf, hi, hd, Option.some.injEq] at hty
  subst hty
  exact run_sizeOf' w hi

theorem run_agg (hE : EnvOK P env) (h : env.ty t = some ty) (w : World) : (isAgg t).run P w = .ok ty.agg w := by
  obtain ⟨i, d, hi, hd, hty⟩ := hE.get h
  simp only [tyOf, hi, hd, Option.some.injEq] at hty
  subst hty
  simp only [isAgg, Sem.run_bind, run_underlying' w hd, Result.andThen]
  cases d <;> rfl

theorem run_loadVar_cells (hE : EnvOK P env) (h : env.ty t = some ty) (w : World) (b off : Nat) (f : Nat → Value) (hsz : 0 < ty.size)
    (hc : ∀ j, j < ty.size → w.cell? ⟨b, off + j, none⟩ = some (f j)) :
    (loadVar t ⟨b, off, none⟩).run P w = .ok (if ty.agg then .agg ((List.range ty.size).map f).toArray else f 0) w := by
  simp only [loadVar, Sem.run_bind, run_agg hE h w, Result.andThen]
  cases ty.agg with
  | true =>
    simp only [if_true, Sem.run_bind, run_size hE h w, Result.andThen]
    rw [run_loadCells w ⟨b, off, none⟩ ty.size f (fun j hj => by rw [add_none]; exact hc j hj)]
    rfl
  | false =>
    have := hc 0 hsz
    simp only [Nat.add_zero] at this
    simp [this]
end tyfacts

section ops
variable {P : Program} {env : Env} {o : Oper} {E : Ent} {σ : St} {g : Gh} {M : Mem} {a : Act} {w : World} {e : Eff}

theorem V_aggOf {D : Nat → Prop} {n : Nat} {f : Nat → Value} {cs : List AVal} (hl : cs.length = n) (hv : ∀ j, j < n → V g D M (cs.getD j .junk) (f j)) :
    V g D M (.agg cs) (.agg ((List.range n).map f).toArray) :=
  .agg cs ((List.range n).map f) (by simp [hl]) (fun i hi => by
    have : ((List.range n).map f).getD i undef = f i := by simp [List.getD, (by omega : i < n)]
    rw [this]; exact hv i (by omega))

theorem does_loadAt (hR : Rel E σ g M a w) (hE : EnvOK P env) {t : Nat} {ty : Ty} {p : Operand} (ho : o.op = .load t p) (ht : env.ty t = some ty) (hsz : 0 < ty.size)
    {b off : Nat} (hp : a.eval p = .pointer (some ⟨b, off, none⟩)) (f : Nat → Value) (hc : ∀ j, j < ty.size → w.cell? ⟨b, off + j, none⟩ = some (f j))
    {cs : List AVal} (hl : cs.length = ty.size) (hv : ∀ j, j < ty.size → V g σ.dom M (cs.getD j .junk) (f j)) :
    Does P env o E σ g M a w ⟨if ty.agg then .agg cs else cs.getD 0 .junk, []⟩ := by
  refine Does.pure hR (v := if ty.agg then .agg ((List.range ty.size).map f).toArray else f 0) ?_ ?_
  · simp only [execOp, ho, Instr.loadAt, hp, Instr.sureAddr, Sem.run_bind, Sem.run_pure, Result.andThen, run_loadVar_cells hE ht w b off f hsz hc]
  · cases ty.agg
    · exact hv 0 hsz
    · exact V_aggOf hl hv

theorem cell_of_heap {w : World} {b : Nat} {vals : Array Value} {T : TypeId} {fz : Nat × Nat} (h : w.heap[b]? = some (.cells vals T fz)) (i : Nat) : w.cell? ⟨b, i, none⟩ = vals[i]? := by
  simp [World.cell?, h]

theorem does_load (hR : Rel E σ g M a w) (hG : GOK env M) (hE : EnvOK P env) {t : Nat} {p : Operand} (ho : o.op = .load t p)
    (h : aop env o.dst (aeval env σ) σ.obj o.op = some e) : Does P env o E σ g M a w e := by
  rw [ho] at h
  simp only [aop] at h
  have hp := V_aeval (env := env) hR hG p
  split at h
  · rename_i ty id off ht hx
    rw [hx] at hp
    obtain ⟨hv, hd⟩ := hp.ref_inv
    split at h
    · rename_i cs hob
      split at h
      · rename_i hc
        cases h
        obtain ⟨vals, T, hh, hs, hvv⟩ := hR.objs id _ hob
        have hd1 : ∀ j, j < ty.size → ((cs.drop off).take ty.size).getD j .junk = cs.getD (off + j) .junk := fun j hj => by
          simp [List.getD, List.getElem?_take, hj, List.getElem?_drop]
        have hd0 : cs.getD off .junk = ((cs.drop off).take ty.size).getD 0 .junk := by rw [hd1 0 hc.2]; rfl
        rw [hd0]
        refine does_loadAt hR hE ho ht hc.2 hv (fun j => vals.getD (off + j) undef) (fun j hj => ?_) ?_ (fun j hj => ?_)
        · rw [cell_of_heap hh]
          have : off + j < vals.size := by omega
          simp [this]
        · simp; omega
        · rw [hd1 j hj]; exact hvv (off + j) (by omega)
      · cases h
    · cases h
  · rename_i ty cs ht hx
    rw [hx] at hp
    obtain ⟨b, off, hv, hm⟩ := hp.ptr_inv
    split at h
    · rename_i hc
      cases h
      have hx : ∀ j, ∃ u, j < cs.length → M b (off + j) = some u ∧ Rd M (cs.getD j .nilptr) u := fun j => by
        by_cases hj : j < cs.length
        · obtain ⟨u, hu⟩ := hm j hj; exact ⟨u, fun _ => hu⟩
        · exact ⟨undef, fun h => absurd h hj⟩
      have hd1 : ∀ j, j < ty.size → ((cs.take ty.size).map AVal.pv).getD j .junk = .pv (cs.getD j .nilptr) := fun j hj => by
        have : j < cs.length := by omega
        simp [List.getD, List.getElem?_take, hj, this]
      have hd0 : AVal.pv (cs.getD 0 .nilptr) = ((cs.take ty.size).map AVal.pv).getD 0 .junk := (hd1 0 hc.2).symm
      rw [hd0]
      refine does_loadAt hR hE ho ht hc.2 hv (fun j => (hx j).choose) (fun j hj => ?_) ?_ (fun j hj => ?_)
      · exact hR.sat _ _ _ ((hx j).choose_spec (by omega)).1
      · simp; omega
      · rw [hd1 j hj]; exact .pv ((hx j).choose_spec (by omega)).2
    · cases h
  · rename_i ty id i j sz ht hx
    rw [hx] at hp
    obtain ⟨hv, hd⟩ := hp.eref_inv
    split at h
    · rename_i sz' xs hob
      split at h
      · rename_i hc
        obtain ⟨rfl, hi, hj, hsz⟩ := hc
        cases h
        obtain ⟨hlen, hnil, hrow⟩ := hR.objs id _ hob
        have hn : g.ν id = false := by
          cases hn : g.ν id
          · rfl
          · have := hnil hn; subst this; simp at hi
        obtain ⟨vals, T, hh, h1, h2, h3⟩ := hrow hn
        have hxl : (xs.getD i []).length = sz := by
          have : xs.getD i [] ∈ xs := by simp [List.getD, hi]
          exact hlen _ this
        have hb : i * sz + sz ≤ vals.size := by
          have : (i + 1) * sz ≤ g.κ id * sz := Nat.mul_le_mul_right _ (by omega)
          rw [Nat.add_mul] at this
          omega
        have hd1 : ∀ q, q < ty.size → ((((xs.getD i []).drop j).take ty.size).map AVal.pv).getD q .junk = .pv (pcell xs i (j + q)) := fun q hq => by
          have hlt : j + q < (xs.getD i []).length := by omega
          simp only [pcell, List.getD_eq_getElem?_getD, List.getElem?_map, List.getElem?_take, hq, if_true, List.getElem?_drop]
          rw [List.getElem?_eq_getElem (by simpa using hlt)]
          rfl
        have hd0 : AVal.pv (pcell xs i j) = ((((xs.getD i []).drop j).take ty.size).map AVal.pv).getD 0 .junk := (hd1 0 hsz).symm
        rw [hd0]
        refine does_loadAt hR hE ho ht hsz hv (fun q => vals.getD (i * sz + j + q) undef) (fun q hq => ?_) ?_ (fun q hq => ?_)
        · rw [cell_of_heap hh]
          have : i * sz + j + q < vals.size := by omega
          simp [this]
        · simp only [List.length_map, List.length_take, List.length_drop]; omega
        · rw [hd1 q hq, Nat.add_assoc]; exact .pv (h3 i (j + q) hi (by omega))
      · cases h
    · cases h
  · cases h

theorem does_convert (hR : Rel E σ g M a w) (hG : GOK env M) (hE : EnvOK P env) {s d : TypeId} {x : Operand} (ho : o.op = .convert s d x)
    (h : aop env o.dst (aeval env σ) σ.obj o.op = some e) : Does P env o E σ g M a w e := by
  rw [ho] at h
  simp only [aop] at h
  have hx := V_aeval (env := env) hR hG x
  split at h
  · rename_i sty ty k n hst ht hb
    rw [hb] at hx
    split at h
    · rename_i k' hk
      cases h
      obtain ⟨_, ds, _, hds, _⟩ := hE.get hst
      refine Does.pure hR (v := .int k' (k'.wrap n)) ?_ (.pv (.int _ _))
      simp only [execOp, ho, hx.int_inv, convert, Sem.run_bind, run_underlying' w hds, run_underlying' w (ty_int hE ht hk), Result.andThen]
      cases ds <;> rfl
    · cases h
  · cases h

theorem does_fieldAddr (hR : Rel E σ g M a w) (hG : GOK env M) (hE : EnvOK P env) {s : TypeId} {x : Operand} {k : Nat} (ho : o.op = .fieldAddr s x k)
    (h : aop env o.dst (aeval env σ) σ.obj o.op = some e) : Does P env o E σ g M a w e := by
  rw [ho] at h
  simp only [aop] at h
  have hx := V_aeval (env := env) hR hG x
  split at h
  · rename_i ty ht
    split at h
    · rename_i fo fsz hk hf
      obtain ⟨fs, hu, hfs⟩ := ty_struct hE ht hk
      split at h
      · rename_i hpos
        rw [hfs] at hf
        simp only [List.getElem?_map, Array.getElem?_toList] at hf
        cases hfk : fs[k]? with
        | none => rw [hfk] at hf; cases hf
        | some f =>
          rw [hfk] at hf
          simp only [Option.map_some, Option.some.injEq, Prod.mk.injEq] at hf
          obtain ⟨rfl, rfl⟩ := hf
          have hrun : ∀ b off, a.eval x = .pointer (some ⟨b, off, none⟩) → (execOp a.eval o).run P w = .ok (.value (.pointer (some ⟨b, off + f.offset, none⟩))) w := fun b off hv => by
            simp only [execOp, ho, Instr.fieldAt, Sem.run_bind, run_underlying' w hu, Result.andThen, hfk, hv, Instr.sureAddr, Sem.run_pure, fieldPlace, run_tySize w hpos]
            rw [if_neg (by omega)]
            simp [add_none]
          split at h
          · rename_i id off hx'
            cases h
            rw [hx'] at hx
            obtain ⟨hv, hd⟩ := hx.ref_inv
            exact Does.pure hR (hrun _ _ hv) (.ref id (off + f.offset) hd)
          · rename_i cs hx'
            split at h
            · rename_i hle
              cases h
              rw [hx'] at hx
              obtain ⟨b, off, hv, hm⟩ := hx.ptr_inv
              refine Does.pure hR (hrun _ _ hv) (.pv ?_)
              have hx : ∀ j, ∃ u, j < cs.length → M b (off + j) = some u ∧ Rd M (cs.getD j .nilptr) u := fun j => by
                by_cases hj : j < cs.length
                · obtain ⟨u, hu⟩ := hm j hj; exact ⟨u, fun _ => hu⟩
                · exact ⟨undef, fun h => absurd h hj⟩
              refine .ptr _ b (off + f.offset) (fun j => (hx (f.offset + j)).choose) (fun j hj => ?_) (fun j hj => ?_)
              · simp at hj; rw [Nat.add_assoc]; exact ((hx (f.offset + j)).choose_spec (by omega)).1
              · simp at hj
                have := ((hx (f.offset + j)).choose_spec (by omega)).2
                have e1 : ((cs.drop f.offset).take (tySize P f.type)).getD j .nilptr = cs.getD (f.offset + j) .nilptr := by simp [List.getD, List.getElem?_drop, List.getElem?_take]; rw [if_pos (by omega)]
                rw [e1]; exact this
            · cases h
          · rename_i id i j sz hx'
            cases h
            rw [hx'] at hx
            obtain ⟨hv, hd⟩ := hx.eref_inv
            refine Does.pure hR (hrun _ _ hv) ?_
            rw [Nat.add_assoc]; exact .eref id i (j + f.offset) sz hd
          · cases h
      · cases h
    · cases h
  · cases h

theorem does_indexAddr (hR : Rel E σ g M a w) (hG : GOK env M) (hE : EnvOK P env) {t : TypeId} {x ix : Operand} (ho : o.op = .indexAddr t x ix)
    (h : aop env o.dst (aeval env σ) σ.obj o.op = some e) : Does P env o E σ g M a w e := by
  rw [ho] at h
  simp only [aop] at h
  have hx := V_aeval (env := env) hR hG x
  have hi := V_aeval (env := env) hR hG ix
  split at h
  · rename_i ty k i ht hix
    rw [hix] at hi
    have hi' := hi.int_inv
    split at h
    · cases h
    rename_i hp0
    have hp : 0 < ty.eSize := Nat.pos_of_ne_zero hp0
    split at h
    · rename_i xs hk hx'
      split at h
      · rename_i hc
        obtain ⟨h0, hlt, hlen⟩ := hc
        cases h
        obtain ⟨el, hu, hes, _⟩ := ty_slice hE ht hk
        rw [hx'] at hx
        have hr := hx.pv_inv
        generalize hv : a.eval x = v at hr
        cases hr with
        | nils => simp at hlt
        | slice _ sz b off cap us h1 h2 h3 =>
          have hsz : sz = ty.eSize := by
            have : xs.getD i.toNat [] ∈ xs := by simp [List.getD, hlt]
            rw [← h1 _ this]; exact hlen
          subst hsz
          refine Does.pure hR (v := .pointer (some ⟨b, off + i.toNat * ty.eSize, none⟩)) ?_ (.pv ?_)
          · have hlt' : i < (xs.length : Int) := by omega
            simp only [execOp, ho, Instr.indexAt, hi', hv, asIntOf, Sem.run_bind, Sem.run_pure, Result.andThen, run_underlying' w hu, h0, hlt', and_self, if_true]
            rw [hes] at hp ⊢
            simp [run_tySize w hp, add_none]
          · refine .ptr _ b (off + i.toNat * ty.eSize) (fun j => us i.toNat j) (fun j hj => ?_) (fun j hj => ?_)
            · exact h2 i.toNat j hlt (by omega)
            · exact h3 i.toNat j hlt (by omega)
      · cases h
    · rename_i id n hk hx'
      split at h
      · rename_i sz xs hob
        split at h
        · rename_i hc
          obtain ⟨h0, hlt, rfl⟩ := hc
          cases h
          obtain ⟨el, hu, hes, _⟩ := ty_slice hE ht hk
          rw [hx'] at hx
          generalize hv : a.eval x = v at hx
          cases hx with
          | rown => simp at hlt
          | row _ _ hd hn =>
            refine Does.pure hR (v := .pointer (some ⟨g.ρ id, i.toNat * ty.eSize + 0, none⟩)) ?_ (.eref id i.toNat 0 ty.eSize hd)
            have hlt' : i < (n : Int) := by omega
            simp only [execOp, ho, Instr.indexAt, hi', hv, asIntOf, Sem.run_bind, Sem.run_pure, Result.andThen, run_underlying' w hu, h0, hlt', and_self, if_true]
            rw [hes] at hp ⊢
            simp [run_tySize w hp, add_none]
        · cases h
      · cases h
    · rename_i n id off hk hx'
      split at h
      · rename_i hc
        obtain ⟨h0, hlt⟩ := hc
        cases h
        obtain ⟨el, hu, hes⟩ := ty_array hE ht hk
        rw [hx'] at hx
        obtain ⟨hv, hd⟩ := hx.ref_inv
        refine Does.pure hR (v := .pointer (some ⟨g.ρ id, off + i.toNat * ty.eSize, none⟩)) ?_ (.ref _ _ hd)
        have hlt' : i < (n : Int) := by omega
        simp only [execOp, ho, Instr.indexAt, hi', hv, asIntOf, Sem.run_bind, Sem.run_pure, Result.andThen, run_underlying' w hu, h0, hlt', and_self, if_true, Instr.sureAddr]
        rw [hes] at hp ⊢
        simp [run_tySize w hp, add_none]
      · cases h
    · rename_i n cs hk hx'
      split at h
      · rename_i hc
        obtain ⟨h0, hlt, hle⟩ := hc
        cases h
        obtain ⟨el, hu, hes⟩ := ty_array hE ht hk
        rw [hx'] at hx
        obtain ⟨b, off, hv, hm⟩ := hx.ptr_inv
        refine Does.pure hR (v := .pointer (some ⟨b, off + i.toNat * ty.eSize, none⟩)) ?_ (.pv ?_)
        · have hlt' : i < (n : Int) := by omega
          simp only [execOp, ho, Instr.indexAt, hi', hv, asIntOf, Sem.run_bind, Sem.run_pure, Result.andThen, run_underlying' w hu, h0, hlt', and_self, if_true, Instr.sureAddr]
          rw [hes] at hp ⊢
          simp [run_tySize w hp, add_none]
        · have hx : ∀ j, ∃ u, j < cs.length → M b (off + j) = some u ∧ Rd M (cs.getD j .nilptr) u := fun j => by
            by_cases hj : j < cs.length
            · obtain ⟨u, hu⟩ := hm j hj; exact ⟨u, fun _ => hu⟩
            · exact ⟨undef, fun h => absurd h hj⟩
          refine .ptr _ b _ (fun j => (hx (i.toNat * ty.eSize + j)).choose) (fun j hj => ?_) (fun j hj => ?_)
          · simp at hj; rw [Nat.add_assoc]; exact ((hx (i.toNat * ty.eSize + j)).choose_spec (by omega)).1
          · simp at hj
            have := ((hx (i.toNat * ty.eSize + j)).choose_spec (by omega)).2
            have e1 : ((cs.drop (i.toNat * ty.eSize)).take ty.eSize).getD j .nilptr = cs.getD (i.toNat * ty.eSize + j) .nilptr := by simp [List.getD, List.getElem?_drop, List.getElem?_take]; rw [if_pos (by omega)]
            rw [e1]; exact this
      · cases h
    · cases h
  · cases h
end ops
end Go.Abs
