/- Each abstract operation is what the model's operation does: the operations that leave memory alone. No condition. -/
import Derived.Test.YtlgilgaiibdgoaaAbs2
import Derived.Lib.Strings
set_option linter.unusedSimpArgs false
set_option linter.unusedVariables false
namespace Go.Abs
open Go

theorem V_absCell (g : Gh) (D : Nat → Prop) (M : Mem) (v : Value) : V g D M (absCell v) v := by
  unfold absCell
  split
  · exact .pv (.int _ _)
  · exact .pv (.bool _)
  · rename_i s
    have := Rd.str (M := M) s.data.toList
    simp at this
    exact .pv this
  · exact .snil
  · exact .pv .nilptr
  · exact .pv .nilmap
  · exact .junk _

theorem V_absConst (g : Gh) (D : Nat → Prop) (M : Mem) (v : Value) : V g D M (absConst v) v := by
  unfold absConst
  split
  · rename_i cs
    have := V.agg (g := g) (D := D) (M := M) (cs.toList.map absCell) cs.toList (by simp) (by
      intro i hi
      simp at hi
      have h1 : (cs.toList.map absCell).getD i .junk = absCell (cs.toList.getD i undef) := by
        simp [List.getD, hi]
      rw [h1]; exact V_absCell _ _ _ _)
    simpa using this
  · exact V_absCell _ _ _ _

section
variable {E : Ent} {σ : St} {g : Gh} {M : Mem} {a : Act} {w : World} {env : Env} {P : Program}

theorem V_aeval (h : Rel E σ g M a w) (hG : GOK env M) (x : Operand) : V g σ.dom M (aeval env σ x) (a.eval x) := by
  cases x with
  | tmp t => exact h.slot t
  | const v => exact V_absConst _ _ _ _
  | global b =>
    simp only [aeval, Act.eval]
    cases hb : env.gl b with
    | none => exact .junk _
    | some cs =>
      refine .pv ?_
      have hx : ∀ j, ∃ u, j < cs.length → M b j = some u ∧ Rd M (cs.getD j .nilptr) u := fun j => by
        by_cases hj : j < cs.length
        · obtain ⟨u, hu⟩ := hG b cs hb j hj; exact ⟨u, fun _ => hu⟩
        · exact ⟨undef, fun h => absurd h hj⟩
      exact .ptr cs b 0 (fun j => (hx j).choose) (fun j hj => by rw [Nat.zero_add]; exact ((hx j).choose_spec hj).1) (fun j hj => ((hx j).choose_spec hj).2)
  | func f => exact .junk _

theorem St.obj_app_nil (dst : Option Nat) (x : AVal) (id : Nat) : (σ.app dst ⟨x, []⟩).obj id = σ.obj id := rfl

/-- A value put into a slot. -/
theorem Rel.put (h : Rel E σ g M a w) (dst : Option Nat) {x : AVal} {v : Value} (hv : V g σ.dom M x v) : Rel E (σ.app dst ⟨x, []⟩) g M (a.put dst v) w where
  size := by cases dst <;> simp [St.app, Act.put, h.size]
  defers := by cases dst <;> simp [Act.put, h.defers]
  slots := by
    intro i hi
    cases dst with
    | none => simp only [St.app, Act.put] at *; exact h.slots i hi
    | some d =>
      simp only [St.app, List.length_set] at hi
      by_cases hid : d = i
      · subst hid
        have e1 : (σ.app (some d) ⟨x, []⟩).slot d = x := by simp [St.app, St.slot, hi]
        have e2 : (a.put (some d) v).tmps.getD d undef = v := by simp [Act.put, h.size, hi]
        rw [e1, e2]; exact hv
      · have e1 : (σ.app (some d) ⟨x, []⟩).slot i = σ.slot i := by simp [St.app, St.slot, List.getElem?_set_ne hid]
        have e2 : (a.put (some d) v).tmps.getD i undef = a.tmps.getD i undef := by simp [Act.put, Array.getElem?_setIfInBounds_ne hid]
        rw [e1, e2]; exact h.slots i hi
  objs := h.objs
  apart := h.apart
  offM := h.offM
  sat := h.sat
  M0 := h.M0
  Mnew := h.Mnew
  size0 := h.size0
  same := h.same
  own0 := h.own0
  os := h.os
  tape := h.tape
  output := h.output

theorem Rel.drew (h : Rel E σ g M a w) : Rel E σ g M a { w with drawn := w.drawn + 1 } :=
  { h with
    objs := fun id o ho => by
      have := h.objs id o ho
      cases o with
      | cells cs => exact this
      | row sz xs => exact this
      | map kd es => exact this
      | dead => trivial
    sat := fun b i u hu => h.sat b i u hu }

end

/-- What an operation comes to: a value, the new world, the new ghost. -/
def Does (P : Program) (env : Env) (o : Oper) (E : Ent) (σ : St) (g : Gh) (M : Mem) (a : Act) (w : World) (e : Eff) : Prop :=
  ∃ n v w' g' M', (execOp a.eval o).run P w = .ok n w' ∧ (n = .value v ∨ (n = .skip ∧ v = undef)) ∧
    Rel E (σ.app o.dst e) g' M' (a.put o.dst v) w' ∧ (∀ id, σ.dom id → g.agree g' id) ∧ Mem.le M M'

theorem Gh.agree_refl (g : Gh) (id : Nat) : g.agree g id := ⟨rfl, rfl, rfl⟩
theorem Mem.le_refl (M : Mem) : Mem.le M M := fun _ _ _ h => h

theorem Does.pure {P : Program} {env : Env} {o : Oper} {E : Ent} {σ : St} {g : Gh} {M : Mem} {a : Act} {w : World} {x : AVal} {v : Value}
    (h : Rel E σ g M a w) (hr : (execOp a.eval o).run P w = .ok (.value v) w) (hv : V g σ.dom M x v) : Does P env o E σ g M a w ⟨x, []⟩ :=
  ⟨_, v, w, g, M, hr, .inl rfl, h.put o.dst hv, fun _ _ => Gh.agree_refl _ _, Mem.le_refl _⟩


theorem EnvOK.get {P : Program} {env : Env} (hE : EnvOK P env) {t : Nat} {ty : Ty} (h : env.ty t = some ty) :
    ∃ i d, P.info? t = some i ∧ P.underlying t = some d ∧ tyOf P t = some ty := by
  have h' := hE t ty h
  have h2 := h'
  unfold tyOf at h2
  split at h2
  · rename_i i d h3 h4; exact ⟨i, d, h3, h4, h'⟩
  · cases h2

theorem run_underlying' {P : Program} {t : TypeId} {d : TypeDesc} (w : World) (h : P.underlying t = some d) : (underlying t).run P w = .ok d w := by
  simp [underlying, h]
theorem run_typeInfo' {P : Program} {t : TypeId} {i : TypeInfo} (w : World) (h : P.info? t = some i) : (typeInfo t).run P w = .ok i w := by
  simp [typeInfo, h]
theorem run_sizeOf' {P : Program} {t : TypeId} {i : TypeInfo} (w : World) (h : P.info? t = some i) : (sizeOf t).run P w = .ok i.size w := by
  simp [sizeOf, run_typeInfo' w h]

section ops
variable {P : Program} {env : Env} {o : Oper} {E : Ent} {σ : St} {g : Gh} {M : Mem} {a : Act} {w : World} {e : Eff}

theorem does_move (hR : Rel E σ g M a w) (hG : GOK env M) {x : Operand} (ho : o.op = .move x ∨ o.op = .assign x) (he : e = ⟨aeval env σ x, []⟩) : Does P env o E σ g M a w e := by
  subst he
  refine Does.pure hR ?_ (V_aeval hR hG x)
  rcases ho with ho | ho <;> simp [execOp, ho]

theorem does_pick (hR : Rel E σ g M a w) (hG : GOK env M) {c x y : Operand} (ho : o.op = .pick c x y)
    (h : aop env o.dst (aeval env σ) σ.obj o.op = some e) : Does P env o E σ g M a w e := by
  rw [ho] at h
  simp only [aop] at h
  have hc := V_aeval (env := env) hR hG c
  split at h
  · rename_i t hct
    cases h
    rw [hct] at hc
    generalize hv0 : a.eval c = u at hc
    cases hc with
    | pv r =>
      have hv : a.eval c = .bool t := by cases r; exact hv0
      refine Does.pure (v := if t then a.eval x else a.eval y) hR ?_ ?_
      · simp [execOp, ho, hv, asBool]
      · cases t
        · exact V_aeval hR hG y
        · exact V_aeval hR hG x
  · cases h

theorem V.pv_inv {D : Nat → Prop} {p : PVal} {v : Value} (h : V g D M (.pv p) v) : Rd M p v := by cases h; assumption
theorem Rd.int_inv {k : IntKind} {n : Int} {v : Value} (h : Rd M (.int k n) v) : v = .int k n := by cases h; rfl
theorem Rd.bool_inv {b : Bool} {v : Value} (h : Rd M (.bool b) v) : v = .bool b := by cases h; rfl
theorem Rd.str_inv {s : List UInt8} {v : Value} (h : Rd M (.str s) v) : v = .string ⟨s.toArray⟩ := by cases h; rfl
theorem V.int_inv {D : Nat → Prop} {k : IntKind} {n : Int} {v : Value} (h : V g D M (.pv (.int k n)) v) : v = .int k n := h.pv_inv.int_inv
theorem V.bool_inv {D : Nat → Prop} {b : Bool} {v : Value} (h : V g D M (.pv (.bool b)) v) : v = .bool b := h.pv_inv.bool_inv
theorem V.str_inv {D : Nat → Prop} {s : List UInt8} {v : Value} (h : V g D M (.pv (.str s)) v) : v = .string ⟨s.toArray⟩ := h.pv_inv.str_inv
theorem V.ref_inv {D : Nat → Prop} {id off : Nat} {v : Value} (h : V g D M (.ref id off) v) : v = .pointer (some ⟨g.ρ id, off, none⟩) ∧ D id := by
  cases h with | ref _ _ hd => exact ⟨rfl, hd⟩
theorem V.eref_inv {D : Nat → Prop} {id i j sz : Nat} {v : Value} (h : V g D M (.eref id i j sz) v) : v = .pointer (some ⟨g.ρ id, i * sz + j, none⟩) ∧ D id := by
  cases h with | eref _ _ _ _ hd => exact ⟨rfl, hd⟩
theorem V.ptr_inv {D : Nat → Prop} {cs : List PVal} {v : Value} (h : V g D M (.pv (.ptr cs)) v) :
    ∃ b off, v = .pointer (some ⟨b, off, none⟩) ∧ ∀ j, j < cs.length → ∃ u, M b (off + j) = some u ∧ Rd M (cs.getD j .nilptr) u := by
  cases h.pv_inv with | ptr _ b off us h1 h2 => exact ⟨b, off, rfl, fun j hj => ⟨us j, h1 j hj, h2 j hj⟩⟩

theorem string_toList (s : List UInt8) : (ByteArray.mk s.toArray).toList = s := by
  rw [ByteArray.toList_eq]

theorem does_unOp (hR : Rel E σ g M a w) (hG : GOK env M) {op : UnOp} {t : TypeId} {x : Operand} (ho : o.op = .unOp op t x)
    (h : aop env o.dst (aeval env σ) σ.obj o.op = some e) : Does P env o E σ g M a w e := by
  rw [ho] at h
  simp only [aop] at h
  have hx := V_aeval (env := env) hR hG x
  split at h
  · rename_i b hb
    cases h
    rw [hb] at hx
    exact Does.pure hR (v := .bool !b) (by simp [execOp, ho, hx.bool_inv, Op.unary]) (.pv (.bool _))
  · rename_i k n hb
    cases h
    rw [hb] at hx
    exact Does.pure hR (v := .int k (k.wrap (0 - n))) (by simp [execOp, ho, hx.int_inv, Op.unary, Op.intArith]) (.pv (.int _ _))
  · cases h

theorem does_extract (hR : Rel E σ g M a w) (hG : GOK env M) {k : Nat} {x : Operand} (ho : o.op = .extract x k)
    (h : aop env o.dst (aeval env σ) σ.obj o.op = some e) : Does P env o E σ g M a w e := by
  rw [ho] at h
  simp only [aop] at h
  have hx := V_aeval (env := env) hR hG x
  split at h
  · rename_i vs hvs
    split at h
    · rename_i v hv
      cases h
      rw [hvs] at hx
      generalize hu : a.eval x = u at hx
      cases hx with
      | tup _ us hl hh =>
        have hk : k < vs.length := (List.getElem?_eq_some_iff.1 hv).1
        have e1 : vs.getD k .junk = v := by simp [List.getD, hv]
        have e2 := hh k hk
        rw [e1] at e2
        refine Does.pure hR (v := us.getD k undef) ?_ e2
        have hk' : k < us.length := by omega
        simp [execOp, ho, hu, Instr.extract, hk', List.getD]
    · cases h
  · cases h

theorem does_nilCheck (hR : Rel E σ g M a w) (hG : GOK env M) {x : Operand} (ho : o.op = .nilCheck x)
    (h : aop env o.dst (aeval env σ) σ.obj o.op = some e) : Does P env o E σ g M a w e := by
  rw [ho] at h
  simp only [aop] at h
  have hx := V_aeval (env := env) hR hG x
  split at h
  · rename_i id off hb
    cases h
    rw [hb] at hx
    exact Does.pure hR (v := a.eval x) (by simp [execOp, ho, hx.ref_inv.1]) hx
  · rename_i id i j sz hb
    cases h
    rw [hb] at hx
    exact Does.pure hR (v := a.eval x) (by simp [execOp, ho, hx.eref_inv.1]) hx
  · rename_i cs hb
    cases h
    rw [hb] at hx
    obtain ⟨b, off, hv, _⟩ := hx.ptr_inv
    exact Does.pure hR (v := a.eval x) (by simp [execOp, ho, hv]) hx
  · cases h

theorem run_equal_bool {t : TypeId} (ht : P.underlying t = some .bool) (x y : Bool) (w : World) : (Op.equal t (.bool x) (.bool y)).run P w = .ok (x == y) w := by
  have e : ∀ d, (Op.equalIn (d + 1) t (.bool x) (.bool y)).run P w = .ok (x == y) w := by
    intro d
    simp [Op.equalIn, run_underlying' w ht]
  exact e 9999

theorem kind_bool (hE : EnvOK P env) {t : Nat} (h : (env.ty t).map Ty.kind = some .bool) : P.underlying t = some .bool := by
  cases ht : env.ty t with
  | none => rw [ht] at h; cases h
  | some ty =>
    rw [ht] at h
    obtain ⟨i, d, hi, hd, hty⟩ := hE.get ht
    simp only [tyOf, hi, hd, Option.some.injEq] at hty
    subst hty
    simp only [Option.map_some, Option.some.injEq] at h
    cases d <;> simp at h
    exact hd

theorem does_binOp (hR : Rel E σ g M a w) (hG : GOK env M) (hE : EnvOK P env) {op : BinOp} {t t' : TypeId} {x y : Operand} (ho : o.op = .binOp op t x y t')
    (h : aop env o.dst (aeval env σ) σ.obj o.op = some e) : Does P env o E σ g M a w e := by
  rw [ho] at h
  simp only [aop] at h
  have hx := V_aeval (env := env) hR hG x
  have hy := V_aeval (env := env) hR hG y
  split at h
  · rename_i p q hp hq
    rw [hp] at hx
    rw [hq] at hy
    cases hr : abin op ((env.ty t).map Ty.kind) p q with
    | none => rw [hr] at h; cases h
    | some r =>
      rw [hr] at h
      simp only [Option.map_some, Option.some.injEq] at h
      subst h
      have hx' := hx.pv_inv
      have hy' := hy.pv_inv
      unfold abin at hr
      split at hr
      · rename_i k m k' n
        have ex := hx'.int_inv
        have ey := hy'.int_inv
        by_cases hk : k = k'
        · subst hk
          simp only [if_true] at hr
          cases op <;> simp only [Option.some.injEq, reduceCtorEq] at hr
          case quo | rem =>
            split at hr
            · cases hr
            · rename_i hn
              cases hr
              refine Does.pure hR ?_ (.pv (.int _ _))
              simp [execOp, ho, ex, ey, eqGuard, binOp, Op.intDiv, hn]
          all_goals (subst hr; refine Does.pure hR ?_ (.pv (by constructor)); simp [execOp, ho, ex, ey, eqGuard, binOp, Op.intArith, Op.intCmp])
        · rw [if_neg hk] at hr; cases hr
      · rename_i s u
        have ex := hx'.str_inv
        have ey := hy'.str_inv
        cases op <;> simp only [Option.some.injEq, reduceCtorEq] at hr
        case add =>
          split at hr
          · rename_i hn
            cases hr
            refine Does.pure hR (v := .string ⟨(s ++ u).toArray⟩) ?_ (.pv (.str _))
            have hle : ¬ ((((ByteArray.mk s.toArray).size + (ByteArray.mk u.toArray).size : Nat) : Int) > IntKind.i64.max) := by
              simp [ByteArray.size, IntKind.max, IntKind.signed, IntKind.bits]; omega
            have hap : (ByteArray.mk s.toArray) ++ (ByteArray.mk u.toArray) = ⟨(s ++ u).toArray⟩ := by
              apply ByteArray.ext; simp
            have hrun : (Op.stringOp .add ⟨s.toArray⟩ ⟨u.toArray⟩).run P w = .ok (.string ⟨(s ++ u).toArray⟩) w := by
              unfold Op.stringOp
              simp only []
              rw [if_neg hle, hap]
              rfl
            simp [execOp, ho, ex, ey, eqGuard, binOp, hrun]
          · cases hr
        all_goals (subst hr; refine Does.pure hR ?_ (.pv (by constructor)); simp [execOp, ho, ex, ey, eqGuard, binOp, Op.stringOp, string_toList])
      · rename_i s u
        have ex := hx'.bool_inv
        have ey := hy'.bool_inv
        split at hr
        · rename_i hkd
          have hb := kind_bool hE hkd
          cases op <;> simp only [Option.some.injEq, reduceCtorEq] at hr
          all_goals (subst hr; refine Does.pure hR ?_ (.pv (by constructor)); simp [execOp, ho, ex, ey, eqGuard, binOp, run_equal_bool hb])
        · cases hr
      · cases hr
  · cases h

end ops
end Go.Abs
