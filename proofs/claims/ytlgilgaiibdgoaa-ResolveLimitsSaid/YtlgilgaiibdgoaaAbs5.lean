/- Each abstract operation is what the model's operation does: strings, lengths, extremes, cuts, structs. No condition. -/
import Derived.Test.YtlgilgaiibdgoaaAbs4
set_option linter.unusedSimpArgs false
set_option linter.unusedVariables false
namespace Go.Abs
open Go
section ops
variable {P : Program} {env : Env} {o : Oper} {E : Ent} {σ : St} {g : Gh} {M : Mem} {a : Act} {w : World} {e : Eff}

theorem does_index (hR : Rel E σ g M a w) (hG : GOK env M) (hE : EnvOK P env) {t : TypeId} {x ix : Operand} (ho : o.op = .index t x ix)
    (h : aop env o.dst (aeval env σ) σ.obj o.op = some e) : Does P env o E σ g M a w e := by
  rw [ho] at h
  simp only [aop] at h
  have hx := V_aeval (env := env) hR hG x
  have hi := V_aeval (env := env) hR hG ix
  split at h
  · rename_i ty k i ht hix
    rw [hix] at hi
    have hi' := hi.int_inv
    split at h
    · rename_i s hk hx'
      split at h
      · rename_i hc
        cases h
        rw [hx'] at hx
        have hs := hx.str_inv
        refine Does.pure hR (v := .int .u8 ((s.getD i.toNat 0).toNat : Int)) ?_ (.pv (.int _ _))
        have hget : (ByteArray.mk s.toArray)[i.toNat]? = some (s.getD i.toNat 0) := by
          have hsz : i.toNat < (ByteArray.mk s.toArray).size := by simpa [ByteArray.size] using hc.2
          rw [getElem?_pos (ByteArray.mk s.toArray) i.toNat hsz]
          simp [List.getD, hc.2]
          rfl
        simp only [execOp, ho, Instr.index, hi', hs, asIntOf, Sem.run_bind, Sem.run_pure, Result.andThen, run_underlying' w (ty_string hE ht hk), hc.1, if_true, hget]
      · cases h
    · cases h
  · cases h

theorem run_builtin_value {b : Builtin} {args : Array Operand} {tys : Array TypeId} {v : Value} (ho : o.op = .call ⟨.builtin b, args, tys⟩)
    (h : (builtin b tys o.type (args.map fun | .const _ => true | _ => false) (args.map a.eval)).run P w = .ok (.value v) w) :
    (execOp a.eval o).run P w = .ok (.value v) w := by
  simp only [execOp, ho, resolve, Sem.run_bind, Sem.run_pure, Result.andThen, invoke]
  exact h

theorem toList_one {α : Type} {xs : Array α} {x : α} (h : xs.toList = [x]) : xs = #[x] := by
  cases xs; simp at h; subst h; rfl
theorem toList_cons {α : Type} {xs : Array α} {x : α} {r : List α} (h : xs.toList = x :: r) : xs = (x :: r).toArray := by
  cases xs; simp at h; subst h; rfl

theorem does_len (hR : Rel E σ g M a w) (hG : GOK env M) (hE : EnvOK P env) {args : Array Operand} {tys : Array TypeId} (ho : o.op = .call ⟨.builtin .len, args, tys⟩)
    (h : aop env o.dst (aeval env σ) σ.obj o.op = some e) : Does P env o E σ g M a w e := by
  rw [ho] at h
  simp only [aop] at h
  split at h
  · rename_i x t hargs htys
    have hx := V_aeval (env := env) hR hG x
    have e1 := toList_one hargs
    have e2 := toList_one htys
    subst e1 e2
    split at h
    · rename_i ty ht
      have key : ∀ (n : Nat) (d : TypeDesc), P.underlying t = some d →
          ((d = .string ∧ ∃ s : ByteArray, a.eval x = .string s ∧ s.size = n) ∨ (∃ el, d = .slice el ∧ ∃ b c, a.eval x = .slice b n c) ∨ (∃ el, d = .array n el)) →
          Does P env o E σ g M a w ⟨.pv (.int .i64 n), []⟩ := by
        intro n d hd hcase
        refine Does.pure hR (v := .int .i64 n) (run_builtin_value ho ?_) (.pv (.int _ _))
        rcases hcase with ⟨rfl, s, hs, rfl⟩ | ⟨el, rfl, b, c, hs⟩ | ⟨el, rfl⟩
        · simp [builtin, Builtin.len_, run_underlying' w hd, hs, goInt]
        · simp [builtin, Builtin.len_, run_underlying' w hd, hs, goInt]
        · cases hv : a.eval x <;> simp [builtin, Builtin.len_, run_underlying' w hd, goInt]
      split at h
      · rename_i s hk hx'
        cases h
        rw [hx'] at hx
        exact key s.length _ (ty_string hE ht hk) (.inl ⟨rfl, _, hx.str_inv, by simp [ByteArray.size]⟩)
      · rename_i xs hk hx'
        cases h
        rw [hx'] at hx
        obtain ⟨el, hu, _⟩ := ty_slice hE ht hk
        refine key xs.length _ hu (.inr (.inl ⟨el, rfl, ?_⟩))
        have hr := hx.pv_inv
        generalize a.eval x = v at hr
        cases hr with
        | nils => exact ⟨_, _, rfl⟩
        | slice => exact ⟨_, _, rfl⟩
      · rename_i hk hx'
        cases h
        rw [hx'] at hx
        obtain ⟨el, hu, _⟩ := ty_slice hE ht hk
        refine key 0 _ hu (.inr (.inl ⟨el, rfl, ?_⟩))
        generalize a.eval x = v at hx
        cases hx; exact ⟨_, _, rfl⟩
      · rename_i id n hk hx'
        cases h
        rw [hx'] at hx
        obtain ⟨el, hu, _⟩ := ty_slice hE ht hk
        refine key n _ hu (.inr (.inl ⟨el, rfl, ?_⟩))
        generalize a.eval x = v at hx
        cases hx <;> exact ⟨_, _, rfl⟩
      · rename_i n hk
        cases h
        obtain ⟨el, hu, _⟩ := ty_array hE ht hk
        exact key n _ hu (.inr (.inr ⟨el, rfl⟩))
      · cases h
    · cases h
  · cases h

theorem fold_max (hR : Rel E σ g M a w) (hG : GOK env M) : ∀ (r : List Operand) (p q : PVal) (v : Value), Rd M p v → afold amax p (r.map (aeval env σ)) = some q →
    ∃ u, ((r.map a.eval).foldlM Builtin.max2 v).run P w = .ok u w ∧ Rd M q u
  | [], p, q, v, hp, h => by cases h; exact ⟨v, rfl, hp⟩
  | x :: r, p, q, v, hp, h => by
    have hx := V_aeval (env := env) hR hG x
    simp only [List.map_cons] at h
    cases hxe : aeval env σ x with
    | pv p' =>
      rw [hxe] at h hx
      simp only [afold] at h
      cases hm : amax p p' with
      | none => rw [hm] at h; cases h
      | some m =>
        rw [hm] at h
        unfold amax at hm
        split at hm
        · rename_i k i k' j
          cases hm
          have e1 := hp.int_inv
          have e2 := hx.int_inv
          subst e1
          obtain ⟨u, h1, h2⟩ := fold_max hR hG r _ q (.int k (if j > i then j else i)) (.int _ _) h
          refine ⟨u, ?_, h2⟩
          simp only [List.map_cons, List.foldlM_cons, Sem.run_bind, e2, Builtin.max2, Sem.run_pure, Result.andThen]
          exact h1
        · cases hm
    | _ => rw [hxe] at h; simp [afold] at h

theorem fold_min (hR : Rel E σ g M a w) (hG : GOK env M) : ∀ (r : List Operand) (p q : PVal) (v : Value), Rd M p v → afold amin p (r.map (aeval env σ)) = some q →
    ∃ u, ((r.map a.eval).foldlM Builtin.min2 v).run P w = .ok u w ∧ Rd M q u
  | [], p, q, v, hp, h => by cases h; exact ⟨v, rfl, hp⟩
  | x :: r, p, q, v, hp, h => by
    have hx := V_aeval (env := env) hR hG x
    simp only [List.map_cons] at h
    cases hxe : aeval env σ x with
    | pv p' =>
      rw [hxe] at h hx
      simp only [afold] at h
      cases hm : amin p p' with
      | none => rw [hm] at h; cases h
      | some m =>
        rw [hm] at h
        unfold amin at hm
        split at hm
        · rename_i k i k' j
          cases hm
          have e1 := hp.int_inv
          have e2 := hx.int_inv
          subst e1
          obtain ⟨u, h1, h2⟩ := fold_min hR hG r _ q (.int k (if j < i then j else i)) (.int _ _) h
          refine ⟨u, ?_, h2⟩
          simp only [List.map_cons, List.foldlM_cons, Sem.run_bind, e2, Builtin.min2, Sem.run_pure, Result.andThen]
          exact h1
        · cases hm
    | _ => rw [hxe] at h; simp [afold] at h

theorem does_max (hR : Rel E σ g M a w) (hG : GOK env M) {args : Array Operand} {tys : Array TypeId} (ho : o.op = .call ⟨.builtin .max, args, tys⟩)
    (h : aop env o.dst (aeval env σ) σ.obj o.op = some e) : Does P env o E σ g M a w e := by
  rw [ho] at h
  simp only [aop] at h
  split at h
  · rename_i x r hargs
    have hx := V_aeval (env := env) hR hG x
    have e1 := toList_cons hargs
    subst e1
    split at h
    · rename_i p hp
      rw [hp] at hx
      cases hf : afold amax p (r.map (aeval env σ)) with
      | none => rw [hf] at h; cases h
      | some q =>
        rw [hf] at h
        cases h
        obtain ⟨u, h1, h2⟩ := fold_max (P := P) hR hG r p q _ hx.pv_inv hf
        refine Does.pure hR (v := u) (run_builtin_value ho ?_) (.pv h2)
        simp [builtin, Builtin.max_, h1]
    · cases h
  · cases h

theorem does_min (hR : Rel E σ g M a w) (hG : GOK env M) {args : Array Operand} {tys : Array TypeId} (ho : o.op = .call ⟨.builtin .min, args, tys⟩)
    (h : aop env o.dst (aeval env σ) σ.obj o.op = some e) : Does P env o E σ g M a w e := by
  rw [ho] at h
  simp only [aop] at h
  split at h
  · rename_i x r hargs
    have hx := V_aeval (env := env) hR hG x
    have e1 := toList_cons hargs
    subst e1
    split at h
    · rename_i p hp
      rw [hp] at hx
      cases hf : afold amin p (r.map (aeval env σ)) with
      | none => rw [hf] at h; cases h
      | some q =>
        rw [hf] at h
        cases h
        obtain ⟨u, h1, h2⟩ := fold_min (P := P) hR hG r p q _ hx.pv_inv hf
        refine Does.pure hR (v := u) (run_builtin_value ho ?_) (.pv h2)
        simp [builtin, Builtin.min_, h1]
    · cases h
  · cases h
end ops
end Go.Abs
