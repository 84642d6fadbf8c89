/- Each abstract operation is what the model's operation does: maps with keys of one cell. No condition. -/
import Derived.Test.YtlgilgaiibdgoaaAbs11
set_option linter.unusedSimpArgs false
set_option linter.unusedVariables false
namespace Go.Abs
open Go
section
variable {P : Program} {env : Env} {o : Oper} {E : Ent} {σ : St} {g : Gh} {M : Mem} {a : Act} {w : World} {e : Eff}

theorem bytes_beq (s t : List UInt8) : ((ByteArray.mk s.toArray) == (ByteArray.mk t.toArray)) = (s == t) := by
  show (s.toArray == t.toArray) = (s == t)
  rw [Bool.eq_iff_iff]
  simp
theorem bytes_beq_self (s : List UInt8) : ((ByteArray.mk s.toArray) == (ByteArray.mk s.toArray)) = true := by
  rw [bytes_beq]; simp

theorem ty_map (hE : EnvOK P env) {t : Nat} {ty : Ty} (h : env.ty t = some ty) (hk : ty.kind = .map) :
    ∃ k el, P.underlying t = some (.map k el) ∧ ty.kKind = kdOf P k ∧ ty.eZV = tyZV P el := by
  obtain ⟨i, d, hi, hd, hty⟩ := hE.get h
  simp only [tyOf, hi, hd, Option.some.injEq] at hty
  subst hty
  cases d <;> simp at hk
  exact ⟨_, _, hd, rfl, rfl⟩

/-- The keys of one cell. -/
theorem key_desc {k : TypeId} {kd : Kd} (hkd : kdOf P k = kd) {p : PVal} (hp : keyOk kd p = true) :
    ∃ d, P.underlying k = some d ∧ ((∃ j, d = .int j ∧ kd = .int j) ∨ (d = .bool ∧ kd = .bool) ∨ (d = .string ∧ kd = .string)) := by
  unfold kdOf at hkd
  split at hkd
  · rename_i j h; exact ⟨_, h, .inl ⟨j, rfl, hkd.symm⟩⟩
  · rename_i h; exact ⟨_, h, .inr (.inl ⟨rfl, hkd.symm⟩)⟩
  · rename_i h; exact ⟨_, h, .inr (.inr ⟨rfl, hkd.symm⟩)⟩
  · subst hkd
    cases p <;> simp [keyOk] at hp

theorem same_now {d : TypeDesc} {kd : Kd} (hd : (∃ j, d = .int j ∧ kd = .int j) ∨ (d = .bool ∧ kd = .bool) ∨ (d = .string ∧ kd = .string)) {p q : PVal} (hp : keyOk kd p = true) (hq : keyOk kd q = true) {v u : Value} (hv : Rd M p v) (hu : Rd M q u) :
    Instr.sameNow d v u = some (keyEq p q) := by
  rcases hd with ⟨j, rfl, rfl⟩ | ⟨rfl, rfl⟩ | ⟨rfl, rfl⟩
  · cases p <;> simp [keyOk] at hp
    cases q <;> simp [keyOk] at hq
    subst hp hq
    rw [hv.int_inv, hu.int_inv]
    simp [Instr.sameNow, keyEq]
  · cases p <;> simp [keyOk] at hp
    cases q <;> simp [keyOk] at hq
    rw [hv.bool_inv, hu.bool_inv]
    simp [Instr.sameNow, keyEq]
  · cases p <;> simp [keyOk] at hp
    cases q <;> simp [keyOk] at hq
    rw [hv.str_inv, hu.str_inv]
    simp only [Instr.sameNow, keyEq]
    rename_i s t
    rw [bytes_beq]

theorem check_key {k : TypeId} {d : TypeDesc} (hu : P.underlying k = some d) {kd : Kd} (hd : (∃ j, d = .int j ∧ kd = .int j) ∨ (d = .bool ∧ kd = .bool) ∨ (d = .string ∧ kd = .string)) (b : Bool) (n : Nat) (v : Value) (w : World) :
    (Instr.checkKey b (n + 1) k v).run P w = .ok () w := by
  rcases hd with ⟨j, rfl, _⟩ | ⟨rfl, _⟩ | ⟨rfl, _⟩
  all_goals
    simp only [Instr.checkKey, Sem.run_bind, run_underlying' w hu, Result.andThen]
    rfl

/-- How entries read. -/
def Ents (g : Gh) (D : Nat → Prop) (M : Mem) (kd : Kd) : List (PVal × Bool × List PVal) → List MapEntry → Prop
  | [], [] => True
  | e :: r, en :: s => keyOk kd e.1 = true ∧ Rd M e.1 en.key ∧ V g D M (mval e.2) en.val ∧ Ents g D M kd r s
  | _, _ => False

theorem ents_of {D : Nat → Prop} {kd : Kd} : ∀ {es : List (PVal × Bool × List PVal)} {l : List MapEntry}, l.length = es.length →
    (∀ (i : Nat) (e : PVal × Bool × List PVal), es[i]? = some e → ∃ en : MapEntry, l[i]? = some en ∧ keyOk kd e.1 = true ∧ Rd M e.1 en.key ∧ V g D M (mval e.2) en.val) → Ents g D M kd es l
  | [], [], _, _ => trivial
  | e :: r, en :: s, hl, h => by
    obtain ⟨en', h1, h2, h3, h4⟩ := h 0 e rfl
    simp at h1; subst h1
    exact ⟨h2, h3, h4, ents_of (by simpa using hl) (fun i e' he => by have := h (i + 1) e' (by simpa using he); simpa using this)⟩
  | [], _ :: _, hl, _ => by simp at hl
  | _ :: _, [], hl, _ => by simp at hl

theorem of_ents {D : Nat → Prop} {kd : Kd} : ∀ {es : List (PVal × Bool × List PVal)} {l : List MapEntry}, Ents g D M kd es l → l.length = es.length ∧
    ∀ (i : Nat) (e : PVal × Bool × List PVal), es[i]? = some e → ∃ en : MapEntry, l[i]? = some en ∧ keyOk kd e.1 = true ∧ Rd M e.1 en.key ∧ V g D M (mval e.2) en.val
  | [], [], _ => ⟨rfl, fun i e he => by simp at he⟩
  | e :: r, en :: s, ⟨h1, h2, h3, h4⟩ => by
    obtain ⟨h5, h6⟩ := of_ents h4
    refine ⟨by simp [h5], fun i e' he => ?_⟩
    cases i with
    | zero => simp at he; subst he; exact ⟨en, rfl, h1, h2, h3⟩
    | succ i => have := h6 i e' (by simpa using he); simpa using this
  | [], _ :: _, h => h.elim
  | _ :: _, [], h => h.elim

theorem find_now {d : TypeDesc} {kd : Kd} (hd : (∃ j, d = .int j ∧ kd = .int j) ∨ (d = .bool ∧ kd = .bool) ∨ (d = .string ∧ kd = .string)) {D : Nat → Prop} {p : PVal} (hp : keyOk kd p = true) {v : Value} (hv : Rd M p v) :
    ∀ {es : List (PVal × Bool × List PVal)} {l : List MapEntry} (i : Nat), Ents g D M kd es l →
      (mfind p es = none ∧ Instr.findNow d v l i = some none) ∨
      (∃ k q en, k < l.length ∧ mfind p es = some q ∧ l[k]? = some en ∧ Instr.findNow d v l i = some (some (i + k, en.val)) ∧ V g D M (mval q) en.val ∧ ∃ e, es[k]? = some e ∧ keyEq p e.1 = true ∧ Rd M e.1 en.key ∧ keyOk kd e.1 = true ∧
        ∀ q', mset p q' es = es.set k (p, q'))
  | [], [], i, _ => .inl ⟨rfl, rfl⟩
  | e :: r, en :: s, i, ⟨h1, h2, h3, h4⟩ => by
    have hsame := same_now hd hp h1 hv h2
    cases hk : keyEq p e.1 with
    | true =>
      rw [hk] at hsame
      refine .inr ⟨0, e.2, en, by simp, by simp [mfind, hk], rfl, by simp [Instr.findNow, hsame], h3, e, rfl, hk, h2, h1, fun q' => by simp [mset, hk]⟩
    | false =>
      rw [hk] at hsame
      rcases find_now hd hp hv (i + 1) h4 with ⟨h5, h6⟩ | ⟨k, q, en', h5, h6, h7, h8, h9, e', h10, h11, h12, h13, h14⟩
      · exact .inl ⟨by simp [mfind, hk, h5], by simp [Instr.findNow, hsame, h6]⟩
      · refine .inr ⟨k + 1, q, en', by simp; omega, by simp [mfind, hk, h6], by simpa using h7, ?_, h9, e', by simpa using h10, h11, h12, h13, fun q' => by simp [mset, hk, h14]⟩
        simp only [Instr.findNow, hsame, h8]
        congr 3
        omega
  | [], _ :: _, _, h => h.elim
  | _ :: _, [], _, h => h.elim

theorem mset_none {p : PVal} {q : Bool × List PVal} : ∀ {es : List (PVal × Bool × List PVal)}, mfind p es = none → mset p q es = es ++ [(p, q)]
  | [], _ => rfl
  | e :: r, h => by
    simp only [mfind] at h
    split at h
    · cases h
    · rename_i hk; simp [mset, hk, mset_none h]

theorem tyZV_run {el : TypeId} {z : Bool × List PVal} (h : tyZV P el = some z) : ∃ zv : Value, (∀ w, (zeroValue el).run P w = .ok zv w) ∧ ∀ (g : Gh) (D : Nat → Prop) (M : Mem), V g D M (mval z) zv := by
  unfold tyZV at h
  split at h
  · rename_i i hi
    split at h
    · rename_i cs hz
      refine ⟨.agg cs, fun w => by simp [zeroValue, run_typeInfo' w hi, hz], fun g D M => ?_⟩
      cases hps : toPs (cs.toList.map absCell) with
      | none => rw [hps] at h; cases h
      | some ps =>
        rw [hps] at h
        cases h
        have hpl : ps.length = cs.size := by have := toPs_length hps; simpa using this
        refine V_aggArr (by simpa using hpl.symm) (fun j hj => ?_)
        have hj1 : j < ps.length := by simpa using hj
        have h3 : (ps.map AVal.pv).getD j .junk = .pv (ps.getD j .nilptr) := by simp [List.getD, hj1]
        rw [h3]
        have h1 := toPs_get hps j (by simp; omega)
        have h2 : (cs.toList.map absCell).getD j .junk = absCell (cs.getD j undef) := by
          have : j < cs.size := by omega
          simp [List.getD, this]
        rw [h2] at h1
        exact .pv (V_toP (V_absCell g D M _) h1)
    · rename_i v _ hz
      refine ⟨v, fun w => by simp [zeroValue, run_typeInfo' w hi, hz], fun g D M => ?_⟩
      cases hp : (absCell v).toP with
      | none => rw [hp] at h; cases h
      | some p =>
        rw [hp] at h
        cases h
        exact .pv (V_toP (V_absCell g D M v) hp)
    · cases h
  · cases h

theorem V_toMV {D : Nat → Prop} {x : AVal} {q : Bool × List PVal} {v : Value} (h : V g D M x v) (hq : toMV x = some q) : V g D M (mval q) v := by
  unfold toMV at hq
  split at hq
  · rename_i cs
    cases hps : toPs cs with
    | none => rw [hps] at hq; cases hq
    | some ps =>
      rw [hps] at hq
      cases hq
      cases h with
      | agg _ vs hl hv =>
        have hpl := toPs_length hps
        refine .agg _ vs (by simp [hpl, hl]) (fun j hj => ?_)
        have hj1 : j < ps.length := by simpa using hj
        have h3 : (ps.map AVal.pv).getD j .junk = .pv (ps.getD j .nilptr) := by simp [List.getD, hj1]
        rw [h3]
        exact .pv (V_toP (hv j (by omega)) (toPs_get hps j (by omega)))
  · rename_i hne
    cases hp : x.toP with
    | none => rw [hp] at hq; cases hq
    | some p =>
      rw [hp] at hq
      cases hq
      exact .pv (V_toP h hp)

theorem does_makeMap (hR : Rel E σ g M a w) (hE : EnvOK P env) (hl : σ.objs.length = env.nobj) {t : TypeId} {r : Option Operand} (ho : o.op = .makeMap t r)
    (h : aop env o.dst (aeval env σ) σ.obj o.op = some e) : Does P env o E σ g M a w e := by
  cases r with
  | some r => rw [ho] at h; simp [aop] at h
  | none =>
    rw [ho] at h
    simp only [aop] at h
    split at h
    · rename_i ty d ht hd
      split at h
      · rename_i hk hn
        split at h
        · rename_i hc
          cases h
          have hne : ∀ i, σ.dom i → i ≠ env.site d := fun i hi e => hi (by rw [e]; exact hn)
          have hag : ∀ i, σ.dom i → g.agree (g.set (env.site d) w.heap.size 0 false) i := fun i hi => Gh.set_agree (hne i hi)
          have hR' := hR.freshO (by omega) hn (.map #[] 0) 0 (.map ty.kKind []) (by
            refine ⟨#[], 0, ?_, rfl, fun i e he => by simp at he⟩
            have e1 : (g.set (env.site d) w.heap.size 0 false).ρ (env.site d) = w.heap.size := by simp [Gh.set]
            rw [e1]; exact heap_alloc_new _ _)
          refine ⟨_, .map (some w.heap.size), _, _, M, by simp [execOp, ho, Instr.makeMap]; rfl, .inl rfl, ?_, hag, Mem.le_refl _⟩
          rw [app_one]
          refine hR'.put o.dst ?_
          have : (some w.heap.size) = some ((g.set (env.site d) w.heap.size 0 false).ρ (env.site d)) := by simp [Gh.set]
          rw [this]
          exact .map _ (by simp [St.dom, St.obj_set_self (σ := σ) (id := env.site d) (by omega)])
        · cases h
      · cases h
    · cases h

theorem V.map_inv {D : Nat → Prop} {id : Nat} {v : Value} (h : V g D M (.map id) v) : v = .map (some (g.ρ id)) ∧ D id := by
  cases h with | map _ hd => exact ⟨rfl, hd⟩

theorem does_lookup (hR : Rel E σ g M a w) (hG : GOK env M) (hE : EnvOK P env) {t : TypeId} {x k : Operand} {ok : Bool} (ho : o.op = .lookup t x k ok)
    (h : aop env o.dst (aeval env σ) σ.obj o.op = some e) : Does P env o E σ g M a w e := by
  rw [ho] at h
  simp only [aop] at h
  have hx := V_aeval (env := env) hR hG x
  have hk := V_aeval (env := env) hR hG k
  split at h
  · rename_i ty id key ht hx' hk'
    rw [hx'] at hx
    rw [hk'] at hk
    obtain ⟨hxv, hd⟩ := hx.map_inv
    have hkv := hk.pv_inv
    split at h
    · rename_i kd es z hkind hob hz
      split at h
      · rename_i hc
        obtain ⟨hkd, hko⟩ := hc
        cases h
        obtain ⟨kt, el, hu, hkk, hzv⟩ := ty_map hE ht hkind
        obtain ⟨ents, clock, hh, hsz, hents⟩ := hR.objs id _ hob
        obtain ⟨d, hud, hdd⟩ := key_desc (P := P) (k := kt) (kd := kd) (by rw [hkd, hkk]) hko
        have hE' : Ents g σ.dom M kd es ents.toList := ents_of (by simpa using hsz) (fun i e he => by simpa using hents i e he)
        obtain ⟨zv, hzr, hzV⟩ := tyZV_run (P := P) (hzv ▸ hz)
        have hget : (getObj (g.ρ id)).run P w = .ok (.map ents clock) w := by simp [getObj, Sem.run, hh]
        have hck := check_key (P := P) hud hdd ents.isEmpty 9999 (a.eval k) w
        have hres : ∀ (v : Value) (b : Bool) (X : Bool × List PVal), V g σ.dom M (mval X) v →
            ((match (if ok then Value.tuple #[v, .bool b] else v) with | u => (execOp a.eval o).run P w = .ok (.value u) w)) → Does P env o E σ g M a w ⟨if ok then .tup [mval X, .pv (.bool b)] else mval X, []⟩ := by
          intro v b X hX hrun
          refine Does.pure hR hrun ?_
          cases ok
          · exact hX
          · exact .tup _ [v, .bool b] rfl (fun i hi => by
              match i, hi with
              | 0, _ => exact hX
              | 1, _ => exact .pv (.bool b))
        rcases find_now hdd hko hkv 0 hE' with ⟨h1, h2⟩ | ⟨kk, q, en, h1, h2, h3, h4, h5, _⟩
        · rw [h1]
          refine hres zv false z (hzV _ _ _) ?_
          simp only [execOp, ho, Instr.lookup, Sem.run_bind, run_underlying' w hu, Result.andThen, hxv, hget, Sem.run_pure]
          rw [show (10000 : Nat) = 9999 + 1 from rfl, hck]
          simp only [Instr.findKey, Sem.run_bind, run_underlying' w hud, Result.andThen, h2, Sem.run_pure, hzr]
        · rw [h2]
          refine hres en.val true q h5 ?_
          simp only [execOp, ho, Instr.lookup, Sem.run_bind, run_underlying' w hu, Result.andThen, hxv, hget, Sem.run_pure]
          rw [show (10000 : Nat) = 9999 + 1 from rfl, hck]
          simp only [Instr.findKey, Sem.run_bind, run_underlying' w hud, Result.andThen, h4, Sem.run_pure]
      · cases h
    · cases h
  · cases h

theorem same_bits {kd : Kd} {p q : PVal} (hp : keyOk kd p = true) (hq : keyOk kd q = true) (h : keyEq p q = true) {v u : Value} (hv : Rd M p v) (hu : Rd M q u) : Instr.sameBits 10000 u v = true ∧ u = v := by
  cases p <;> cases q <;> simp [keyEq] at h
  · obtain ⟨rfl, rfl⟩ := h
    rw [hv.int_inv, hu.int_inv]; simp [Instr.sameBits]
  · subst h
    rw [hv.bool_inv, hu.bool_inv]; simp [Instr.sameBits]
  · subst h
    rw [hv.str_inv, hu.str_inv]
    refine ⟨?_, rfl⟩
    simp only [Instr.sameBits]
    exact bytes_beq_self _

theorem does_mapUpdate (hR : Rel E σ g M a w) (hG : GOK env M) (hE : EnvOK P env) {t : TypeId} {m k x : Operand} (ho : o.op = .mapUpdate t m k x)
    (h : aop env o.dst (aeval env σ) σ.obj o.op = some e) : Does P env o E σ g M a w e := by
  rw [ho] at h
  simp only [aop] at h
  have hm := V_aeval (env := env) hR hG m
  have hk := V_aeval (env := env) hR hG k
  have hx := V_aeval (env := env) hR hG x
  split at h
  · rename_i ty id key v ht hm' hk' hv'
    rw [hm'] at hm
    rw [hk'] at hk
    obtain ⟨hmv, hd⟩ := hm.map_inv
    have hkv := hk.pv_inv
    have hxv := V_toMV hx hv'
    split at h
    · rename_i kd es hkind hob
      split at h
      · rename_i hc
        obtain ⟨hkd, hko⟩ := hc
        cases h
        obtain ⟨kt, el, hu, hkk, _⟩ := ty_map hE ht hkind
        obtain ⟨ents, clock, hh, hsz, hents⟩ := hR.objs id _ hob
        obtain ⟨d, hud, hdd⟩ := key_desc (P := P) (k := kt) (kd := kd) (by rw [hkd, hkk]) hko
        have hE' : Ents g σ.dom M kd es ents.toList := ents_of (by simpa using hsz) (fun i e he => by simpa using hents i e he)
        have hlt : g.ρ id < w.heap.size := (Array.getElem?_eq_some_iff.1 hh).1
        have hl' := dom_of_some hob
        have hget : (getObj (g.ρ id)).run P w = .ok (.map ents clock) w := by simp [getObj, Sem.run, hh]
        have hset : ∀ o' : Obj, (setObj (g.ρ id) o').run P w = .ok () { w with heap := w.heap.setIfInBounds (g.ρ id) o' } := fun o' => by simp [setObj, Sem.run, hh]
        have hck := check_key (P := P) hud hdd false 9999 (a.eval k) w
        have fin : ∀ (ents' : Array MapEntry) (clock' : Nat), (execOp a.eval o).run P w = .ok .skip { w with heap := w.heap.setIfInBounds (g.ρ id) (.map ents' clock') } →
            Ents g σ.dom M kd (mset key v es) ents'.toList → Does P env o E σ g M a w ⟨.junk, [(id, .map kd (mset key v es))]⟩ := by
          intro ents' clock' hrun hents'
          refine ⟨_, undef, _, g, M, hrun, .inr ⟨rfl, rfl⟩, ?_, fun _ _ => Gh.agree_refl _ _, Mem.le_refl _⟩
          rw [app_one]
          have hheap : ∀ b, ({ w with heap := w.heap.setIfInBounds (g.ρ id) (.map ents' clock') } : World).heap[b]? = if b = g.ρ id then some (.map ents' clock') else w.heap[b]? := fun b => by
            simp only [Array.getElem?_setIfInBounds]
            by_cases hb : g.ρ id = b
            · subst hb; simp [hlt]
            · rw [if_neg hb, if_neg (fun h => hb h.symm)]
          have hR' : Rel E (σ.set id (.map kd (mset key v es))) g M a { w with heap := w.heap.setIfInBounds (g.ρ id) (.map ents' clock') } := by
            refine hR.update (fun i => i = id) rfl (fun i hi => St.obj_set_ne (fun e => hi e.symm)) (fun i hi => dom_set i hi) (fun i hi => Gh.agree_refl _ _) ?_ ?_ ?_ ?_ (by simp) rfl rfl rfl
            · rintro i ob' rfl ho'
              rw [St.obj_set_self hl'] at ho'
              cases ho'
              obtain ⟨h5, h6⟩ := of_ents hents'
              refine ⟨ents', clock', by rw [hheap, if_pos rfl], by simpa using h5, fun j e he => ?_⟩
              obtain ⟨en, q1, q2, q3, q4⟩ := h6 j e he
              exact ⟨en, by simpa using q1, q2, q3, q4.mono (fun _ _ => Gh.agree_refl _ _) (fun i hi => dom_set i hi) (Mem.le_refl _)⟩
            · intro b hb hno
              rw [hheap, if_neg (fun hbe => hno id _ rfl hob (by simp [owns, hbe]))]
            · rintro i ob' b rfl ho' hb
              rw [St.obj_set_self hl'] at ho'
              cases ho'
              exact .inr ⟨i, _, rfl, hob, hb⟩
            · rintro i i' _ _ _ rfl rfl _ _ _ _; rfl
          exact hR'.put o.dst (.junk _)
        have pre : ∀ r, Instr.findNow d (a.eval k) ents.toList 0 = some r → (execOp a.eval o).run P w =
            ((match r with
              | some (i, _) => do
                let key ← Instr.keyThatStays (((ents[i]?).map (·.key)).getD (a.eval k)) (a.eval k)
                setObj (g.ρ id) (.map (ents.modify i fun e => { e with key, val := a.eval x }) clock)
              | none => setObj (g.ρ id) (.map (ents.push { key := a.eval k, val := a.eval x, born := clock }) (clock + 1)) : Sem Unit).run P w).andThen fun _ w' => .ok .skip w' := by
          intro r hr
          simp only [execOp, ho, Instr.mapUpdate, Sem.run_bind, run_underlying' w hu, Result.andThen, hmv, hget]
          rw [show (10000 : Nat) = 9999 + 1 from rfl, hck]
          simp only [Instr.findKey, Sem.run_bind, run_underlying' w hud, Result.andThen, hr, Sem.run_pure]
          cases r with
          | none => rfl
          | some q => cases q; rfl
        rcases find_now hdd hko hkv 0 hE' with ⟨h1, h2⟩ | ⟨kk, q, en, h1, h2, h3, h4, h5, e0, h6, h7, h8, h9, h10⟩
        · refine fin (ents.push { key := a.eval k, val := a.eval x, born := clock }) (clock + 1) ((pre none h2).trans (by simp only [hset, Result.andThen])) ?_
          rw [mset_none h1]
          have : ∀ {es' : List (PVal × Bool × List PVal)} {l : List MapEntry}, Ents g σ.dom M kd es' l → Ents g σ.dom M kd (es' ++ [(key, v)]) (l ++ [{ key := a.eval k, val := a.eval x, born := clock }]) := by
            intro es'
            induction es' with
            | nil => intro l hl; cases l with
              | nil => exact ⟨hko, hkv, hxv, trivial⟩
              | cons _ _ => exact hl.elim
            | cons e r ih => intro l hl; cases l with
              | nil => exact hl.elim
              | cons en s => exact ⟨hl.1, hl.2.1, hl.2.2.1, ih hl.2.2.2⟩
          simpa using this hE'
        · have h3' : ents[kk]? = some en := by simpa using h3
          obtain ⟨hb1, hb2⟩ := same_bits hko h9 h7 hkv h8
          have hstay : (Instr.keyThatStays (((ents[0 + kk]?).map (·.key)).getD (a.eval k)) (a.eval k)).run P w = .ok (a.eval k) w := by
            rw [Nat.zero_add, h3']
            simp only [Option.map_some, Option.getD_some, Instr.keyThatStays]
            rw [if_pos hb1]; rfl
          refine fin (ents.modify (0 + kk) fun e => { e with key := a.eval k, val := a.eval x }) clock ((pre _ h4).trans (by simp only [Sem.run_bind, hstay, Result.andThen, hset])) ?_
          rw [h10 v, Nat.zero_add]
          obtain ⟨hlen, hg⟩ := of_ents hE'
          refine ents_of (by simp; simpa using hlen) (fun i e he => ?_)
          by_cases hi : kk = i
          · subst hi
            have hlt2 : kk < es.length := (List.getElem?_eq_some_iff.1 h6).1
            rw [List.getElem?_set_self hlt2] at he
            cases he
            refine ⟨{ en with key := a.eval k, val := a.eval x }, ?_, hko, hkv, hxv⟩
            simp [h3']
          · rw [List.getElem?_set_ne hi] at he
            obtain ⟨en', q1, q2, q3, q4⟩ := hg i e he
            refine ⟨en', ?_, q2, q3, q4⟩
            simp at q1
            simp [Array.getElem?_modify, hi, q1]
      · cases h
    · cases h
  · cases h
end
end Go.Abs
