/- Contracts of functions, and one step of a region: an operation or a call by its contract. No condition. -/
import Derived.Test.YtlgilgaiibdgoaaAbs12
set_option linter.unusedSimpArgs false
set_option linter.unusedVariables false
namespace Go.Abs
open Go

mutual
def ren (ι : Nat → Nat) : AVal → AVal
  | .ref id off => .ref (ι id) off
  | .row id n => .row (ι id) n
  | .eref id i j sz => .eref (ι id) i j sz
  | .map id => .map (ι id)
  | .agg cs => .agg (renL ι cs)
  | .tup cs => .tup (renL ι cs)
  | .pv p => .pv p
  | .snil => .snil
  | .junk => .junk
def renL (ι : Nat → Nat) : List AVal → List AVal
  | [] => []
  | a :: r => ren ι a :: renL ι r
end

mutual
def inScope (n : Nat → Bool) : AVal → Bool
  | .ref id _ => n id
  | .row id _ => n id
  | .eref id _ _ _ => n id
  | .map id => n id
  | .agg cs => inScopeL n cs
  | .tup cs => inScopeL n cs
  | _ => true
def inScopeL (n : Nat → Bool) : List AVal → Bool
  | [] => true
  | a :: r => inScope n a && inScopeL n r
end

def renO (ι : Nat → Nat) : AObj → AObj
  | .cells cs => .cells (renL ι cs)
  | .row sz xs => .row sz xs
  | .map kd es => .map kd es
  | .dead => .dead
def inScopeO (n : Nat → Bool) : AObj → Bool
  | .cells cs => inScopeL n cs
  | _ => true

def hasObj (objs : List (Option AObj)) (id : Nat) : Bool := (objs.getD id none).isSome

def blocksOf (g : Gh) (objs : List (Option AObj)) (b : Nat) : Prop := ∃ id ob, objs.getD id none = some ob ∧ owns g id ob = some b

/-- The contract of a function: called with these arguments over these objects it returns this result and leaves these objects; nothing else that was there has changed. -/
def AC (P : Program) (gl : Nat → Option (List PVal)) (f : FuncId) (args : List AVal) (objs : List (Option AObj)) (res : AVal) (objs' : List (Option AObj)) : Prop :=
  ∀ (w : World) (M : Mem) (g : Gh) (vargs : List Value), Rel ⟨w, M, blocksOf g objs⟩ ⟨args, objs⟩ g M ⟨vargs.toArray, []⟩ w → GOK ⟨fun _ => none, gl, fun _ => 0, 0⟩ M →
    Calls P f vargs.toArray w fun e w' => ∃ v g' M', e = .returned v ∧ Rel ⟨w, M, blocksOf g objs⟩ ⟨[res], objs'⟩ g' M' ⟨#[v], []⟩ w' ∧ ∀ id, hasObj objs id = true → g.agree g' id

theorem renL_length (ι : Nat → Nat) : ∀ cs : List AVal, (renL ι cs).length = cs.length
  | [] => rfl
  | _ :: r => by simp [renL, renL_length ι r]
theorem renL_get (ι : Nat → Nat) : ∀ (cs : List AVal) (i : Nat), (renL ι cs).getD i .junk = ren ι (cs.getD i .junk)
  | [], i => by simp [renL, List.getD, ren]
  | c :: r, 0 => by simp [renL, List.getD]
  | c :: r, i + 1 => by have := renL_get ι r i; simpa [renL, List.getD] using this
theorem inScopeL_get (n : Nat → Bool) : ∀ (cs : List AVal) (i : Nat), inScopeL n cs = true → inScope n (cs.getD i .junk) = true
  | [], i, _ => by simp [List.getD, inScope]
  | c :: r, 0, h => by simp [inScopeL] at h; simpa [List.getD] using h.1
  | c :: r, i + 1, h => by simp [inScopeL] at h; have := inScopeL_get n r i h.2; simpa [List.getD] using this

theorem renL_pv (ι : Nat → Nat) : ∀ ps : List PVal, renL ι (ps.map .pv) = ps.map .pv
  | [] => rfl
  | p :: r => by simp [renL, ren, renL_pv ι r]
theorem inScopeL_pv (n : Nat → Bool) : ∀ ps : List PVal, inScopeL n (ps.map .pv) = true
  | [] => rfl
  | p :: r => by simp [inScopeL, inScope, inScopeL_pv n r]
theorem ren_mval (ι : Nat → Nat) (q : Bool × List PVal) : ren ι (mval q) = mval q := by
  unfold mval
  cases q.1 <;> simp [ren, renL_pv]
theorem inScope_mval (n : Nat → Bool) (q : Bool × List PVal) : inScope n (mval q) = true := by
  unfold mval
  cases q.1 <;> simp [inScope, inScopeL_pv]

/-- From the caller's names to the callee's. -/
theorem V_in {g gc : Gh} {D Dc : Nat → Prop} {M : Mem} {ι : Nat → Nat} {n : Nat → Bool} (hn : ∀ k, n k = true → Dc k ∧ gc.ρ k = g.ρ (ι k) ∧ gc.κ k = g.κ (ι k) ∧ gc.ν k = g.ν (ι k)) :
    ∀ {x : AVal} {v : Value}, V g D M x v → ∀ c : AVal, x = ren ι c → inScope n c = true → V gc Dc M c v := by
  intro x v h
  induction h with
  | pv r => intro c e hs; cases c <;> simp only [ren, reduceCtorEq] at e; cases e; exact .pv r
  | snil => intro c e hs; cases c <;> simp only [ren, reduceCtorEq] at e; exact .snil
  | ref id off hd =>
    intro c e hs; cases c <;> simp only [ren, reduceCtorEq] at e; cases e
    obtain ⟨h1, h2, h3, h4⟩ := hn _ hs
    rw [← h2]; exact .ref _ _ h1
  | row id m hd hnu =>
    intro c e hs; cases c <;> simp only [ren, reduceCtorEq] at e; cases e
    obtain ⟨h1, h2, h3, h4⟩ := hn _ hs
    rw [← h2, ← h3]; exact .row _ _ h1 (by rw [h4]; exact hnu)
  | rown id hd hnu =>
    intro c e hs; cases c <;> simp only [ren, reduceCtorEq] at e; cases e
    obtain ⟨h1, h2, h3, h4⟩ := hn _ hs
    exact .rown _ h1 (by rw [h4]; exact hnu)
  | eref id i j sz hd =>
    intro c e hs; cases c <;> simp only [ren, reduceCtorEq] at e; cases e
    obtain ⟨h1, h2, h3, h4⟩ := hn _ hs
    rw [← h2]; exact .eref _ _ _ _ h1
  | map id hd =>
    intro c e hs; cases c <;> simp only [ren, reduceCtorEq] at e; cases e
    obtain ⟨h1, h2, h3, h4⟩ := hn _ hs
    rw [← h2]; exact .map _ h1
  | agg cs vs hl _ ih =>
    intro c e hs; cases c <;> simp only [ren, reduceCtorEq] at e; cases e
    rename_i cs' _
    rw [renL_length] at hl
    exact .agg cs' vs hl (fun i hi => ih i (by rw [renL_length]; exact hi) _ (renL_get ι cs' i) (inScopeL_get n cs' i hs))
  | tup cs vs hl _ ih =>
    intro c e hs; cases c <;> simp only [ren, reduceCtorEq] at e; cases e
    rename_i cs' _
    rw [renL_length] at hl
    exact .tup cs' vs hl (fun i hi => ih i (by rw [renL_length]; exact hi) _ (renL_get ι cs' i) (inScopeL_get n cs' i hs))
  | junk v => intro c e hs; cases c <;> simp only [ren, reduceCtorEq] at e; exact .junk v

/-- From the callee's names to the caller's. -/
theorem V_out {g gc : Gh} {D Dc : Nat → Prop} {M M' : Mem} {ι : Nat → Nat} (hM : Mem.le M M') (hn : ∀ k, Dc k → D (ι k) ∧ g.ρ (ι k) = gc.ρ k ∧ g.κ (ι k) = gc.κ k ∧ g.ν (ι k) = gc.ν k) :
    ∀ {c : AVal} {v : Value}, V gc Dc M c v → V g D M' (ren ι c) v := by
  intro c v h
  induction h with
  | pv r => exact .pv (r.mono hM)
  | snil => exact .snil
  | ref id off hd => obtain ⟨h1, h2, h3, h4⟩ := hn _ hd; rw [← h2]; exact .ref _ _ h1
  | row id m hd hnu => obtain ⟨h1, h2, h3, h4⟩ := hn _ hd; rw [← h2, ← h3]; exact .row _ _ h1 (by rw [h4]; exact hnu)
  | rown id hd hnu => obtain ⟨h1, h2, h3, h4⟩ := hn _ hd; exact .rown _ h1 (by rw [h4]; exact hnu)
  | eref id i j sz hd => obtain ⟨h1, h2, h3, h4⟩ := hn _ hd; rw [← h2]; exact .eref _ _ _ _ h1
  | map id hd => obtain ⟨h1, h2, h3, h4⟩ := hn _ hd; rw [← h2]; exact .map _ h1
  | agg cs vs hl _ ih => exact .agg _ vs (by rw [renL_length]; exact hl) (fun i hi => by rw [renL_length] at hi; rw [renL_get]; exact ih i hi)
  | tup cs vs hl _ ih => exact .tup _ vs (by rw [renL_length]; exact hl) (fun i hi => by rw [renL_length] at hi; rw [renL_get]; exact ih i hi)
  | junk v => exact .junk v

/-- The updates that a call brings: the callee's objects under the caller's names. -/
def callUpd (ι : Nat → Nat) : List Nat → Nat → List (Option AObj) → List (Nat × AObj)
  | [], _, _ => []
  | id :: ids, k, objs' => (id, renO ι ((objs'.getD k none).getD .dead)) :: callUpd ι ids (k + 1) objs'

def DoesW (P : Program) (o : Oper) (E : Ent) (σ : St) (g : Gh) (M : Mem) (a : Act) (w : World) (e : Eff) : Prop :=
  ∀ (next : Act → World → Prop) (Q : Exit → Act → World → Prop),
    (∀ v w' g' M', Rel E (σ.app o.dst e) g' M' (a.put o.dst v) w' → (∀ id, σ.dom id → g.agree g' id) → Mem.le M M' → next (a.put o.dst v) w') → o.wp P a w next Q

theorem Does.toW {P : Program} {env : Env} {o : Oper} {E : Ent} {σ : St} {g : Gh} {M : Mem} {a : Act} {w : World} {e : Eff} (h : Does P env o E σ g M a w e) : DoesW P o E σ g M a w e := by
  intro next Q hn
  obtain ⟨n, v, w', g', M', hrun, hv, hR, hag, hM⟩ := h
  unfold Oper.wp
  rw [hrun]
  rcases hv with rfl | ⟨rfl, rfl⟩
  · exact hn v w' g' M' hR hag hM
  · exact hn _ w' g' M' hR hag hM

def setAll (objs : List (Option AObj)) (upd : List (Nat × AObj)) : List (Option AObj) := upd.foldl (fun l q => l.set q.1 (some q.2)) objs
theorem setAll_length : ∀ (upd : List (Nat × AObj)) (objs : List (Option AObj)), (setAll objs upd).length = objs.length
  | [], _ => rfl
  | q :: r, objs => by simp only [setAll, List.foldl_cons]; exact (setAll_length r _).trans (by simp)
theorem setAll_other : ∀ (upd : List (Nat × AObj)) (objs : List (Option AObj)) (id : Nat), (∀ q, q ∈ upd → q.1 ≠ id) → (setAll objs upd).getD id none = objs.getD id none
  | [], _, _, _ => rfl
  | q :: r, objs, id, h => by
    simp only [setAll, List.foldl_cons]
    refine (setAll_other r _ id (fun p hp => h p (by simp [hp]))).trans ?_
    simp [List.getD, List.getElem?_set_ne (h q (by simp))]
theorem callUpd_ids (ι : Nat → Nat) : ∀ (l : List Nat) (k : Nat) (objs' : List (Option AObj)) (q : Nat × AObj), q ∈ callUpd ι l k objs' → q.1 ∈ l
  | [], _, _, _, h => by simp [callUpd] at h
  | id :: r, k, objs', q, h => by
    simp only [callUpd, List.mem_cons] at h
    rcases h with rfl | h
    · simp
    · simp [callUpd_ids ι r (k + 1) objs' q h]
theorem callUpd_get (ι : Nat → Nat) : ∀ (l : List Nat) (k : Nat) (objs' objs : List (Option AObj)) (j : Nat), l.Nodup → (∀ id, id ∈ l → id < objs.length) → (hj : j < l.length) →
    (setAll objs (callUpd ι l k objs')).getD (l.getD j 0) none = some (renO ι ((objs'.getD (k + j) none).getD .dead))
  | [], _, _, _, _, _, _, hj => by simp at hj
  | id :: r, k, objs', objs, 0, hnd, hlt, _ => by
    rw [List.nodup_cons] at hnd
    simp only [callUpd, setAll, List.foldl_cons, List.getD_cons_zero, Nat.add_zero]
    refine (setAll_other _ _ id (fun q hq e => hnd.1 (e ▸ callUpd_ids ι r (k + 1) objs' q hq))).trans ?_
    simp [List.getD, hlt id (by simp)]
  | id :: r, k, objs', objs, j + 1, hnd, hlt, hj => by
    rw [List.nodup_cons] at hnd
    simp only [callUpd, setAll, List.foldl_cons, List.getD_cons_succ]
    have := callUpd_get ι r (k + 1) objs' (objs.set id (some (renO ι ((objs'.getD k none).getD .dead)))) j hnd.2 (fun i hi => by simp; exact hlt i (by simp [hi])) (by simpa using hj)
    rw [show k + 1 + j = k + (j + 1) by omega] at this
    exact this

theorem owns_ren (g : Gh) (ι : Nat → Nat) (id : Nat) (ob : AObj) : owns g id (renO ι ob) = owns g id ob := by cases ob <;> rfl

section call
variable {P : Program} {env : Env} {o : Oper} {E : Ent} {σ : St} {g : Gh} {M : Mem} {a : Act} {w : World}

structure CallFits (P : Program) (env : Env) (σ : St) (o : Oper) (f : FuncId) (args : Array Operand) (cargs : List AVal) (cobjs : List (Option AObj)) (ids news : List Nat) (objs' : List (Option AObj)) : Prop where
  op : ∃ tys, o.op = .call ⟨.value (.func f), args, tys⟩
  enters : ∀ vargs w, (callFunc f vargs).run P w = .ok (.enter f vargs) w
  args : args.toList.map (aeval env σ) = renL (fun k => (ids ++ news).getD k 0) cargs
  objs : ids.map σ.obj = cobjs.map (Option.map (renO fun k => (ids ++ news).getD k 0))
  scopeA : inScopeL (hasObj cobjs) cargs = true
  scopeO : ∀ ob, some ob ∈ cobjs → inScopeO (hasObj cobjs) ob = true
  nodup : (ids ++ news).Nodup
  lt : ∀ id, id ∈ ids ++ news → id < env.nobj
  fresh : ∀ id, id ∈ news → σ.obj id = none
  len : objs'.length ≤ (ids ++ news).length

theorem getD_lt {α : Type} (l : List α) (k : Nat) (d : α) (h : k < l.length) : l.getD k d = l[k] := by
  rw [List.getD_eq_getElem?_getD, List.getElem?_eq_getElem h]; rfl

theorem nodup_get_inj {l : List Nat} (h : l.Nodup) {i j : Nat} (hi : i < l.length) (hj : j < l.length) (e : l.getD i 0 = l.getD j 0) : i = j := by
  have h1 : l[i] = l[j] := by simpa [List.getD, hi, hj] using e
  exact (List.nodup_iff_pairwise_ne.1 h |> fun hp => by
    rcases Nat.lt_trichotomy i j with hlt | heq | hgt
    · exact absurd h1 (List.pairwise_iff_getElem.1 hp i j hi hj hlt)
    · exact heq
    · exact absurd h1.symm (List.pairwise_iff_getElem.1 hp j i hj hi hgt))

theorem call_does (hR : Rel E σ g M a w) (hG : GOK env M) (hl : σ.objs.length = env.nobj) {f : FuncId} {args : Array Operand} {cargs : List AVal} {cobjs : List (Option AObj)} {ids news : List Nat} {res : AVal} {objs' : List (Option AObj)}
    (hfit : CallFits P env σ o f args cargs cobjs ids news objs') (hac : AC P env.gl f cargs cobjs res objs') :
    DoesW P o E σ g M a w ⟨ren (fun k => (ids ++ news).getD k 0) res, callUpd (fun k => (ids ++ news).getD k 0) (ids ++ news) 0 objs'⟩ := by
  intro next Q hn
  obtain ⟨⟨tys, ho⟩, hent, hargs, hobjs, hscA, hscO, hnd, hlt, hfr, hlen⟩ := hfit
  generalize hι : (fun k => (ids ++ news).getD k 0) = ι at *
  have hιe : ∀ k, ι k = (ids ++ news).getD k 0 := fun k => by rw [← hι]
  have hcl : cobjs.length = ids.length := by have := congrArg List.length hobjs; simpa using this.symm
  -- the callee's objects in the caller
  have hco : ∀ k ob, cobjs.getD k none = some ob → k < ids.length ∧ σ.obj (ι k) = some (renO ι ob) := fun k ob hk => by
    have hkl : k < cobjs.length := by
      rcases Nat.lt_or_ge k cobjs.length with h | h
      · exact h
      · simp [List.getD, List.getElem?_eq_none h] at hk
    have h1 := congrArg (fun l => l[k]?) hobjs
    simp only [List.getElem?_map] at h1
    have hkI : k < ids.length := by omega
    rw [List.getElem?_eq_getElem hkI, List.getElem?_eq_getElem hkl] at h1
    simp only [Option.map_some, Option.some.injEq] at h1
    have h2 : cobjs[k] = some ob := by simpa [List.getD, hkl] using hk
    rw [h2] at h1
    have h3 : ι k = ids[k] := by rw [hιe]; simp [List.getD, List.getElem?_append_left hkI, hkI]
    rw [h3, h1]; exact ⟨hkI, rfl⟩
  have hrun : (execOp a.eval o).run P w = .ok (.enter f (args.map a.eval)) w := by
    simp only [execOp, ho, resolve, Sem.run_bind, Act.eval, Deferred.ofValue, Sem.run_pure, Result.andThen, invoke]
    have := hent (args.map a.eval) w
    simpa using this
  have hva : (args.map a.eval) = (args.toList.map a.eval).toArray := by apply Array.ext'; simp
  let gc : Gh := ⟨fun k => g.ρ (ι k), fun k => g.κ (ι k), fun k => g.ν (ι k)⟩
  have hsc : ∀ k, hasObj cobjs k = true → St.dom ⟨cargs, cobjs⟩ k ∧ gc.ρ k = g.ρ (ι k) ∧ gc.κ k = g.κ (ι k) ∧ gc.ν k = g.ν (ι k) := fun k hk => by
    refine ⟨fun h0 => ?_, rfl, rfl, rfl⟩
    have h1 : cobjs.getD k none = none := h0
    simp only [hasObj] at hk
    rw [h1] at hk
    cases hk
  have hown : ∀ k ob, owns gc k ob = owns g (ι k) ob := fun k ob => by cases ob <;> rfl
  have hargl : cargs.length = args.size := by have := congrArg List.length hargs; simpa [renL_length] using this.symm
  have hRc : Rel ⟨w, M, blocksOf gc cobjs⟩ ⟨cargs, cobjs⟩ gc M ⟨(args.toList.map a.eval).toArray, []⟩ w := by
    refine ⟨by simp [hargl], rfl, ?_, ?_, ?_, ?_, hR.sat, Mem.le_refl _, fun _ _ _ _ => rfl, Nat.le_refl _, fun _ _ _ => rfl, ?_, rfl, rfl, rfl⟩
    · intro i hi
      have hi' : i < args.toList.length := by simpa [hargl] using hi
      have hi2 : i < args.size := by simpa using hi'
      have e1 : (args.toList.map a.eval).toArray.getD i undef = a.eval args.toList[i] := by simp [hi2]
      have e2 : aeval env σ args.toList[i] = ren ι (cargs.getD i .junk) := by
        rw [← renL_get, ← hargs]; simp [List.getD, hi2]
      show V gc _ M (cargs.getD i .junk) _
      have h5 := V_in (gc := gc) (Dc := St.dom ⟨cargs, cobjs⟩) hsc (V_aeval (env := env) hR hG args.toList[i]) (cargs.getD i .junk) e2 (inScopeL_get _ _ _ hscA)
      rw [← e1] at h5
      exact h5
    · intro k ob hk
      have hk' : cobjs.getD k none = some ob := hk
      obtain ⟨hkI, hσ⟩ := hco k ob hk'
      have hor := hR.objs _ _ hσ
      have hmem : some ob ∈ cobjs := by
        have hkl : k < cobjs.length := by omega
        have h2 : cobjs[k] = some ob := by simpa [List.getD, hkl] using hk'
        rw [← h2]; exact List.getElem_mem hkl
      have hso := hscO ob hmem
      cases ob with
      | cells cs =>
        obtain ⟨vals, T, hh, hs, hv⟩ := hor
        refine ⟨vals, T, hh, by rw [hs, renL_length], fun j hj => ?_⟩
        exact V_in (gc := gc) hsc (hv j (by rw [renL_length]; exact hj)) _ (renL_get ι cs j) (inScopeL_get _ _ _ hso)
      | row sz xs => exact hor
      | map kd es =>
        obtain ⟨ents, clock, hh, hs, hv⟩ := hor
        refine ⟨ents, clock, hh, hs, fun i e he => ?_⟩
        obtain ⟨en, h1, h2, h3, h4⟩ := hv i e he
        exact ⟨en, h1, h2, h3, V_in (gc := gc) hsc h4 _ (ren_mval _ _).symm (inScope_mval _ _)⟩
      | dead => trivial
    · intro k k' ob ob' b hk hk' hb hb'
      obtain ⟨hkI, hσ⟩ := hco k ob hk
      obtain ⟨hkI', hσ'⟩ := hco k' ob' hk'
      rw [hown] at hb hb'
      have h1 := hR.apart _ _ _ _ b hσ hσ' (by rw [owns_ren]; exact hb) (by rw [owns_ren]; exact hb')
      rw [hιe, hιe] at h1
      exact nodup_get_inj hnd (by simp; omega) (by simp; omega) h1
    · intro k ob b hk hb i
      obtain ⟨hkI, hσ⟩ := hco k ob hk
      rw [hown] at hb
      exact hR.offM _ _ b hσ (by rw [owns_ren]; exact hb) i
    · intro k ob b hk hb
      exact .inl ⟨k, ob, hk, hb⟩
  have hB : ∀ b, blocksOf gc cobjs b → ∃ k ob, k < ids.length ∧ σ.obj (ι k) = some ob ∧ owns g (ι k) ob = some b := fun b ⟨k, ob, hk, hb⟩ => by
    obtain ⟨hkI, hσ⟩ := hco k ob hk
    rw [hown] at hb
    exact ⟨k, _, hkI, hσ, by rw [owns_ren]; exact hb⟩
  have hcalls := hac w M gc (args.toList.map a.eval) hRc hG
  unfold Oper.wp
  rw [hrun, hva]
  refine Calls.mono hcalls fun e w' ⟨v, g2, M', he, hR2, hag⟩ => ?_
  subst he
  -- the caller's new ghost
  let g' : Gh := ⟨fun id => if id ∈ ids ++ news then g2.ρ ((ids ++ news).idxOf id) else g.ρ id, fun id => if id ∈ ids ++ news then g2.κ ((ids ++ news).idxOf id) else g.κ id, fun id => if id ∈ ids ++ news then g2.ν ((ids ++ news).idxOf id) else g.ν id⟩
  have hidx : ∀ k, k < (ids ++ news).length → (ids ++ news).idxOf (ι k) = k := fun k hk => by
    rw [hιe]
    have : (ids ++ news).getD k 0 = (ids ++ news)[k] := getD_lt _ _ _ hk
    rw [this]
    exact List.Nodup.idxOf_getElem hnd k hk
  have hmemι : ∀ k, k < (ids ++ news).length → ι k ∈ ids ++ news := fun k hk => by
    rw [hιe]
    have : (ids ++ news).getD k 0 = (ids ++ news)[k] := getD_lt _ _ _ hk
    rw [this]; exact List.getElem_mem hk
  have hg' : ∀ k, k < (ids ++ news).length → g'.ρ (ι k) = g2.ρ k ∧ g'.κ (ι k) = g2.κ k ∧ g'.ν (ι k) = g2.ν k := fun k hk => by
    simp only [g', hmemι k hk, if_true, hidx k hk, and_self]
  have hgo : ∀ id, id ∉ ids ++ news → g.agree g' id := fun id hid => by simp only [g', Gh.agree, hid, if_false, and_self]
  have hfind : ∀ id, id ∈ ids ++ news → ∃ k, k < (ids ++ news).length ∧ ι k = id := fun id hid => by
    obtain ⟨k, hk, rfl⟩ := List.mem_iff_getElem.1 hid
    exact ⟨k, hk, by rw [hιe]; exact getD_lt _ _ _ hk⟩
  have hagree : ∀ id, σ.dom id → g.agree g' id := fun id hd => by
    by_cases hid : id ∈ ids ++ news
    · obtain ⟨k, hk, rfl⟩ := hfind id hid
      have hkI : k < ids.length := by
        rcases Nat.lt_or_ge k ids.length with h | h
        · exact h
        · exfalso
          apply hd
          apply hfr
          rw [hιe]
          simp only [List.length_append] at hk
          have h9 : k - ids.length < news.length := by omega
          simp [List.getD, List.getElem?_append_right h, h9]
      have hob : hasObj cobjs k = true := by
        have h1 := congrArg (fun l => l[k]?) hobjs
        have hkl : k < cobjs.length := by omega
        simp only [List.getElem?_map, List.getElem?_eq_getElem hkI, List.getElem?_eq_getElem hkl, Option.map_some, Option.some.injEq] at h1
        have h3 : ι k = ids[k] := by rw [hιe]; simp [List.getD, List.getElem?_append_left hkI, hkI]
        simp only [hasObj, List.getD, List.getElem?_eq_getElem hkl, Option.getD_some]
        cases hc : cobjs[k] with
        | none =>
          rw [hc] at h1
          exfalso; apply hd; rw [h3]; exact h1
        | some x => rfl
      obtain ⟨h1, h2, h3⟩ := hag k hob
      obtain ⟨h4, h5, h6⟩ := hg' k hk
      exact ⟨by rw [h4, h1], by rw [h5, h2], by rw [h6, h3]⟩
    · exact hgo id hid
  refine hn v w' g' M' ?_ hagree hR2.M0
  -- the new state
  have hobjNew : ∀ k, k < (ids ++ news).length → (setAll σ.objs (callUpd ι (ids ++ news) 0 objs')).getD (ι k) none = some (renO ι ((objs'.getD k none).getD .dead)) := fun k hk => by
    have := callUpd_get ι (ids ++ news) 0 objs' σ.objs k hnd (fun id hid => by rw [hl]; exact hlt id hid) hk
    rw [Nat.zero_add, ← hιe] at this
    exact this
  have hobjOld : ∀ id, id ∉ ids ++ news → (setAll σ.objs (callUpd ι (ids ++ news) 0 objs')).getD id none = σ.obj id := fun id hid =>
    setAll_other _ _ id (fun q hq e => hid (e ▸ callUpd_ids ι _ _ _ q hq))
  let σ1 : St := ⟨σ.slots, setAll σ.objs (callUpd ι (ids ++ news) 0 objs')⟩
  have hobj1 : ∀ id ob, σ1.obj id = some ob → (∃ k, k < (ids ++ news).length ∧ ι k = id ∧ ob = renO ι ((objs'.getD k none).getD .dead)) ∨ (id ∉ ids ++ news ∧ σ.obj id = some ob) := fun id ob ho => by
    by_cases hid : id ∈ ids ++ news
    · obtain ⟨k, hk, rfl⟩ := hfind id hid
      have h1 : σ1.obj (ι k) = _ := hobjNew k hk
      rw [h1] at ho
      cases ho
      exact .inl ⟨k, hk, rfl, rfl⟩
    · have h1 : σ1.obj id = σ.obj id := hobjOld id hid
      rw [h1] at ho
      exact .inr ⟨hid, ho⟩
  have hdom1 : ∀ id, σ.dom id → σ1.dom id := fun id hd => by
    by_cases hid : id ∈ ids ++ news
    · obtain ⟨k, hk, rfl⟩ := hfind id hid
      have h1 : σ1.obj (ι k) = _ := hobjNew k hk
      simp [St.dom, h1]
    · have h1 : σ1.obj id = σ.obj id := hobjOld id hid
      simp only [St.dom, h1]; exact hd
  have hdom2 : ∀ k, St.dom ⟨[res], objs'⟩ k → σ1.dom (ι k) ∧ g'.ρ (ι k) = g2.ρ k ∧ g'.κ (ι k) = g2.κ k ∧ g'.ν (ι k) = g2.ν k := fun k hk => by
    have hkl : k < objs'.length := by
      rcases Nat.lt_or_ge k objs'.length with h | h
      · exact h
      · exfalso; apply hk; simp [St.obj, List.getElem?_eq_none h]
    have hk2 : k < (ids ++ news).length := by omega
    refine ⟨?_, hg' k hk2⟩
    have h1 : σ1.obj (ι k) = _ := hobjNew k hk2
    simp [St.dom, h1]
  have hownNew : ∀ k ob, k < (ids ++ news).length → owns g' (ι k) ob = owns g2 k ob := fun k ob hk => by
    obtain ⟨h1, h2, h3⟩ := hg' k hk
    cases ob <;> simp [owns, h1, h3]
  -- an object of the callee
  have hcase : ∀ k b, owns g2 k ((objs'.getD k none).getD .dead) = some b → ∃ ob, objs'.getD k none = some ob ∧ owns g2 k ob = some b := fun k b h => by
    cases ho : objs'.getD k none with
    | none => rw [ho] at h; simp [owns] at h
    | some ob => rw [ho] at h; exact ⟨ob, rfl, h⟩
  have hnotB : ∀ id ob b, id ∉ ids ++ news → σ.obj id = some ob → owns g id ob = some b → ¬ blocksOf gc cobjs b := fun id ob b hid ho hb hBb => by
    obtain ⟨k, ob', hkI, hσ, hb'⟩ := hB b hBb
    have := hR.apart id (ι k) ob ob' b ho hσ hb hb'
    exact hid (by rw [this]; exact hmemι k (by simp; omega))
  have hR1 : Rel E σ1 g' M' a w' := by
    refine ⟨hR.size, hR.defers, ?_, ?_, ?_, ?_, hR2.sat, fun b i u hu => hR2.M0 b i u (hR.M0 b i u hu), ?_, Nat.le_trans hR.size0 hR2.size0, ?_, ?_, hR2.os.trans hR.os, hR2.tape.trans hR.tape, hR2.output.trans hR.output⟩
    · intro i hi
      exact (hR.slots i hi).mono hagree hdom1 hR2.M0
    · intro id ob ho
      rcases hobj1 id ob ho with ⟨k, hk, rfl, rfl⟩ | ⟨hid, ho'⟩
      · cases hob : objs'.getD k none with
        | none => trivial
        | some ob =>
          have hor := hR2.objs k ob hob
          obtain ⟨h1, h2, h3⟩ := hg' k hk
          cases ob with
          | cells cs =>
            obtain ⟨vals, T, hh, hs, hv⟩ := hor
            refine ⟨vals, T, by rw [h1]; exact hh, by rw [hs]; simp [renL_length], fun j hj => ?_⟩
            simp only [Option.getD_some, renL_length] at hj ⊢
            rw [renL_get]
            exact V_out (Mem.le_refl _) hdom2 (hv j hj)
          | row sz xs =>
            obtain ⟨r1, r2, r3⟩ := hor
            refine ⟨r1, fun hnu => r2 (by rw [← h3]; exact hnu), fun hnu => ?_⟩
            obtain ⟨vals, T, hh, r4, r5, r6⟩ := r3 (by rw [← h3]; exact hnu)
            exact ⟨vals, T, by rw [h1]; exact hh, by rw [h2]; exact r4, by rw [h2]; exact r5, r6⟩
          | map kd es =>
            obtain ⟨ents, clock, hh, hs, hv⟩ := hor
            refine ⟨ents, clock, by rw [h1]; exact hh, hs, fun i e he => ?_⟩
            obtain ⟨en, q1, q2, q3, q4⟩ := hv i e he
            exact ⟨en, q1, q2, q3, ren_mval ι e.2 ▸ V_out (Mem.le_refl _) hdom2 q4⟩
          | dead => trivial
      · refine (hR.objs id ob ho').keep hagree (hgo id hid) hdom1 hR2.M0 (fun b hb => ?_)
        exact hR2.same b (owns_lt (hR.objs id ob ho') hb) (hnotB id ob b hid ho' hb)
    · intro id id' ob ob' b ho ho' hb hb'
      rcases hobj1 id ob ho with ⟨k, hk, rfl, rfl⟩ | ⟨hid, hoo⟩
      · rw [owns_ren, hownNew k _ hk] at hb
        obtain ⟨x, hx, hxb⟩ := hcase k b hb
        rcases hobj1 id' ob' ho' with ⟨k', hk', rfl, rfl⟩ | ⟨hid', hoo'⟩
        · rw [owns_ren, hownNew k' _ hk'] at hb'
          obtain ⟨x', hx', hxb'⟩ := hcase k' b hb'
          rw [hR2.apart k k' x x' b hx hx' hxb hxb']
        · exfalso
          rw [owns_agree (hgo id' hid')] at hb'
          rcases hR2.own0 k x b hx hxb with h1 | h1
          · exact hnotB id' ob' b hid' hoo' hb' h1
          · have := owns_lt (hR.objs id' ob' hoo') hb'; simp at h1; omega
      · rw [owns_agree (hgo id hid)] at hb
        rcases hobj1 id' ob' ho' with ⟨k', hk', rfl, rfl⟩ | ⟨hid', hoo'⟩
        · exfalso
          rw [owns_ren, hownNew k' _ hk'] at hb'
          obtain ⟨x', hx', hxb'⟩ := hcase k' b hb'
          rcases hR2.own0 k' x' b hx' hxb' with h1 | h1
          · exact hnotB id ob b hid hoo hb h1
          · have := owns_lt (hR.objs id ob hoo) hb; simp at h1; omega
        · rw [owns_agree (hgo id' hid')] at hb'
          exact hR.apart id id' ob ob' b hoo hoo' hb hb'
    · intro id ob b ho hb i
      rcases hobj1 id ob ho with ⟨k, hk, rfl, rfl⟩ | ⟨hid, hoo⟩
      · rw [owns_ren, hownNew k _ hk] at hb
        obtain ⟨x, hx, hxb⟩ := hcase k b hb
        exact hR2.offM k x b hx hxb i
      · rw [owns_agree (hgo id hid)] at hb
        have h1 := hR2.Mnew b i (owns_lt (hR.objs id ob hoo) hb) (hnotB id ob b hid hoo hb)
        rw [h1]
        exact hR.offM id ob b hoo hb i
    · intro b i hb hnB
      have h2 : ¬ blocksOf gc cobjs b := fun hBb => by
        obtain ⟨k, ob', hkI, hσ, hb'⟩ := hB b hBb
        rcases hR.own0 _ _ b hσ hb' with h1 | h1
        · exact hnB h1
        · omega
      rw [hR2.Mnew b i (Nat.lt_of_lt_of_le hb hR.size0) h2]
      exact hR.Mnew b i hb hnB
    · intro b hb hnB
      have h2 : ¬ blocksOf gc cobjs b := fun hBb => by
        obtain ⟨k, ob', hkI, hσ, hb'⟩ := hB b hBb
        rcases hR.own0 _ _ b hσ hb' with h1 | h1
        · exact hnB h1
        · omega
      rw [hR2.same b (Nat.lt_of_lt_of_le hb hR.size0) h2]
      exact hR.same b hb hnB
    · intro id ob b ho hb
      rcases hobj1 id ob ho with ⟨k, hk, rfl, rfl⟩ | ⟨hid, hoo⟩
      · rw [owns_ren, hownNew k _ hk] at hb
        obtain ⟨x, hx, hxb⟩ := hcase k b hb
        rcases hR2.own0 k x b hx hxb with h1 | h1
        · obtain ⟨k', ob', _, hσ, hb'⟩ := hB b h1
          exact hR.own0 _ _ b hσ hb'
        · right; have := hR.size0; simp at h1; omega
      · rw [owns_agree (hgo id hid)] at hb
        exact hR.own0 id ob b hoo hb
  have hres : V g' σ1.dom M' (ren ι res) v := by
    have h1 := hR2.slots 0 (by simp)
    exact V_out (Mem.le_refl _) hdom2 (by simpa [St.slot] using h1)
  exact hR1.put o.dst hres
end call

end Go.Abs
