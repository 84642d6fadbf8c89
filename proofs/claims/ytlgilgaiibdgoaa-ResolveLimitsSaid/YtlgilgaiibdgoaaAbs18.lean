/- A function's contract out of the abstract walk of its body. No condition. -/
import Derived.Test.YtlgilgaiibdgoaaAbs17
set_option linter.unusedSimpArgs false
set_option linter.unusedVariables false
namespace Go.Abs
open Go

def aresOne (env : Env) (σ : St) : ResultVar → Option AVal
  | .tmp t => some (σ.slot t)
  | .cell a t => match env.ty t, σ.slot a with
    | some ty, .ref id off => match σ.obj id with
      | some (.cells cs) => if off + ty.size ≤ cs.length ∧ 0 < ty.size then some (if ty.agg then .agg ((cs.drop off).take ty.size) else cs.getD off .junk) else none
      | _ => none
    | _, _ => none

def ares (env : Env) (σ : St) : List ResultVar → Option (List AVal)
  | [] => some []
  | r :: rs => match aresOne env σ r, ares env σ rs with
    | some v, some vs => some (v :: vs)
    | _, _ => none

def pack : List AVal → AVal
  | [v] => v
  | vs => .tup vs

section
variable {P : Program} {env : Env} {σ : St} {E : Ent} {g : Gh} {M : Mem} {a : Act} {w : World}

theorem aresOne_run (hR : Rel E σ g M a w) (hE : EnvOK P env) {r : ResultVar} {x : AVal} (h : aresOne env σ r = some x) :
    ∃ v, (match r with | .tmp t => pure (a.tmps.getD t undef) | .cell b t => do loadVar t (← asAddr (a.tmps.getD b undef)) : Sem Value).run P w = .ok v w ∧ V g σ.dom M x v := by
  cases r with
  | tmp t => cases h; exact ⟨_, rfl, hR.slot t⟩
  | cell b t =>
    simp only [aresOne] at h
    split at h
    · rename_i ty id off ht hx
      have hv := hR.slot b
      rw [hx] at hv
      obtain ⟨hp, hd⟩ := hv.ref_inv
      split at h
      · rename_i cs hob
        split at h
        · rename_i hc
          cases h
          obtain ⟨vals, T, hh, hs, hvv⟩ := hR.objs id _ hob
          refine ⟨if ty.agg then .agg ((List.range ty.size).map fun j => vals.getD (off + j) undef).toArray else vals.getD off undef, ?_, ?_⟩
          · have h1 := run_loadVar_cells (P := P) hE ht w (g.ρ id) off (fun j => vals.getD (off + j) undef) hc.2 (fun j hj => by
              rw [cell_of_heap hh]
              have : off + j < vals.size := by omega
              simp [this])
            simp only [hp, Sem.run_bind, asAddr, Sem.run_pure, Result.andThen]
            exact h1
          · cases ty.agg
            · exact hvv off (by omega)
            · refine V_aggOf (by simp; omega) (fun j hj => ?_)
              have : ((cs.drop off).take ty.size).getD j .junk = cs.getD (off + j) .junk := by
                simp [List.getD, List.getElem?_take, hj, List.getElem?_drop]
              rw [this]; exact hvv (off + j) (by omega)
        · cases h
      · cases h
    · cases h

theorem ares_run (hR : Rel E σ g M a w) (hE : EnvOK P env) : ∀ {rs : List ResultVar} {xs : List AVal}, ares env σ rs = some xs →
    ∃ vs : List Value, (rs.mapM (fun | .tmp t => pure (a.tmps.getD t undef) | .cell b t => do loadVar t (← asAddr (a.tmps.getD b undef)) : ResultVar → Sem Value)).run P w = .ok vs w ∧ vs.length = xs.length ∧ ∀ i, i < xs.length → V g σ.dom M (xs.getD i .junk) (vs.getD i undef)
  | [], xs, h => by cases h; exact ⟨[], rfl, rfl, fun i hi => by simp at hi⟩
  | r :: rs, xs, h => by
    simp only [ares] at h
    split at h
    · rename_i x xs' h1 h2
      cases h
      obtain ⟨v, hv, hvv⟩ := aresOne_run (P := P) hR hE h1
      obtain ⟨vs, hvs, hl, hvvs⟩ := ares_run hR hE h2
      refine ⟨v :: vs, ?_, by simp [hl], fun i hi => ?_⟩
      · rw [List.mapM_cons, Sem.run_bind, hv]
        simp only [Result.andThen, Sem.run_bind, hvs, Sem.run_pure]
      · cases i with
        | zero => simpa [List.getD] using hvv
        | succ i => simpa [List.getD] using hvvs i (by simpa using hi)
    · cases h

theorem results_run (hR : Rel E σ g M a w) (hE : EnvOK P env) {fn : Func} {xs : List AVal} (h : ares env σ fn.results.toList = some xs) :
    ∃ v, (results fn a.tmps).run P w = .ok v w ∧ V g σ.dom M (pack xs) v := by
  obtain ⟨vs, hvs, hl, hv⟩ := ares_run (P := P) hR hE h
  have hm : (fn.results.mapM (fun | .tmp t => pure (a.tmps.getD t undef) | .cell b t => do loadVar t (← asAddr (a.tmps.getD b undef)) : ResultVar → Sem Value)).run P w = .ok vs.toArray w := by
    rw [Array.mapM_eq_mapM_toList, Sem.run_map, hvs]; rfl
  refine ⟨if h : vs.toArray.size = 1 then vs.toArray[0] else .tuple vs.toArray, ?_, ?_⟩
  · have e : results fn a.tmps = ((fn.results.mapM (fun | .tmp t => pure (a.tmps.getD t undef) | .cell b t => do loadVar t (← asAddr (a.tmps.getD b undef)) : ResultVar → Sem Value)) >>= fun vs => pure (if h : vs.size = 1 then vs[0] else .tuple vs)) := by
      unfold results
      congr 1
    rw [e, Sem.run_bind, hm]
    simp only [Result.andThen, Sem.run_pure]
  · match xs, vs, hl, hv with
    | [], [], _, hv => exact .tup [] [] rfl (fun i hi => by simp at hi)
    | [x], [v], _, hv => have := hv 0 (by simp); simpa [List.getD, pack] using this
    | x :: y :: r, v :: u :: s, hl, hv =>
      have e1 : ¬ (v :: u :: s).toArray.size = 1 := by simp
      rw [dif_neg e1]
      exact .tup _ _ hl hv

/-- How a walk of a body ends. -/
def retQ (env : Env) (n : Nat) (rs : List ResultVar) (res : AVal) (objs' : List (Option AObj)) : Exit → St → Prop := fun e σ =>
  (e = .ret ∨ e = .normal) ∧ ∃ vs τ, ares env σ rs = some vs ∧ wkSlots (tau τ) (hasObj objs') [pack vs] [res] ∧ wkObjs (tau τ) (hasObj objs') σ 0 objs' ∧ (∀ k, k < n → tau τ k = k) ∧ τ.Nodup ∧ objs'.length ≤ τ.length

theorem AC.of_body (hE : EnvOK P env) {f : FuncId} {fn : Func} {code : Code} (hf : P.funcs[f]? = some fn) (hb : fn.body = some code) {args : List AVal} {objs : List (Option AObj)} {res : AVal} {objs' : List (Option AObj)}
    (hargs : args.length ≤ fn.ntmps) (hobjs : objs.length ≤ env.nobj)
    (h : SW P env objs.length code ⟨args ++ List.replicate (fn.ntmps - args.length) .junk, objs ++ List.replicate (env.nobj - objs.length) none⟩ (retQ env objs.length fn.results.toList res objs')) :
    AC P env.gl f args objs res objs' := by
  intro w M g vargs hR hG
  have hla : vargs.length = args.length := by simpa using hR.size
  refine calls_of_wp hf hb ?_
  have hobj : ∀ id, St.obj ⟨args ++ List.replicate (fn.ntmps - args.length) .junk, objs ++ List.replicate (env.nobj - objs.length) none⟩ id = St.obj ⟨args, objs⟩ id := fun id => by
    simp only [St.obj, List.getD]
    by_cases hid : id < objs.length
    · rw [List.getElem?_append_left hid]
    · rw [List.getElem?_append_right (by omega), List.getElem?_eq_none (by omega : objs.length ≤ id)]
      rw [List.getElem?_replicate]
      split <;> rfl
  have hdom : St.dom ⟨args ++ List.replicate (fn.ntmps - args.length) .junk, objs ++ List.replicate (env.nobj - objs.length) none⟩ = St.dom ⟨args, objs⟩ := by
    funext id; simp only [St.dom, hobj]
  have hR0 : Rel ⟨w, M, blocksOf g objs⟩ ⟨args ++ List.replicate (fn.ntmps - args.length) .junk, objs ++ List.replicate (env.nobj - objs.length) none⟩ g M
      { tmps := vargs.toArray ++ Array.replicate (fn.ntmps - vargs.toArray.size) undef, defers := [] } w := by
    refine ⟨by simp [hla], rfl, ?_, ?_, ?_, ?_, hR.sat, hR.M0, hR.Mnew, hR.size0, hR.same, ?_, hR.os, hR.tape, hR.output⟩
    · intro i hi
      rw [hdom]
      by_cases hia : i < args.length
      · have e1 : St.slot ⟨args ++ List.replicate (fn.ntmps - args.length) .junk, objs ++ List.replicate (env.nobj - objs.length) none⟩ i = St.slot ⟨args, objs⟩ i := by
          simp [St.slot, List.getElem?_append_left hia]
        have e2 : (vargs.toArray ++ Array.replicate (fn.ntmps - vargs.toArray.size) undef).getD i undef = vargs.toArray.getD i undef := by
          simp only [Array.getD_eq_getD_getElem?]
          rw [Array.getElem?_append_left (by simp; omega)]
        rw [e1, e2]; exact hR.slots i hia
      · have e1 : St.slot ⟨args ++ List.replicate (fn.ntmps - args.length) .junk, objs ++ List.replicate (env.nobj - objs.length) none⟩ i = .junk := by
          simp only [St.slot, List.getD]
          rw [List.getElem?_append_right (by omega), List.getElem?_replicate]
          split <;> rfl
        rw [e1]; exact .junk _
    · intro id o ho; rw [hobj] at ho; rw [hdom]; exact hR.objs id o ho
    · intro id id' o o' b ho ho'; rw [hobj] at ho ho'; exact hR.apart id id' o o' b ho ho'
    · intro id o b ho; rw [hobj] at ho; exact hR.offM id o b ho
    · intro id o b ho; rw [hobj] at ho; exact hR.own0 id o b ho
  refine wp_mono (h (by simp; omega) _ g M _ w hR0 hG) fun e a' w' ⟨σ', g', M', ⟨he, vs, τ, hvs, hws, hwo, hpin, hnd, hlen⟩, hR', hM, hA, hl'⟩ => ?_
  have key : a'.defers = [] ∧ ∃ v, (results fn a'.tmps).run P w' = .ok v w' ∧ ∃ v' g' M', Ending.returned v = .returned v' ∧ Rel ⟨w, M, blocksOf g objs⟩ ⟨[res], objs'⟩ g' M' ⟨#[v'], []⟩ w' ∧ ∀ id, hasObj objs id = true → g.agree g' id := by
    obtain ⟨v, hrun, hV⟩ := results_run (P := P) hR' hE hvs
    refine ⟨hR'.defers, v, hrun, v, _, M', rfl, hR'.wk (σ' := ⟨[res], objs'⟩) (tau τ) (by simp) rfl (fun i hi => ?_) hwo (fun i j hi hj e => nodup_get_inj hnd (by simp at hi; omega) (by simp at hj; omega) e), fun id hid => ?_⟩
    · have hi0 : i = 0 := by simpa using hi
      subst hi0
      obtain ⟨_, hg⟩ := wkSlots_get hws
      rcases hg 0 with h1 | ⟨h1, h2⟩
      · exact .inl h1
      · exact .inr ⟨pack vs, hV, by simpa [List.getD, St.slot] using h1, by simpa [List.getD, St.slot] using h2⟩
    · have hlt : id < objs.length := by
        rcases Nat.lt_or_ge id objs.length with h | h
        · exact h
        · simp [hasObj, List.getD, List.getElem?_eq_none h] at hid
      have hd : St.dom ⟨args ++ List.replicate (fn.ntmps - args.length) .junk, objs ++ List.replicate (env.nobj - objs.length) none⟩ id := by
        rw [hdom]; intro h0
        have h1 : objs.getD id none = none := h0
        simp only [hasObj] at hid
        rw [h1] at hid; cases hid
      obtain ⟨⟨h1, h2, h3⟩, _⟩ := hA id hlt hd
      simp only [Gh.agree, hpin id hlt]
      exact ⟨h1, h2, h3⟩
  rcases he with rfl | rfl
  · exact key
  · exact key
end
end Go.Abs
