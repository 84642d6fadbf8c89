/- A region in whatever order: what it comes to in the order of the text it comes to in every order. No condition. -/
import Derived.Test.YtlgilgaiibdgoaaAbs13
set_option linter.unusedSimpArgs false
set_option linter.unusedVariables false
namespace Go.Abs
open Go

/-- One step: an operation, or a call by its contract; the objects that it looks at. -/
inductive Step (P : Program) (env : Env) (o : Oper) (σ : St) : List Nat → Eff → Prop
  | op (e : Eff) : aop env o.dst (aeval env σ) σ.obj o.op = some e → Step P env o σ (atgt env o.dst (aeval env σ) o.op) e
  | call (f : FuncId) (args : Array Operand) (cargs : List AVal) (cobjs : List (Option AObj)) (ids news : List Nat) (res : AVal) (objs' : List (Option AObj)) :
      CallFits P env σ o f args cargs cobjs ids news objs' → AC P env.gl f cargs cobjs res objs' →
      Step P env o σ (ids ++ news) ⟨ren (fun k => (ids ++ news).getD k 0) res, callUpd (fun k => (ids ++ news).getD k 0) (ids ++ news) 0 objs'⟩

section
variable {P : Program} {env : Env} {o : Oper} {E : Ent} {σ σ' : St} {g : Gh} {M : Mem} {a : Act} {w : World} {e : Eff}

theorem Step.does {T : List Nat} (h : Step P env o σ T e) (hR : Rel E σ g M a w) (hG : GOK env M) (hE : EnvOK P env) (hl : σ.objs.length = env.nobj) : DoesW P o E σ g M a w e := by
  cases h with
  | op _ h => exact (aop_does hR hG hE hl h).toW
  | call f args cargs cobjs ids news res objs' hf hac => exact call_does hR hG hl hf hac

theorem srcRows_congr {ob ob' : Nat → Option AObj} {v : AVal} (h : ∀ id n, v = .row id n → ob id = ob' id) : srcRows ob v = srcRows ob' v := by
  cases v with
  | row id n => simp only [srcRows, h id n rfl]
  | pv p => cases p <;> rfl
  | _ => rfl

theorem aop_congr (env : Env) (dst : Option Nat) {ev ev' : Operand → AVal} {ob ob' : Nat → Option AObj} (op : Op) (hev : ∀ x, x ∈ op.operands → ev x = ev' x)
    (hob : ∀ id, id ∈ atgt env dst ev op → ob id = ob' id) : aop env dst ev ob op = aop env dst ev' ob' op ∧ atgt env dst ev op = atgt env dst ev' op := by
  cases op with
  | move x => simp [aop, atgt, hev x (by simp [Op.operands])]
  | assign x => simp [aop, atgt, hev x (by simp [Op.operands])]
  | pick c x y => simp [aop, atgt, hev c (by simp [Op.operands]), hev x (by simp [Op.operands]), hev y (by simp [Op.operands])]
  | alloc t =>
    refine ⟨?_, rfl⟩
    simp only [aop]
    cases env.ty t with
    | none => rfl
    | some ty =>
      cases dst with
      | none => rfl
      | some d => simp only [hob (env.site d) (by simp [atgt])]
  | box t x =>
    refine ⟨?_, rfl⟩
    cases dst with
    | none => rfl
    | some d => simp only [aop, hob (env.site d) (by simp [atgt]), hev x (by simp [Op.operands])]
  | build t ps =>
    have : (ps.toList.map fun q => (q.1, ev q.2)) = (ps.toList.map fun q => (q.1, ev' q.2)) := List.map_congr_left fun q hq => by
      rw [hev q.2 (by simp only [Op.operands, List.mem_toArray, List.mem_map]; exact ⟨q, hq, rfl⟩)]
    exact ⟨by simp only [aop, this], rfl⟩
  | buildSlice t n ps =>
    have : (ps.toList.map fun q => (q.1, ev q.2)) = (ps.toList.map fun q => (q.1, ev' q.2)) := List.map_congr_left fun q hq => by
      rw [hev q.2 (by simp only [Op.operands, List.mem_toArray, List.mem_map]; exact ⟨q, hq, rfl⟩)]
    exact ⟨by simp only [aop, this], rfl⟩
  | load t p =>
    have hp := hev p (by simp [Op.operands])
    refine ⟨?_, by simp only [atgt, hp]⟩
    simp only [atgt] at hob
    simp only [aop, ← hp]
    cases env.ty t with
    | none => rfl
    | some ty =>
      cases hv : ev p with
      | ref id off => rw [hv] at hob; simp only [hob id (by simp)]
      | eref id i j sz => rw [hv] at hob; simp only [hob id (by simp)]
      | pv q => cases q <;> rfl
      | _ => rfl
  | store t p x =>
    have hp := hev p (by simp [Op.operands])
    have hx := hev x (by simp [Op.operands])
    refine ⟨?_, by simp only [atgt, hp]⟩
    simp only [atgt] at hob
    simp only [aop, ← hp, ← hx]
    cases env.ty t with
    | none => rfl
    | some ty =>
      cases hv : ev p with
      | ref id off => rw [hv] at hob; simp only [hob id (by simp)]
      | _ => rfl
  | nilCheck x => simp [aop, atgt, hev x (by simp [Op.operands])]
  | binOp op t x y t' => simp [aop, atgt, hev x (by simp [Op.operands]), hev y (by simp [Op.operands])]
  | unOp op t x => simp [aop, atgt, hev x (by simp [Op.operands])]
  | convert s d x => simp [aop, atgt, hev x (by simp [Op.operands])]
  | fieldAddr s x k => simp [aop, atgt, hev x (by simp [Op.operands])]
  | indexAddr t x i =>
    have hx := hev x (by simp [Op.operands])
    have hi := hev i (by simp [Op.operands])
    refine ⟨?_, by simp only [atgt, hx]⟩
    simp only [atgt] at hob
    simp only [aop, ← hx, ← hi]
    split
    · split
      · rfl
      · rename_i ty _ _ _ _ _
        cases ty.kind with
        | slice =>
          cases hv : ev x with
          | row id n => rw [hv] at hob; simp only [hob id (by simp)]
          | pv q => cases q <;> rfl
          | _ => rfl
        | array n =>
          cases hv : ev x with
          | pv q => cases q <;> rfl
          | _ => rfl
        | _ => rfl
    · rfl
  | makeMap t r =>
    cases r with
    | some r => exact ⟨rfl, rfl⟩
    | none =>
      refine ⟨?_, rfl⟩
      simp only [aop]
      cases env.ty t with
      | none => rfl
      | some ty =>
        cases dst with
        | none => rfl
        | some d => simp only [hob (env.site d) (by simp [atgt])]
  | lookup t x k ok =>
    have hx := hev x (by simp [Op.operands])
    have hk := hev k (by simp [Op.operands])
    refine ⟨?_, by simp only [atgt, hx]⟩
    simp only [atgt] at hob
    simp only [aop, ← hx, ← hk]
    cases env.ty t with
    | none => rfl
    | some ty =>
      cases hv : ev x with
      | map id =>
        rw [hv] at hob
        cases hkv : ev k with
        | pv q => simp only [hob id (by simp)]
        | _ => rfl
      | _ => rfl
  | mapUpdate t m k x =>
    have hm := hev m (by simp [Op.operands])
    have hk := hev k (by simp [Op.operands])
    have hx := hev x (by simp [Op.operands])
    refine ⟨?_, by simp only [atgt, hm]⟩
    simp only [atgt] at hob
    simp only [aop, ← hm, ← hk, ← hx]
    cases env.ty t with
    | none => rfl
    | some ty =>
      cases hv : ev m with
      | map id =>
        rw [hv] at hob
        cases hkv : ev k with
        | pv q =>
          cases toMV (ev x) with
          | none => rfl
          | some v => simp only [hob id (by simp)]
        | _ => rfl
      | _ => rfl
  | index t x i => simp [aop, atgt, hev x (by simp [Op.operands]), hev i (by simp [Op.operands])]
  | extract x k => simp [aop, atgt, hev x (by simp [Op.operands])]
  | slice t x lo hi mx =>
    have hx := hev x (by simp [Op.operands])
    have hlo : ∀ d, abound ev lo d = abound ev' lo d := fun d => by cases lo with
      | none => rfl
      | some q => simp only [abound, hev q (by simp [Op.operands])]
    have hhi : ∀ d, abound ev hi d = abound ev' hi d := fun d => by cases hi with
      | none => rfl
      | some q => simp only [abound, hev q (by simp [Op.operands])]
    exact ⟨by simp only [aop, hx, hlo, hhi], rfl⟩
  | call c =>
    obtain ⟨cl, args, tys⟩ := c
    cases cl with
    | builtin b =>
      have hargs : ∀ x, x ∈ args.toList → ev x = ev' x := fun x hx => hev x (by simp [Op.operands, Call.operands]; exact Array.mem_toList_iff.1 hx)
      cases b with
      | len =>
        refine ⟨?_, rfl⟩
        simp only [aop]
        split
        · rename_i x t h1 h2; rw [hargs x (by rw [h1]; simp)]
        · rfl
      | max =>
        refine ⟨?_, rfl⟩
        simp only [aop]
        split
        · rename_i x r h1
          rw [hargs x (by rw [h1]; simp), List.map_congr_left (fun y hy => hargs y (by rw [h1]; simp [hy]))]
        · rfl
      | min =>
        refine ⟨?_, rfl⟩
        simp only [aop]
        split
        · rename_i x r h1
          rw [hargs x (by rw [h1]; simp), List.map_congr_left (fun y hy => hargs y (by rw [h1]; simp [hy]))]
        · rfl
      | append =>
        have key : ∀ x y, args.toList = [x, y] → ev x = ev' x ∧ ev y = ev' y := fun x y h => ⟨hargs x (by rw [h]; simp), hargs y (by rw [h]; simp)⟩
        refine ⟨?_, ?_⟩
        · simp only [aop]
          simp only [atgt] at hob
          split
          · rename_i x y t t' d h1 h2
            obtain ⟨hx, hy⟩ := key x y h1
            rw [h1] at hob
            rw [← hx, ← hy]
            have h3 := hob (env.site d) (by simp)
            have h4 : srcRows ob (ev y) = srcRows ob' (ev y) := srcRows_congr (fun id n hv => hob id (by simp [hv]))
            rw [h3, h4]
            split
            · split
              · split
                · rfl
                · rename_i id n hv; rw [hob id (by simp [hv])]
                · rfl
              · rfl
            · rfl
          · rfl
        · simp only [atgt]
          split
          · rename_i x y h1
            obtain ⟨hx, hy⟩ := key x y h1
            rw [hx, hy]
          · rfl
      | _ => exact ⟨rfl, rfl⟩
    | value f => exact ⟨rfl, rfl⟩
    | invoke r m => exact ⟨rfl, rfl⟩
  | _ => exact ⟨rfl, rfl⟩

/-- A step depends on its operands and on the objects that it looks at, and on nothing else. -/
theorem Step.local {T : List Nat} (h : Step P env o σ T e) (hev : ∀ x, x ∈ o.op.operands → aeval env σ x = aeval env σ' x) (hob : ∀ id, id ∈ T → σ.obj id = σ'.obj id) : Step P env o σ' T e := by
  cases h with
  | op _ h =>
    obtain ⟨h1, h2⟩ := aop_congr env o.dst o.op hev hob
    rw [h2]
    exact .op e (h1 ▸ h)
  | call f args cargs cobjs ids news res objs' hf hac =>
    refine .call f args cargs cobjs ids news res objs' ?_ hac
    obtain ⟨⟨tys, ho⟩, hent, hargs, hobjs, hscA, hscO, hnd, hlt, hfr, hlen⟩ := hf
    refine ⟨⟨tys, ho⟩, hent, ?_, ?_, hscA, hscO, hnd, hlt, fun id hid => ?_, hlen⟩
    · rw [← hargs]
      exact List.map_congr_left fun x hx => (hev x (by simp [ho, Op.operands, Call.operands]; exact .inr (Array.mem_toList_iff.1 hx))).symm
    · rw [← hobjs]
      exact List.map_congr_left fun id hid => (hob id (by simp [hid])).symm
    · rw [← hob id (by simp [hid])]; exact hfr id hid
end

/-- Is the operation wanted? -/
def aguard (ops : Array Oper) (σ : St) (o : Oper) : Option Bool :=
  match o.guard with
  | none => some true
  | some (j, want) => match (ops[j]?).bind (·.dst) with
    | some t => match σ.slot t with
      | .pv (.bool b) => some (b == want)
      | .tup [] => some false
      | _ => none
    | none => none

/-- A step of a region, its guard asked. -/
inductive GStep (P : Program) (env : Env) (ops : Array Oper) (o : Oper) (σ : St) : List Nat → Eff → Prop
  | run (T : List Nat) (e : Eff) : aguard ops σ o = some true → Step P env o σ T e → GStep P env ops o σ T e
  | skip : aguard ops σ o = some false → GStep P env ops o σ [] ⟨.tup [], []⟩

section
variable {P : Program} {env : Env} {o : Oper} {E : Ent} {σ σ' : St} {g : Gh} {M : Mem} {a : Act} {w : World} {e : Eff} {ops : Array Oper}

theorem wanted_of_guard (hR : Rel E σ g M a w) {b : Bool} (h : aguard ops σ o = some b) : Region.wanted o (yielded ops a.tmps) = b := by
  unfold aguard at h
  unfold Region.wanted
  cases hg : o.guard with
  | none => rw [hg] at h; cases h; rfl
  | some q =>
    obtain ⟨j, want⟩ := q
    rw [hg] at h
    simp only at h ⊢
    split at h
    · rename_i t ht
      split at h
      · rename_i c hc
        cases h
        have hlt : t < σ.slots.length := by
          rcases Nat.lt_or_ge t σ.slots.length with h' | h'
          · exact h'
          · simp [St.slot, List.getElem?_eq_none h'] at hc
        have hv := hR.slots t hlt
        rw [hc] at hv
        have hv' := hv.bool_inv
        have hget : a.tmps[t]? = some (.bool c) := by
          have hlt2 : t < a.tmps.size := by rw [hR.size]; exact hlt
          rw [Array.getD_eq_getD_getElem?, Array.getElem?_eq_getElem hlt2] at hv'
          rw [Array.getElem?_eq_getElem hlt2]
          simpa using hv'
        have hy : yielded ops a.tmps j = some c := by simp [yielded, ht, hget]
        rw [hy]
        cases c <;> cases want <;> rfl
      · rename_i hc
        cases h
        have hlt : t < σ.slots.length := by
          rcases Nat.lt_or_ge t σ.slots.length with h' | h'
          · exact h'
          · simp [St.slot, List.getElem?_eq_none h'] at hc
        have hv := hR.slots t hlt
        rw [hc] at hv
        have hlt2 : t < a.tmps.size := by rw [hR.size]; exact hlt
        rw [Array.getD_eq_getD_getElem?, Array.getElem?_eq_getElem hlt2] at hv
        simp only [Option.getD_some] at hv
        have hy : yielded ops a.tmps j = none := by
          simp only [yielded, ht, Option.bind_some, Array.getElem?_eq_getElem hlt2]
          generalize a.tmps[t] = u at hv
          cases hv
          rfl
        rw [hy]
        rfl
      · cases h
    · cases h

theorem GStep.wp {T : List Nat} {i : Nat} (hi : ops[i]? = some o) (h : GStep P env ops o σ T e) (hR : Rel E σ g M a w) (hG : GOK env M) (hE : EnvOK P env) (hl : σ.objs.length = env.nobj)
    {K : Act → World → Prop} {Q : Exit → Act → World → Prop}
    (hK : ∀ v w' g' M', Rel E (σ.app o.dst e) g' M' (a.put o.dst v) w' → (∀ id, σ.dom id → g.agree g' id) → Mem.le M M' → K (a.put o.dst v) w') : wpOp P ops Q i K a w := by
  unfold wpOp
  simp only [hi]
  cases h with
  | run _ _ hg hs =>
    rw [if_pos (wanted_of_guard hR hg)]
    exact .inl (hs.does hR hG hE hl K Q hK)
  | skip hg =>
    rw [if_neg (by rw [wanted_of_guard hR hg]; simp)]
    exact hK undef w g M (hR.put o.dst (.tup [] [] rfl (fun i hi => by simp at hi))) (fun _ _ => Gh.agree_refl _ _) (Mem.le_refl _)

theorem aeval_congr {x : Operand} (h : ∀ t, x = .tmp t → σ.slot t = σ'.slot t) : aeval env σ x = aeval env σ' x := by
  cases x with
  | tmp t => exact h t rfl
  | _ => rfl

theorem GStep.local {T : List Nat} (h : GStep P env ops o σ T e) (hs : ∀ t, t ∈ o.looksAt ops → σ.slot t = σ'.slot t) (hob : ∀ id, id ∈ T → σ.obj id = σ'.obj id) : GStep P env ops o σ' T e := by
  have hg : aguard ops σ' o = aguard ops σ o := by
    unfold aguard
    cases hg : o.guard with
    | none => rfl
    | some q =>
      obtain ⟨j, want⟩ := q
      simp only
      cases ht : (ops[j]?).bind (·.dst) with
      | none => rfl
      | some t =>
        have := hs t (by simp [Oper.looksAt, hg, ht])
        simp only [this]
  cases h with
  | run _ _ h1 h2 =>
    refine .run T e (by rw [hg]; exact h1) (h2.local (fun x hx => aeval_congr (fun t ht => hs t ?_)) hob)
    subst ht
    exact List.mem_append_left _ (List.mem_filterMap.2 ⟨.tmp t, by simpa using hx, rfl⟩)
  | skip h1 => exact .skip (by rw [hg]; exact h1)
end
end Go.Abs
