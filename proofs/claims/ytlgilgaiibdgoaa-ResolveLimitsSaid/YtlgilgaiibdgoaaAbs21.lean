/- Regions in a short form, reckoned step by step by rewriting alone. No condition. -/
import Derived.Test.YtlgilgaiibdgoaaAbs20
set_option linter.unusedSimpArgs false
set_option linter.unusedVariables false
namespace Go.Abs
open Go

theorem cast0 : ((0 : Nat) : Int) = 0 := by simp

structure COp where
  dst : Option Nat
  op : Op
  guard : Option (Option (Nat × Bool))

def gres (all : List Oper) : Option (Nat × Bool) → Option (Option (Nat × Bool))
  | none => none
  | some (j, want) => some (((all[j]?).bind (·.dst)).map fun t => (t, want))
def compL (all : List Oper) : List Oper → List COp
  | [] => []
  | o :: r => ⟨o.dst, o.op, gres all o.guard⟩ :: compL all r

def cguard (σ : St) : Option (Option (Nat × Bool)) → Option Bool
  | none => some true
  | some none => none
  | some (some (t, want)) => match σ.slot t with
    | .pv (.bool b) => some (b == want)
    | .tup [] => some false
    | _ => none

/-- One step of a short operation. -/
inductive CStep (P : Program) (env : Env) (c : COp) (σ : St) : List Nat → Eff → Prop
  | run (o : Oper) (T : List Nat) (e : Eff) : o.dst = c.dst → o.op = c.op → cguard σ c.guard = some true → Step P env o σ T e → CStep P env c σ T e
  | skip : cguard σ c.guard = some false → CStep P env c σ [] ⟨.tup [], []⟩

def R0c (P : Program) (env : Env) (K : St → Prop) : List COp → St → Prop
  | [], σ => K σ
  | c :: rest, σ => ∃ T e, CStep P env c σ T e ∧ R0c P env K rest (σ.app c.dst e)
def RDc (P : Program) (env : Env) (K : List (List Nat × List Nat) → St → Prop) : List COp → List (List Nat × List Nat) → St → Prop
  | [], acc, σ => K acc σ
  | c :: rest, acc, σ => ∃ T e, CStep P env c σ T e ∧ RDc P env K rest (acc ++ [(T, e.upd.map Prod.fst)]) (σ.app c.dst e)

section
variable {P : Program} {env : Env} {pin : Nat} {σ : St} {Q : Exit → St → Prop}

theorem aguard_c (ops : Array Oper) (o : Oper) : aguard ops σ o = cguard σ (gres ops.toList o.guard) := by
  unfold aguard
  cases o.guard with
  | none => rfl
  | some q =>
    obtain ⟨j, want⟩ := q
    simp only [gres, Array.getElem?_toList]
    cases (ops[j]?).bind (·.dst) <;> rfl

theorem Step.congr {o o' : Oper} {T : List Nat} {e : Eff} (hd : o.dst = o'.dst) (hop : o.op = o'.op) (h : Step P env o σ T e) : Step P env o' σ T e := by
  cases h with
  | op _ h =>
    rw [hd, hop] at *
    exact .op e h
  | call f args cargs cobjs ids news res objs' hf hac =>
    refine .call f args cargs cobjs ids news res objs' ?_ hac
    obtain ⟨⟨tys, ho⟩, h2, h3, h4, h5, h6, h7, h8, h9, h10⟩ := hf
    exact ⟨⟨tys, by rw [← hop]; exact ho⟩, h2, h3, h4, h5, h6, h7, h8, h9, h10⟩

theorem R0c.to {ops : Array Oper} {K : St → Prop} : ∀ (l : List Oper) (σ : St), R0c P env K (compL ops.toList l) σ → R0 P env ops K l σ
  | [], _, h => h
  | o :: rest, σ, ⟨T, e, h1, h2⟩ => by
    refine ⟨T, e, ?_, R0c.to rest _ h2⟩
    cases h1 with
    | run o' _ _ hd hop hg hs => exact .run T e (by rw [aguard_c]; exact hg) (hs.congr hd hop)
    | skip hg => exact .skip (by rw [aguard_c]; exact hg)
theorem RDc.to {ops : Array Oper} {K : List (List Nat × List Nat) → St → Prop} : ∀ (l : List Oper) (acc : List (List Nat × List Nat)) (σ : St), RDc P env K (compL ops.toList l) acc σ → RD P env ops K l acc σ
  | [], _, _, h => h
  | o :: rest, acc, σ, ⟨T, e, h1, h2⟩ => by
    refine ⟨T, e, ?_, RDc.to rest _ _ h2⟩
    cases h1 with
    | run o' _ _ hd hop hg hs => exact .run T e (by rw [aguard_c]; exact hg) (hs.congr hd hop)
    | skip hg => exact .skip (by rw [aguard_c]; exact hg)

/-- Some short operations at once; it stops at a call. -/
def W0 (P : Program) (env : Env) (K : St → Prop) : List COp → St → Prop
  | [], σ => K σ
  | c :: rest, σ => match cguard σ c.guard with
    | some true => if isCall c.op = true then R0c P env K (c :: rest) σ else match aop env c.dst (aeval env σ) σ.obj c.op with
      | some e => W0 P env K rest (σ.app c.dst e)
      | none => False
    | some false => W0 P env K rest (σ.app c.dst ⟨.tup [], []⟩)
    | none => False
/-- What stands behind is data, so that nothing is reckoned ahead of its time. -/
def WE (P : Program) (env : Env) (K : St → Prop) (r : Option Eff) (d : Option Nat) (rest : List COp) (σ : St) : Prop :=
  match r with | some e => W0 P env K rest (σ.app d e) | none => False
def WG (P : Program) (env : Env) (K : St → Prop) (b : Option Bool) (c : COp) (rest : List COp) (σ : St) : Prop :=
  match b with
  | some true => if isCall c.op = true then R0c P env K (c :: rest) σ else WE P env K (aop env c.dst (aeval env σ) σ.obj c.op) c.dst rest σ
  | some false => W0 P env K rest (σ.app c.dst ⟨.tup [], []⟩)
  | none => False
theorem W0_nil (K : St → Prop) (σ : St) : W0 P env K [] σ = K σ := rfl
theorem W0_cons (K : St → Prop) (c : COp) (rest : List COp) (σ : St) : W0 P env K (c :: rest) σ = WG P env K (cguard σ c.guard) c rest σ := rfl
theorem WG_true (K : St → Prop) (c : COp) (rest : List COp) (σ : St) : WG P env K (some true) c rest σ = if isCall c.op = true then R0c P env K (c :: rest) σ else WE P env K (aop env c.dst (aeval env σ) σ.obj c.op) c.dst rest σ := rfl
theorem WG_false (K : St → Prop) (c : COp) (rest : List COp) (σ : St) : WG P env K (some false) c rest σ = W0 P env K rest (σ.app c.dst ⟨.tup [], []⟩) := rfl
theorem WE_some (K : St → Prop) (e : Eff) (d : Option Nat) (rest : List COp) (σ : St) : WE P env K (some e) d rest σ = W0 P env K rest (σ.app d e) := rfl
theorem WE_ite (K : St → Prop) (p : Prop) [Decidable p] (x : Option Eff) (d : Option Nat) (rest : List COp) (σ : St) : WE P env K (if p then x else none) d rest σ = (p ∧ WE P env K x d rest σ) := by
  by_cases h : p <;> simp [h, WE]
theorem WE_ite' (K : St → Prop) (p : Prop) [Decidable p] (x : Option Eff) (d : Option Nat) (rest : List COp) (σ : St) : WE P env K (if p then none else x) d rest σ = (¬ p ∧ WE P env K x d rest σ) := by
  by_cases h : p <;> simp [h, WE]
theorem WG_split {K : St → Prop} {b : Bool} {c : COp} {rest : List COp} {σ : St} (h : b = true → WG P env K (some true) c rest σ) (k : b = false → WG P env K (some false) c rest σ) : WG P env K (some b) c rest σ := by
  cases b
  · exact k rfl
  · exact h rfl
theorem map_ite {α β : Type} (f : α → β) (p : Prop) [Decidable p] (x : Option α) : (if p then x else none).map f = if p then x.map f else none := by split <;> rfl
theorem map_ite' {α β : Type} (f : α → β) (p : Prop) [Decidable p] (x : Option α) : (if p then none else x).map f = if p then none else x.map f := by split <;> rfl

theorem W0.to {K : St → Prop} : ∀ (l : List COp) (σ : St), W0 P env K l σ → R0c P env K l σ
  | [], _, h => h
  | c :: rest, σ, h => by
    simp only [W0] at h
    split at h
    · rename_i hg
      split at h
      · exact h
      · split at h
        · rename_i e he
          exact ⟨_, e, .run ⟨c.dst, c.op, 0, "", #[], none⟩ _ e rfl rfl hg (.op e he), W0.to rest _ h⟩
        · exact h.elim
    · rename_i hg
      exact ⟨_, _, .skip hg, W0.to rest _ h⟩
    · exact h.elim

def W1 (P : Program) (env : Env) (K : List (List Nat × List Nat) → St → Prop) : List COp → List (List Nat × List Nat) → St → Prop
  | [], acc, σ => K acc σ
  | c :: rest, acc, σ => match cguard σ c.guard with
    | some true => if isCall c.op = true then RDc P env K (c :: rest) acc σ else match aop env c.dst (aeval env σ) σ.obj c.op with
      | some e => W1 P env K rest (acc ++ [(atgt env c.dst (aeval env σ) c.op, e.upd.map Prod.fst)]) (σ.app c.dst e)
      | none => False
    | some false => W1 P env K rest (acc ++ [([], [])]) (σ.app c.dst ⟨.tup [], []⟩)
    | none => False
def XE (P : Program) (env : Env) (K : List (List Nat × List Nat) → St → Prop) (r : Option Eff) (T : List Nat) (d : Option Nat) (rest : List COp) (acc : List (List Nat × List Nat)) (σ : St) : Prop :=
  match r with | some e => W1 P env K rest (acc ++ [(T, e.upd.map Prod.fst)]) (σ.app d e) | none => False
def XG (P : Program) (env : Env) (K : List (List Nat × List Nat) → St → Prop) (b : Option Bool) (c : COp) (rest : List COp) (acc : List (List Nat × List Nat)) (σ : St) : Prop :=
  match b with
  | some true => if isCall c.op = true then RDc P env K (c :: rest) acc σ else XE P env K (aop env c.dst (aeval env σ) σ.obj c.op) (atgt env c.dst (aeval env σ) c.op) c.dst rest acc σ
  | some false => W1 P env K rest (acc ++ [([], [])]) (σ.app c.dst ⟨.tup [], []⟩)
  | none => False
theorem W1_nil (K : List (List Nat × List Nat) → St → Prop) (acc : List (List Nat × List Nat)) (σ : St) : W1 P env K [] acc σ = K acc σ := rfl
theorem W1_cons (K : List (List Nat × List Nat) → St → Prop) (c : COp) (rest : List COp) (acc : List (List Nat × List Nat)) (σ : St) : W1 P env K (c :: rest) acc σ = XG P env K (cguard σ c.guard) c rest acc σ := rfl
theorem XG_true (K : List (List Nat × List Nat) → St → Prop) (c : COp) (rest : List COp) (acc : List (List Nat × List Nat)) (σ : St) : XG P env K (some true) c rest acc σ = if isCall c.op = true then RDc P env K (c :: rest) acc σ else XE P env K (aop env c.dst (aeval env σ) σ.obj c.op) (atgt env c.dst (aeval env σ) c.op) c.dst rest acc σ := rfl
theorem XG_false (K : List (List Nat × List Nat) → St → Prop) (c : COp) (rest : List COp) (acc : List (List Nat × List Nat)) (σ : St) : XG P env K (some false) c rest acc σ = W1 P env K rest (acc ++ [([], [])]) (σ.app c.dst ⟨.tup [], []⟩) := rfl
theorem XE_some (K : List (List Nat × List Nat) → St → Prop) (e : Eff) (T : List Nat) (d : Option Nat) (rest : List COp) (acc : List (List Nat × List Nat)) (σ : St) : XE P env K (some e) T d rest acc σ = W1 P env K rest (acc ++ [(T, e.upd.map Prod.fst)]) (σ.app d e) := rfl
theorem XE_ite (K : List (List Nat × List Nat) → St → Prop) (p : Prop) [Decidable p] (x : Option Eff) (T : List Nat) (d : Option Nat) (rest : List COp) (acc : List (List Nat × List Nat)) (σ : St) : XE P env K (if p then x else none) T d rest acc σ = (p ∧ XE P env K x T d rest acc σ) := by
  by_cases h : p <;> simp [h, XE]
theorem XE_ite' (K : List (List Nat × List Nat) → St → Prop) (p : Prop) [Decidable p] (x : Option Eff) (T : List Nat) (d : Option Nat) (rest : List COp) (acc : List (List Nat × List Nat)) (σ : St) : XE P env K (if p then none else x) T d rest acc σ = (¬ p ∧ XE P env K x T d rest acc σ) := by
  by_cases h : p <;> simp [h, XE]
theorem XG_split {K : List (List Nat × List Nat) → St → Prop} {b : Bool} {c : COp} {rest : List COp} {acc : List (List Nat × List Nat)} {σ : St} (h : b = true → XG P env K (some true) c rest acc σ) (k : b = false → XG P env K (some false) c rest acc σ) : XG P env K (some b) c rest acc σ := by
  cases b
  · exact k rfl
  · exact h rfl
theorem W1.to {K : List (List Nat × List Nat) → St → Prop} : ∀ (l : List COp) (acc : List (List Nat × List Nat)) (σ : St), W1 P env K l acc σ → RDc P env K l acc σ
  | [], _, _, h => h
  | c :: rest, acc, σ, h => by
    simp only [W1] at h
    split at h
    · rename_i hg
      split at h
      · exact h
      · split at h
        · rename_i e he
          exact ⟨_, e, .run ⟨c.dst, c.op, 0, "", #[], none⟩ _ e rfl rfl hg (.op e he), W1.to rest _ _ h⟩
        · exact h.elim
    · rename_i hg
      exact ⟨_, _, .skip hg, W1.to rest _ _ h⟩
    · exact h.elim

/-- A region in the order of the text. -/
theorem SW.rg (hE : EnvOK P env) {id : Nat} {ops : Array Oper} (h : ∀ K : St → Prop, (∀ σ', Q .normal σ' → K σ') → W0 P env K (compL ops.toList ops.toList) σ) : SW P env pin (.region id ops false) σ Q :=
  SW.reg hE (R0c.to _ _ (W0.to _ _ (h _ fun _ h => h)))
/-- A region whose order is open. -/
theorem SW.rd (hE : EnvOK P env) (hm : P.follows .mixedOrders = true) {id : Nat} {ops : Array Oper} (h : ∀ K : List (List Nat × List Nat) → St → Prop, (∀ tr σ', regT ops (anc ops) (pairAt tr) = true → Q .normal σ' → K tr σ') → W1 P env K (compL ops.toList ops.toList) [] σ) : SW P env pin (.region id ops true) σ Q :=
  SW.drawn hE hm (RDc.to _ _ _ (W1.to _ _ _ (h _ fun _ _ h1 h2 => ⟨h1, h2⟩)))
theorem onK {K : St → Prop} {σ : St} (h : ∀ σ', Q .normal σ' → K σ') (k : Q .normal σ) : K σ := h σ k
theorem onD {K : List (List Nat × List Nat) → St → Prop} {tr : List (List Nat × List Nat)} {p : List (List Nat × List Nat) → Prop} (h : ∀ tr σ', p tr → Q .normal σ' → K tr σ') (k1 : p tr) (k2 : Q .normal σ) : K tr σ := h tr σ k1 k2

/-- A call over values alone. -/
theorem R0c.callP {K : St → Prop} {d : Option Nat} {f : FuncId} {args : Array Operand} {tys : Array TypeId} {gd : Option (Option (Nat × Bool))} {rest : List COp} {cargs : List AVal} {res : AVal}
    (hac : AC P env.gl f cargs [] res []) (hent : ∀ vargs w, (callFunc f vargs).run P w = .ok (.enter f vargs) w) (hg : cguard σ gd = some true)
    (hargs : subL (args.toList.map (aeval env σ)) cargs) (hsc : inScopeL (hasObj []) (args.toList.map (aeval env σ)) = true) (hres : inScope (hasObj []) res = true)
    (h : W0 P env K rest (σ.app d ⟨res, []⟩)) : R0c P env K (⟨d, .call ⟨.value (.func f), args, tys⟩, gd⟩ :: rest) σ := by
  refine ⟨_, _, .run ⟨d, .call ⟨.value (.func f), args, tys⟩, 0, "", #[], none⟩ _ _ rfl rfl hg (.call f args (args.toList.map (aeval env σ)) [] [] [] res [] (CallFits.pure rfl hent (by rw [renL_none _ _ hsc]) hsc) (hac.sub hargs)), ?_⟩
  rw [ren_none _ _ hres]
  exact W0.to _ _ h
theorem RDc.callP {K : List (List Nat × List Nat) → St → Prop} {acc : List (List Nat × List Nat)} {d : Option Nat} {f : FuncId} {args : Array Operand} {tys : Array TypeId} {gd : Option (Option (Nat × Bool))} {rest : List COp} {cargs : List AVal} {res : AVal}
    (hac : AC P env.gl f cargs [] res []) (hent : ∀ vargs w, (callFunc f vargs).run P w = .ok (.enter f vargs) w) (hg : cguard σ gd = some true)
    (hargs : subL (args.toList.map (aeval env σ)) cargs) (hsc : inScopeL (hasObj []) (args.toList.map (aeval env σ)) = true) (hres : inScope (hasObj []) res = true)
    (h : W1 P env K rest (acc ++ [([], [])]) (σ.app d ⟨res, []⟩)) : RDc P env K (⟨d, .call ⟨.value (.func f), args, tys⟩, gd⟩ :: rest) acc σ := by
  refine ⟨_, _, .run ⟨d, .call ⟨.value (.func f), args, tys⟩, 0, "", #[], none⟩ _ _ rfl rfl hg (.call f args (args.toList.map (aeval env σ)) [] [] [] res [] (CallFits.pure rfl hent (by rw [renL_none _ _ hsc]) hsc) (hac.sub hargs)), ?_⟩
  rw [ren_none _ _ hres]
  exact W1.to _ _ _ h
/-- A call with objects. -/
theorem R0c.callO {K : St → Prop} {d : Option Nat} {f : FuncId} {args : Array Operand} {tys : Array TypeId} {gd : Option (Option (Nat × Bool))} {rest : List COp} {cargs : List AVal} {cobjs : List (Option AObj)} (ids news : List Nat) {res : AVal} {objs' : List (Option AObj)}
    (hac : AC P env.gl f cargs cobjs res objs') (hg : cguard σ gd = some true) (hf : ∀ o : Oper, o.op = .call ⟨.value (.func f), args, tys⟩ → CallFits P env σ o f args cargs cobjs ids news objs')
    (h : W0 P env K rest (σ.app d ⟨ren (tau (ids ++ news)) res, callUpd (tau (ids ++ news)) (ids ++ news) 0 objs'⟩)) : R0c P env K (⟨d, .call ⟨.value (.func f), args, tys⟩, gd⟩ :: rest) σ :=
  ⟨_, _, .run ⟨d, .call ⟨.value (.func f), args, tys⟩, 0, "", #[], none⟩ _ _ rfl rfl hg (.call f args cargs cobjs ids news res objs' (hf _ rfl) hac), W0.to _ _ h⟩
theorem RDc.callO {K : List (List Nat × List Nat) → St → Prop} {acc : List (List Nat × List Nat)} {d : Option Nat} {f : FuncId} {args : Array Operand} {tys : Array TypeId} {gd : Option (Option (Nat × Bool))} {rest : List COp} {cargs : List AVal} {cobjs : List (Option AObj)} (ids news : List Nat) {res : AVal} {objs' : List (Option AObj)}
    (hac : AC P env.gl f cargs cobjs res objs') (hg : cguard σ gd = some true) (hf : ∀ o : Oper, o.op = .call ⟨.value (.func f), args, tys⟩ → CallFits P env σ o f args cargs cobjs ids news objs')
    (h : W1 P env K rest (acc ++ [(ids ++ news, (callUpd (tau (ids ++ news)) (ids ++ news) 0 objs').map Prod.fst)]) (σ.app d ⟨ren (tau (ids ++ news)) res, callUpd (tau (ids ++ news)) (ids ++ news) 0 objs'⟩)) : RDc P env K (⟨d, .call ⟨.value (.func f), args, tys⟩, gd⟩ :: rest) acc σ :=
  ⟨_, _, .run ⟨d, .call ⟨.value (.func f), args, tys⟩, 0, "", #[], none⟩ _ _ rfl rfl hg (.call f args cargs cobjs ids news res objs' (hf _ rfl) hac), W1.to _ _ _ h⟩

/-- A test of a slot, remembered in the slot. -/
theorem SW.condS {t : Nat} {x y : Code} {b : Bool} (hc : σ.slot t = .pv (.bool b)) (ht : b = true → SW P env pin x ⟨σ.slots.set t (.pv (.bool true)), σ.objs⟩ Q) (hf : b = false → SW P env pin y ⟨σ.slots.set t (.pv (.bool false)), σ.objs⟩ Q) : SW P env pin (.cond (.tmp t) x y) σ Q := by
  have key : ∀ v, σ.slot t = v → v ≠ .junk → (⟨σ.slots.set t v, σ.objs⟩ : St) = σ := fun v hv hn => by
    have hlt : t < σ.slots.length := by
      rcases Nat.lt_or_ge t σ.slots.length with h | h
      · exact h
      · exfalso; apply hn; rw [← hv]; simp [St.slot, List.getElem?_eq_none h]
    have : σ.slots.set t v = σ.slots := by
      apply List.ext_getElem?
      intro i
      by_cases hi : t = i
      · subst hi
        rw [List.getElem?_set_self hlt, List.getElem?_eq_getElem hlt]
        have : σ.slots[t] = v := by simpa [St.slot, List.getD, hlt] using hv
        rw [this]
      · rw [List.getElem?_set_ne hi]
    rw [this]
  refine SW.cond (b := b) hc (fun h => ?_) (fun h => ?_)
  · subst h; have := ht rfl; rwa [key _ hc (by simp)] at this
  · subst h; have := hf rfl; rwa [key _ hc (by simp)] at this
end
end Go.Abs
