/- The abstract walk in the form in which it is typed: continuations behind names, operations reckoned where they stand. No condition. -/
import Derived.Test.YtlgilgaiibdgoaaAbs18
set_option linter.unusedSimpArgs false
set_option linter.unusedVariables false
namespace Go.Abs
open Go

theorem SW.seqK {P : Program} {env : Env} {pin : Nat} {σ : St} {Q : Exit → St → Prop} {x y : Code} (h : ∀ N : St → Prop, (∀ σ', SW P env pin y σ' Q → N σ') → SW P env pin x σ (thenQ N Q)) : SW P env pin (.seq x y) σ Q :=
  SW.seq (h _ fun _ h => h)

/-- The operations of a region that goes in the order of the text. -/
def R0 (P : Program) (env : Env) (ops : Array Oper) (K : St → Prop) : List Oper → St → Prop
  | [], σ => K σ
  | o :: rest, σ => ∃ T e, GStep P env ops o σ T e ∧ R0 P env ops K rest (σ.app o.dst e)

/-- The operations of a region whose order is open: what each looks at and writes is kept. -/
def RD (P : Program) (env : Env) (ops : Array Oper) (K : List (List Nat × List Nat) → St → Prop) : List Oper → List (List Nat × List Nat) → St → Prop
  | [], acc, σ => K acc σ
  | o :: rest, acc, σ => ∃ T e, GStep P env ops o σ T e ∧ RD P env ops K rest (acc ++ [(T, e.upd.map Prod.fst)]) (σ.app o.dst e)

def clashT (ops : Array Oper) (oi oj : Oper) (ri rj : List Nat × List Nat) : Bool :=
  !(oi.apart ops oj) || (meets ri.1 rj.1 && !(ri.2.isEmpty && rj.2.isEmpty))

def regT (ops : Array Oper) (A : Nat → List Nat) (tr : Nat → List Nat × List Nat) : Bool :=
  (List.range ops.size).all fun k => match ops[k]? with
    | none => false
    | some o =>
      (o.after.all fun e => !Region.binds .any e || decide (e.on < k)) &&
      ((tr k).2.all fun q => (tr k).1.contains q) &&
      ((A k).all fun j => o.after.any fun e => Region.binds .any e && (e.on == j || (A e.on).contains j)) &&
      ((List.range k).all fun i => (A k).contains i || match ops[i]? with | some oi => !clashT ops oi o (tr i) (tr k) | none => false)

def pairAt (l : List (List Nat × List Nat)) (k : Nat) : List Nat × List Nat := l.getD k ([], [])
def short (r : Rec) : List Nat × List Nat := (r.T, r.e.upd.map Prod.fst)

section
variable {P : Program} {env : Env} {pin : Nat} {σ : St} {Q : Exit → St → Prop}

theorem regT_ok {ops : Array Oper} {A : Nat → List Nat} {tr : List Rec} (h : regT ops A (pairAt (tr.map short)) = true) : regOK ops A (recAt tr) = true := by
  have hp : ∀ k, pairAt (tr.map short) k = short (recAt tr k) := fun k => by
    simp only [pairAt, recAt, List.getD, List.getElem?_map]
    cases tr[k]? <;> rfl
  unfold regT at h
  unfold regOK
  rw [List.all_eq_true] at h ⊢
  intro k hk
  have := h k hk
  cases ho : ops[k]? with
  | none => rw [ho] at this; cases this
  | some o =>
    rw [ho] at this
    simp only [Bool.and_eq_true] at this ⊢
    obtain ⟨⟨⟨h1, h2⟩, h3⟩, h4⟩ := this
    refine ⟨⟨⟨h1, ?_⟩, h3⟩, ?_⟩
    · rw [hp] at h2
      simp only [short, List.all_map] at h2
      exact h2
    · rw [List.all_eq_true] at h4 ⊢
      intro i hi
      have h5 := h4 i hi
      cases hoi : ops[i]? with
      | none => rw [hoi] at h5; exact h5
      | some oi =>
        rw [hoi] at h5
        rw [hp, hp] at h5
        have e1 : clashT ops oi o (short (recAt tr i)) (short (recAt tr k)) = clash ops oi o (recAt tr i) (recAt tr k) := by
          unfold clashT clash short
          cases (recAt tr i).e.upd <;> cases (recAt tr k).e.upd <;> rfl
        have h6 : ((A k).contains i || !clashT ops oi o (short (recAt tr i)) (short (recAt tr k))) = true := h5
        rw [e1] at h6
        exact h6

theorem R0.toRR {ops : Array Oper} {K : St → Prop} : ∀ (l : List Oper) (acc : List Rec) (σ : St), R0 P env ops K l σ → RR P env ops (fun _ σ => K σ) l acc σ
  | [], _, _, h => h
  | _ :: rest, acc, σ, ⟨T, e, h1, h2⟩ => ⟨T, e, h1, R0.toRR rest _ _ h2⟩

theorem RD.toRR {ops : Array Oper} {K : List (List Nat × List Nat) → St → Prop} : ∀ (l : List Oper) (acc : List Rec) (σ : St), RD P env ops K l (acc.map short) σ → RR P env ops (fun tr σ => K (tr.map short) σ) l acc σ
  | [], _, _, h => h
  | _ :: rest, acc, σ, ⟨T, e, h1, h2⟩ => ⟨T, e, h1, RD.toRR rest (acc ++ [⟨T, e⟩]) _ (by simpa [short] using h2)⟩

theorem SW.reg (hE : EnvOK P env) {id : Nat} {ops : Array Oper} (h : R0 P env ops (fun σ' => Q .normal σ') ops.toList σ) : SW P env pin (.region id ops false) σ Q :=
  SW.region hE (R0.toRR _ _ _ h)

theorem SW.drawn (hE : EnvOK P env) (hm : P.follows .mixedOrders = true) {id : Nat} {ops : Array Oper} (h : RD P env ops (fun tr σ' => regT ops (anc ops) (pairAt tr) = true ∧ Q .normal σ') ops.toList [] σ) : SW P env pin (.region id ops true) σ Q := by
  refine SW.draw hE hm ?_
  have h1 := RD.toRR (K := fun tr σ' => regT ops (anc ops) (pairAt tr) = true ∧ Q .normal σ') ops.toList [] σ h
  have key : ∀ (l : List Oper) (acc : List Rec) (σ : St), RR P env ops (fun tr σ => regT ops (anc ops) (pairAt (tr.map short)) = true ∧ Q .normal σ) l acc σ → RR P env ops (fun tr σ' => regOK ops (anc ops) (recAt tr) = true ∧ Q .normal σ') l acc σ := by
    intro l
    induction l with
    | nil => intro acc σ h; exact ⟨regT_ok h.1, h.2⟩
    | cons o rest ih => intro acc σ ⟨T, e, h2, h3⟩; exact ⟨T, e, h2, ih _ _ h3⟩
  exact key _ _ _ h1

/-- An option's value, or nothing to show. -/
def elimP {α : Type} (x : Option α) (A : α → Prop) : Prop := match x with | some a => A a | none => False
theorem elimP_some {α : Type} (a : α) (A : α → Prop) : elimP (some a) A = A a := rfl
theorem elimP_none {α : Type} (A : α → Prop) : elimP none A = False := rfl
theorem elimP_ite {α : Type} (c : Prop) [Decidable c] (x : Option α) (A : α → Prop) : elimP (if c then x else none) A = (c ∧ elimP x A) := by
  by_cases h : c <;> simp [h, elimP]
theorem elimP_ite' {α : Type} (c : Prop) [Decidable c] (x : Option α) (A : α → Prop) : elimP (if c then none else x) A = (¬ c ∧ elimP x A) := by
  by_cases h : c <;> simp [h, elimP]
theorem elimP_map {α β : Type} (f : α → β) (x : Option α) (A : β → Prop) : elimP (x.map f) A = elimP x (fun a => A (f a)) := by cases x <;> rfl
@[congr] theorem elimP_congr {α : Type} {x y : Option α} {A : α → Prop} (h : x = y) : elimP x A = elimP y A := by rw [h]
/-- Two ways, by a bool. -/
def gcond (b : Bool) (A B : Unit → Prop) : Prop := (b = true → A ()) ∧ (b = false → B ())
theorem gcond_true (A B : Unit → Prop) : gcond true A B = A () := by simp [gcond]
theorem gcond_false (A B : Unit → Prop) : gcond false A B = B () := by simp [gcond]
@[congr] theorem gcond_congr {b c : Bool} {A B : Unit → Prop} (h : b = c) : gcond b A B = gcond c A B := by rw [h]
theorem gcond_mk {b : Bool} {A B : Unit → Prop} (h : b = true → A ()) (k : b = false → B ()) : gcond b A B := ⟨h, k⟩

def isCall : Op → Bool
  | .call ⟨.value _, _, _⟩ => true
  | _ => false

/-- Some operations of a region in the order of the text; it stops at a call. -/
def go0 (P : Program) (env : Env) (ops : Array Oper) (K : St → Prop) : Nat → List Oper → St → Prop
  | 0, l, σ => R0 P env ops K l σ
  | _ + 1, [], σ => K σ
  | n + 1, o :: rest, σ => elimP (aguard ops σ o) fun b => gcond b
      (fun _ => if isCall o.op = true then R0 P env ops K (o :: rest) σ else elimP (aop env o.dst (aeval env σ) σ.obj o.op) fun e => go0 P env ops K n rest (σ.app o.dst e))
      (fun _ => go0 P env ops K n rest (σ.app o.dst ⟨.tup [], []⟩))
theorem R0.go {ops : Array Oper} {K : St → Prop} : ∀ (n : Nat) {l : List Oper} {σ : St}, go0 P env ops K n l σ → R0 P env ops K l σ
  | 0, _, _, h => h
  | _ + 1, [], _, h => h
  | n + 1, o :: rest, σ, h => by
    simp only [go0] at h
    cases hg : aguard ops σ o with
    | none => rw [hg] at h; exact h.elim
    | some b =>
      rw [hg, elimP_some] at h
      cases b with
      | true =>
        rw [gcond_true] at h
        split at h
        · exact h
        · cases he : aop env o.dst (aeval env σ) σ.obj o.op with
          | none => rw [he] at h; exact h.elim
          | some e => rw [he] at h; exact ⟨_, e, .run _ _ hg (.op _ he), R0.go n h⟩
      | false =>
        rw [gcond_false] at h
        exact ⟨_, _, .skip hg, R0.go n h⟩
def goD (P : Program) (env : Env) (ops : Array Oper) (K : List (List Nat × List Nat) → St → Prop) : Nat → List Oper → List (List Nat × List Nat) → St → Prop
  | 0, l, acc, σ => RD P env ops K l acc σ
  | _ + 1, [], acc, σ => K acc σ
  | n + 1, o :: rest, acc, σ => elimP (aguard ops σ o) fun b => gcond b
      (fun _ => if isCall o.op = true then RD P env ops K (o :: rest) acc σ else elimP (aop env o.dst (aeval env σ) σ.obj o.op) fun e => goD P env ops K n rest (acc ++ [(atgt env o.dst (aeval env σ) o.op, e.upd.map Prod.fst)]) (σ.app o.dst e))
      (fun _ => goD P env ops K n rest (acc ++ [([], [])]) (σ.app o.dst ⟨.tup [], []⟩))
theorem RD.go {ops : Array Oper} {K : List (List Nat × List Nat) → St → Prop} : ∀ (n : Nat) {l : List Oper} {acc : List (List Nat × List Nat)} {σ : St}, goD P env ops K n l acc σ → RD P env ops K l acc σ
  | 0, _, _, _, h => h
  | _ + 1, [], _, _, h => h
  | n + 1, o :: rest, acc, σ, h => by
    simp only [goD] at h
    cases hg : aguard ops σ o with
    | none => rw [hg] at h; exact h.elim
    | some b =>
      rw [hg, elimP_some] at h
      cases b with
      | true =>
        rw [gcond_true] at h
        split at h
        · exact h
        · cases he : aop env o.dst (aeval env σ) σ.obj o.op with
          | none => rw [he] at h; exact h.elim
          | some e => rw [he] at h; exact ⟨_, e, .run _ _ hg (.op _ he), RD.go n h⟩
      | false =>
        rw [gcond_false] at h
        exact ⟨_, _, .skip hg, RD.go n h⟩

/-- On with what stands behind a name. -/
theorem on {N S : St → Prop} {σ : St} (h : ∀ σ', S σ' → N σ') (k : S σ) : N σ := h σ k

theorem R0.call {ops : Array Oper} {K : St → Prop} {o : Oper} {rest : List Oper} (hg : aguard ops σ o = some true) {f : FuncId} {args : Array Operand} {cargs : List AVal} {cobjs : List (Option AObj)} (ids news : List Nat) {res : AVal} {objs' : List (Option AObj)}
    (hac : AC P env.gl f cargs cobjs res objs') (hf : CallFits P env σ o f args cargs cobjs ids news objs')
    (h : R0 P env ops K rest (σ.app o.dst ⟨ren (tau (ids ++ news)) res, callUpd (tau (ids ++ news)) (ids ++ news) 0 objs'⟩)) : R0 P env ops K (o :: rest) σ :=
  ⟨_, _, .run _ _ hg (.call f args cargs cobjs ids news res objs' hf hac), h⟩
theorem RD.call {ops : Array Oper} {K : List (List Nat × List Nat) → St → Prop} {o : Oper} {rest : List Oper} {acc : List (List Nat × List Nat)} (hg : aguard ops σ o = some true) {f : FuncId} {args : Array Operand} {cargs : List AVal} {cobjs : List (Option AObj)} (ids news : List Nat) {res : AVal} {objs' : List (Option AObj)}
    (hac : AC P env.gl f cargs cobjs res objs') (hf : CallFits P env σ o f args cargs cobjs ids news objs')
    (h : RD P env ops K rest (acc ++ [(ids ++ news, (callUpd (tau (ids ++ news)) (ids ++ news) 0 objs').map Prod.fst)]) (σ.app o.dst ⟨ren (tau (ids ++ news)) res, callUpd (tau (ids ++ news)) (ids ++ news) 0 objs'⟩)) : RD P env ops K (o :: rest) acc σ :=
  ⟨_, _, .run _ _ hg (.call f args cargs cobjs ids news res objs' hf hac), h⟩

/-- A call over values alone. -/
theorem CallFits.pure {σ : St} {o : Oper} {f : FuncId} {args : Array Operand} {cargs : List AVal} {tys : Array TypeId} (ho : o.op = .call ⟨.value (.func f), args, tys⟩) (hent : ∀ vargs w, (callFunc f vargs).run P w = .ok (.enter f vargs) w)
    (hargs : args.toList.map (aeval env σ) = renL (fun k => ([] : List Nat).getD k 0) cargs) (hsc : inScopeL (hasObj []) cargs = true) : CallFits P env σ o f args cargs [] [] [] [] where
  op := ⟨tys, ho⟩
  enters := hent
  args := hargs
  objs := rfl
  scopeA := hsc
  scopeO := by simp
  nodup := by simp
  lt := by simp
  fresh := by simp
  len := by simp
end
end Go.Abs
