/- The rules of the abstract walk: sequences, tests, blocks, loops, regions, forgetting. No condition. -/
import Derived.Test.YtlgilgaiibdgoaaAbs15
set_option linter.unusedSimpArgs false
set_option linter.unusedVariables false
namespace Go.Abs
open Go

/-- The ids below pin are the function's own arguments' objects: they keep their blocks. -/
def Agr (pin : Nat) (σ : St) (g : Gh) (σ' : St) (g' : Gh) : Prop := ∀ id, id < pin → σ.dom id → g.agree g' id ∧ σ'.dom id

theorem Agr.refl (pin : Nat) (σ : St) (g : Gh) : Agr pin σ g σ g := fun _ _ h => ⟨Gh.agree_refl _ _, h⟩
theorem Agr.trans {pin : Nat} {σ σ' σ'' : St} {g g' g'' : Gh} (h : Agr pin σ g σ' g') (k : Agr pin σ' g' σ'' g'') : Agr pin σ g σ'' g'' := fun id hid hd => by
  obtain ⟨⟨a1, a2, a3⟩, hd'⟩ := h id hid hd
  obtain ⟨⟨b1, b2, b3⟩, hd''⟩ := k id hid hd'
  exact ⟨⟨b1.trans a1, b2.trans a2, b3.trans a3⟩, hd''⟩

/-- The post of an abstract walk, read in the model. -/
def PostOf (env : Env) (pin : Nat) (E : Ent) (σ : St) (g : Gh) (M : Mem) (Q : Exit → St → Prop) : Exit → Act → World → Prop :=
  fun e a' w' => ∃ σ' g' M', Q e σ' ∧ Rel E σ' g' M' a' w' ∧ Mem.le M M' ∧ Agr pin σ g σ' g' ∧ σ'.objs.length = env.nobj

/-- The abstract walk of a piece of code. -/
def SW (P : Program) (env : Env) (pin : Nat) (c : Code) (σ : St) (Q : Exit → St → Prop) : Prop :=
  σ.objs.length = env.nobj → ∀ E g M a w, Rel E σ g M a w → GOK env M → c.wp P (PostOf env pin E σ g M Q) a w

def thenQ (N : St → Prop) (Q : Exit → St → Prop) : Exit → St → Prop
  | .normal, σ => N σ
  | e, σ => Q e σ
def blockQ (id : Nat) (Q : Exit → St → Prop) : Exit → St → Prop
  | .exit id', σ => if id' = id then Q .normal σ else Q (.exit id') σ
  | e, σ => Q e σ

/-- One state may stand for another: the frame and the world are the same. -/
def Weak (env : Env) (pin : Nat) (σ σ' : St) : Prop :=
  σ.objs.length = env.nobj → σ'.objs.length = env.nobj ∧ ∀ E g M a w, Rel E σ g M a w → ∃ g' M', Rel E σ' g' M' a w ∧ Mem.le M M' ∧ Agr pin σ g σ' g'

section
variable {P : Program} {env : Env} {pin : Nat} {σ σ' : St} {Q : Exit → St → Prop}

theorem Weak.refl (σ : St) : Weak env pin σ σ := fun hl => ⟨hl, fun _ g M _ _ h => ⟨g, M, h, Mem.le_refl _, Agr.refl _ _ _⟩⟩
theorem Mem.le_trans {M M' M'' : Mem} (h : Mem.le M M') (k : Mem.le M' M'') : Mem.le M M'' := fun b i u hu => k b i u (h b i u hu)
theorem Weak.trans {σ'' : St} (h : Weak env pin σ σ') (k : Weak env pin σ' σ'') : Weak env pin σ σ'' := fun hl =>
  let ⟨hl', h1⟩ := h hl
  let ⟨hl'', h2⟩ := k hl'
  ⟨hl'', fun E g M a w hR =>
    let ⟨g', M', hR', hM, hA⟩ := h1 E g M a w hR
    let ⟨g'', M'', hR'', hM', hA'⟩ := h2 E g' M' a w hR'
    ⟨g'', M'', hR'', Mem.le_trans hM hM', hA.trans hA'⟩⟩

theorem SW.mono {c : Code} {Q' : Exit → St → Prop} (h : SW P env pin c σ Q) (hq : ∀ e σ, Q e σ → Q' e σ) : SW P env pin c σ Q' := fun hl E g M a w hR hG =>
  wp_mono (h hl E g M a w hR hG) fun e _ _ ⟨σ', g', M', q, r⟩ => ⟨σ', g', M', hq e σ' q, r⟩

theorem SW.weak {c : Code} (hw : Weak env pin σ σ') (h : SW P env pin c σ' Q) : SW P env pin c σ Q := fun hl E g M a w hR hG => by
  obtain ⟨hl', h1⟩ := hw hl
  obtain ⟨g', M', hR', hM, hA⟩ := h1 E g M a w hR
  exact wp_mono (h hl' E g' M' a w hR' (hG.mono hM)) fun e _ _ ⟨σ'', g'', M'', q, r, hM', hA', hl''⟩ => ⟨σ'', g'', M'', q, r, Mem.le_trans hM hM', hA.trans hA', hl''⟩

theorem SW.skip (h : Q .normal σ) : SW P env pin .skip σ Q := fun hl _ g M _ _ hR _ => wp_skip ⟨σ, g, M, h, hR, Mem.le_refl _, Agr.refl _ _ _, hl⟩
theorem SW.ret (h : Q .ret σ) : SW P env pin .ret σ Q := fun hl _ g M _ _ hR _ => wp_ret ⟨σ, g, M, h, hR, Mem.le_refl _, Agr.refl _ _ _, hl⟩
theorem SW.exit {id : Nat} (h : Q (.exit id) σ) : SW P env pin (.exit id) σ Q := fun hl _ g M _ _ hR _ => wp_exit ⟨σ, g, M, h, hR, Mem.le_refl _, Agr.refl _ _ _, hl⟩

theorem SW.seq {x y : Code} (h : SW P env pin x σ (thenQ (fun σ' => SW P env pin y σ' Q) Q)) : SW P env pin (.seq x y) σ Q := fun hl E g M a w hR hG => by
  refine wp_seq (wp_mono (h hl E g M a w hR hG) fun e a' w' ⟨σ', g', M', q, hR', hM, hA, hl'⟩ => ?_)
  cases e with
  | normal =>
    refine wp_mono (q hl' E g' M' a' w' hR' (hG.mono hM)) fun e'' _ _ ⟨σ'', g'', M'', q', r', hM', hA', hl''⟩ => ⟨σ'', g'', M'', q', r', Mem.le_trans hM hM', hA.trans hA', hl''⟩
  | _ => exact ⟨σ', g', M', q, hR', hM, hA, hl'⟩

theorem SW.cond {c : Operand} {x y : Code} {b : Bool} (hc : aeval env σ c = .pv (.bool b)) (ht : b = true → SW P env pin x σ Q) (hf : b = false → SW P env pin y σ Q) : SW P env pin (.cond c x y) σ Q := fun hl E g M a w hR hG => by
  have hv := V_aeval (env := env) hR hG c
  rw [hc] at hv
  exact wp_cond_split hv.bool_inv (fun h => ht h hl E g M a w hR hG) (fun h => hf h hl E g M a w hR hG)

theorem SW.block {id : Nat} {c : Code} (h : SW P env pin c σ (blockQ id Q)) : SW P env pin (.block id c) σ Q := fun hl E g M a w hR hG =>
  wp_block (wp_mono (h hl E g M a w hR hG) fun e a' w' ⟨σ', g', M', q, r⟩ => by
    cases e with
    | exit id' =>
      simp only [Exit.inBlock, blockQ] at *
      by_cases hid : id' = id
      · rw [if_pos hid] at q ⊢; exact ⟨σ', g', M', q, r⟩
      · rw [if_neg hid] at q ⊢; exact ⟨σ', g', M', q, r⟩
    | _ => exact ⟨σ', g', M', q, r⟩)

theorem wp_loop_ghost {ι : Type} {Q : Exit → Act → World → Prop} {a : Act} {w : World} {c : Code} (I : ι → Act → World → Prop) (μ : ι → Nat) (i0 : ι) (h₀ : I i0 a w)
    (round : ∀ i a w, I i a w → c.wp P (Exit.then (fun a' w' => ∃ j, I j a' w' ∧ μ j < μ i) Q) a w) : (Code.loop c).wp P Q a w := by
  intro b k cs
  have key : ∀ n i a w, μ i = n → I i a w →
      ∃ e a' w', Q e a' w' ∧ Arrives P (lone (b.at a (.code c :: .inLoop c :: k)) cs w) b k cs e a' w' := by
    intro n
    induction n using Nat.strongRecOn with
    | _ n ih =>
      intro i a w hn hI
      obtain ⟨e, a₁, w₁, hq, harr⟩ := round i a w hI b (.inLoop c :: k) cs
      cases e with
      | normal =>
        obtain ⟨j, hI₁, hlt⟩ := hq
        obtain ⟨e₂, a₂, w₂, hq₂, harr₂⟩ := ih (μ j) (hn ▸ hlt) j a₁ w₁ rfl hI₁
        exact ⟨e₂, a₂, w₂, hq₂, .of_steps (Steps.trans harr (.one step_inLoop)) harr₂⟩
      | exit id => exact ⟨_, a₁, w₁, hq, .pass (x := .inLoop c) rfl (fun _ _ => .inl (by simp)) harr⟩
      | goto l => exact ⟨_, a₁, w₁, hq, .pass (x := .inLoop c) rfl (fun _ _ => .inl (by simp)) harr⟩
      | ret => exact ⟨_, a₁, w₁, hq, .pass (x := .inLoop c) rfl (fun _ _ => .inl (by simp)) harr⟩
      | panic ch => exact ⟨_, a₁, w₁, hq, .pass (x := .inLoop c) rfl (fun _ _ => .inl (by simp)) harr⟩
      | outgrown => exact ⟨_, a₁, w₁, hq, .pass (x := .inLoop c) rfl (fun _ _ => .inl (by simp)) harr⟩
  obtain ⟨e, a', w', hq, harr⟩ := key _ i0 a w rfl h₀
  exact ⟨e, a', w', hq, .of_steps (.one step_loop) harr⟩

/-- A loop: states that hold at the head of each round, by an index of any type; a measure of the index goes down. -/
theorem SW.loop {ι : Type} {c : Code} (I : ι → St) (μ : ι → Nat) (i0 : ι) (h0 : Weak env pin σ (I i0))
    (round : ∀ i, SW P env pin c (I i) (thenQ (fun σ' => ∃ j, Weak env pin σ' (I j) ∧ μ j < μ i) Q)) : SW P env pin (.loop c) σ Q := fun hl E g M a w hR hG => by
  obtain ⟨hl0, hw0⟩ := h0 hl
  obtain ⟨g', M', hR', hM, hA⟩ := hw0 E g M a w hR
  refine wp_loop_ghost (fun i a w => ∃ g1 M1, Rel E (I i) g1 M1 a w ∧ Mem.le M M1 ∧ Agr pin σ g (I i) g1 ∧ (I i).objs.length = env.nobj) μ i0 ⟨g', M', hR', hM, hA, hl0⟩ ?_
  rintro i a1 w1 ⟨g1, M1, hR1, hM1, hA1, hl1⟩
  refine wp_mono (round i hl1 E g1 M1 a1 w1 hR1 (hG.mono hM1)) fun e a2 w2 ⟨σ2, g2, M2, q, hR2, hM2, hA2, hl2⟩ => ?_
  cases e with
  | normal =>
    obtain ⟨j, hw, hlt⟩ := q
    obtain ⟨hl3, hw3⟩ := hw hl2
    obtain ⟨g3, M3, hR3, hM3, hA3⟩ := hw3 E g2 M2 a2 w2 hR2
    exact ⟨j, ⟨g3, M3, hR3, Mem.le_trans hM1 (Mem.le_trans hM2 hM3), hA1.trans (hA2.trans hA3), hl3⟩, hlt⟩
  | _ => exact ⟨σ2, g2, M2, q, hR2, Mem.le_trans hM1 hM2, hA1.trans hA2, hl2⟩

/-- The steps of a region, one by one. -/
def RR (P : Program) (env : Env) (ops : Array Oper) (K : List Rec → St → Prop) : List Oper → List Rec → St → Prop
  | [], acc, σ => K acc σ
  | o :: rest, acc, σ => ∃ T e, GStep P env ops o σ T e ∧ RR P env ops K rest (acc ++ [⟨T, e⟩]) (σ.app o.dst e)

def recAt (l : List Rec) (k : Nat) : Rec := l.getD k ⟨[], ⟨.junk, []⟩⟩

theorem RR.traced {ops : Array Oper} {K : List Rec → St → Prop} : ∀ (rest : List Oper) (acc : List Rec) (pre : List Oper), ops.toList = pre ++ rest → acc.length = pre.length →
    (∀ k o, k < pre.length → ops[k]? = some o → GStep P env ops o (runS ops (recAt acc) (fun _ => true) σ k) (recAt acc k).T (recAt acc k).e) →
    RR P env ops K rest acc (runS ops (recAt acc) (fun _ => true) σ pre.length) → ∃ tr : List Rec, Traced P env ops σ (recAt tr) ∧ K tr (runS ops (recAt tr) (fun _ => true) σ ops.size)
  | [], acc, pre, hops, hlen, htr, h => by
    have hsz : ops.size = pre.length := by have := congrArg List.length hops; simpa using this
    refine ⟨acc, fun k o ho => htr k o (by rw [← hsz]; exact (Array.getElem?_eq_some_iff.1 ho).1) ho, ?_⟩
    rw [hsz]; exact h
  | o :: rest, acc, pre, hops, hlen, htr, h => by
    obtain ⟨T, e, hg, hr⟩ := h
    have hat : ∀ k, k < pre.length → recAt (acc ++ [⟨T, e⟩]) k = recAt acc k := fun k hk => by
      simp [recAt, List.getD, List.getElem?_append_left (by omega : k < acc.length)]
    have hlast : recAt (acc ++ [⟨T, e⟩]) pre.length = ⟨T, e⟩ := by
      simp [recAt, List.getD, ← hlen]
    have hrun : ∀ k, k ≤ pre.length → runS ops (recAt (acc ++ [⟨T, e⟩])) (fun _ => true) σ k = runS ops (recAt acc) (fun _ => true) σ k := by
      intro k
      induction k with
      | zero => intro _; rfl
      | succ k ih =>
        intro hk
        simp only [runS, if_true, appK]
        rw [ih (by omega), hat k (by omega)]
    have hop : ops[pre.length]? = some o := by
      rw [← Array.getElem?_toList, hops]; simp
    refine RR.traced rest (acc ++ [⟨T, e⟩]) (pre ++ [o]) (by simp [hops]) (by simp [hlen]) (fun k o' hk ho' => ?_) ?_
    · simp only [List.length_append, List.length_singleton] at hk
      rw [hrun k (by omega)]
      by_cases hkp : k < pre.length
      · rw [hat k hkp]; exact htr k o' hkp ho'
      · have hke : k = pre.length := by omega
        subst hke
        rw [hlast]
        rw [hop] at ho'; cases ho'
        exact hg
    · simp only [List.length_append, List.length_singleton, runS, if_true]
      have e1 : appK ops (recAt (acc ++ [⟨T, e⟩])) (runS ops (recAt (acc ++ [⟨T, e⟩])) (fun _ => true) σ pre.length) pre.length = (runS ops (recAt acc) (fun _ => true) σ pre.length).app o.dst e := by
        simp only [appK, hop, hlast, hrun _ (Nat.le_refl _)]
      rw [e1]; exact hr

theorem dom_app (d : Option Nat) (e : Eff) (id : Nat) (h : σ.dom id) : (σ.app d e).dom id := by
  have : ∀ (u : List (Nat × AObj)) (l : List (Option AObj)), l.getD id none ≠ none → (setAll l u).getD id none ≠ none := by
    intro u
    induction u with
    | nil => intro l h; exact h
    | cons q r ihr =>
      intro l h
      refine ihr _ ?_
      by_cases hq : q.1 = id
      · subst hq
        have hlt : q.1 < l.length := by
          rcases Nat.lt_or_ge q.1 l.length with h' | h'
          · exact h'
          · exfalso; apply h; simp [List.getElem?_eq_none h']
        simp [List.getD, hlt]
      · simp only [List.getD, List.getElem?_set_ne hq]; exact h
  exact this _ _ h

theorem dom_runS {ops : Array Oper} {tr : Nat → Rec} {S : Nat → Bool} (id : Nat) (h : σ.dom id) : ∀ m, (runS ops tr S σ m).dom id
  | 0 => h
  | m + 1 => by
    simp only [runS]
    split
    · unfold appK
      split
      · exact dom_app _ _ _ (dom_runS id h m)
      · exact dom_runS id h m
    · exact dom_runS id h m

/-- A region whose order is open. -/
theorem SW.draw (hE : EnvOK P env) (hm : P.follows .mixedOrders = true) {id : Nat} {ops : Array Oper} (h : RR P env ops (fun tr σ' => regOK ops (anc ops) (recAt tr) = true ∧ Q .normal σ') ops.toList [] σ) : SW P env pin (.region id ops true) σ Q := fun hl E g M a w hR hG => by
  obtain ⟨tr, htr, hok, hq⟩ := RR.traced (σ := σ) (ops := ops) ops.toList [] [] (by simp) rfl (fun k o hk => by simp at hk) h
  refine wp_region_any hm (region_any (E := E) hE hok htr hl hG (g0 := g) (fun g' M' a' w' hR' hag hM => ?_) ops.size _ g M a _ (by simp) ?_ ?_ ?_ (fun _ _ => Gh.agree_refl _ _) (Mem.le_refl _))
  · exact ⟨_, g', M', hq, hR', hM, fun i hi hd => ⟨hag i hd, dom_runS i hd _⟩, by rw [runS_objs_length]; exact hl⟩
  · intro k o ho hk
    have hks : k < ops.size := (Array.getElem?_eq_some_iff.1 ho).1
    simp [hks] at hk
  · exact Nat.le_trans (List.length_filter_le _ _) (by simp)
  · rw [runS_congr (S' := fun _ => false) ops.size (fun k hk => by simp [hk])]
    have : ∀ m, runS ops (recAt tr) (fun _ => false) σ m = σ := fun m => by induction m with
      | zero => rfl
      | succ m ih => simp [runS, ih]
    rw [this]
    exact hR.drew

theorem wpOps_range {ops : Array Oper} {tr : Nat → Rec} (hE : EnvOK P env) (htr : Traced P env ops σ tr) (hl : σ.objs.length = env.nobj) {E : Ent} {g0 : Gh} {M0 : Mem} (hG : GOK env M0) {Q : Exit → Act → World → Prop}
    (hQ : ∀ g M a w, Rel E (runS ops tr (fun _ => true) σ ops.size) g M a w → (∀ id, σ.dom id → g0.agree g id) → Mem.le M0 M → Q .normal a w) :
    ∀ n k, k + n = ops.size → ∀ g M a w, Rel E (runS ops tr (fun _ => true) σ k) g M a w → (∀ id, σ.dom id → g0.agree g id) → Mem.le M0 M → wpOps P ops Q (List.range' k n) a w
  | 0, k, hk, g, M, a, w, hR, hag, hM => by
    have : k = ops.size := by omega
    subst this
    exact hQ g M a w hR hag hM
  | n + 1, k, hk, g, M, a, w, hR, hag, hM => by
    have hks : k < ops.size := by omega
    have ho : ops[k]? = some ops[k] := Array.getElem?_eq_getElem hks
    rw [List.range'_succ, wpOps_cons]
    refine (htr k _ ho).wp ho hR (hG.mono hM) hE (by rw [runS_objs_length]; exact hl) (fun v w' g' M' hR' hag' hM' => ?_)
    refine wpOps_range hE htr hl hG hQ n (k + 1) (by omega) g' M' _ w' ?_ (fun id hd => ?_) (Mem.le_trans hM hM')
    · simp only [runS, if_true, appK, ho]; exact hR'
    · obtain ⟨h1, h2, h3⟩ := hag id hd
      obtain ⟨h4, h5, h6⟩ := hag' id (dom_runS id hd _)
      exact ⟨h4.trans h1, h5.trans h2, h6.trans h3⟩

/-- A region in the order of the text. -/
theorem SW.region (hE : EnvOK P env) {id : Nat} {ops : Array Oper} (h : RR P env ops (fun _ σ' => Q .normal σ') ops.toList [] σ) : SW P env pin (.region id ops false) σ Q := fun hl E g M a w hR hG => by
  obtain ⟨tr, htr, hq⟩ := RR.traced (σ := σ) (ops := ops) ops.toList [] [] (by simp) rfl (fun k o hk => by simp at hk) h
  refine wp_region ?_
  rw [List.range_eq_range']
  refine wpOps_range hE htr hl hG (g0 := g) (fun g' M' a' w' hR' hag hM => ?_) ops.size 0 (by omega) g M a w hR (fun _ _ => Gh.agree_refl _ _) (Mem.le_refl _)
  exact ⟨_, g', M', hq, hR', hM, fun i hi hd => ⟨hag i hd, dom_runS i hd _⟩, by rw [runS_objs_length]; exact hl⟩

/-- Some operations at once. -/
def steps (env : Env) (ops : Array Oper) : Nat → List Oper → List Rec → St → Option (List Oper × List Rec × St)
  | 0, l, acc, σ => some (l, acc, σ)
  | _ + 1, [], acc, σ => some ([], acc, σ)
  | n + 1, o :: rest, acc, σ =>
    match aguard ops σ o with
    | some true => match aop env o.dst (aeval env σ) σ.obj o.op with
      | some e => steps env ops n rest (acc ++ [⟨atgt env o.dst (aeval env σ) o.op, e⟩]) (σ.app o.dst e)
      | none => none
    | some false => steps env ops n rest (acc ++ [⟨[], ⟨.tup [], []⟩⟩]) (σ.app o.dst ⟨.tup [], []⟩)
    | none => none

theorem RR.steps {ops : Array Oper} {K : List Rec → St → Prop} : ∀ (n : Nat) {l l' : List Oper} {acc acc' : List Rec} {σ σ' : St}, steps env ops n l acc σ = some (l', acc', σ') → RR P env ops K l' acc' σ' → RR P env ops K l acc σ
  | 0, l, l', acc, acc', σ, σ', h, k => by cases h; exact k
  | n + 1, [], l', acc, acc', σ, σ', h, k => by cases h; exact k
  | n + 1, o :: rest, l', acc, acc', σ, σ', h, k => by
    simp only [Abs.steps] at h
    split at h
    · rename_i hg
      split at h
      · rename_i e he
        exact ⟨_, e, .run _ e hg (.op e he), RR.steps n h k⟩
      · cases h
    · rename_i hg
      exact ⟨_, _, .skip hg, RR.steps n h k⟩
    · cases h

/-- A call by its contract. -/
theorem RR.call {ops : Array Oper} {K : List Rec → St → Prop} {o : Oper} {rest : List Oper} {acc : List Rec} (hg : aguard ops σ o = some true) {f : FuncId} {args : Array Operand} {cargs : List AVal} {cobjs : List (Option AObj)} {ids news : List Nat} {res : AVal} {objs' : List (Option AObj)}
    (hac : AC P env.gl f cargs cobjs res objs') (hf : CallFits P env σ o f args cargs cobjs ids news objs')
    (h : RR P env ops K rest (acc ++ [⟨ids ++ news, ⟨ren (fun k => (ids ++ news).getD k 0) res, callUpd (fun k => (ids ++ news).getD k 0) (ids ++ news) 0 objs'⟩⟩])
      (σ.app o.dst ⟨ren (fun k => (ids ++ news).getD k 0) res, callUpd (fun k => (ids ++ news).getD k 0) (ids ++ news) 0 objs'⟩)) : RR P env ops K (o :: rest) acc σ :=
  ⟨_, _, .run _ _ hg (.call f args cargs cobjs ids news res objs' hf hac), h⟩
end
end Go.Abs
