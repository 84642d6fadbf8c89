/- A sound walk of the program by abstract states, part 2: its theorems have no condition beyond what they state. -/
import Derived.Test.YtlgilgaiibdgoaaDoorLib1
import Derived.IntWalk
import Derived.ChangeSame
import Derived.ChangeStays
import Derived.WideKeyArgs
import Derived.Deep.Slices
import Derived.ProofKit
import Derived.WalkKit
import Derived.OpenShut
import Derived.ChangeMaps5
import Derived.ChangeSlices
set_option linter.unusedSimpArgs false
set_option linter.unusedVariables false
set_option linter.defProp false
namespace Go.Abs
open Go

def Agr (pin : Nat) (σ : St) (g : Gh) (σ' : St) (g' : Gh) : Prop := ∀ id, id < pin → σ.dom id → g.agree g' id ∧ σ'.dom id

theorem Agr.refl (pin : Nat) (σ : St) (g : Gh) : Agr pin σ g σ g := fun _ _ h => ⟨Gh.agree_refl _ _, h⟩
theorem Agr.trans {pin : Nat} {σ σ' σ'' : St} {g g' g'' : Gh} (h : Agr pin σ g σ' g') (k : Agr pin σ' g' σ'' g'') : Agr pin σ g σ'' g'' := fun id hid hd => by
  obtain ⟨⟨a1, a2, a3⟩, hd'⟩ := h id hid hd
  obtain ⟨⟨b1, b2, b3⟩, hd''⟩ := k id hid hd'
  exact ⟨⟨b1.trans a1, b2.trans a2, b3.trans a3⟩, hd''⟩

def PostOf (env : Env) (pin : Nat) (E : Ent) (σ : St) (g : Gh) (M : Mem) (Q : Exit → St → Prop) : Exit → Act → World → Prop :=
  fun e a' w' => ∃ σ' g' M', Q e σ' ∧ Rel E σ' g' M' a' w' ∧ Mem.le M M' ∧ Agr pin σ g σ' g' ∧ σ'.objs.length = env.nobj

def SW (P : Program) (env : Env) (pin : Nat) (c : Code) (σ : St) (Q : Exit → St → Prop) : Prop :=
  σ.objs.length = env.nobj → ∀ E g M a w, Rel E σ g M a w → GOK env M → c.wp P (PostOf env pin E σ g M Q) a w

def thenQ (N : St → Prop) (Q : Exit → St → Prop) : Exit → St → Prop
  | .normal, σ => N σ
  | e, σ => Q e σ
def blockQ (id : Nat) (Q : Exit → St → Prop) : Exit → St → Prop
  | .exit id', σ => if id' = id then Q .normal σ else Q (.exit id') σ
  | e, σ => Q e σ

def Weak (env : Env) (pin : Nat) (σ σ' : St) : Prop :=
  σ.objs.length = env.nobj → σ'.objs.length = env.nobj ∧ ∀ E g M a w, Rel E σ g M a w → ∃ g' M', Rel E σ' g' M' a w ∧ Mem.le M M' ∧ Agr pin σ g σ' g'

section
variable {P : Program} {env : Env} {pin : Nat} {σ σ' : St} {Q : Exit → St → Prop}

theorem Weak.refl (σ : St) : Weak env pin σ σ := fun hl => ⟨hl, fun _ g M _ _ h => ⟨g, M, h, Mem.le_refl _, Agr.refl _ _ _⟩⟩
theorem Mem.le_trans {M M' M'' : Mem} (h : Mem.le M M') (k : Mem.le M' M'') : Mem.le M M'' := fun b i u hu => k b i u (h b i u hu)
theorem Weak.trans {σ'' : St} (h : Weak env pin σ σ') (k : Weak env pin σ' σ'') : Weak env pin σ σ'' := fun hl =>
  let ⟨hl', h1⟩ := h hl
  let ⟨hl'', h2⟩ := k hl'
  ⟨hl'', fun E g M a w hR =>
    let ⟨g', M', hR', hM, hA⟩ := h1 E g M a w hR
    let ⟨g'', M'', hR'', hM', hA'⟩ := h2 E g' M' a w hR'
    ⟨g'', M'', hR'', Mem.le_trans hM hM', hA.trans hA'⟩⟩

theorem SW.mono {c : Code} {Q' : Exit → St → Prop} (h : SW P env pin c σ Q) (hq : ∀ e σ, Q e σ → Q' e σ) : SW P env pin c σ Q' := fun hl E g M a w hR hG =>
  wp_mono (h hl E g M a w hR hG) fun e _ _ ⟨σ', g', M', q, r⟩ => ⟨σ', g', M', hq e σ' q, r⟩

theorem SW.weak {c : Code} (hw : Weak env pin σ σ') (h : SW P env pin c σ' Q) : SW P env pin c σ Q := fun hl E g M a w hR hG => by
  obtain ⟨hl', h1⟩ := hw hl
  obtain ⟨g', M', hR', hM, hA⟩ := h1 E g M a w hR
  exact wp_mono (h hl' E g' M' a w hR' (hG.mono hM)) fun e _ _ ⟨σ'', g'', M'', q, r, hM', hA', hl''⟩ => ⟨σ'', g'', M'', q, r, Mem.le_trans hM hM', hA.trans hA', hl''⟩

theorem SW.skip (h : Q .normal σ) : SW P env pin .skip σ Q := fun hl _ g M _ _ hR _ => wp_skip ⟨σ, g, M, h, hR, Mem.le_refl _, Agr.refl _ _ _, hl⟩
theorem SW.ret (h : Q .ret σ) : SW P env pin .ret σ Q := fun hl _ g M _ _ hR _ => wp_ret ⟨σ, g, M, h, hR, Mem.le_refl _, Agr.refl _ _ _, hl⟩
theorem SW.exit {id : Nat} (h : Q (.exit id) σ) : SW P env pin (.exit id) σ Q := fun hl _ g M _ _ hR _ => wp_exit ⟨σ, g, M, h, hR, Mem.le_refl _, Agr.refl _ _ _, hl⟩

theorem SW.seq {x y : Code} (h : SW P env pin x σ (thenQ (fun σ' => SW P env pin y σ' Q) Q)) : SW P env pin (.seq x y) σ Q := fun hl E g M a w hR hG => by
  refine wp_seq (wp_mono (h hl E g M a w hR hG) fun e a' w' ⟨σ', g', M', q, hR', hM, hA, hl'⟩ => ?_)
  cases e with
  | normal =>
    refine wp_mono (q hl' E g' M' a' w' hR' (hG.mono hM)) fun e'' _ _ ⟨σ'', g'', M'', q', r', hM', hA', hl''⟩ => ⟨σ'', g'', M'', q', r', Mem.le_trans hM hM', hA.trans hA', hl''⟩
  | _ => exact ⟨σ', g', M', q, hR', hM, hA, hl'⟩

theorem SW.cond {c : Operand} {x y : Code} {b : Bool} (hc : aeval env σ c = .pv (.bool b)) (ht : b = true → SW P env pin x σ Q) (hf : b = false → SW P env pin y σ Q) : SW P env pin (.cond c x y) σ Q := fun hl E g M a w hR hG => by
  have hv := V_aeval (env := env) hR hG c
  rw [hc] at hv
  exact wp_cond_split hv.bool_inv (fun h => ht h hl E g M a w hR hG) (fun h => hf h hl E g M a w hR hG)

theorem SW.block {id : Nat} {c : Code} (h : SW P env pin c σ (blockQ id Q)) : SW P env pin (.block id c) σ Q := fun hl E g M a w hR hG =>
  wp_block (wp_mono (h hl E g M a w hR hG) fun e a' w' ⟨σ', g', M', q, r⟩ => by
    cases e with
    | exit id' =>
      simp only [Exit.inBlock, blockQ] at *
      by_cases hid : id' = id
      · rw [if_pos hid] at q ⊢; exact ⟨σ', g', M', q, r⟩
      · rw [if_neg hid] at q ⊢; exact ⟨σ', g', M', q, r⟩
    | _ => exact ⟨σ', g', M', q, r⟩)

theorem wp_loop_ghost {ι : Type} {Q : Exit → Act → World → Prop} {a : Act} {w : World} {c : Code} (I : ι → Act → World → Prop) (μ : ι → Nat) (i0 : ι) (h₀ : I i0 a w)
    (round : ∀ i a w, I i a w → c.wp P (Exit.then (fun a' w' => ∃ j, I j a' w' ∧ μ j < μ i) Q) a w) : (Code.loop c).wp P Q a w := by
  intro b k cs
  have key : ∀ n i a w, μ i = n → I i a w →
      ∃ e a' w', Q e a' w' ∧ Arrives P (lone (b.at a (.code c :: .inLoop c :: k)) cs w) b k cs e a' w' := by
    intro n
    induction n using Nat.strongRecOn with
    | _ n ih =>
      intro i a w hn hI
      obtain ⟨e, a₁, w₁, hq, harr⟩ := round i a w hI b (.inLoop c :: k) cs
      cases e with
      | normal =>
        obtain ⟨j, hI₁, hlt⟩ := hq
        obtain ⟨e₂, a₂, w₂, hq₂, harr₂⟩ := ih (μ j) (hn ▸ hlt) j a₁ w₁ rfl hI₁
        exact ⟨e₂, a₂, w₂, hq₂, .of_steps (Steps.trans harr (.one step_inLoop)) harr₂⟩
      | exit id => exact ⟨_, a₁, w₁, hq, .pass (x := .inLoop c) rfl (fun _ _ => .inl (by simp)) harr⟩
      | goto l => exact ⟨_, a₁, w₁, hq, .pass (x := .inLoop c) rfl (fun _ _ => .inl (by simp)) harr⟩
      | ret => exact ⟨_, a₁, w₁, hq, .pass (x := .inLoop c) rfl (fun _ _ => .inl (by simp)) harr⟩
      | panic ch => exact ⟨_, a₁, w₁, hq, .pass (x := .inLoop c) rfl (fun _ _ => .inl (by simp)) harr⟩
      | outgrown => exact ⟨_, a₁, w₁, hq, .pass (x := .inLoop c) rfl (fun _ _ => .inl (by simp)) harr⟩
  obtain ⟨e, a', w', hq, harr⟩ := key _ i0 a w rfl h₀
  exact ⟨e, a', w', hq, .of_steps (.one step_loop) harr⟩

theorem SW.loop {ι : Type} {c : Code} (I : ι → St) (μ : ι → Nat) (i0 : ι) (h0 : Weak env pin σ (I i0))
    (round : ∀ i, SW P env pin c (I i) (thenQ (fun σ' => ∃ j, Weak env pin σ' (I j) ∧ μ j < μ i) Q)) : SW P env pin (.loop c) σ Q := fun hl E g M a w hR hG => by
  obtain ⟨hl0, hw0⟩ := h0 hl
  obtain ⟨g', M', hR', hM, hA⟩ := hw0 E g M a w hR
  refine wp_loop_ghost (fun i a w => ∃ g1 M1, Rel E (I i) g1 M1 a w ∧ Mem.le M M1 ∧ Agr pin σ g (I i) g1 ∧ (I i).objs.length = env.nobj) μ i0 ⟨g', M', hR', hM, hA, hl0⟩ ?_
  rintro i a1 w1 ⟨g1, M1, hR1, hM1, hA1, hl1⟩
  refine wp_mono (round i hl1 E g1 M1 a1 w1 hR1 (hG.mono hM1)) fun e a2 w2 ⟨σ2, g2, M2, q, hR2, hM2, hA2, hl2⟩ => ?_
  cases e with
  | normal =>
    obtain ⟨j, hw, hlt⟩ := q
    obtain ⟨hl3, hw3⟩ := hw hl2
    obtain ⟨g3, M3, hR3, hM3, hA3⟩ := hw3 E g2 M2 a2 w2 hR2
    exact ⟨j, ⟨g3, M3, hR3, Mem.le_trans hM1 (Mem.le_trans hM2 hM3), hA1.trans (hA2.trans hA3), hl3⟩, hlt⟩
  | _ => exact ⟨σ2, g2, M2, q, hR2, Mem.le_trans hM1 hM2, hA1.trans hA2, hl2⟩

def RR (P : Program) (env : Env) (ops : Array Oper) (K : List Rec → St → Prop) : List Oper → List Rec → St → Prop
  | [], acc, σ => K acc σ
  | o :: rest, acc, σ => ∃ T e, GStep P env ops o σ T e ∧ RR P env ops K rest (acc ++ [⟨T, e⟩]) (σ.app o.dst e)

def recAt (l : List Rec) (k : Nat) : Rec := l.getD k ⟨[], ⟨.junk, []⟩⟩

theorem RR.traced {ops : Array Oper} {K : List Rec → St → Prop} : ∀ (rest : List Oper) (acc : List Rec) (pre : List Oper), ops.toList = pre ++ rest → acc.length = pre.length →
    (∀ k o, k < pre.length → ops[k]? = some o → GStep P env ops o (runS ops (recAt acc) (fun _ => true) σ k) (recAt acc k).T (recAt acc k).e) →
    RR P env ops K rest acc (runS ops (recAt acc) (fun _ => true) σ pre.length) → ∃ tr : List Rec, Traced P env ops σ (recAt tr) ∧ K tr (runS ops (recAt tr) (fun _ => true) σ ops.size)
  | [], acc, pre, hops, hlen, htr, h => by
    have hsz : ops.size = pre.length := by have := congrArg List.length hops; simpa using this
    refine ⟨acc, fun k o ho => htr k o (by rw [← hsz]; exact (Array.getElem?_eq_some_iff.1 ho).1) ho, ?_⟩
    rw [hsz]; exact h
  | o :: rest, acc, pre, hops, hlen, htr, h => by
    obtain ⟨T, e, hg, hr⟩ := h
    have hat : ∀ k, k < pre.length → recAt (acc ++ [⟨T, e⟩]) k = recAt acc k := fun k hk => by
      simp [recAt, List.getD, List.getElem?_append_left (by omega : k < acc.length)]
    have hlast : recAt (acc ++ [⟨T, e⟩]) pre.length = ⟨T, e⟩ := by
      simp [recAt, List.getD, ← hlen]
    have hrun : ∀ k, k ≤ pre.length → runS ops (recAt (acc ++ [⟨T, e⟩])) (fun _ => true) σ k = runS ops (recAt acc) (fun _ => true) σ k := by
      intro k
      induction k with
      | zero => intro _; rfl
      | succ k ih =>
        intro hk
        simp only [runS, if_true, appK]
        rw [ih (by omega), hat k (by omega)]
    have hop : ops[pre.length]? = some o := by
      rw [← Array.getElem?_toList, hops]; simp
    refine RR.traced rest (acc ++ [⟨T, e⟩]) (pre ++ [o]) (by simp [hops]) (by simp [hlen]) (fun k o' hk ho' => ?_) ?_
    · simp only [List.length_append, List.length_singleton] at hk
      rw [hrun k (by omega)]
      by_cases hkp : k < pre.length
      · rw [hat k hkp]; exact htr k o' hkp ho'
      · have hke : k = pre.length := by omega
        subst hke
        rw [hlast]
        rw [hop] at ho'; cases ho'
        exact hg
    · simp only [List.length_append, List.length_singleton, runS, if_true]
      have e1 : appK ops (recAt (acc ++ [⟨T, e⟩])) (runS ops (recAt (acc ++ [⟨T, e⟩])) (fun _ => true) σ pre.length) pre.length = (runS ops (recAt acc) (fun _ => true) σ pre.length).app o.dst e := by
        simp only [appK, hop, hlast, hrun _ (Nat.le_refl _)]
      rw [e1]; exact hr

theorem dom_app (d : Option Nat) (e : Eff) (id : Nat) (h : σ.dom id) : (σ.app d e).dom id := by
  have : ∀ (u : List (Nat × AObj)) (l : List (Option AObj)), l.getD id none ≠ none → (setAll l u).getD id none ≠ none := by
    intro u
    induction u with
    | nil => intro l h; exact h
    | cons q r ihr =>
      intro l h
      refine ihr _ ?_
      by_cases hq : q.1 = id
      · subst hq
        have hlt : q.1 < l.length := by
          rcases Nat.lt_or_ge q.1 l.length with h' | h'
          · exact h'
          · exfalso; apply h; simp [List.getElem?_eq_none h']
        simp [List.getD, hlt]
      · simp only [List.getD, List.getElem?_set_ne hq]; exact h
  exact this _ _ h

theorem dom_runS {ops : Array Oper} {tr : Nat → Rec} {S : Nat → Bool} (id : Nat) (h : σ.dom id) : ∀ m, (runS ops tr S σ m).dom id
  | 0 => h
  | m + 1 => by
    simp only [runS]
    split
    · unfold appK
      split
      · exact dom_app _ _ _ (dom_runS id h m)
      · exact dom_runS id h m
    · exact dom_runS id h m

theorem SW.draw (hE : EnvOK P env) (hm : P.follows .mixedOrders = true) {id : Nat} {ops : Array Oper} (h : RR P env ops (fun tr σ' => regOK ops (anc ops) (recAt tr) = true ∧ Q .normal σ') ops.toList [] σ) : SW P env pin (.region id ops true) σ Q := fun hl E g M a w hR hG => by
  obtain ⟨tr, htr, hok, hq⟩ := RR.traced (σ := σ) (ops := ops) ops.toList [] [] (by simp) rfl (fun k o hk => by simp at hk) h
  refine wp_region_any hm (region_any (E := E) hE hok htr hl hG (g0 := g) (fun g' M' a' w' hR' hag hM => ?_) ops.size _ g M a _ (by simp) ?_ ?_ ?_ (fun _ _ => Gh.agree_refl _ _) (Mem.le_refl _))
  · exact ⟨_, g', M', hq, hR', hM, fun i hi hd => ⟨hag i hd, dom_runS i hd _⟩, by rw [runS_objs_length]; exact hl⟩
  · intro k o ho hk
    have hks : k < ops.size := (Array.getElem?_eq_some_iff.1 ho).1
    simp [hks] at hk
  · exact Nat.le_trans (List.length_filter_le _ _) (by simp)
  · rw [runS_congr (S' := fun _ => false) ops.size (fun k hk => by simp [hk])]
    have : ∀ m, runS ops (recAt tr) (fun _ => false) σ m = σ := fun m => by induction m with
      | zero => rfl
      | succ m ih => simp [runS, ih]
    rw [this]
    exact hR.drew

theorem wpOps_range {ops : Array Oper} {tr : Nat → Rec} (hE : EnvOK P env) (htr : Traced P env ops σ tr) (hl : σ.objs.length = env.nobj) {E : Ent} {g0 : Gh} {M0 : Mem} (hG : GOK env M0) {Q : Exit → Act → World → Prop}
    (hQ : ∀ g M a w, Rel E (runS ops tr (fun _ => true) σ ops.size) g M a w → (∀ id, σ.dom id → g0.agree g id) → Mem.le M0 M → Q .normal a w) :
    ∀ n k, k + n = ops.size → ∀ g M a w, Rel E (runS ops tr (fun _ => true) σ k) g M a w → (∀ id, σ.dom id → g0.agree g id) → Mem.le M0 M → wpOps P ops Q (List.range' k n) a w
  | 0, k, hk, g, M, a, w, hR, hag, hM => by
    have : k = ops.size := by omega
    subst this
    exact hQ g M a w hR hag hM
  | n + 1, k, hk, g, M, a, w, hR, hag, hM => by
    have hks : k < ops.size := by omega
    have ho : ops[k]? = some ops[k] := Array.getElem?_eq_getElem hks
    rw [List.range'_succ, wpOps_cons]
    refine (htr k _ ho).wp ho hR (hG.mono hM) hE (by rw [runS_objs_length]; exact hl) (fun v w' g' M' hR' hag' hM' => ?_)
    refine wpOps_range hE htr hl hG hQ n (k + 1) (by omega) g' M' _ w' ?_ (fun id hd => ?_) (Mem.le_trans hM hM')
    · simp only [runS, if_true, appK, ho]; exact hR'
    · obtain ⟨h1, h2, h3⟩ := hag id hd
      obtain ⟨h4, h5, h6⟩ := hag' id (dom_runS id hd _)
      exact ⟨h4.trans h1, h5.trans h2, h6.trans h3⟩

theorem SW.region (hE : EnvOK P env) {id : Nat} {ops : Array Oper} (h : RR P env ops (fun _ σ' => Q .normal σ') ops.toList [] σ) : SW P env pin (.region id ops false) σ Q := fun hl E g M a w hR hG => by
  obtain ⟨tr, htr, hq⟩ := RR.traced (σ := σ) (ops := ops) ops.toList [] [] (by simp) rfl (fun k o hk => by simp at hk) h
  refine wp_region ?_
  rw [List.range_eq_range']
  refine wpOps_range hE htr hl hG (g0 := g) (fun g' M' a' w' hR' hag hM => ?_) ops.size 0 (by omega) g M a w hR (fun _ _ => Gh.agree_refl _ _) (Mem.le_refl _)
  exact ⟨_, g', M', hq, hR', hM, fun i hi hd => ⟨hag i hd, dom_runS i hd _⟩, by rw [runS_objs_length]; exact hl⟩

def steps (env : Env) (ops : Array Oper) : Nat → List Oper → List Rec → St → Option (List Oper × List Rec × St)
  | 0, l, acc, σ => some (l, acc, σ)
  | _ + 1, [], acc, σ => some ([], acc, σ)
  | n + 1, o :: rest, acc, σ =>
    match aguard ops σ o with
    | some true => match aop env o.dst (aeval env σ) σ.obj o.op with
      | some e => steps env ops n rest (acc ++ [⟨atgt env o.dst (aeval env σ) o.op, e⟩]) (σ.app o.dst e)
      | none => none
    | some false => steps env ops n rest (acc ++ [⟨[], ⟨.tup [], []⟩⟩]) (σ.app o.dst ⟨.tup [], []⟩)
    | none => none

theorem RR.steps {ops : Array Oper} {K : List Rec → St → Prop} : ∀ (n : Nat) {l l' : List Oper} {acc acc' : List Rec} {σ σ' : St}, steps env ops n l acc σ = some (l', acc', σ') → RR P env ops K l' acc' σ' → RR P env ops K l acc σ
  | 0, l, l', acc, acc', σ, σ', h, k => by cases h; exact k
  | n + 1, [], l', acc, acc', σ, σ', h, k => by cases h; exact k
  | n + 1, o :: rest, l', acc, acc', σ, σ', h, k => by
    simp only [Abs.steps] at h
    split at h
    · rename_i hg
      split at h
      · rename_i e he
        exact ⟨_, e, .run _ e hg (.op e he), RR.steps n h k⟩
      · cases h
    · rename_i hg
      exact ⟨_, _, .skip hg, RR.steps n h k⟩
    · cases h

theorem RR.call {ops : Array Oper} {K : List Rec → St → Prop} {o : Oper} {rest : List Oper} {acc : List Rec} (hg : aguard ops σ o = some true) {f : FuncId} {args : Array Operand} {cargs : List AVal} {cobjs : List (Option AObj)} {ids news : List Nat} {res : AVal} {objs' : List (Option AObj)}
    (hac : AC P env.gl f cargs cobjs res objs') (hf : CallFits P env σ o f args cargs cobjs ids news objs')
    (h : RR P env ops K rest (acc ++ [⟨ids ++ news, ⟨ren (fun k => (ids ++ news).getD k 0) res, callUpd (fun k => (ids ++ news).getD k 0) (ids ++ news) 0 objs'⟩⟩])
      (σ.app o.dst ⟨ren (fun k => (ids ++ news).getD k 0) res, callUpd (fun k => (ids ++ news).getD k 0) (ids ++ news) 0 objs'⟩)) : RR P env ops K (o :: rest) acc σ :=
  ⟨_, _, .run _ _ hg (.call f args cargs cobjs ids news res objs' hf hac), h⟩
end
end Go.Abs
namespace Go.Abs
open Go

def wkSlots (τ : Nat → Nat) (n : Nat → Bool) : List AVal → List AVal → Prop
  | [], [] => True
  | a :: r, b :: s => (b = .junk ∨ (a = ren τ b ∧ inScope n b = true)) ∧ wkSlots τ n r s
  | _, _ => False

def wkObjs (τ : Nat → Nat) (n : Nat → Bool) (σ : St) : Nat → List (Option AObj) → Prop
  | _, [] => True
  | k, o :: r => (match o with | none => True | some .dead => True | some ob => σ.obj (τ k) = some (renO τ ob) ∧ inScopeO n ob = true) ∧ wkObjs τ n σ (k + 1) r

theorem wkSlots_get {τ : Nat → Nat} {n : Nat → Bool} : ∀ {l l' : List AVal}, wkSlots τ n l l' → l.length = l'.length ∧ ∀ i, l'.getD i .junk = .junk ∨ (l.getD i .junk = ren τ (l'.getD i .junk) ∧ inScope n (l'.getD i .junk) = true)
  | [], [], _ => ⟨rfl, fun i => .inl (by simp [List.getD])⟩
  | a :: r, b :: s, h => by
    obtain ⟨h1, h2⟩ := h
    obtain ⟨h3, h4⟩ := wkSlots_get h2
    refine ⟨by simp [h3], fun i => ?_⟩
    cases i with
    | zero => simpa [List.getD] using h1
    | succ i => simpa [List.getD] using h4 i
  | [], _ :: _, h => h.elim
  | _ :: _, [], h => h.elim

theorem wkObjs_get {τ : Nat → Nat} {n : Nat → Bool} {σ : St} : ∀ {l : List (Option AObj)} {k : Nat}, wkObjs τ n σ k l → ∀ i ob, l.getD i none = some ob → ob = .dead ∨ (σ.obj (τ (k + i)) = some (renO τ ob) ∧ inScopeO n ob = true)
  | [], k, _, i, ob, h => by simp [List.getD] at h
  | o :: r, k, h, i, ob, hi => by
    obtain ⟨h1, h2⟩ := h
    cases i with
    | zero =>
      simp only [List.getD_cons_zero] at hi
      subst hi
      cases ob with
      | dead => exact .inl rfl
      | cells cs => exact .inr h1
      | row sz xs => exact .inr h1
      | map kd es => exact .inr h1
    | succ i =>
      have := wkObjs_get h2 i ob (by simpa [List.getD] using hi)
      rwa [show k + 1 + i = k + (i + 1) by omega] at this

section
variable {P : Program} {env : Env} {pin : Nat} {σ σ' : St} {Q : Exit → St → Prop}

theorem Rel.wk {E : Ent} {g : Gh} {M : Mem} {a a' : Act} {w : World} (hR : Rel E σ g M a w) (τ : Nat → Nat) (hsize : a'.tmps.size = σ'.slots.length) (hdef : a'.defers = [])
    (hs : ∀ i, i < σ'.slots.length → σ'.slot i = .junk ∨ ∃ x, V g σ.dom M x (a'.tmps.getD i undef) ∧ x = ren τ (σ'.slot i) ∧ inScope (hasObj σ'.objs) (σ'.slot i) = true)
    (ho : wkObjs τ (hasObj σ'.objs) σ 0 σ'.objs) (hinj : ∀ i j, i < σ'.objs.length → j < σ'.objs.length → τ i = τ j → i = j) :
    Rel E σ' ⟨fun k => g.ρ (τ k), fun k => g.κ (τ k), fun k => g.ν (τ k)⟩ M a' w := by
  have hdom : ∀ k, hasObj σ'.objs k = true → σ'.dom k := fun k hk h0 => by
    have h1 : σ'.objs.getD k none = none := h0
    simp only [hasObj] at hk
    rw [h1] at hk; cases hk
  have hsc : ∀ k, hasObj σ'.objs k = true → σ'.dom k ∧ (⟨fun k => g.ρ (τ k), fun k => g.κ (τ k), fun k => g.ν (τ k)⟩ : Gh).ρ k = g.ρ (τ k) ∧ (⟨fun k => g.ρ (τ k), fun k => g.κ (τ k), fun k => g.ν (τ k)⟩ : Gh).κ k = g.κ (τ k) ∧ (⟨fun k => g.ρ (τ k), fun k => g.κ (τ k), fun k => g.ν (τ k)⟩ : Gh).ν k = g.ν (τ k) :=
    fun k hk => ⟨hdom k hk, rfl, rfl, rfl⟩
  have hown : ∀ k ob, owns (⟨fun k => g.ρ (τ k), fun k => g.κ (τ k), fun k => g.ν (τ k)⟩ : Gh) k ob = owns g (τ k) ob := fun k ob => by cases ob <;> rfl
  have hget : ∀ k ob b, σ'.obj k = some ob → owns (⟨fun k => g.ρ (τ k), fun k => g.κ (τ k), fun k => g.ν (τ k)⟩ : Gh) k ob = some b → σ.obj (τ k) = some (renO τ ob) ∧ owns g (τ k) (renO τ ob) = some b ∧ k < σ'.objs.length := fun k ob b hk hb => by
    rcases wkObjs_get ho k ob hk with rfl | ⟨h1, _⟩
    · simp [owns] at hb
    · rw [Nat.zero_add] at h1
      exact ⟨h1, by rw [owns_ren, ← hown]; exact hb, dom_of_some hk⟩
  refine ⟨hsize, hdef, ?_, ?_, ?_, ?_, hR.sat, hR.M0, hR.Mnew, hR.size0, hR.same, ?_, hR.os, hR.tape, hR.output⟩
  · intro i hi
    rcases hs i hi with h1 | ⟨x, h1, h2, h3⟩
    · rw [h1]; exact .junk _
    · exact V_in hsc h1 _ h2 h3
  · intro k ob hk
    rcases wkObjs_get ho k ob hk with rfl | ⟨h1, h2⟩
    · trivial
    · rw [Nat.zero_add] at h1
      have hor := hR.objs _ _ h1
      cases ob with
      | cells cs =>
        obtain ⟨vals, T, hh, hsz, hv⟩ := hor
        refine ⟨vals, T, hh, by rw [hsz, renL_length], fun j hj => ?_⟩
        exact V_in hsc (hv j (by rw [renL_length]; exact hj)) _ (renL_get τ cs j) (inScopeL_get _ _ _ h2)
      | row sz xs => exact hor
      | map kd es =>
        obtain ⟨ents, clock, hh, hsz, hv⟩ := hor
        refine ⟨ents, clock, hh, hsz, fun i e he => ?_⟩
        obtain ⟨en, q1, q2, q3, q4⟩ := hv i e he
        exact ⟨en, q1, q2, q3, V_in hsc q4 _ (ren_mval _ _).symm (inScope_mval _ _)⟩
      | dead => trivial
  · intro k k' ob ob' b hk hk' hb hb'
    obtain ⟨h1, h2, h3⟩ := hget k ob b hk hb
    obtain ⟨h4, h5, h6⟩ := hget k' ob' b hk' hb'
    exact hinj k k' h3 h6 (hR.apart _ _ _ _ b h1 h4 h2 h5)
  · intro k ob b hk hb i
    obtain ⟨h1, h2, _⟩ := hget k ob b hk hb
    exact hR.offM _ _ b h1 h2 i
  · intro k ob b hk hb
    obtain ⟨h1, h2, _⟩ := hget k ob b hk hb
    exact hR.own0 _ _ b h1 h2

def tau (l : List Nat) (k : Nat) : Nat := l.getD k 0

theorem Weak.wk (τ : List Nat) (hlen : σ'.objs.length = env.nobj) (hτ : τ.length = env.nobj) (hnd : τ.Nodup) (hpin : ∀ k, k < pin → tau τ k = k ∧ (σ.dom k → σ'.dom k))
    (hs : wkSlots (tau τ) (hasObj σ'.objs) σ.slots σ'.slots) (ho : wkObjs (tau τ) (hasObj σ'.objs) σ 0 σ'.objs) : Weak env pin σ σ' := fun _ => ⟨hlen, fun E g M a w hR => by
  obtain ⟨hl, hg⟩ := wkSlots_get hs
  refine ⟨_, M, hR.wk (tau τ) (by rw [hR.size, hl]) hR.defers (fun i hi => ?_) ho (fun i j hi hj e => nodup_get_inj hnd (by omega) (by omega) e), Mem.le_refl _, fun id hid hd => ?_⟩
  · rcases hg i with h1 | ⟨h1, h2⟩
    · exact .inl h1
    · exact .inr ⟨σ.slot i, hR.slot i, h1, h2⟩
  · obtain ⟨h1, h2⟩ := hpin id hid
    refine ⟨?_, h2 hd⟩
    simp [Gh.agree, h1]⟩

theorem Weak.forget (hlen : σ'.objs.length = env.nobj) (hpin : ∀ k, k < pin → σ.dom k → σ'.dom k)
    (hs : wkSlots id (hasObj σ'.objs) σ.slots σ'.slots) (ho : wkObjs id (hasObj σ'.objs) σ 0 σ'.objs) : Weak env pin σ σ' := fun _ => ⟨hlen, fun E g M a w hR => by
  obtain ⟨hl, hg⟩ := wkSlots_get hs
  refine ⟨_, M, hR.wk id (by rw [hR.size, hl]) hR.defers (fun i hi => ?_) ho (fun i j hi hj e => e), Mem.le_refl _, fun k hk hd => ⟨⟨rfl, rfl, rfl⟩, hpin k hk hd⟩⟩
  rcases hg i with h1 | ⟨h1, h2⟩
  · exact .inl h1
  · exact .inr ⟨σ.slot i, hR.slot i, h1, h2⟩⟩

mutual
def frz (id : Nat) (xs : List (List PVal)) : AVal → AVal
  | .row id' n => if id' = id then (if n = xs.length then .pv (.slice xs) else .junk) else .row id' n
  | .eref id' i j sz => if id' = id then .junk else .eref id' i j sz
  | .ref id' off => if id' = id then .junk else .ref id' off
  | .map id' => .map id'
  | .agg cs => .agg (frzL id xs cs)
  | .tup cs => .tup (frzL id xs cs)
  | .pv p => .pv p
  | .snil => .snil
  | .junk => .junk
def frzL (id : Nat) (xs : List (List PVal)) : List AVal → List AVal
  | [] => []
  | a :: r => frz id xs a :: frzL id xs r
end
def frzO (id : Nat) (xs : List (List PVal)) : Option AObj → Option AObj
  | some (.cells cs) => some (.cells (frzL id xs cs))
  | o => o
def St.frz (σ : St) (id : Nat) (xs : List (List PVal)) : St := ⟨frzL id xs σ.slots, (σ.objs.map (frzO id xs)).set id (some .dead)⟩

theorem frzL_length (id : Nat) (xs : List (List PVal)) : ∀ cs : List AVal, (frzL id xs cs).length = cs.length
  | [] => rfl
  | _ :: r => by simp [frzL, frzL_length id xs r]
theorem frzL_get (id : Nat) (xs : List (List PVal)) : ∀ (cs : List AVal) (i : Nat), (frzL id xs cs).getD i .junk = Abs.frz id xs (cs.getD i .junk)
  | [], i => by simp [frzL, List.getD, Abs.frz]
  | c :: r, 0 => by simp [frzL, List.getD]
  | c :: r, i + 1 => by have := frzL_get id xs r i; simpa [frzL, List.getD] using this

theorem frzL_pv (id : Nat) (xs : List (List PVal)) : ∀ ps : List PVal, frzL id xs (ps.map .pv) = ps.map .pv
  | [] => rfl
  | p :: r => by simp [frzL, Abs.frz, frzL_pv id xs r]
theorem frz_mval (id : Nat) (xs : List (List PVal)) (q : Bool × List PVal) : Abs.frz id xs (mval q) = mval q := by
  unfold mval
  cases q.1 <;> simp [Abs.frz, frzL_pv]

theorem Weak.freeze (id : Nat) {sz : Nat} {xs : List (List PVal)} (hob : σ.obj id = some (.row sz xs)) : Weak env pin σ (σ.frz id xs) := fun hl => ⟨by simp [St.frz, hl], fun E g M a w hR => by
  obtain ⟨r1, r2, r3⟩ := hR.objs id _ hob
  have hlt := dom_of_some hob
  -- the memory grows by the row
  let M' : Mem := fun b i => if g.ν id = false ∧ b = g.ρ id ∧ i < xs.length * sz then w.cell? ⟨b, i, none⟩ else M b i
  have hMle : Mem.le M M' := fun b i u hu => by
    simp only [M']
    split
    · exact hR.sat b i u hu
    · exact hu
  have hslice : V g σ.dom M (.row id xs.length) (if g.ν id then .slice none 0 0 else .slice (some ⟨g.ρ id, 0, none⟩) xs.length (g.κ id)) → True := fun _ => trivial
  have hrd : ∀ v n, V g σ.dom M (.row id n) v → n = xs.length → Rd M' (.slice xs) v := fun v n hv hn => by
    cases hv with
    | rown _ _ hnu => rw [r2 hnu]; exact .nils
    | row _ _ _ hnu =>
      subst hn
      obtain ⟨vals, T, hh, h4, h5, h6⟩ := r3 hnu
      refine .slice xs sz (g.ρ id) 0 (g.κ id) (fun i j => vals.getD (i * sz + j) undef) r1 (fun i j hi hj => ?_) (fun i j hi hj => (h6 i j hi hj).mono hMle) h4
      have hlt2 : i * sz + j < xs.length * sz := by
        have : (i + 1) * sz ≤ xs.length * sz := Nat.mul_le_mul_right _ hi
        rw [Nat.add_mul] at this; omega
      have hle : xs.length * sz ≤ g.κ id * sz := Nat.mul_le_mul_right _ h4
      simp only [M', Nat.zero_add, hnu, hlt2, and_self, if_true]
      rw [cell_of_heap hh]
      have : i * sz + j < vals.size := by omega
      simp [this]
  have hobj' : ∀ k ob, (σ.frz id xs).obj k = some ob → (k = id ∧ ob = .dead) ∨ (k ≠ id ∧ ∃ ob0, σ.obj k = some ob0 ∧ frzO id xs (some ob0) = some ob) := fun k ob hk => by
    by_cases hki : id = k
    · subst hki
      have : (σ.frz id xs).obj id = some .dead := by simp [St.frz, St.obj, hlt]
      rw [this] at hk; cases hk; exact .inl ⟨rfl, rfl⟩
    · refine .inr ⟨fun e => hki e.symm, ?_⟩
      have e1 : (σ.frz id xs).obj k = frzO id xs (σ.obj k) := by
        simp only [St.frz, St.obj, List.getD, List.getElem?_set_ne hki, List.getElem?_map]
        cases σ.objs[k]? <;> rfl
      rw [e1] at hk
      cases ho : σ.obj k with
      | none => rw [ho] at hk; cases hk
      | some ob0 => rw [ho] at hk; exact ⟨ob0, rfl, hk⟩
  have hdom' : ∀ k, σ.dom k → (σ.frz id xs).dom k := fun k hd => by
    by_cases hki : id = k
    · subst hki; simp [St.dom, St.frz, St.obj, hlt]
    · have e1 : (σ.frz id xs).obj k = frzO id xs (σ.obj k) := by
        simp only [St.frz, St.obj, List.getD, List.getElem?_set_ne hki, List.getElem?_map]
        cases σ.objs[k]? <;> rfl
      unfold St.dom
      rw [e1]
      cases ho : σ.obj k with
      | none => exact absurd ho hd
      | some ob0 => cases ob0 <;> simp [frzO]
  have hV : ∀ x v, V g σ.dom M x v → V g (σ.frz id xs).dom M' (Abs.frz id xs x) v := by
    intro x v h
    induction h with
    | pv r => exact .pv (r.mono hMle)
    | snil => exact .snil
    | ref k off hd =>
      simp only [Abs.frz]
      split
      · exact .junk _
      · exact .ref _ _ (hdom' _ hd)
    | row k m hd hnu =>
      simp only [Abs.frz]
      split
      · rename_i hk
        subst hk
        split
        · rename_i hm; exact .pv (hrd _ m (.row _ _ hd hnu) hm)
        · exact .junk _
      · exact .row _ _ (hdom' _ hd) hnu
    | rown k hd hnu =>
      simp only [Abs.frz]
      split
      · rename_i hk
        subst hk
        split
        · rename_i hm; exact .pv (hrd _ 0 (.rown _ hd hnu) hm)
        · exact .junk _
      · exact .rown _ (hdom' _ hd) hnu
    | eref k i j s hd =>
      simp only [Abs.frz]
      split
      · exact .junk _
      · exact .eref _ _ _ _ (hdom' _ hd)
    | map k hd => exact .map _ (hdom' _ hd)
    | agg cs vs hl _ ih => exact .agg _ vs (by rw [frzL_length]; exact hl) (fun i hi => by rw [frzL_length] at hi; rw [frzL_get]; exact ih i hi)
    | tup cs vs hl _ ih => exact .tup _ vs (by rw [frzL_length]; exact hl) (fun i hi => by rw [frzL_length] at hi; rw [frzL_get]; exact ih i hi)
    | junk v => exact .junk v
  have hownf : ∀ k ob ob0, frzO id xs (some ob0) = some ob → owns g k ob = owns g k ob0 := fun k ob ob0 h => by cases ob0 <;> simp [frzO] at h <;> subst h <;> rfl
  refine ⟨g, M', ⟨by simp [St.frz, frzL_length, hR.size], hR.defers, ?_, ?_, ?_, ?_, ?_, Mem.le_trans hR.M0 hMle, ?_, hR.size0, hR.same, ?_, hR.os, hR.tape, hR.output⟩, hMle, fun k hk hd => ⟨Gh.agree_refl _ _, hdom' k hd⟩⟩
  · intro i hi
    have e1 : (σ.frz id xs).slot i = Abs.frz id xs (σ.slot i) := frzL_get id xs σ.slots i
    rw [e1]; exact hV _ _ (hR.slot i)
  · intro k ob hk
    rcases hobj' k ob hk with ⟨rfl, rfl⟩ | ⟨hne, ob0, h1, h2⟩
    · trivial
    · have hor := hR.objs k ob0 h1
      cases ob0 with
      | cells cs =>
        simp only [frzO, Option.some.injEq] at h2
        subst h2
        obtain ⟨vals, T, hh, hs, hv⟩ := hor
        exact ⟨vals, T, hh, by rw [hs, frzL_length], fun j hj => by rw [frzL_length] at hj; rw [frzL_get]; exact hV _ _ (hv j hj)⟩
      | row sz' xs' =>
        simp only [frzO, Option.some.injEq] at h2
        subst h2
        obtain ⟨q1, q2, q3⟩ := hor
        exact ⟨q1, q2, fun hnu => let ⟨vals, T, hh, q4, q5, q6⟩ := q3 hnu; ⟨vals, T, hh, q4, q5, fun i j hi hj => (q6 i j hi hj).mono hMle⟩⟩
      | map kd es =>
        simp only [frzO, Option.some.injEq] at h2
        subst h2
        obtain ⟨ents, clock, hh, hs, hv⟩ := hor
        refine ⟨ents, clock, hh, hs, fun i e he => ?_⟩
        obtain ⟨en, q1, q2, q3, q4⟩ := hv i e he
        exact ⟨en, q1, q2, q3.mono hMle, frz_mval id xs e.2 ▸ hV _ _ q4⟩
      | dead => simp only [frzO, Option.some.injEq] at h2; subst h2; trivial
  · intro k k' ob ob' b hk hk' hb hb'
    rcases hobj' k ob hk with ⟨rfl, rfl⟩ | ⟨hne, ob0, h1, h2⟩
    · simp [owns] at hb
    · rcases hobj' k' ob' hk' with ⟨rfl, rfl⟩ | ⟨hne', ob0', h1', h2'⟩
      · simp [owns] at hb'
      · exact hR.apart k k' ob0 ob0' b h1 h1' (by rw [← hownf k ob ob0 h2]; exact hb) (by rw [← hownf k' ob' ob0' h2']; exact hb')
  · intro k ob b hk hb i
    rcases hobj' k ob hk with ⟨rfl, rfl⟩ | ⟨hne, ob0, h1, h2⟩
    · simp [owns] at hb
    · have hb0 : owns g k ob0 = some b := by rw [← hownf k ob ob0 h2]; exact hb
      simp only [M']
      rw [if_neg]
      · exact hR.offM k ob0 b h1 hb0 i
      · rintro ⟨hnu, hbe, _⟩
        exact hne (hR.apart k id ob0 _ b h1 hob hb0 (by simp [owns, hnu, hbe]))
  · intro b i u hu
    simp only [M'] at hu
    split at hu
    · exact hu
    · exact hR.sat b i u hu
  · intro b i hb hB
    simp only [M']
    rw [if_neg]
    · exact hR.Mnew b i hb hB
    · rintro ⟨hnu, hbe, _⟩
      rcases hR.own0 id _ b hob (by simp [owns, hnu, hbe]) with h1 | h1
      · exact hB h1
      · omega
  · intro k ob b hk hb
    rcases hobj' k ob hk with ⟨rfl, rfl⟩ | ⟨hne, ob0, h1, h2⟩
    · simp [owns] at hb
    · exact hR.own0 k ob0 b h1 (by rw [← hownf k ob ob0 h2]; exact hb)⟩

theorem Weak.nilRow (t id sz : Nat) (hs : σ.slot t = .snil) (hn : σ.obj id = none) (hid : id < env.nobj) : Weak env pin σ ⟨σ.slots.set t (.row id 0), σ.objs.set id (some (.row sz []))⟩ := fun hl => ⟨by simp [hl], fun E g M a w hR => by
  have hne : ∀ i, σ.dom i → i ≠ id := fun i hi e => hi (by rw [e]; exact hn)
  have hag : ∀ i, σ.dom i → g.agree (g.set id 0 0 true) i := fun i hi => Gh.set_agree (hne i hi)
  have hself : (σ.set id (.row sz [])).obj id = some (.row sz []) := St.obj_set_self (by omega)
  have hR' : Rel E (σ.set id (.row sz [])) (g.set id 0 0 true) M a w := by
    refine hR.update (fun i => i = id) rfl (fun i hi => St.obj_set_ne (fun e => hi e.symm)) (fun i hi => dom_set i hi) hag ?_ (fun _ _ _ => rfl) ?_ ?_ (Nat.le_refl _) rfl rfl rfl
    · rintro i ob rfl ho
      rw [hself] at ho
      cases ho
      exact ⟨by simp, fun _ => rfl, fun h => by simp [Gh.set] at h⟩
    · rintro i ob b rfl ho hb
      rw [hself] at ho
      cases ho
      simp [owns, Gh.set] at hb
    · rintro i i' _ _ _ rfl rfl _ _ _ _; rfl
  refine ⟨_, M, ?_, Mem.le_refl _, fun k hk hd => ⟨hag k hd, dom_set k hd⟩⟩
  refine ⟨by simp [hR.size], hR.defers, ?_, hR'.objs, hR'.apart, hR'.offM, hR'.sat, hR'.M0, hR'.Mnew, hR'.size0, hR'.same, hR'.own0, hR'.os, hR'.tape, hR'.output⟩
  intro i hi
  simp only [List.length_set] at hi
  by_cases hti : t = i
  · subst hti
    have e1 : St.slot ⟨σ.slots.set t (.row id 0), σ.objs.set id (some (.row sz []))⟩ t = .row id 0 := by simp [St.slot, hi]
    rw [e1]
    have hv := hR.slots t hi
    rw [hs] at hv
    generalize a.tmps.getD t undef = v at hv
    cases hv
    exact .rown id (by show (σ.set id (.row sz [])).dom id; simp [St.dom, hself]) (by simp [Gh.set])
  · have e1 : St.slot ⟨σ.slots.set t (.row id 0), σ.objs.set id (some (.row sz []))⟩ i = σ.slot i := by simp [St.slot, List.getElem?_set_ne hti]
    rw [e1]
    exact hR'.slots i hi⟩
end
end Go.Abs
namespace Go.Abs
open Go

def aresOne (env : Env) (σ : St) : ResultVar → Option AVal
  | .tmp t => some (σ.slot t)
  | .cell a t => match env.ty t, σ.slot a with
    | some ty, .ref id off => match σ.obj id with
      | some (.cells cs) => if off + ty.size ≤ cs.length ∧ 0 < ty.size then some (if ty.agg then .agg ((cs.drop off).take ty.size) else cs.getD off .junk) else none
      | _ => none
    | _, _ => none

def ares (env : Env) (σ : St) : List ResultVar → Option (List AVal)
  | [] => some []
  | r :: rs => match aresOne env σ r, ares env σ rs with
    | some v, some vs => some (v :: vs)
    | _, _ => none

def pack : List AVal → AVal
  | [v] => v
  | vs => .tup vs

section
variable {P : Program} {env : Env} {σ : St} {E : Ent} {g : Gh} {M : Mem} {a : Act} {w : World}

theorem aresOne_run (hR : Rel E σ g M a w) (hE : EnvOK P env) {r : ResultVar} {x : AVal} (h : aresOne env σ r = some x) :
    ∃ v, (match r with | .tmp t => pure (a.tmps.getD t undef) | .cell b t => do loadVar t (← asAddr (a.tmps.getD b undef)) : Sem Value).run P w = .ok v w ∧ V g σ.dom M x v := by
  cases r with
  | tmp t => cases h; exact ⟨_, rfl, hR.slot t⟩
  | cell b t =>
    simp only [aresOne] at h
    split at h
    · rename_i ty id off ht hx
      have hv := hR.slot b
      rw [hx] at hv
      obtain ⟨hp, hd⟩ := hv.ref_inv
      split at h
      · rename_i cs hob
        split at h
        · rename_i hc
          cases h
          obtain ⟨vals, T, hh, hs, hvv⟩ := hR.objs id _ hob
          refine ⟨if ty.agg then .agg ((List.range ty.size).map fun j => vals.getD (off + j) undef).toArray else vals.getD off undef, ?_, ?_⟩
          · have h1 := run_loadVar_cells (P := P) hE ht w (g.ρ id) off (fun j => vals.getD (off + j) undef) hc.2 (fun j hj => by
              rw [cell_of_heap hh]
              have : off + j < vals.size := by omega
              simp [this])
            simp only [hp, Sem.run_bind, asAddr, Sem.run_pure, Result.andThen]
            exact h1
          · cases ty.agg
            · exact hvv off (by omega)
            · refine V_aggOf (by simp; omega) (fun j hj => ?_)
              have : ((cs.drop off).take ty.size).getD j .junk = cs.getD (off + j) .junk := by
                simp [List.getD, List.getElem?_take, hj, List.getElem?_drop]
              rw [this]; exact hvv (off + j) (by omega)
        · cases h
      · cases h
    · cases h

theorem ares_run (hR : Rel E σ g M a w) (hE : EnvOK P env) : ∀ {rs : List ResultVar} {xs : List AVal}, ares env σ rs = some xs →
    ∃ vs : List Value, (rs.mapM (fun | .tmp t => pure (a.tmps.getD t undef) | .cell b t => do loadVar t (← asAddr (a.tmps.getD b undef)) : ResultVar → Sem Value)).run P w = .ok vs w ∧ vs.length = xs.length ∧ ∀ i, i < xs.length → V g σ.dom M (xs.getD i .junk) (vs.getD i undef)
  | [], xs, h => by cases h; exact ⟨[], rfl, rfl, fun i hi => by simp at hi⟩
  | r :: rs, xs, h => by
    simp only [ares] at h
    split at h
    · rename_i x xs' h1 h2
      cases h
      obtain ⟨v, hv, hvv⟩ := aresOne_run (P := P) hR hE h1
      obtain ⟨vs, hvs, hl, hvvs⟩ := ares_run hR hE h2
      refine ⟨v :: vs, ?_, by simp [hl], fun i hi => ?_⟩
      · rw [List.mapM_cons, Sem.run_bind, hv]
        simp only [Result.andThen, Sem.run_bind, hvs, Sem.run_pure]
      · cases i with
        | zero => simpa [List.getD] using hvv
        | succ i => simpa [List.getD] using hvvs i (by simpa using hi)
    · cases h

theorem results_run (hR : Rel E σ g M a w) (hE : EnvOK P env) {fn : Func} {xs : List AVal} (h : ares env σ fn.results.toList = some xs) :
    ∃ v, (results fn a.tmps).run P w = .ok v w ∧ V g σ.dom M (pack xs) v := by
  obtain ⟨vs, hvs, hl, hv⟩ := ares_run (P := P) hR hE h
  have hm : (fn.results.mapM (fun | .tmp t => pure (a.tmps.getD t undef) | .cell b t => do loadVar t (← asAddr (a.tmps.getD b undef)) : ResultVar → Sem Value)).run P w = .ok vs.toArray w := by
    rw [Array.mapM_eq_mapM_toList, Sem.run_map, hvs]; rfl
  refine ⟨if h : vs.toArray.size = 1 then vs.toArray[0] else .tuple vs.toArray, ?_, ?_⟩
  · have e : results fn a.tmps = ((fn.results.mapM (fun | .tmp t => pure (a.tmps.getD t undef) | .cell b t => do loadVar t (← asAddr (a.tmps.getD b undef)) : ResultVar → Sem Value)) >>= fun vs => pure (if h : vs.size = 1 then vs[0] else .tuple vs)) := by
      unfold results
      congr 1
    rw [e, Sem.run_bind, hm]
    simp only [Result.andThen, Sem.run_pure]
  · match xs, vs, hl, hv with
    | [], [], _, hv => exact .tup [] [] rfl (fun i hi => by simp at hi)
    | [x], [v], _, hv => have := hv 0 (by simp); simpa [List.getD, pack] using this
    | x :: y :: r, v :: u :: s, hl, hv =>
      have e1 : ¬ (v :: u :: s).toArray.size = 1 := by simp
      rw [dif_neg e1]
      exact .tup _ _ hl hv

def retQ (env : Env) (n : Nat) (rs : List ResultVar) (res : AVal) (objs' : List (Option AObj)) : Exit → St → Prop := fun e σ =>
  (e = .ret ∨ e = .normal) ∧ ∃ vs τ, ares env σ rs = some vs ∧ wkSlots (tau τ) (hasObj objs') [pack vs] [res] ∧ wkObjs (tau τ) (hasObj objs') σ 0 objs' ∧ (∀ k, k < n → tau τ k = k) ∧ τ.Nodup ∧ objs'.length ≤ τ.length

theorem AC.of_body (hE : EnvOK P env) {f : FuncId} {fn : Func} {code : Code} (hf : P.funcs[f]? = some fn) (hb : fn.body = some code) {args : List AVal} {objs : List (Option AObj)} {res : AVal} {objs' : List (Option AObj)}
    (hargs : args.length ≤ fn.ntmps) (hobjs : objs.length ≤ env.nobj)
    (h : SW P env objs.length code ⟨args ++ List.replicate (fn.ntmps - args.length) .junk, objs ++ List.replicate (env.nobj - objs.length) none⟩ (retQ env objs.length fn.results.toList res objs')) :
    AC P env.gl f args objs res objs' := by
  intro w M g vargs hR hG
  have hla : vargs.length = args.length := by simpa using hR.size
  refine calls_of_wp hf hb ?_
  have hobj : ∀ id, St.obj ⟨args ++ List.replicate (fn.ntmps - args.length) .junk, objs ++ List.replicate (env.nobj - objs.length) none⟩ id = St.obj ⟨args, objs⟩ id := fun id => by
    simp only [St.obj, List.getD]
    by_cases hid : id < objs.length
    · rw [List.getElem?_append_left hid]
    · rw [List.getElem?_append_right (by omega), List.getElem?_eq_none (by omega : objs.length ≤ id)]
      rw [List.getElem?_replicate]
      split <;> rfl
  have hdom : St.dom ⟨args ++ List.replicate (fn.ntmps - args.length) .junk, objs ++ List.replicate (env.nobj - objs.length) none⟩ = St.dom ⟨args, objs⟩ := by
    funext id; simp only [St.dom, hobj]
  have hR0 : Rel ⟨w, M, blocksOf g objs⟩ ⟨args ++ List.replicate (fn.ntmps - args.length) .junk, objs ++ List.replicate (env.nobj - objs.length) none⟩ g M
      { tmps := vargs.toArray ++ Array.replicate (fn.ntmps - vargs.toArray.size) undef, defers := [] } w := by
    refine ⟨by simp [hla], rfl, ?_, ?_, ?_, ?_, hR.sat, hR.M0, hR.Mnew, hR.size0, hR.same, ?_, hR.os, hR.tape, hR.output⟩
    · intro i hi
      rw [hdom]
      by_cases hia : i < args.length
      · have e1 : St.slot ⟨args ++ List.replicate (fn.ntmps - args.length) .junk, objs ++ List.replicate (env.nobj - objs.length) none⟩ i = St.slot ⟨args, objs⟩ i := by
          simp [St.slot, List.getElem?_append_left hia]
        have e2 : (vargs.toArray ++ Array.replicate (fn.ntmps - vargs.toArray.size) undef).getD i undef = vargs.toArray.getD i undef := by
          simp only [Array.getD_eq_getD_getElem?]
          rw [Array.getElem?_append_left (by simp; omega)]
        rw [e1, e2]; exact hR.slots i hia
      · have e1 : St.slot ⟨args ++ List.replicate (fn.ntmps - args.length) .junk, objs ++ List.replicate (env.nobj - objs.length) none⟩ i = .junk := by
          simp only [St.slot, List.getD]
          rw [List.getElem?_append_right (by omega), List.getElem?_replicate]
          split <;> rfl
        rw [e1]; exact .junk _
    · intro id o ho; rw [hobj] at ho; rw [hdom]; exact hR.objs id o ho
    · intro id id' o o' b ho ho'; rw [hobj] at ho ho'; exact hR.apart id id' o o' b ho ho'
    · intro id o b ho; rw [hobj] at ho; exact hR.offM id o b ho
    · intro id o b ho; rw [hobj] at ho; exact hR.own0 id o b ho
  refine wp_mono (h (by simp; omega) _ g M _ w hR0 hG) fun e a' w' ⟨σ', g', M', ⟨he, vs, τ, hvs, hws, hwo, hpin, hnd, hlen⟩, hR', hM, hA, hl'⟩ => ?_
  have key : a'.defers = [] ∧ ∃ v, (results fn a'.tmps).run P w' = .ok v w' ∧ ∃ v' g' M', Ending.returned v = .returned v' ∧ Rel ⟨w, M, blocksOf g objs⟩ ⟨[res], objs'⟩ g' M' ⟨#[v'], []⟩ w' ∧ ∀ id, hasObj objs id = true → g.agree g' id := by
    obtain ⟨v, hrun, hV⟩ := results_run (P := P) hR' hE hvs
    refine ⟨hR'.defers, v, hrun, v, _, M', rfl, hR'.wk (σ' := ⟨[res], objs'⟩) (tau τ) (by simp) rfl (fun i hi => ?_) hwo (fun i j hi hj e => nodup_get_inj hnd (by simp at hi; omega) (by simp at hj; omega) e), fun id hid => ?_⟩
    · have hi0 : i = 0 := by simpa using hi
      subst hi0
      obtain ⟨_, hg⟩ := wkSlots_get hws
      rcases hg 0 with h1 | ⟨h1, h2⟩
      · exact .inl h1
      · exact .inr ⟨pack vs, hV, by simpa [List.getD, St.slot] using h1, by simpa [List.getD, St.slot] using h2⟩
    · have hlt : id < objs.length := by
        rcases Nat.lt_or_ge id objs.length with h | h
        · exact h
        · simp [hasObj, List.getD, List.getElem?_eq_none h] at hid
      have hd : St.dom ⟨args ++ List.replicate (fn.ntmps - args.length) .junk, objs ++ List.replicate (env.nobj - objs.length) none⟩ id := by
        rw [hdom]; intro h0
        have h1 : objs.getD id none = none := h0
        simp only [hasObj] at hid
        rw [h1] at hid; cases hid
      obtain ⟨⟨h1, h2, h3⟩, _⟩ := hA id hlt hd
      simp only [Gh.agree, hpin id hlt]
      exact ⟨h1, h2, h3⟩
  rcases he with rfl | rfl
  · exact key
  · exact key
end
end Go.Abs
namespace Go.Abs
open Go

theorem SW.seqK {P : Program} {env : Env} {pin : Nat} {σ : St} {Q : Exit → St → Prop} {x y : Code} (h : ∀ N : St → Prop, (∀ σ', SW P env pin y σ' Q → N σ') → SW P env pin x σ (thenQ N Q)) : SW P env pin (.seq x y) σ Q :=
  SW.seq (h _ fun _ h => h)

def R0 (P : Program) (env : Env) (ops : Array Oper) (K : St → Prop) : List Oper → St → Prop
  | [], σ => K σ
  | o :: rest, σ => ∃ T e, GStep P env ops o σ T e ∧ R0 P env ops K rest (σ.app o.dst e)

def RD (P : Program) (env : Env) (ops : Array Oper) (K : List (List Nat × List Nat) → St → Prop) : List Oper → List (List Nat × List Nat) → St → Prop
  | [], acc, σ => K acc σ
  | o :: rest, acc, σ => ∃ T e, GStep P env ops o σ T e ∧ RD P env ops K rest (acc ++ [(T, e.upd.map Prod.fst)]) (σ.app o.dst e)

def clashT (ops : Array Oper) (oi oj : Oper) (ri rj : List Nat × List Nat) : Bool :=
  !(oi.apart ops oj) || (meets ri.1 rj.1 && !(ri.2.isEmpty && rj.2.isEmpty))

def regT (ops : Array Oper) (A : Nat → List Nat) (tr : Nat → List Nat × List Nat) : Bool :=
  (List.range ops.size).all fun k => match ops[k]? with
    | none => false
    | some o =>
      (o.after.all fun e => !Region.binds .any e || decide (e.on < k)) &&
      ((tr k).2.all fun q => (tr k).1.contains q) &&
      ((A k).all fun j => o.after.any fun e => Region.binds .any e && (e.on == j || (A e.on).contains j)) &&
      ((List.range k).all fun i => (A k).contains i || match ops[i]? with | some oi => !clashT ops oi o (tr i) (tr k) | none => false)

def pairAt (l : List (List Nat × List Nat)) (k : Nat) : List Nat × List Nat := l.getD k ([], [])
def short (r : Rec) : List Nat × List Nat := (r.T, r.e.upd.map Prod.fst)

section
variable {P : Program} {env : Env} {pin : Nat} {σ : St} {Q : Exit → St → Prop}

theorem regT_ok {ops : Array Oper} {A : Nat → List Nat} {tr : List Rec} (h : regT ops A (pairAt (tr.map short)) = true) : regOK ops A (recAt tr) = true := by
  have hp : ∀ k, pairAt (tr.map short) k = short (recAt tr k) := fun k => by
    simp only [pairAt, recAt, List.getD, List.getElem?_map]
    cases tr[k]? <;> rfl
  unfold regT at h
  unfold regOK
  rw [List.all_eq_true] at h ⊢
  intro k hk
  have := h k hk
  cases ho : ops[k]? with
  | none => rw [ho] at this; cases this
  | some o =>
    rw [ho] at this
    simp only [Bool.and_eq_true] at this ⊢
    obtain ⟨⟨⟨h1, h2⟩, h3⟩, h4⟩ := this
    refine ⟨⟨⟨h1, ?_⟩, h3⟩, ?_⟩
    · rw [hp] at h2
      simp only [short, List.all_map] at h2
      exact h2
    · rw [List.all_eq_true] at h4 ⊢
      intro i hi
      have h5 := h4 i hi
      cases hoi : ops[i]? with
      | none => rw [hoi] at h5; exact h5
      | some oi =>
        rw [hoi] at h5
        rw [hp, hp] at h5
        have e1 : clashT ops oi o (short (recAt tr i)) (short (recAt tr k)) = clash ops oi o (recAt tr i) (recAt tr k) := by
          unfold clashT clash short
          cases (recAt tr i).e.upd <;> cases (recAt tr k).e.upd <;> rfl
        have h6 : ((A k).contains i || !clashT ops oi o (short (recAt tr i)) (short (recAt tr k))) = true := h5
        rw [e1] at h6
        exact h6

theorem R0.toRR {ops : Array Oper} {K : St → Prop} : ∀ (l : List Oper) (acc : List Rec) (σ : St), R0 P env ops K l σ → RR P env ops (fun _ σ => K σ) l acc σ
  | [], _, _, h => h
  | _ :: rest, acc, σ, ⟨T, e, h1, h2⟩ => ⟨T, e, h1, R0.toRR rest _ _ h2⟩

theorem RD.toRR {ops : Array Oper} {K : List (List Nat × List Nat) → St → Prop} : ∀ (l : List Oper) (acc : List Rec) (σ : St), RD P env ops K l (acc.map short) σ → RR P env ops (fun tr σ => K (tr.map short) σ) l acc σ
  | [], _, _, h => h
  | _ :: rest, acc, σ, ⟨T, e, h1, h2⟩ => ⟨T, e, h1, RD.toRR rest (acc ++ [⟨T, e⟩]) _ (by simpa [short] using h2)⟩

theorem SW.reg (hE : EnvOK P env) {id : Nat} {ops : Array Oper} (h : R0 P env ops (fun σ' => Q .normal σ') ops.toList σ) : SW P env pin (.region id ops false) σ Q :=
  SW.region hE (R0.toRR _ _ _ h)

theorem SW.drawn (hE : EnvOK P env) (hm : P.follows .mixedOrders = true) {id : Nat} {ops : Array Oper} (h : RD P env ops (fun tr σ' => regT ops (anc ops) (pairAt tr) = true ∧ Q .normal σ') ops.toList [] σ) : SW P env pin (.region id ops true) σ Q := by
  refine SW.draw hE hm ?_
  have h1 := RD.toRR (K := fun tr σ' => regT ops (anc ops) (pairAt tr) = true ∧ Q .normal σ') ops.toList [] σ h
  have key : ∀ (l : List Oper) (acc : List Rec) (σ : St), RR P env ops (fun tr σ => regT ops (anc ops) (pairAt (tr.map short)) = true ∧ Q .normal σ) l acc σ → RR P env ops (fun tr σ' => regOK ops (anc ops) (recAt tr) = true ∧ Q .normal σ') l acc σ := by
    intro l
    induction l with
    | nil => intro acc σ h; exact ⟨regT_ok h.1, h.2⟩
    | cons o rest ih => intro acc σ ⟨T, e, h2, h3⟩; exact ⟨T, e, h2, ih _ _ h3⟩
  exact key _ _ _ h1

def elimP {α : Type} (x : Option α) (A : α → Prop) : Prop := match x with | some a => A a | none => False
theorem elimP_some {α : Type} (a : α) (A : α → Prop) : elimP (some a) A = A a := rfl
theorem elimP_none {α : Type} (A : α → Prop) : elimP none A = False := rfl
theorem elimP_ite {α : Type} (c : Prop) [Decidable c] (x : Option α) (A : α → Prop) : elimP (if c then x else none) A = (c ∧ elimP x A) := by
  by_cases h : c <;> simp [h, elimP]
theorem elimP_ite' {α : Type} (c : Prop) [Decidable c] (x : Option α) (A : α → Prop) : elimP (if c then none else x) A = (¬ c ∧ elimP x A) := by
  by_cases h : c <;> simp [h, elimP]
theorem elimP_map {α β : Type} (f : α → β) (x : Option α) (A : β → Prop) : elimP (x.map f) A = elimP x (fun a => A (f a)) := by cases x <;> rfl
@[congr] theorem elimP_congr {α : Type} {x y : Option α} {A : α → Prop} (h : x = y) : elimP x A = elimP y A := by rw [h]
def gcond (b : Bool) (A B : Unit → Prop) : Prop := (b = true → A ()) ∧ (b = false → B ())
theorem gcond_true (A B : Unit → Prop) : gcond true A B = A () := by simp [gcond]
theorem gcond_false (A B : Unit → Prop) : gcond false A B = B () := by simp [gcond]
@[congr] theorem gcond_congr {b c : Bool} {A B : Unit → Prop} (h : b = c) : gcond b A B = gcond c A B := by rw [h]
theorem gcond_mk {b : Bool} {A B : Unit → Prop} (h : b = true → A ()) (k : b = false → B ()) : gcond b A B := ⟨h, k⟩

def isCall : Op → Bool
  | .call ⟨.value _, _, _⟩ => true
  | _ => false

def go0 (P : Program) (env : Env) (ops : Array Oper) (K : St → Prop) : Nat → List Oper → St → Prop
  | 0, l, σ => R0 P env ops K l σ
  | _ + 1, [], σ => K σ
  | n + 1, o :: rest, σ => elimP (aguard ops σ o) fun b => gcond b
      (fun _ => if isCall o.op = true then R0 P env ops K (o :: rest) σ else elimP (aop env o.dst (aeval env σ) σ.obj o.op) fun e => go0 P env ops K n rest (σ.app o.dst e))
      (fun _ => go0 P env ops K n rest (σ.app o.dst ⟨.tup [], []⟩))
theorem R0.go {ops : Array Oper} {K : St → Prop} : ∀ (n : Nat) {l : List Oper} {σ : St}, go0 P env ops K n l σ → R0 P env ops K l σ
  | 0, _, _, h => h
  | _ + 1, [], _, h => h
  | n + 1, o :: rest, σ, h => by
    simp only [go0] at h
    cases hg : aguard ops σ o with
    | none => rw [hg] at h; exact h.elim
    | some b =>
      rw [hg, elimP_some] at h
      cases b with
      | true =>
        rw [gcond_true] at h
        split at h
        · exact h
        · cases he : aop env o.dst (aeval env σ) σ.obj o.op with
          | none => rw [he] at h; exact h.elim
          | some e => rw [he] at h; exact ⟨_, e, .run _ _ hg (.op _ he), R0.go n h⟩
      | false =>
        rw [gcond_false] at h
        exact ⟨_, _, .skip hg, R0.go n h⟩
def goD (P : Program) (env : Env) (ops : Array Oper) (K : List (List Nat × List Nat) → St → Prop) : Nat → List Oper → List (List Nat × List Nat) → St → Prop
  | 0, l, acc, σ => RD P env ops K l acc σ
  | _ + 1, [], acc, σ => K acc σ
  | n + 1, o :: rest, acc, σ => elimP (aguard ops σ o) fun b => gcond b
      (fun _ => if isCall o.op = true then RD P env ops K (o :: rest) acc σ else elimP (aop env o.dst (aeval env σ) σ.obj o.op) fun e => goD P env ops K n rest (acc ++ [(atgt env o.dst (aeval env σ) o.op, e.upd.map Prod.fst)]) (σ.app o.dst e))
      (fun _ => goD P env ops K n rest (acc ++ [([], [])]) (σ.app o.dst ⟨.tup [], []⟩))
theorem RD.go {ops : Array Oper} {K : List (List Nat × List Nat) → St → Prop} : ∀ (n : Nat) {l : List Oper} {acc : List (List Nat × List Nat)} {σ : St}, goD P env ops K n l acc σ → RD P env ops K l acc σ
  | 0, _, _, _, h => h
  | _ + 1, [], _, _, h => h
  | n + 1, o :: rest, acc, σ, h => by
    simp only [goD] at h
    cases hg : aguard ops σ o with
    | none => rw [hg] at h; exact h.elim
    | some b =>
      rw [hg, elimP_some] at h
      cases b with
      | true =>
        rw [gcond_true] at h
        split at h
        · exact h
        · cases he : aop env o.dst (aeval env σ) σ.obj o.op with
          | none => rw [he] at h; exact h.elim
          | some e => rw [he] at h; exact ⟨_, e, .run _ _ hg (.op _ he), RD.go n h⟩
      | false =>
        rw [gcond_false] at h
        exact ⟨_, _, .skip hg, RD.go n h⟩

theorem on {N S : St → Prop} {σ : St} (h : ∀ σ', S σ' → N σ') (k : S σ) : N σ := h σ k

theorem R0.call {ops : Array Oper} {K : St → Prop} {o : Oper} {rest : List Oper} (hg : aguard ops σ o = some true) {f : FuncId} {args : Array Operand} {cargs : List AVal} {cobjs : List (Option AObj)} (ids news : List Nat) {res : AVal} {objs' : List (Option AObj)}
    (hac : AC P env.gl f cargs cobjs res objs') (hf : CallFits P env σ o f args cargs cobjs ids news objs')
    (h : R0 P env ops K rest (σ.app o.dst ⟨ren (tau (ids ++ news)) res, callUpd (tau (ids ++ news)) (ids ++ news) 0 objs'⟩)) : R0 P env ops K (o :: rest) σ :=
  ⟨_, _, .run _ _ hg (.call f args cargs cobjs ids news res objs' hf hac), h⟩
theorem RD.call {ops : Array Oper} {K : List (List Nat × List Nat) → St → Prop} {o : Oper} {rest : List Oper} {acc : List (List Nat × List Nat)} (hg : aguard ops σ o = some true) {f : FuncId} {args : Array Operand} {cargs : List AVal} {cobjs : List (Option AObj)} (ids news : List Nat) {res : AVal} {objs' : List (Option AObj)}
    (hac : AC P env.gl f cargs cobjs res objs') (hf : CallFits P env σ o f args cargs cobjs ids news objs')
    (h : RD P env ops K rest (acc ++ [(ids ++ news, (callUpd (tau (ids ++ news)) (ids ++ news) 0 objs').map Prod.fst)]) (σ.app o.dst ⟨ren (tau (ids ++ news)) res, callUpd (tau (ids ++ news)) (ids ++ news) 0 objs'⟩)) : RD P env ops K (o :: rest) acc σ :=
  ⟨_, _, .run _ _ hg (.call f args cargs cobjs ids news res objs' hf hac), h⟩

theorem CallFits.pure {σ : St} {o : Oper} {f : FuncId} {args : Array Operand} {cargs : List AVal} {tys : Array TypeId} (ho : o.op = .call ⟨.value (.func f), args, tys⟩) (hent : ∀ vargs w, (callFunc f vargs).run P w = .ok (.enter f vargs) w)
    (hargs : args.toList.map (aeval env σ) = renL (fun k => ([] : List Nat).getD k 0) cargs) (hsc : inScopeL (hasObj []) cargs = true) : CallFits P env σ o f args cargs [] [] [] [] where
  op := ⟨tys, ho⟩
  enters := hent
  args := hargs
  objs := rfl
  scopeA := hsc
  scopeO := by simp
  nodup := by simp
  lt := by simp
  fresh := by simp
  len := by simp
end
end Go.Abs
namespace Go.Abs
open Go

mutual
theorem ren_none (τ : Nat → Nat) : ∀ (v : AVal), inScope (hasObj []) v = true → ren τ v = v
  | .ref id off, h => by simp [inScope, hasObj] at h
  | .row id n, h => by simp [inScope, hasObj] at h
  | .eref id i j sz, h => by simp [inScope, hasObj] at h
  | .map id, h => by simp [inScope, hasObj] at h
  | .agg cs, h => by simp only [ren]; rw [renL_none τ cs (by simpa [inScope] using h)]
  | .tup cs, h => by simp only [ren]; rw [renL_none τ cs (by simpa [inScope] using h)]
  | .pv p, _ => rfl
  | .snil, _ => rfl
  | .junk, _ => rfl
theorem renL_none (τ : Nat → Nat) : ∀ (l : List AVal), inScopeL (hasObj []) l = true → renL τ l = l
  | [], _ => rfl
  | a :: r, h => by
    simp [inScopeL] at h
    simp only [renL]
    rw [ren_none τ a h.1, renL_none τ r h.2]
end

mutual
def sub : AVal → AVal → Prop
  | .snil, .pv (.slice []) => True
  | .agg cs, .agg ds => subL cs ds
  | a, b => a = b
def subL : List AVal → List AVal → Prop
  | [], [] => True
  | a :: r, b :: s => sub a b ∧ subL r s
  | _, _ => False
end

theorem subL_get : ∀ {l m : List AVal}, subL l m → l.length = m.length ∧ ∀ i, i < l.length → sub (l.getD i .junk) (m.getD i .junk)
  | [], [], _ => ⟨rfl, fun i hi => by simp at hi⟩
  | a :: r, b :: s, h => by
    rw [subL] at h
    obtain ⟨h1, h2⟩ := subL_get h.2
    refine ⟨by simp [h1], fun i hi => ?_⟩
    cases i with
    | zero => simpa [List.getD] using h.1
    | succ i => simpa [List.getD] using h2 i (by simpa using hi)
  | [], _ :: _, h => by simp [subL] at h
  | _ :: _, [], h => by simp [subL] at h

theorem V.sub {g : Gh} {D : Nat → Prop} {M : Mem} {a : AVal} {v : Value} (h : V g D M a v) : ∀ {b : AVal}, Abs.sub a b → V g D M b v := by
  induction h with
  | snil =>
    intro b hb
    unfold Abs.sub at hb
    split at hb
    · exact .pv .nils
    · rename_i h1; cases h1
    · subst hb; exact .snil
  | agg cs vs hl hv ih =>
    intro b hb
    unfold Abs.sub at hb
    split at hb
    · rename_i h1; cases h1
    · rename_i h1
      cases h1
      rename_i ds
      obtain ⟨h2, h3⟩ := subL_get hb
      exact .agg ds vs (by omega) (fun i hi => ih i (by omega) (h3 i (by omega)))
    · subst hb; exact .agg cs vs hl hv
  | pv r =>
    intro b hb
    rename_i p _
    have : b = .pv p := by cases b <;> simp_all [Abs.sub]
    subst this; exact .pv r
  | ref id off hd => intro b hb; have : b = .ref id off := by cases b <;> simp_all [Abs.sub]
                     subst this; exact .ref id off hd
  | row id n hd hn => intro b hb; have : b = .row id n := by cases b <;> simp_all [Abs.sub]
                      subst this; exact .row id n hd hn
  | rown id hd hn => intro b hb; have : b = .row id 0 := by cases b <;> simp_all [Abs.sub]
                     subst this; exact .rown id hd hn
  | eref id i j sz hd => intro b hb; have : b = .eref id i j sz := by cases b <;> simp_all [Abs.sub]
                         subst this; exact .eref id i j sz hd
  | map id hd => intro b hb; have : b = .map id := by cases b <;> simp_all [Abs.sub]
                 subst this; exact .map id hd
  | tup cs vs hl hv ih => intro b hb; have : b = .tup cs := by cases b <;> simp_all [Abs.sub]
                          subst this; exact .tup cs vs hl hv
  | junk v => intro b hb; have : b = .junk := by cases b <;> simp_all [Abs.sub]
              subst this; exact .junk v

theorem AC.sub {P : Program} {gl : Nat → Option (List PVal)} {f : FuncId} {args args' : List AVal} {objs : List (Option AObj)} {res : AVal} {objs' : List (Option AObj)} (h : AC P gl f args' objs res objs') (hs : subL args args') : AC P gl f args objs res objs' := by
  intro w M g vargs hR hG
  obtain ⟨h1, h2⟩ := subL_get hs
  refine h w M g vargs ⟨by rw [hR.size]; exact h1, hR.defers, fun i hi => ?_, hR.objs, hR.apart, hR.offM, hR.sat, hR.M0, hR.Mnew, hR.size0, hR.same, hR.own0, hR.os, hR.tape, hR.output⟩ hG
  have hi' : i < args.length := by rw [h1]; exact hi
  exact (hR.slots i hi').sub (h2 i hi')

theorem ret0 {env : Env} {rs : List ResultVar} {res : AVal} {e : Exit} {σ : St} {vs : List AVal} (he : e = .ret ∨ e = .normal) (h : ares env σ rs = some vs) (hp : pack vs = res) (hsc : inScope (hasObj []) res = true) : retQ env 0 rs res [] e σ :=
  ⟨he, vs, [], h, ⟨.inr ⟨by rw [ren_none _ _ hsc]; exact hp, hsc⟩, trivial⟩, trivial, fun k hk => by omega, by simp, by simp⟩

theorem getD_map {α : Type} (enc : α → List PVal) (l : List α) (k : Nat) (h : k < l.length) : (l.map enc).getD k [] = enc l[k] := by
  simp [List.getD, h]

theorem wrap64 (n : Int) (h1 : -9223372036854775808 ≤ n) (h2 : n ≤ 9223372036854775807) : IntKind.i64.wrap n = n := IntWalk.i64_in n ⟨h1, h2⟩

theorem SW.condT {P : Program} {env : Env} {pin : Nat} {σ : St} {Q : Exit → St → Prop} {c : Operand} {x y : Code} (hc : aeval env σ c = .pv (.bool true)) (h : SW P env pin x σ Q) : SW P env pin (.cond c x y) σ Q :=
  SW.cond hc (fun _ => h) (fun h => by cases h)
theorem SW.condF {P : Program} {env : Env} {pin : Nat} {σ : St} {Q : Exit → St → Prop} {c : Operand} {x y : Code} (hc : aeval env σ c = .pv (.bool false)) (h : SW P env pin y σ Q) : SW P env pin (.cond c x y) σ Q :=
  SW.cond hc (fun h => by cases h) (fun _ => h)

section
variable {P : Program} {env : Env} {σ : St}

theorem R0.callP {ops : Array Oper} {K : St → Prop} {d : Option Nat} {f : FuncId} {args : Array Operand} {tys : Array TypeId} {ty : TypeId} {pos : String} {aft : Array Edge} {gd : Option (Nat × Bool)} {rest : List Oper} {cargs : List AVal} {res : AVal}
    (hac : AC P env.gl f cargs [] res []) (hent : ∀ vargs w, (callFunc f vargs).run P w = .ok (.enter f vargs) w)
    (hg : aguard ops σ ⟨d, .call ⟨.value (.func f), args, tys⟩, ty, pos, aft, gd⟩ = some true)
    (hargs : args.toList.map (aeval env σ) = cargs) (hsc : inScopeL (hasObj []) cargs = true) (hres : inScope (hasObj []) res = true)
    (h : R0 P env ops K rest (σ.app d ⟨res, []⟩)) : R0 P env ops K (⟨d, .call ⟨.value (.func f), args, tys⟩, ty, pos, aft, gd⟩ :: rest) σ := by
  refine R0.call hg [] [] hac (CallFits.pure rfl hent (by rw [renL_none _ _ hsc]; exact hargs) hsc) ?_
  rw [ren_none _ _ hres]
  exact h
theorem RD.callP {ops : Array Oper} {K : List (List Nat × List Nat) → St → Prop} {acc : List (List Nat × List Nat)} {d : Option Nat} {f : FuncId} {args : Array Operand} {tys : Array TypeId} {ty : TypeId} {pos : String} {aft : Array Edge} {gd : Option (Nat × Bool)} {rest : List Oper} {cargs : List AVal} {res : AVal}
    (hac : AC P env.gl f cargs [] res []) (hent : ∀ vargs w, (callFunc f vargs).run P w = .ok (.enter f vargs) w)
    (hg : aguard ops σ ⟨d, .call ⟨.value (.func f), args, tys⟩, ty, pos, aft, gd⟩ = some true)
    (hargs : args.toList.map (aeval env σ) = cargs) (hsc : inScopeL (hasObj []) cargs = true) (hres : inScope (hasObj []) res = true)
    (h : RD P env ops K rest (acc ++ [([], [])]) (σ.app d ⟨res, []⟩)) : RD P env ops K (⟨d, .call ⟨.value (.func f), args, tys⟩, ty, pos, aft, gd⟩ :: rest) acc σ := by
  refine RD.call hg [] [] hac (CallFits.pure rfl hent (by rw [renL_none _ _ hsc]; exact hargs) hsc) ?_
  rw [ren_none _ _ hres]
  exact h
end
end Go.Abs
namespace Go.Abs
open Go

theorem cast0 : ((0 : Nat) : Int) = 0 := by simp

structure COp where
  dst : Option Nat
  op : Op
  guard : Option (Option (Nat × Bool))

def gres (all : List Oper) : Option (Nat × Bool) → Option (Option (Nat × Bool))
  | none => none
  | some (j, want) => some (((all[j]?).bind (·.dst)).map fun t => (t, want))
def compL (all : List Oper) : List Oper → List COp
  | [] => []
  | o :: r => ⟨o.dst, o.op, gres all o.guard⟩ :: compL all r

def cguard (σ : St) : Option (Option (Nat × Bool)) → Option Bool
  | none => some true
  | some none => none
  | some (some (t, want)) => match σ.slot t with
    | .pv (.bool b) => some (b == want)
    | .tup [] => some false
    | _ => none

inductive CStep (P : Program) (env : Env) (c : COp) (σ : St) : List Nat → Eff → Prop
  | run (o : Oper) (T : List Nat) (e : Eff) : o.dst = c.dst → o.op = c.op → cguard σ c.guard = some true → Step P env o σ T e → CStep P env c σ T e
  | skip : cguard σ c.guard = some false → CStep P env c σ [] ⟨.tup [], []⟩

def R0c (P : Program) (env : Env) (K : St → Prop) : List COp → St → Prop
  | [], σ => K σ
  | c :: rest, σ => ∃ T e, CStep P env c σ T e ∧ R0c P env K rest (σ.app c.dst e)
def RDc (P : Program) (env : Env) (K : List (List Nat × List Nat) → St → Prop) : List COp → List (List Nat × List Nat) → St → Prop
  | [], acc, σ => K acc σ
  | c :: rest, acc, σ => ∃ T e, CStep P env c σ T e ∧ RDc P env K rest (acc ++ [(T, e.upd.map Prod.fst)]) (σ.app c.dst e)

section
variable {P : Program} {env : Env} {pin : Nat} {σ : St} {Q : Exit → St → Prop}

theorem aguard_c (ops : Array Oper) (o : Oper) : aguard ops σ o = cguard σ (gres ops.toList o.guard) := by
  unfold aguard
  cases o.guard with
  | none => rfl
  | some q =>
    obtain ⟨j, want⟩ := q
    simp only [gres, Array.getElem?_toList]
    cases (ops[j]?).bind (·.dst) <;> rfl

theorem Step.congr {o o' : Oper} {T : List Nat} {e : Eff} (hd : o.dst = o'.dst) (hop : o.op = o'.op) (h : Step P env o σ T e) : Step P env o' σ T e := by
  cases h with
  | op _ h =>
    rw [hd, hop] at *
    exact .op e h
  | call f args cargs cobjs ids news res objs' hf hac =>
    refine .call f args cargs cobjs ids news res objs' ?_ hac
    obtain ⟨⟨tys, ho⟩, h2, h3, h4, h5, h6, h7, h8, h9, h10⟩ := hf
    exact ⟨⟨tys, by rw [← hop]; exact ho⟩, h2, h3, h4, h5, h6, h7, h8, h9, h10⟩

theorem R0c.to {ops : Array Oper} {K : St → Prop} : ∀ (l : List Oper) (σ : St), R0c P env K (compL ops.toList l) σ → R0 P env ops K l σ
  | [], _, h => h
  | o :: rest, σ, ⟨T, e, h1, h2⟩ => by
    refine ⟨T, e, ?_, R0c.to rest _ h2⟩
    cases h1 with
    | run o' _ _ hd hop hg hs => exact .run T e (by rw [aguard_c]; exact hg) (hs.congr hd hop)
    | skip hg => exact .skip (by rw [aguard_c]; exact hg)
theorem RDc.to {ops : Array Oper} {K : List (List Nat × List Nat) → St → Prop} : ∀ (l : List Oper) (acc : List (List Nat × List Nat)) (σ : St), RDc P env K (compL ops.toList l) acc σ → RD P env ops K l acc σ
  | [], _, _, h => h
  | o :: rest, acc, σ, ⟨T, e, h1, h2⟩ => by
    refine ⟨T, e, ?_, RDc.to rest _ _ h2⟩
    cases h1 with
    | run o' _ _ hd hop hg hs => exact .run T e (by rw [aguard_c]; exact hg) (hs.congr hd hop)
    | skip hg => exact .skip (by rw [aguard_c]; exact hg)

def W0 (P : Program) (env : Env) (K : St → Prop) : List COp → St → Prop
  | [], σ => K σ
  | c :: rest, σ => match cguard σ c.guard with
    | some true => if isCall c.op = true then R0c P env K (c :: rest) σ else match aop env c.dst (aeval env σ) σ.obj c.op with
      | some e => W0 P env K rest (σ.app c.dst e)
      | none => False
    | some false => W0 P env K rest (σ.app c.dst ⟨.tup [], []⟩)
    | none => False
def WE (P : Program) (env : Env) (K : St → Prop) (r : Option Eff) (d : Option Nat) (rest : List COp) (σ : St) : Prop :=
  match r with | some e => W0 P env K rest (σ.app d e) | none => False
def WG (P : Program) (env : Env) (K : St → Prop) (b : Option Bool) (c : COp) (rest : List COp) (σ : St) : Prop :=
  match b with
  | some true => if isCall c.op = true then R0c P env K (c :: rest) σ else WE P env K (aop env c.dst (aeval env σ) σ.obj c.op) c.dst rest σ
  | some false => W0 P env K rest (σ.app c.dst ⟨.tup [], []⟩)
  | none => False
theorem W0_nil (K : St → Prop) (σ : St) : W0 P env K [] σ = K σ := rfl
theorem W0_cons (K : St → Prop) (c : COp) (rest : List COp) (σ : St) : W0 P env K (c :: rest) σ = WG P env K (cguard σ c.guard) c rest σ := rfl
theorem WG_true (K : St → Prop) (c : COp) (rest : List COp) (σ : St) : WG P env K (some true) c rest σ = if isCall c.op = true then R0c P env K (c :: rest) σ else WE P env K (aop env c.dst (aeval env σ) σ.obj c.op) c.dst rest σ := rfl
theorem WG_false (K : St → Prop) (c : COp) (rest : List COp) (σ : St) : WG P env K (some false) c rest σ = W0 P env K rest (σ.app c.dst ⟨.tup [], []⟩) := rfl
theorem WE_some (K : St → Prop) (e : Eff) (d : Option Nat) (rest : List COp) (σ : St) : WE P env K (some e) d rest σ = W0 P env K rest (σ.app d e) := rfl
theorem WE_ite (K : St → Prop) (p : Prop) [Decidable p] (x : Option Eff) (d : Option Nat) (rest : List COp) (σ : St) : WE P env K (if p then x else none) d rest σ = (p ∧ WE P env K x d rest σ) := by
  by_cases h : p <;> simp [h, WE]
theorem WE_ite' (K : St → Prop) (p : Prop) [Decidable p] (x : Option Eff) (d : Option Nat) (rest : List COp) (σ : St) : WE P env K (if p then none else x) d rest σ = (¬ p ∧ WE P env K x d rest σ) := by
  by_cases h : p <;> simp [h, WE]
theorem WG_split {K : St → Prop} {b : Bool} {c : COp} {rest : List COp} {σ : St} (h : b = true → WG P env K (some true) c rest σ) (k : b = false → WG P env K (some false) c rest σ) : WG P env K (some b) c rest σ := by
  cases b
  · exact k rfl
  · exact h rfl
theorem map_ite {α β : Type} (f : α → β) (p : Prop) [Decidable p] (x : Option α) : (if p then x else none).map f = if p then x.map f else none := by split <;> rfl
theorem map_ite' {α β : Type} (f : α → β) (p : Prop) [Decidable p] (x : Option α) : (if p then none else x).map f = if p then none else x.map f := by split <;> rfl

theorem W0.to {K : St → Prop} : ∀ (l : List COp) (σ : St), W0 P env K l σ → R0c P env K l σ
  | [], _, h => h
  | c :: rest, σ, h => by
    simp only [W0] at h
    split at h
    · rename_i hg
      split at h
      · exact h
      · split at h
        · rename_i e he
          exact ⟨_, e, .run ⟨c.dst, c.op, 0, "", #[], none⟩ _ e rfl rfl hg (.op e he), W0.to rest _ h⟩
        · exact h.elim
    · rename_i hg
      exact ⟨_, _, .skip hg, W0.to rest _ h⟩
    · exact h.elim

def W1 (P : Program) (env : Env) (K : List (List Nat × List Nat) → St → Prop) : List COp → List (List Nat × List Nat) → St → Prop
  | [], acc, σ => K acc σ
  | c :: rest, acc, σ => match cguard σ c.guard with
    | some true => if isCall c.op = true then RDc P env K (c :: rest) acc σ else match aop env c.dst (aeval env σ) σ.obj c.op with
      | some e => W1 P env K rest (acc ++ [(atgt env c.dst (aeval env σ) c.op, e.upd.map Prod.fst)]) (σ.app c.dst e)
      | none => False
    | some false => W1 P env K rest (acc ++ [([], [])]) (σ.app c.dst ⟨.tup [], []⟩)
    | none => False
def XE (P : Program) (env : Env) (K : List (List Nat × List Nat) → St → Prop) (r : Option Eff) (T : List Nat) (d : Option Nat) (rest : List COp) (acc : List (List Nat × List Nat)) (σ : St) : Prop :=
  match r with | some e => W1 P env K rest (acc ++ [(T, e.upd.map Prod.fst)]) (σ.app d e) | none => False
def XG (P : Program) (env : Env) (K : List (List Nat × List Nat) → St → Prop) (b : Option Bool) (c : COp) (rest : List COp) (acc : List (List Nat × List Nat)) (σ : St) : Prop :=
  match b with
  | some true => if isCall c.op = true then RDc P env K (c :: rest) acc σ else XE P env K (aop env c.dst (aeval env σ) σ.obj c.op) (atgt env c.dst (aeval env σ) c.op) c.dst rest acc σ
  | some false => W1 P env K rest (acc ++ [([], [])]) (σ.app c.dst ⟨.tup [], []⟩)
  | none => False
theorem W1_nil (K : List (List Nat × List Nat) → St → Prop) (acc : List (List Nat × List Nat)) (σ : St) : W1 P env K [] acc σ = K acc σ := rfl
theorem W1_cons (K : List (List Nat × List Nat) → St → Prop) (c : COp) (rest : List COp) (acc : List (List Nat × List Nat)) (σ : St) : W1 P env K (c :: rest) acc σ = XG P env K (cguard σ c.guard) c rest acc σ := rfl
theorem XG_true (K : List (List Nat × List Nat) → St → Prop) (c : COp) (rest : List COp) (acc : List (List Nat × List Nat)) (σ : St) : XG P env K (some true) c rest acc σ = if isCall c.op = true then RDc P env K (c :: rest) acc σ else XE P env K (aop env c.dst (aeval env σ) σ.obj c.op) (atgt env c.dst (aeval env σ) c.op) c.dst rest acc σ := rfl
theorem XG_false (K : List (List Nat × List Nat) → St → Prop) (c : COp) (rest : List COp) (acc : List (List Nat × List Nat)) (σ : St) : XG P env K (some false) c rest acc σ = W1 P env K rest (acc ++ [([], [])]) (σ.app c.dst ⟨.tup [], []⟩) := rfl
theorem XE_some (K : List (List Nat × List Nat) → St → Prop) (e : Eff) (T : List Nat) (d : Option Nat) (rest : List COp) (acc : List (List Nat × List Nat)) (σ : St) : XE P env K (some e) T d rest acc σ = W1 P env K rest (acc ++ [(T, e.upd.map Prod.fst)]) (σ.app d e) := rfl
theorem XE_ite (K : List (List Nat × List Nat) → St → Prop) (p : Prop) [Decidable p] (x : Option Eff) (T : List Nat) (d : Option Nat) (rest : List COp) (acc : List (List Nat × List Nat)) (σ : St) : XE P env K (if p then x else none) T d rest acc σ = (p ∧ XE P env K x T d rest acc σ) := by
  by_cases h : p <;> simp [h, XE]
theorem XE_ite' (K : List (List Nat × List Nat) → St → Prop) (p : Prop) [Decidable p] (x : Option Eff) (T : List Nat) (d : Option Nat) (rest : List COp) (acc : List (List Nat × List Nat)) (σ : St) : XE P env K (if p then none else x) T d rest acc σ = (¬ p ∧ XE P env K x T d rest acc σ) := by
  by_cases h : p <;> simp [h, XE]
theorem XG_split {K : List (List Nat × List Nat) → St → Prop} {b : Bool} {c : COp} {rest : List COp} {acc : List (List Nat × List Nat)} {σ : St} (h : b = true → XG P env K (some true) c rest acc σ) (k : b = false → XG P env K (some false) c rest acc σ) : XG P env K (some b) c rest acc σ := by
  cases b
  · exact k rfl
  · exact h rfl
theorem W1.to {K : List (List Nat × List Nat) → St → Prop} : ∀ (l : List COp) (acc : List (List Nat × List Nat)) (σ : St), W1 P env K l acc σ → RDc P env K l acc σ
  | [], _, _, h => h
  | c :: rest, acc, σ, h => by
    simp only [W1] at h
    split at h
    · rename_i hg
      split at h
      · exact h
      · split at h
        · rename_i e he
          exact ⟨_, e, .run ⟨c.dst, c.op, 0, "", #[], none⟩ _ e rfl rfl hg (.op e he), W1.to rest _ _ h⟩
        · exact h.elim
    · rename_i hg
      exact ⟨_, _, .skip hg, W1.to rest _ _ h⟩
    · exact h.elim

theorem SW.rg (hE : EnvOK P env) {id : Nat} {ops : Array Oper} (h : ∀ K : St → Prop, (∀ σ', Q .normal σ' → K σ') → W0 P env K (compL ops.toList ops.toList) σ) : SW P env pin (.region id ops false) σ Q :=
  SW.reg hE (R0c.to _ _ (W0.to _ _ (h _ fun _ h => h)))
theorem SW.rd (hE : EnvOK P env) (hm : P.follows .mixedOrders = true) {id : Nat} {ops : Array Oper} (h : ∀ K : List (List Nat × List Nat) → St → Prop, (∀ tr σ', regT ops (anc ops) (pairAt tr) = true → Q .normal σ' → K tr σ') → W1 P env K (compL ops.toList ops.toList) [] σ) : SW P env pin (.region id ops true) σ Q :=
  SW.drawn hE hm (RDc.to _ _ _ (W1.to _ _ _ (h _ fun _ _ h1 h2 => ⟨h1, h2⟩)))
theorem onK {K : St → Prop} {σ : St} (h : ∀ σ', Q .normal σ' → K σ') (k : Q .normal σ) : K σ := h σ k
theorem onD {K : List (List Nat × List Nat) → St → Prop} {tr : List (List Nat × List Nat)} {p : List (List Nat × List Nat) → Prop} (h : ∀ tr σ', p tr → Q .normal σ' → K tr σ') (k1 : p tr) (k2 : Q .normal σ) : K tr σ := h tr σ k1 k2

theorem R0c.callP {K : St → Prop} {d : Option Nat} {f : FuncId} {args : Array Operand} {tys : Array TypeId} {gd : Option (Option (Nat × Bool))} {rest : List COp} {cargs : List AVal} {res : AVal}
    (hac : AC P env.gl f cargs [] res []) (hent : ∀ vargs w, (callFunc f vargs).run P w = .ok (.enter f vargs) w) (hg : cguard σ gd = some true)
    (hargs : subL (args.toList.map (aeval env σ)) cargs) (hsc : inScopeL (hasObj []) (args.toList.map (aeval env σ)) = true) (hres : inScope (hasObj []) res = true)
    (h : W0 P env K rest (σ.app d ⟨res, []⟩)) : R0c P env K (⟨d, .call ⟨.value (.func f), args, tys⟩, gd⟩ :: rest) σ := by
  refine ⟨_, _, .run ⟨d, .call ⟨.value (.func f), args, tys⟩, 0, "", #[], none⟩ _ _ rfl rfl hg (.call f args (args.toList.map (aeval env σ)) [] [] [] res [] (CallFits.pure rfl hent (by rw [renL_none _ _ hsc]) hsc) (hac.sub hargs)), ?_⟩
  rw [ren_none _ _ hres]
  exact W0.to _ _ h
theorem RDc.callP {K : List (List Nat × List Nat) → St → Prop} {acc : List (List Nat × List Nat)} {d : Option Nat} {f : FuncId} {args : Array Operand} {tys : Array TypeId} {gd : Option (Option (Nat × Bool))} {rest : List COp} {cargs : List AVal} {res : AVal}
    (hac : AC P env.gl f cargs [] res []) (hent : ∀ vargs w, (callFunc f vargs).run P w = .ok (.enter f vargs) w) (hg : cguard σ gd = some true)
    (hargs : subL (args.toList.map (aeval env σ)) cargs) (hsc : inScopeL (hasObj []) (args.toList.map (aeval env σ)) = true) (hres : inScope (hasObj []) res = true)
    (h : W1 P env K rest (acc ++ [([], [])]) (σ.app d ⟨res, []⟩)) : RDc P env K (⟨d, .call ⟨.value (.func f), args, tys⟩, gd⟩ :: rest) acc σ := by
  refine ⟨_, _, .run ⟨d, .call ⟨.value (.func f), args, tys⟩, 0, "", #[], none⟩ _ _ rfl rfl hg (.call f args (args.toList.map (aeval env σ)) [] [] [] res [] (CallFits.pure rfl hent (by rw [renL_none _ _ hsc]) hsc) (hac.sub hargs)), ?_⟩
  rw [ren_none _ _ hres]
  exact W1.to _ _ _ h
theorem R0c.callO {K : St → Prop} {d : Option Nat} {f : FuncId} {args : Array Operand} {tys : Array TypeId} {gd : Option (Option (Nat × Bool))} {rest : List COp} {cargs : List AVal} {cobjs : List (Option AObj)} (ids news : List Nat) {res : AVal} {objs' : List (Option AObj)}
    (hac : AC P env.gl f cargs cobjs res objs') (hg : cguard σ gd = some true) (hf : ∀ o : Oper, o.op = .call ⟨.value (.func f), args, tys⟩ → CallFits P env σ o f args cargs cobjs ids news objs')
    (h : W0 P env K rest (σ.app d ⟨ren (tau (ids ++ news)) res, callUpd (tau (ids ++ news)) (ids ++ news) 0 objs'⟩)) : R0c P env K (⟨d, .call ⟨.value (.func f), args, tys⟩, gd⟩ :: rest) σ :=
  ⟨_, _, .run ⟨d, .call ⟨.value (.func f), args, tys⟩, 0, "", #[], none⟩ _ _ rfl rfl hg (.call f args cargs cobjs ids news res objs' (hf _ rfl) hac), W0.to _ _ h⟩
theorem RDc.callO {K : List (List Nat × List Nat) → St → Prop} {acc : List (List Nat × List Nat)} {d : Option Nat} {f : FuncId} {args : Array Operand} {tys : Array TypeId} {gd : Option (Option (Nat × Bool))} {rest : List COp} {cargs : List AVal} {cobjs : List (Option AObj)} (ids news : List Nat) {res : AVal} {objs' : List (Option AObj)}
    (hac : AC P env.gl f cargs cobjs res objs') (hg : cguard σ gd = some true) (hf : ∀ o : Oper, o.op = .call ⟨.value (.func f), args, tys⟩ → CallFits P env σ o f args cargs cobjs ids news objs')
    (h : W1 P env K rest (acc ++ [(ids ++ news, (callUpd (tau (ids ++ news)) (ids ++ news) 0 objs').map Prod.fst)]) (σ.app d ⟨ren (tau (ids ++ news)) res, callUpd (tau (ids ++ news)) (ids ++ news) 0 objs'⟩)) : RDc P env K (⟨d, .call ⟨.value (.func f), args, tys⟩, gd⟩ :: rest) acc σ :=
  ⟨_, _, .run ⟨d, .call ⟨.value (.func f), args, tys⟩, 0, "", #[], none⟩ _ _ rfl rfl hg (.call f args cargs cobjs ids news res objs' (hf _ rfl) hac), W1.to _ _ _ h⟩

theorem SW.condS {t : Nat} {x y : Code} {b : Bool} (hc : σ.slot t = .pv (.bool b)) (ht : b = true → SW P env pin x ⟨σ.slots.set t (.pv (.bool true)), σ.objs⟩ Q) (hf : b = false → SW P env pin y ⟨σ.slots.set t (.pv (.bool false)), σ.objs⟩ Q) : SW P env pin (.cond (.tmp t) x y) σ Q := by
  have key : ∀ v, σ.slot t = v → v ≠ .junk → (⟨σ.slots.set t v, σ.objs⟩ : St) = σ := fun v hv hn => by
    have hlt : t < σ.slots.length := by
      rcases Nat.lt_or_ge t σ.slots.length with h | h
      · exact h
      · exfalso; apply hn; rw [← hv]; simp [St.slot, List.getElem?_eq_none h]
    have : σ.slots.set t v = σ.slots := by
      apply List.ext_getElem?
      intro i
      by_cases hi : t = i
      · subst hi
        rw [List.getElem?_set_self hlt, List.getElem?_eq_getElem hlt]
        have : σ.slots[t] = v := by simpa [St.slot, List.getD, hlt] using hv
        rw [this]
      · rw [List.getElem?_set_ne hi]
    rw [this]
  refine SW.cond (b := b) hc (fun h => ?_) (fun h => ?_)
  · subst h; have := ht rfl; rwa [key _ hc (by simp)] at this
  · subst h; have := hf rfl; rwa [key _ hc (by simp)] at this
end
end Go.Abs
namespace Go.Abs
open Go
theorem pinsF {σ σ' : St} {n : Nat} (h : (σ'.objs.take n).all Option.isSome = true) (hn : n ≤ σ'.objs.length) : ∀ k, k < n → σ.dom k → σ'.dom k := fun k hk _ hno => by
  have hkl : k < σ'.objs.length := by omega
  rw [List.all_eq_true] at h
  have h1 := h σ'.objs[k] (by rw [List.mem_take_iff_getElem]; exact ⟨k, by omega, rfl⟩)
  have h2 : σ'.objs[k] = none := by simpa [St.obj, List.getD, hkl] using hno
  rw [h2] at h1; cases h1
theorem pinsT {σ σ' : St} {n : Nat} {τ : List Nat} (ht : ∀ k, k < n → tau τ k = k) (h : (σ'.objs.take n).all Option.isSome = true) (hn : n ≤ σ'.objs.length) : ∀ k, k < n → tau τ k = k ∧ (σ.dom k → σ'.dom k) := fun k hk => ⟨ht k hk, pinsF h hn k hk⟩
end Go.Abs
namespace Go.Abs
open Go
variable {env : Env} {pin : Nat} {σ : St}

theorem Rel.nilRow1 {E : Ent} {g : Gh} {M : Mem} {a : Act} {w : World} (id sz : Nat) (hn : σ.obj id = none) (hlt : id < σ.objs.length) (hR : Rel E σ g M a w) : Rel E (σ.set id (.row sz [])) (g.set id 0 0 true) M a w := by
  have hne : ∀ i, σ.dom i → i ≠ id := fun i hi e => hi (by rw [e]; exact hn)
  have hag : ∀ i, σ.dom i → g.agree (g.set id 0 0 true) i := fun i hi => Gh.set_agree (hne i hi)
  have hself : (σ.set id (.row sz [])).obj id = some (.row sz []) := St.obj_set_self hlt
  refine hR.update (fun i => i = id) rfl (fun i hi => St.obj_set_ne (fun e => hi e.symm)) (fun i hi => dom_set i hi) hag ?_ (fun _ _ _ => rfl) ?_ ?_ (Nat.le_refl _) rfl rfl rfl
  · rintro i ob rfl ho
    rw [hself] at ho
    cases ho
    exact ⟨by simp, fun _ => rfl, fun h => by simp [Gh.set] at h⟩
  · rintro i ob b rfl ho hb
    rw [hself] at ho
    cases ho
    simp [owns, Gh.set] at hb
  · rintro i i' _ _ _ rfl rfl _ _ _ _; rfl

theorem Weak.nilRowC (b j id sz : Nat) {cs : List AVal} (hb : σ.obj b = some (.cells cs)) (hj : cs.getD j .junk = .snil) (hn : σ.obj id = none) (hid : id < env.nobj) : Weak env pin σ ⟨σ.slots, (σ.objs.set id (some (.row sz []))).set b (some (.cells (cs.set j (.row id 0))))⟩ := fun hl => ⟨by simp [hl], fun E g M a w hR => by
  have hne : ∀ i, σ.dom i → i ≠ id := fun i hi e => hi (by rw [e]; exact hn)
  have hag : ∀ i, σ.dom i → g.agree (g.set id 0 0 true) i := fun i hi => Gh.set_agree (hne i hi)
  have hbd : σ.dom b := by simp [St.dom, hb]
  have hbi : id ≠ b := fun e => hne b hbd e.symm
  have h1 := hR.nilRow1 id sz hn (by omega)
  generalize hσ : σ.set id (.row sz []) = σ1 at *
  have hl1 : σ1.objs.length = σ.objs.length := by rw [← hσ]; simp [St.set]
  have hdid : σ1.dom id := by rw [← hσ]; simp [St.dom, St.obj_set_self (σ := σ) (ob := .row sz []) (by omega : id < σ.objs.length)]
  have hb1 : σ1.obj b = some (.cells cs) := by rw [← hσ, St.obj_set_ne hbi]; exact hb
  have hblt : b < σ1.objs.length := by
    rcases Nat.lt_or_ge b σ1.objs.length with h | h
    · exact h
    · simp [St.obj, List.getElem?_eq_none h] at hb1
  have e0 : (⟨σ.slots, (σ.objs.set id (some (.row sz []))).set b (some (.cells (cs.set j (.row id 0))))⟩ : St) = σ1.set b (.cells (cs.set j (.row id 0))) := by rw [← hσ]; rfl
  rw [e0]
  have hself : (σ1.set b (.cells (cs.set j (.row id 0)))).obj b = some (.cells (cs.set j (.row id 0))) := St.obj_set_self hblt
  refine ⟨g.set id 0 0 true, M, ?_, Mem.le_refl _, fun k hk hd => ⟨hag k hd, dom_set k (by rw [← hσ]; exact dom_set k hd)⟩⟩
  refine h1.update (fun i => i = b) rfl (fun i hi => St.obj_set_ne (fun e => hi e.symm)) (fun i hi => dom_set i hi) (fun i _ => ⟨rfl, rfl, rfl⟩) ?_ (fun _ _ _ => rfl) ?_ ?_ (Nat.le_refl _) rfl rfl rfl
  · rintro i ob rfl ho
    rw [hself] at ho
    cases ho
    obtain ⟨vals, T, hh, hsz, hc⟩ := h1.objs _ _ hb1
    refine ⟨vals, T, hh, by simpa using hsz, fun k hk => ?_⟩
    simp only [List.length_set] at hk
    by_cases hkj : j = k
    · subst hkj
      have hv := hc j hk
      rw [hj] at hv
      generalize vals.getD j undef = v at hv
      cases hv
      have e2 : (cs.set j (.row id 0)).getD j .junk = .row id 0 := by simp [List.getD, hk]
      rw [e2]
      exact .rown id (dom_set id hdid) (by simp [Gh.set])
    · have e2 : (cs.set j (.row id 0)).getD k .junk = cs.getD k .junk := by simp [List.getD, List.getElem?_set_ne hkj]
      rw [e2]
      exact (hc k hk).mono (fun _ _ => ⟨rfl, rfl, rfl⟩) (fun i hi => dom_set i hi) (Mem.le_refl _)
  · rintro i ob b' rfl ho hb'
    rw [hself] at ho
    cases ho
    exact .inr ⟨_, _, rfl, hb1, hb'⟩
  · rintro i i' _ _ _ rfl rfl _ _ _ _; rfl⟩
end Go.Abs
namespace Go.Abs
open Go
variable {P : Program} {env : Env} {σ : St}
mutual
theorem sub_refl : ∀ a : AVal, sub a a
  | .agg cs => by simp only [sub]; exact subL_refl cs
  | .snil => by simp [sub]
  | .pv _ => by simp [sub]
  | .ref .. => by simp [sub]
  | .row .. => by simp [sub]
  | .eref .. => by simp [sub]
  | .map _ => by simp [sub]
  | .tup _ => by simp [sub]
  | .junk => by simp [sub]
theorem subL_refl : ∀ l : List AVal, subL l l
  | [] => trivial
  | a :: r => ⟨sub_refl a, subL_refl r⟩
end
theorem R0c.callE {K : St → Prop} {d : Option Nat} {f : FuncId} {args : Array Operand} {tys : Array TypeId} {gd : Option (Option (Nat × Bool))} {rest : List COp} {vals : List AVal} {res : AVal}
    (hent : ∀ vargs w, (callFunc f vargs).run P w = .ok (.enter f vargs) w) (hargs : args.toList.map (aeval env σ) = vals) (hac : AC P env.gl f vals [] res []) (hg : cguard σ gd = some true)
    (hsc : inScopeL (hasObj []) vals = true) (hres : inScope (hasObj []) res = true)
    (h : W0 P env K rest (σ.app d ⟨res, []⟩)) : R0c P env K (⟨d, .call ⟨.value (.func f), args, tys⟩, gd⟩ :: rest) σ :=
  R0c.callP hac hent hg (by rw [hargs]; exact subL_refl _) (by rw [hargs]; exact hsc) hres h
theorem RDc.callE {K : List (List Nat × List Nat) → St → Prop} {acc : List (List Nat × List Nat)} {d : Option Nat} {f : FuncId} {args : Array Operand} {tys : Array TypeId} {gd : Option (Option (Nat × Bool))} {rest : List COp} {vals : List AVal} {res : AVal}
    (hent : ∀ vargs w, (callFunc f vargs).run P w = .ok (.enter f vargs) w) (hargs : args.toList.map (aeval env σ) = vals) (hac : AC P env.gl f vals [] res []) (hg : cguard σ gd = some true)
    (hsc : inScopeL (hasObj []) vals = true) (hres : inScope (hasObj []) res = true)
    (h : W1 P env K rest (acc ++ [([], [])]) (σ.app d ⟨res, []⟩)) : RDc P env K (⟨d, .call ⟨.value (.func f), args, tys⟩, gd⟩ :: rest) acc σ :=
  RDc.callP hac hent hg (by rw [hargs]; exact subL_refl _) (by rw [hargs]; exact hsc) hres h
end Go.Abs
namespace Go.Abs
open Go
variable {P : Program} {env : Env} {σ : St}

def cv (b : Bool) (v : AVal) : AVal := if b then v else .tup []
theorem cv_true (v : AVal) : cv true v = v := rfl
theorem cv_false (v : AVal) : cv false v = .tup [] := rfl

def gval (v : AVal) (want : Bool) : Option Bool :=
  match v with
  | .pv (.bool b) => some (b == want)
  | .tup [] => some false
  | _ => none
theorem cguard_none : cguard σ none = some true := rfl
theorem cguard_tmp (t : Nat) (want : Bool) : cguard σ (some (some (t, want))) = gval (σ.slot t) want := rfl
theorem gval_bool (b want : Bool) : gval (.pv (.bool b)) want = some (b == want) := rfl
theorem gval_tup (want : Bool) : gval (.tup []) want = some false := rfl
theorem gval_cv (b y want : Bool) : gval (cv b (.pv (.bool y))) want = some (b && (y == want)) := by cases b <;> rfl
theorem pickOr (t x : Bool) : (if t = true then AVal.pv (.bool true) else cv (!t) (.pv (.bool x))) = .pv (.bool (t || x)) := by cases t <;> rfl
theorem pickAnd (t x : Bool) : (if t = true then cv t (.pv (.bool x)) else AVal.pv (.bool false)) = .pv (.bool (t && x)) := by cases t <;> rfl

theorem WG_spec {K : St → Prop} {b : Bool} {c : COp} {rest : List COp} {v : AVal} (hc : isCall c.op = false) (h : b = true → aop env c.dst (aeval env σ) σ.obj c.op = some ⟨v, []⟩)
    (k : W0 P env K rest (σ.app c.dst ⟨cv b v, []⟩)) : WG P env K (some b) c rest σ := by
  cases b
  · exact k
  · rw [WG_true, hc, if_neg (by simp), h rfl]; exact k
theorem XG_spec {K : List (List Nat × List Nat) → St → Prop} {b : Bool} {c : COp} {rest : List COp} {acc : List (List Nat × List Nat)} {v : AVal} (hc : isCall c.op = false) (h : b = true → aop env c.dst (aeval env σ) σ.obj c.op = some ⟨v, []⟩)
    (ht : b = true → atgt env c.dst (aeval env σ) c.op = []) (k : W1 P env K rest (acc ++ [([], [])]) (σ.app c.dst ⟨cv b v, []⟩)) : XG P env K (some b) c rest acc σ := by
  cases b
  · exact k
  · rw [XG_true, hc, if_neg (by simp), h rfl, ht rfl]; exact k
theorem WG_callE {K : St → Prop} {b : Bool} {d : Option Nat} {f : FuncId} {args : Array Operand} {tys : Array TypeId} {gd : Option (Option (Nat × Bool))} {rest : List COp} {vals : List AVal} {res : AVal}
    (hent : ∀ vargs w, (callFunc f vargs).run P w = .ok (.enter f vargs) w) (hargs : b = true → args.toList.map (aeval env σ) = vals) (hac : b = true → AC P env.gl f vals [] res []) (hg : b = true → cguard σ gd = some true)
    (hsc : inScopeL (hasObj []) vals = true) (hres : inScope (hasObj []) res = true)
    (h : W0 P env K rest (σ.app d ⟨cv b res, []⟩)) : WG P env K (some b) ⟨d, .call ⟨.value (.func f), args, tys⟩, gd⟩ rest σ := by
  cases b
  · exact h
  · rw [WG_true, if_pos (show isCall (COp.mk d (.call ⟨.value (.func f), args, tys⟩) gd).op = true from rfl)]
    exact R0c.callE hent (hargs rfl) (hac rfl) (hg rfl) hsc hres h
theorem XG_callE {K : List (List Nat × List Nat) → St → Prop} {b : Bool} {acc : List (List Nat × List Nat)} {d : Option Nat} {f : FuncId} {args : Array Operand} {tys : Array TypeId} {gd : Option (Option (Nat × Bool))} {rest : List COp} {vals : List AVal} {res : AVal}
    (hent : ∀ vargs w, (callFunc f vargs).run P w = .ok (.enter f vargs) w) (hargs : b = true → args.toList.map (aeval env σ) = vals) (hac : b = true → AC P env.gl f vals [] res []) (hg : b = true → cguard σ gd = some true)
    (hsc : inScopeL (hasObj []) vals = true) (hres : inScope (hasObj []) res = true)
    (h : W1 P env K rest (acc ++ [([], [])]) (σ.app d ⟨cv b res, []⟩)) : XG P env K (some b) ⟨d, .call ⟨.value (.func f), args, tys⟩, gd⟩ rest acc σ := by
  cases b
  · exact h
  · rw [XG_true, if_pos (show isCall (COp.mk d (.call ⟨.value (.func f), args, tys⟩) gd).op = true from rfl)]
    exact RDc.callE hent (hargs rfl) (hac rfl) (hg rfl) hsc hres h
end Go.Abs
namespace Go.Abs
open Go
mutual
def nz : AVal → AVal
  | .snil => .pv (.slice [])
  | .agg cs => .agg (nzL cs)
  | .pv p => .pv p
  | .ref i o => .ref i o
  | .row i n => .row i n
  | .eref i a b c => .eref i a b c
  | .map i => .map i
  | .tup vs => .tup vs
  | .junk => .junk
def nzL : List AVal → List AVal
  | [] => []
  | a :: r => nz a :: nzL r
end
def nzO : Option AObj → Option AObj
  | some (.cells cs) => some (.cells (nzL cs))
  | o => o
def nzOs : List (Option AObj) → List (Option AObj)
  | [] => []
  | o :: r => nzO o :: nzOs r
def St.nz (σ : St) : St := ⟨nzL σ.slots, nzOs σ.objs⟩

theorem nzL_length : ∀ l : List AVal, (nzL l).length = l.length
  | [] => rfl
  | _ :: r => by simp [nzL, nzL_length r]
theorem nzL_get : ∀ (l : List AVal) (i : Nat), (nzL l).getD i .junk = Abs.nz (l.getD i .junk)
  | [], i => by simp [nzL, List.getD, Abs.nz]
  | a :: r, 0 => by simp [nzL, List.getD]
  | a :: r, i + 1 => by have := nzL_get r i; simpa [nzL, List.getD] using this
theorem nzOs_length : ∀ l : List (Option AObj), (nzOs l).length = l.length
  | [] => rfl
  | _ :: r => by simp [nzOs, nzOs_length r]
theorem nzOs_get : ∀ (l : List (Option AObj)) (i : Nat), (nzOs l).getD i none = nzO (l.getD i none)
  | [], i => by simp [nzOs, List.getD, nzO]
  | a :: r, 0 => by simp [nzOs, List.getD]
  | a :: r, i + 1 => by have := nzOs_get r i; simpa [nzOs, List.getD] using this

theorem V.nz {g : Gh} {D : Nat → Prop} {M : Mem} {a : AVal} {v : Value} (h : V g D M a v) : V g D M (Abs.nz a) v := by
  induction h with
  | snil => exact .pv .nils
  | agg cs vs hl _ ih => exact .agg _ vs (by rw [nzL_length]; exact hl) (fun i hi => by rw [nzL_length] at hi; rw [nzL_get]; exact ih i hi)
  | pv r => exact .pv r
  | ref id off hd => exact .ref id off hd
  | row id n hd hn => exact .row id n hd hn
  | rown id hd hn => exact .rown id hd hn
  | eref id i j sz hd => exact .eref id i j sz hd
  | map id hd => exact .map id hd
  | tup cs vs hl h _ => exact .tup cs vs hl h
  | junk v => exact .junk v

variable {env : Env} {pin : Nat} {σ : St}
theorem nz_obj (id : Nat) : σ.nz.obj id = nzO (σ.obj id) := nzOs_get _ _
theorem nz_some {id : Nat} {o : AObj} (h : σ.nz.obj id = some o) : ∃ o', σ.obj id = some o' ∧ nzO (some o') = some o := by
  rw [nz_obj] at h
  cases ho : σ.obj id with
  | none => rw [ho] at h; simp [nzO] at h
  | some o' => rw [ho] at h; exact ⟨o', rfl, h⟩
theorem nz_owns {g : Gh} {id : Nat} {o o' : AObj} (h : nzO (some o') = some o) : owns g id o = owns g id o' := by
  cases o' <;> simp [nzO] at h <;> subst h <;> rfl
theorem Weak.nz : Weak env pin σ σ.nz := fun hl => ⟨by simp [St.nz, nzOs_length, hl], fun E g M a w hR => by
  have hdom : ∀ id, σ.dom id → σ.nz.dom id := fun id h => by
    unfold St.dom at *
    rw [nz_obj]
    cases ho : σ.obj id with
    | none => exact absurd ho h
    | some o => cases o <;> simp [nzO]
  refine ⟨g, M, ⟨by simp [St.nz, nzL_length, hR.size], hR.defers, ?_, ?_, ?_, ?_, hR.sat, hR.M0, hR.Mnew, hR.size0, hR.same, ?_, hR.os, hR.tape, hR.output⟩, Mem.le_refl _, fun k hk hd => ⟨⟨rfl, rfl, rfl⟩, hdom k hd⟩⟩
  · intro i hi
    have e : σ.nz.slot i = Abs.nz (σ.slot i) := nzL_get _ _
    rw [e]
    exact ((hR.slots i (by simpa [St.nz, nzL_length] using hi)).nz).mono (fun _ _ => ⟨rfl, rfl, rfl⟩) hdom (Mem.le_refl _)
  · intro id o ho
    obtain ⟨o', ho', he⟩ := nz_some ho
    have hor := hR.objs id o' ho'
    cases o' with
    | cells cs =>
      simp [nzO] at he
      subst he
      obtain ⟨vals, T, h1, h2, h3⟩ := hor
      refine ⟨vals, T, h1, by rw [nzL_length]; exact h2, fun j hj => ?_⟩
      rw [nzL_length] at hj
      rw [nzL_get]
      exact ((h3 j hj).nz).mono (fun _ _ => ⟨rfl, rfl, rfl⟩) hdom (Mem.le_refl _)
    | row sz xs => simp [nzO] at he; subst he; exact hor
    | map kd es =>
      simp [nzO] at he; subst he
      obtain ⟨ents, clock, h1, h2, h3⟩ := hor
      refine ⟨ents, clock, h1, h2, fun i e hi => ?_⟩
      obtain ⟨en, a1, a2, a3, a4⟩ := h3 i e hi
      exact ⟨en, a1, a2, a3, a4.mono (fun _ _ => ⟨rfl, rfl, rfl⟩) hdom (Mem.le_refl _)⟩
    | dead => simp [nzO] at he; subst he; trivial
  · intro id id' o o' b h1 h2 h3 h4
    obtain ⟨p, hp, hpe⟩ := nz_some h1
    obtain ⟨q, hq, hqe⟩ := nz_some h2
    exact hR.apart id id' p q b hp hq (by rw [← nz_owns hpe]; exact h3) (by rw [← nz_owns hqe]; exact h4)
  · intro id o b h1 h2
    obtain ⟨p, hp, hpe⟩ := nz_some h1
    exact hR.offM id p b hp (by rw [← nz_owns hpe]; exact h2)
  · intro id o b h1 h2
    obtain ⟨p, hp, hpe⟩ := nz_some h1
    exact hR.own0 id p b hp (by rw [← nz_owns hpe]; exact h2)⟩
end Go.Abs
namespace Go.Abs
open Go
variable {P : Program} {env : Env} {pin : Nat} {σ : St} {Q : Exit → St → Prop}
abbrev Tr := List (List Nat × List Nat)
def leP (a b : List Nat × List Nat) : Prop := a = b ∨ (a = ([], []) ∧ b.2 = [])
def leA (l l' : Tr) : Prop := l.length = l'.length ∧ ∀ k, leP (pairAt l k) (pairAt l' k)
def Mono (K : Tr → St → Prop) : Prop := ∀ l l' σ, leA l l' → K l' σ → K l σ

theorem meets_nil_l (l : List Nat) : meets [] l = false := by simp [meets]
theorem meets_nil_r (l : List Nat) : meets l [] = false := by simp [meets]
theorem clashT_mono {ops : Array Oper} {oi oj : Oper} {a b a' b' : List Nat × List Nat} (ha : leP a a') (hb : leP b b') (h : clashT ops oi oj a' b' = false) : clashT ops oi oj a b = false := by
  unfold clashT at *
  rcases ha with rfl | ⟨rfl, h1⟩
  · rcases hb with rfl | ⟨rfl, h2⟩
    · exact h
    · simp only [meets_nil_r, Bool.false_and, Bool.or_false]
      simp only [Bool.or_eq_false_iff] at h
      exact h.1
  · simp only [meets_nil_l, Bool.false_and, Bool.or_false]
    simp only [Bool.or_eq_false_iff] at h
    exact h.1
theorem regT_mono {ops : Array Oper} {A : Nat → List Nat} {l l' : Tr} (hl : leA l l') (h : regT ops A (pairAt l') = true) : regT ops A (pairAt l) = true := by
  unfold regT at *
  rw [List.all_eq_true] at *
  intro k hk
  have := h k hk
  cases ho : ops[k]? with
  | none => rw [ho] at this; exact this
  | some o =>
    rw [ho] at this
    simp only [Bool.and_eq_true] at this ⊢
    obtain ⟨⟨⟨h1, h2⟩, h3⟩, h4⟩ := this
    refine ⟨⟨⟨h1, ?_⟩, h3⟩, ?_⟩
    · rcases hl.2 k with e | ⟨e, _⟩
      · rw [e]; exact h2
      · rw [e]; rfl
    · rw [List.all_eq_true] at *
      intro i hi
      have := h4 i hi
      simp only [Bool.or_eq_true] at this ⊢
      rcases this with h5 | h5
      · exact .inl h5
      · right
        cases hoi : ops[i]? with
        | none => rw [hoi] at h5; exact h5
        | some oi =>
          rw [hoi] at h5
          simp only [Bool.not_eq_true'] at h5 ⊢
          exact clashT_mono (hl.2 i) (hl.2 k) h5
theorem pairAt_snoc (l : Tr) (x : List Nat × List Nat) (k : Nat) : pairAt (l ++ [x]) k = if k < l.length then pairAt l k else if k = l.length then x else ([], []) := by
  unfold pairAt
  simp only [List.getD, List.getElem?_append]
  split
  · rfl
  · split
    · rename_i h; subst h; simp
    · rename_i h1 h2
      have : k - l.length ≠ 0 := by omega
      obtain ⟨m, hm⟩ := Nat.exists_eq_succ_of_ne_zero this
      rw [hm]; simp
theorem leA_snoc {l l' : Tr} (h : leA l l') {x y : List Nat × List Nat} (hx : leP x y) : leA (l ++ [x]) (l' ++ [y]) := by
  refine ⟨by simp [h.1], fun k => ?_⟩
  rw [pairAt_snoc, pairAt_snoc, h.1]
  split
  · exact h.2 k
  · split
    · exact hx
    · exact .inl rfl
theorem leA_refl (l : Tr) : leA l l := ⟨rfl, fun _ => .inl rfl⟩
theorem RDc_mono {K : Tr → St → Prop} (hm : Mono K) : ∀ (rest : List COp) (acc acc' : Tr) (σ : St), leA acc acc' → RDc P env K rest acc' σ → RDc P env K rest acc σ
  | [], acc, acc', σ, hl, h => hm acc acc' σ hl h
  | c :: rest, acc, acc', σ, hl, ⟨T, e, h1, h2⟩ => ⟨T, e, h1, RDc_mono hm rest _ _ _ (leA_snoc hl (.inl rfl)) h2⟩
theorem W1_mono {K : Tr → St → Prop} (hm : Mono K) : ∀ (rest : List COp) (acc acc' : Tr) (σ : St), leA acc acc' → W1 P env K rest acc' σ → W1 P env K rest acc σ
  | [], acc, acc', σ, hl, h => hm acc acc' σ hl h
  | c :: rest, acc, acc', σ, hl, h => by
    simp only [W1] at h ⊢
    split at h
    · rename_i hg
      split at h
      · rename_i hcall
        simp only [hcall, if_true]
        exact RDc_mono hm _ _ _ _ hl h
      · rename_i hcall
        simp only [hcall, Bool.false_eq_true, if_false]
        split at h
        · rename_i e he
          exact W1_mono hm rest _ _ _ (leA_snoc hl (.inl rfl)) h
        · exact h.elim
    · exact W1_mono hm rest _ _ _ (leA_snoc hl (.inl rfl)) h
    · exact h.elim
theorem XG_specM {K : Tr → St → Prop} {b : Bool} {c : COp} {rest : List COp} {acc : Tr} {v : AVal} {T : List Nat} (hm : Mono K) (hc : isCall c.op = false) (h : b = true → aop env c.dst (aeval env σ) σ.obj c.op = some ⟨v, []⟩)
    (ht : b = true → atgt env c.dst (aeval env σ) c.op = T) (k : W1 P env K rest (acc ++ [(T, [])]) (σ.app c.dst ⟨cv b v, []⟩)) : XG P env K (some b) c rest acc σ := by
  cases b
  · exact W1_mono hm rest _ _ _ (leA_snoc (leA_refl _) (.inr ⟨rfl, rfl⟩)) k
  · rw [XG_true, hc, if_neg (by simp), h rfl, ht rfl]; exact k
theorem SW.rdm (hE : EnvOK P env) (hm : P.follows .mixedOrders = true) {id : Nat} {ops : Array Oper} (h : ∀ K : Tr → St → Prop, (∀ tr σ', regT ops (anc ops) (pairAt tr) = true → Q .normal σ' → K tr σ') → Mono K → W1 P env K (compL ops.toList ops.toList) [] σ) : SW P env pin (.region id ops true) σ Q :=
  SW.drawn hE hm (RDc.to _ _ _ (W1.to _ _ _ (h _ (fun _ _ h1 h2 => ⟨h1, h2⟩) (fun _ _ _ hl ⟨h1, h2⟩ => ⟨regT_mono hl h1, h2⟩))))
end Go.Abs
namespace Go.Abs
open Go
variable {P : Program} {env : Env} {σ : St}
def invI : List Nat → Nat → Nat
  | [], _ => 0
  | i :: r, k => if k = i then 0 else invI r k + 1
def renOs (ι : Nat → Nat) : List (Option AObj) → List (Option AObj)
  | [] => []
  | o :: r => o.map (renO ι) :: renOs ι r
theorem renOs_map (ι : Nat → Nat) : ∀ l : List (Option AObj), renOs ι l = l.map (Option.map (renO ι))
  | [] => rfl
  | o :: r => by simp [renOs, renOs_map ι r]
def allS (n : Nat → Bool) : List (Option AObj) → Bool
  | [] => true
  | none :: r => allS n r
  | some o :: r => inScopeO n o && allS n r
theorem allS_get (n : Nat → Bool) : ∀ (l : List (Option AObj)) (o : AObj), allS n l = true → some o ∈ l → inScopeO n o = true
  | [], o, _, h => by simp at h
  | none :: r, o, h, hm => by simp at hm; exact allS_get n r o h hm
  | some x :: r, o, h, hm => by
    simp only [allS, Bool.and_eq_true] at h
    rcases List.mem_cons.1 hm with e | hm
    · cases e; exact h.1
    · exact allS_get n r o h.2 hm
def freshB (σ : St) : List Nat → Bool
  | [] => true
  | i :: r => (σ.obj i).isNone && freshB σ r
theorem freshB_get : ∀ (l : List Nat) (i : Nat), freshB σ l = true → i ∈ l → σ.obj i = none
  | [], i, _, h => by simp at h
  | x :: r, i, h, hm => by
    simp only [freshB, Bool.and_eq_true, Option.isNone_iff_eq_none] at h
    rcases List.mem_cons.1 hm with rfl | hm
    · exact h.1
    · exact freshB_get r i h.2 hm
theorem fits {o : Oper} {f : FuncId} {args : Array Operand} {A vals : List AVal} {O vobjs : List (Option AObj)} {objs' : List (Option AObj)} (ids news : List Nat) {tys : Array TypeId}
    (ho : o.op = .call ⟨.value (.func f), args, tys⟩) (hent : ∀ vargs w, (callFunc f vargs).run P w = .ok (.enter f vargs) w) (hargs : args.toList.map (aeval env σ) = A) (hobjs : ids.map σ.obj = O)
    (hA : renL (tau (ids ++ news)) vals = A) (hO : renOs (tau (ids ++ news)) vobjs = O) (hsA : inScopeL (hasObj vobjs) vals = true) (hsO : allS (hasObj vobjs) vobjs = true)
    (hn : ((ids ++ news).Nodup ∧ ∀ id ∈ ids ++ news, id < env.nobj)) (hf : freshB σ news = true) (hl : objs'.length ≤ (ids ++ news).length) :
    CallFits P env σ o f args vals vobjs ids news objs' :=
  ⟨⟨tys, ho⟩, hent, by rw [hargs]; exact hA.symm, by rw [hobjs]; rw [← hO, renOs_map]; rfl, hsA, fun ob h => allS_get _ _ ob hsO h, hn.1, hn.2, fun id h => freshB_get _ id hf h, hl⟩
theorem R0c.callOE {K : St → Prop} {d : Option Nat} {f : FuncId} {args : Array Operand} {tys : Array TypeId} {gd : Option (Option (Nat × Bool))} {rest : List COp} {A vals : List AVal} {O vobjs : List (Option AObj)} {res : AVal} {objs' : List (Option AObj)} (ids news : List Nat)
    (hent : ∀ vargs w, (callFunc f vargs).run P w = .ok (.enter f vargs) w) (hargs : args.toList.map (aeval env σ) = A) (hv : renL (invI ids) A = vals) (hobjs : ids.map σ.obj = O) (hvo : renOs (invI ids) O = vobjs)
    (hac : AC P env.gl f vals vobjs res objs') (hg : cguard σ gd = some true) (hA : renL (tau (ids ++ news)) vals = A) (hO : renOs (tau (ids ++ news)) vobjs = O) (hsA : inScopeL (hasObj vobjs) vals = true) (hsO : allS (hasObj vobjs) vobjs = true)
    (hn : ((ids ++ news).Nodup ∧ ∀ id ∈ ids ++ news, id < env.nobj)) (hf : freshB σ news = true) (hl : objs'.length ≤ (ids ++ news).length)
    (h : W0 P env K rest (σ.app d ⟨ren (tau (ids ++ news)) res, callUpd (tau (ids ++ news)) (ids ++ news) 0 objs'⟩)) : R0c P env K (⟨d, .call ⟨.value (.func f), args, tys⟩, gd⟩ :: rest) σ :=
  R0c.callO ids news hac hg (fun _ ho => fits ids news ho hent hargs hobjs hA hO hsA hsO hn hf hl) h
theorem RDc.callOE {K : Tr → St → Prop} {acc : Tr} {d : Option Nat} {f : FuncId} {args : Array Operand} {tys : Array TypeId} {gd : Option (Option (Nat × Bool))} {rest : List COp} {A vals : List AVal} {O vobjs : List (Option AObj)} {res : AVal} {objs' : List (Option AObj)} (ids news : List Nat)
    (hent : ∀ vargs w, (callFunc f vargs).run P w = .ok (.enter f vargs) w) (hargs : args.toList.map (aeval env σ) = A) (hv : renL (invI ids) A = vals) (hobjs : ids.map σ.obj = O) (hvo : renOs (invI ids) O = vobjs)
    (hac : AC P env.gl f vals vobjs res objs') (hg : cguard σ gd = some true) (hA : renL (tau (ids ++ news)) vals = A) (hO : renOs (tau (ids ++ news)) vobjs = O) (hsA : inScopeL (hasObj vobjs) vals = true) (hsO : allS (hasObj vobjs) vobjs = true)
    (hn : ((ids ++ news).Nodup ∧ ∀ id ∈ ids ++ news, id < env.nobj)) (hf : freshB σ news = true) (hl : objs'.length ≤ (ids ++ news).length)
    (h : W1 P env K rest (acc ++ [(ids ++ news, (callUpd (tau (ids ++ news)) (ids ++ news) 0 objs').map Prod.fst)]) (σ.app d ⟨ren (tau (ids ++ news)) res, callUpd (tau (ids ++ news)) (ids ++ news) 0 objs'⟩)) : RDc P env K (⟨d, .call ⟨.value (.func f), args, tys⟩, gd⟩ :: rest) acc σ :=
  RDc.callO ids news hac hg (fun _ ho => fits ids news ho hent hargs hobjs hA hO hsA hsO hn hf hl) h
end Go.Abs
namespace Go.Abs
open Go
variable {P : Program} {env : Env} {pin : Nat} {σ : St} {Q : Exit → St → Prop}

def SC (P : Program) (env : Env) (pin : Nat) (v : AVal) (x y : Code) (σ : St) (Q : Exit → St → Prop) : Prop :=
  ∃ b, v = .pv (.bool b) ∧ (b = true → SW P env pin x σ Q) ∧ (b = false → SW P env pin y σ Q)
@[congr] theorem SC_congr {v v' : AVal} {x y : Code} (h : v = v') : SC P env pin v x y σ Q = SC P env pin v' x y σ Q := by rw [h]
theorem SC_true (x y : Code) : SC P env pin (.pv (.bool true)) x y σ Q = SW P env pin x σ Q := by
  unfold SC
  exact propext ⟨fun ⟨b, h, h1, _⟩ => h1 (by cases h; rfl), fun h => ⟨true, rfl, fun _ => h, fun h => by cases h⟩⟩
theorem SC_false (x y : Code) : SC P env pin (.pv (.bool false)) x y σ Q = SW P env pin y σ Q := by
  unfold SC
  exact propext ⟨fun ⟨b, h, _, h2⟩ => h2 (by cases h; rfl), fun h => ⟨false, rfl, fun h => (by cases h), fun _ => h⟩⟩
theorem SC_split {b : Bool} {x y : Code} (h1 : b = true → SW P env pin x σ Q) (h2 : b = false → SW P env pin y σ Q) : SC P env pin (.pv (.bool b)) x y σ Q := ⟨b, rfl, h1, h2⟩
theorem SW.condC {c : Operand} {x y : Code} (h : SC P env pin (aeval env σ c) x y σ Q) : SW P env pin (.cond c x y) σ Q := by
  obtain ⟨b, hb, h1, h2⟩ := h
  exact SW.cond hb h1 h2

theorem W0id {K : St → Prop} {l : List COp} (h : W0 P env K l σ) : W0 P env K l σ := h
theorem W1id {K : Tr → St → Prop} {l : List COp} {acc : Tr} (h : W1 P env K l acc σ) : W1 P env K l acc σ := h
theorem WGid {K : St → Prop} {b : Option Bool} {c : COp} {rest : List COp} (h : WG P env K b c rest σ) : WG P env K b c rest σ := h
theorem XGid {K : Tr → St → Prop} {b : Option Bool} {c : COp} {rest : List COp} {acc : Tr} (h : XG P env K b c rest acc σ) : XG P env K b c rest acc σ := h
theorem WEid {K : St → Prop} {r : Option Eff} {d : Option Nat} {rest : List COp} (h : WE P env K r d rest σ) : WE P env K r d rest σ := h
theorem XEid {K : Tr → St → Prop} {r : Option Eff} {T : List Nat} {d : Option Nat} {rest : List COp} {acc : Tr} (h : XE P env K r T d rest acc σ) : XE P env K r T d rest acc σ := h
theorem SCid {v : AVal} {x y : Code} (h : SC P env pin v x y σ Q) : SC P env pin v x y σ Q := h
theorem EQid {α : Type} {a b : α} (h : a = b) : a = b := h
theorem LEid {a b : Nat} (h : a ≤ b) : a ≤ b := h
theorem IMid {b : Bool} {p : Prop} (h : b = true → p) : b = true → p := h
theorem NDid {l : List Nat} {n : Nat} (h : l.Nodup ∧ ∀ id ∈ l, id < n) : l.Nodup ∧ ∀ id ∈ l, id < n := h
theorem XG_spec2 {K : Tr → St → Prop} {b : Bool} {c : COp} {rest : List COp} {acc : Tr} {v : AVal} {T : List Nat} (hm : Mono K) (hc : isCall c.op = false) (h : b = true → aop env c.dst (aeval env σ) σ.obj c.op = some ⟨v, []⟩ ∧ atgt env c.dst (aeval env σ) c.op = T)
    (k : W1 P env K rest (acc ++ [(T, [])]) (σ.app c.dst ⟨cv b v, []⟩)) : XG P env K (some b) c rest acc σ := XG_specM hm hc (fun hb => (h hb).1) (fun hb => (h hb).2) k

theorem TQn {N : St → Prop} (h : N σ) : thenQ N Q .normal σ := h
theorem TQe {N : St → Prop} {id : Nat} (h : Q (.exit id) σ) : thenQ N Q (.exit id) σ := h
theorem TQr {N : St → Prop} (h : Q .ret σ) : thenQ N Q .ret σ := h
theorem BQn {id : Nat} (h : Q .normal σ) : blockQ id Q .normal σ := h
theorem BQr {id : Nat} (h : Q .ret σ) : blockQ id Q .ret σ := h
theorem BQs {id : Nat} (h : Q .normal σ) : blockQ id Q (.exit id) σ := by simp only [blockQ, if_true]; exact h
theorem BQx {id id' : Nat} (hn : id' ≠ id) (h : Q (.exit id') σ) : blockQ id Q (.exit id') σ := by simp only [blockQ, if_neg hn]; exact h

def kv1 := And.intro @W0_nil <| And.intro @W0_cons <| And.intro @WG_true <| And.intro @WG_false <| And.intro @WE_some <| And.intro @WE_ite <| And.intro @WE_ite' <| @W1_nil
def kv2 := And.intro @W1_cons <| And.intro @XG_true <| And.intro @XG_false <| And.intro @XE_some <| And.intro @XE_ite <| And.intro @XE_ite' <| And.intro @SC_true <| @SC_false
def kv3 := And.intro @cguard_none <| And.intro @cguard_tmp <| And.intro @gval_bool <| And.intro @gval_tup <| And.intro @gval_cv <| And.intro @cv_true <| And.intro @cv_false <| @pickOr
def kv4 := And.intro @pickAnd <| And.intro @map_ite <| And.intro @map_ite' <| And.intro @List.set_cons_zero.{0} <| And.intro @List.set_cons_succ.{0} <| And.intro @List.getD_cons_zero.{0} <| And.intro @List.getD_cons_succ.{0} <| @List.foldl_cons.{0,0}
def kv5 := And.intro @List.foldl_nil.{0,0} <| And.intro @List.map_cons.{0,0} <| And.intro @List.map_nil.{0,0} <| And.intro @List.all_cons.{0} <| And.intro @List.all_nil.{0} <| And.intro @List.take_succ_cons.{0} <| And.intro @List.take_zero.{0} <| @List.drop_succ_cons.{0}
def kv6 := And.intro @List.drop_zero.{0} <| And.intro @List.length_cons.{0} <| And.intro @List.length_nil.{0} <| And.intro @List.length_map.{0,0} <| And.intro @List.nil_append.{0} <| And.intro @List.cons_append.{0} <| And.intro @List.append_nil.{0} <| @List.getElem?_cons_zero.{0}
def kv7 := And.intro @List.getElem?_cons_succ.{0} <| And.intro @List.size_toArray.{0} <| And.intro @Option.bind_some.{0,0} <| And.intro @Option.map_some.{0,0} <| And.intro @Option.map_none.{0,0} <| And.intro @Option.getD_some.{0} <| And.intro @Bool.and_self <| @Bool.and_true
def kv8 := And.intro @Bool.true_and <| And.intro @Bool.not_true <| And.intro @Bool.not_false <| And.intro @Int.toNat_natCast <| And.intro @Nat.zero_add <| And.intro @Nat.add_zero <| And.intro @Nat.zero_mul <| @Nat.one_mul
def kv9 := And.intro @cast0 <| And.intro @Int.cast_ofNat_Int <| And.intro @beq_true <| And.intro @beq_false <| And.intro and_self <| And.intro and_true <| And.intro true_and <| true_or
def kv10 := And.intro or_true <| And.intro @if_true.{1} <| And.intro @if_false.{1} <| And.intro @ite_self.{1} <| And.intro Bool.false_eq_true <| And.intro @eq_self.{1} <| And.intro @beq_self_eq_true.{0} <| Nat.lt_irrefl
def kv11 := And.intro @ne_eq.{1} <| And.intro not_true_eq_false <| And.intro not_false_eq_true <| And.intro @decide_true <| And.intro @decide_false <| And.intro Nat.succ_ne_self <| Int.natCast_nonneg
end Go.Abs
namespace Go.Abs
open Go

structure VarD where
  name : List UInt8
  size : Int
  init : Int
def encVar (v : VarD) : List PVal := [.str v.name, .int .i64 v.size, .int .i64 v.init]
theorem encVar_length (v : VarD) : (encVar v).length = 3 := rfl

inductive Ex where
  | mk (op value : Int) (name : List UInt8) (slot size : Int) (args : List Ex)
def Ex.op : Ex → Int | .mk a _ _ _ _ _ => a
def Ex.value : Ex → Int | .mk _ a _ _ _ _ => a
def Ex.name : Ex → List UInt8 | .mk _ _ a _ _ _ => a
def Ex.slot : Ex → Int | .mk _ _ _ a _ _ => a
def Ex.size : Ex → Int | .mk _ _ _ _ a _ => a
def Ex.args : Ex → List Ex | .mk _ _ _ _ _ a => a
mutual
def encEx : Ex → List PVal
  | .mk op value name slot size args => [.int .i64 op, .int .i64 value, .str name, .int .i64 slot, .int .i64 size, .slice (encExs args)]
def encExs : List Ex → List (List PVal)
  | [] => []
  | e :: r => encEx e :: encExs r
end
theorem encExs_map : ∀ l : List Ex, encExs l = l.map encEx
  | [] => by simp [encExs]
  | e :: r => by simp [encExs, encExs_map r]
theorem encEx_eq (e : Ex) : encEx e = [.int .i64 e.op, .int .i64 e.value, .str e.name, .int .i64 e.slot, .int .i64 e.size, .slice (e.args.map encEx)] := by
  cases e; simp [encEx, encExs_map, Ex.op, Ex.value, Ex.name, Ex.slot, Ex.size, Ex.args]
theorem encEx_length (e : Ex) : (encEx e).length = 6 := by rw [encEx_eq]; rfl

inductive Sm where
  | mk (kind : Int) (name : List UInt8) (slot size : Int) (place value : Ex) (body els : List Sm)
def Sm.kind : Sm → Int | .mk a _ _ _ _ _ _ _ => a
def Sm.name : Sm → List UInt8 | .mk _ a _ _ _ _ _ _ => a
def Sm.slot : Sm → Int | .mk _ _ a _ _ _ _ _ => a
def Sm.size : Sm → Int | .mk _ _ _ a _ _ _ _ => a
def Sm.place : Sm → Ex | .mk _ _ _ _ a _ _ _ => a
def Sm.value : Sm → Ex | .mk _ _ _ _ _ a _ _ => a
def Sm.body : Sm → List Sm | .mk _ _ _ _ _ _ a _ => a
def Sm.els : Sm → List Sm | .mk _ _ _ _ _ _ _ a => a
mutual
def encSm : Sm → List PVal
  | .mk kind name slot size place value body els => [.int .i64 kind, .str name, .int .i64 slot, .int .i64 size] ++ encEx place ++ encEx value ++ [.slice (encSms body), .slice (encSms els)]
def encSms : List Sm → List (List PVal)
  | [] => []
  | e :: r => encSm e :: encSms r
end
theorem encSms_map : ∀ l : List Sm, encSms l = l.map encSm
  | [] => by simp [encSms]
  | e :: r => by simp [encSms, encSms_map r]
theorem encSm_eq (s : Sm) : encSm s = [.int .i64 s.kind, .str s.name, .int .i64 s.slot, .int .i64 s.size,
    .int .i64 s.place.op, .int .i64 s.place.value, .str s.place.name, .int .i64 s.place.slot, .int .i64 s.place.size, .slice (s.place.args.map encEx),
    .int .i64 s.value.op, .int .i64 s.value.value, .str s.value.name, .int .i64 s.value.slot, .int .i64 s.value.size, .slice (s.value.args.map encEx),
    .slice (s.body.map encSm), .slice (s.els.map encSm)] := by
  cases s; simp [encSm, encSms_map, encEx_eq, Sm.kind, Sm.name, Sm.slot, Sm.size, Sm.place, Sm.value, Sm.body, Sm.els]
theorem encSm_length (s : Sm) : (encSm s).length = 18 := by rw [encSm_eq]; rfl

abbrev mx := imax
mutual
def szE : Ex → Nat
  | .mk _ _ _ _ _ args => 1 + szEs args
def szEs : List Ex → Nat
  | [] => 0
  | e :: r => szE e + szEs r
end
theorem szE_eq (e : Ex) : szE e = 1 + szEs e.args := by cases e; rfl
theorem szE_pos (e : Ex) : 1 ≤ szE e := by rw [szE_eq]; omega
theorem szEs_len : ∀ l : List Ex, l.length ≤ szEs l
  | [] => by simp
  | e :: r => by have := szEs_len r; have := szE_pos e; simp only [szEs, List.length_cons]; omega
theorem szEs_mem : ∀ (l : List Ex) (e : Ex), e ∈ l → szE e ≤ szEs l
  | [], _, h => by cases h
  | x :: r, e, h => by
    simp only [szEs]
    rcases List.mem_cons.1 h with rfl | h
    · omega
    · have := szEs_mem r e h; omega
mutual
def szS : Sm → Nat
  | .mk _ _ _ _ place value body els => 1 + szE place + szE value + szSs body + szSs els
def szSs : List Sm → Nat
  | [] => 0
  | e :: r => szS e + szSs r
end
theorem szS_eq (s : Sm) : szS s = 1 + szE s.place + szE s.value + szSs s.body + szSs s.els := by cases s; rfl
theorem szS_pos (s : Sm) : 1 ≤ szS s := by rw [szS_eq]; omega
theorem szSs_len : ∀ l : List Sm, l.length ≤ szSs l
  | [] => by simp
  | e :: r => by have := szSs_len r; have := szS_pos e; simp only [szSs, List.length_cons]; omega
theorem szSs_mem : ∀ (l : List Sm) (e : Sm), e ∈ l → szS e ≤ szSs l
  | [], _, h => by cases h
  | x :: r, e, h => by
    simp only [szSs]
    rcases List.mem_cons.1 h with rfl | h
    · omega
    · have := szSs_mem r e h; omega
mutual
def depE : Ex → Int
  | .mk _ _ _ _ _ args => 1 + depEs 0 args
def depEs : Int → List Ex → Int
  | d, [] => d
  | d, e :: r => depEs (mx d (depE e)) r
end
theorem depE_eq (e : Ex) : depE e = 1 + depEs 0 e.args := by cases e; rfl
mutual
theorem depE_pos : ∀ e : Ex, 1 ≤ depE e
  | .mk _ _ _ _ _ args => by simp only [depE]; have := depEs_le 0 args; omega
theorem depEs_le : ∀ (d : Int) (l : List Ex), d ≤ depEs d l
  | d, [] => by simp [depEs]
  | d, e :: r => by
    have h1 := depEs_le (mx d (depE e)) r
    have h2 : d ≤ mx d (depE e) := by unfold mx imax; split <;> omega
    simp only [depEs]; omega
end
theorem depEs_mem : ∀ (l : List Ex) (d : Int) (e : Ex), e ∈ l → depE e ≤ depEs d l
  | [], _, _, h => by cases h
  | x :: r, d, e, h => by
    simp only [depEs]
    rcases List.mem_cons.1 h with rfl | h
    · have h1 := depEs_le (mx d (depE e)) r
      have h2 : depE e ≤ mx d (depE e) := by unfold mx imax; split <;> omega
      omega
    · exact depEs_mem r _ e h
theorem depEs_snoc (x : Ex) : ∀ (l : List Ex) (d : Int), depEs d (l ++ [x]) = mx (depEs d l) (depE x)
  | [], d => by simp [depEs]
  | e :: r, d => by simp only [List.cons_append, depEs]; exact depEs_snoc x r _
mutual
def depS : Sm → Int
  | .mk _ _ _ _ place value body els => 1 + mx (mx (mx (depE place) (depE value)) (depSs 0 body)) (depSs 0 els)
def depSs : Int → List Sm → Int
  | d, [] => d
  | d, s :: r => depSs (mx d (depS s)) r
end
theorem depS_eq (s : Sm) : depS s = 1 + mx (mx (mx (depE s.place) (depE s.value)) (depSs 0 s.body)) (depSs 0 s.els) := by cases s; rfl
theorem depSs_snoc (x : Sm) : ∀ (l : List Sm) (d : Int), depSs d (l ++ [x]) = mx (depSs d l) (depS x)
  | [], d => by simp [depSs]
  | e :: r, d => by simp only [List.cons_append, depSs]; exact depSs_snoc x r _
theorem mx_l (x y : Int) : x ≤ mx x y := by unfold mx imax; split <;> omega
theorem mx_r (x y : Int) : y ≤ mx x y := by unfold mx imax; split <;> omega
theorem depSs_le : ∀ (l : List Sm) (d : Int), d ≤ depSs d l
  | [], d => by simp [depSs]
  | s :: r, d => by
    have h1 := depSs_le r (mx d (depS s))
    have h2 := mx_l d (depS s)
    simp only [depSs]; omega
theorem depS_pos (s : Sm) : 1 ≤ depS s := by
  rw [depS_eq]
  have h1 := depE_pos s.place
  have h2 := mx_l (depE s.place) (depE s.value)
  have h3 := mx_l (mx (depE s.place) (depE s.value)) (depSs 0 s.body)
  have h4 := mx_l (mx (mx (depE s.place) (depE s.value)) (depSs 0 s.body)) (depSs 0 s.els)
  omega
theorem depSs_mem : ∀ (l : List Sm) (d : Int) (e : Sm), e ∈ l → depS e ≤ depSs d l
  | [], _, _, h => by cases h
  | x :: r, d, e, h => by
    simp only [depSs]
    rcases List.mem_cons.1 h with rfl | h
    · have h1 := depSs_le r (mx d (depS e))
      have h2 := mx_r d (depS e)
      omega
    · exact depSs_mem r _ e h
mutual
theorem depE_sz : ∀ e : Ex, depE e ≤ szE e
  | .mk _ _ _ _ _ args => by simp only [depE, szE]; have := depEs_sz 0 args; unfold mx imax at this; split at this <;> omega
theorem depEs_sz : ∀ (d : Int) (l : List Ex), depEs d l ≤ mx d (szEs l)
  | d, [] => by simp only [depEs, szEs]; exact mx_l _ _
  | d, e :: r => by
    have h1 := depEs_sz (mx d (depE e)) r
    have h2 := depE_sz e
    simp only [depEs, szEs]
    unfold mx imax at *
    split at h1 <;> split at h1 <;> split <;> omega
end
mutual
theorem depS_sz : ∀ s : Sm, depS s ≤ szS s
  | .mk _ _ _ _ place value body els => by
    have h1 := depE_sz place
    have h2 := depE_sz value
    have h3 := depSs_sz 0 body
    have h4 := depSs_sz 0 els
    have p1 := szE_pos place
    simp only [depS, szS]
    generalize depE place = a at *
    generalize depE value = b at *
    generalize depSs 0 body = c at *
    generalize depSs 0 els = d at *
    unfold mx imax at *
    split at h3 <;> split at h4 <;> (repeat' split) <;> omega
theorem depSs_sz : ∀ (d : Int) (l : List Sm), depSs d l ≤ mx d (szSs l)
  | d, [] => by simp only [depSs, szSs]; exact mx_l _ _
  | d, e :: r => by
    have h1 := depSs_sz (mx d (depS e)) r
    have h2 := depS_sz e
    simp only [depSs, szSs]
    generalize depSs (mx d (depS e)) r = q at *
    unfold mx imax at *
    split at h1 <;> split at h1 <;> split <;> omega
end
end Go.Abs
namespace Go.Abs
open Go
def letterF (n : Int) : Bool := (decide (n ≥ 97) && decide (n ≤ 122)) || (decide (n ≥ 65) && decide (n ≤ 90)) || n == 95
def digitF (n : Int) : Bool := decide (n ≥ 48) && decide (n ≤ 57)
def isW (c : UInt8) : Bool := letterF c.toNat || digitF c.toNat
def wordF (s : List UInt8) (a : Nat) : Nat := a + ((s.drop a).takeWhile isW).length
theorem wordF_end (s : List UInt8) (a : Nat) (h : s.length ≤ a) : wordF s a = a := by
  simp [wordF, List.drop_eq_nil_of_le h]
theorem wordF_step (s : List UInt8) (a : Nat) (h : a < s.length) : wordF s a = if isW (s.getD a 0) then wordF s (a + 1) else a := by
  have e : s.getD a 0 = s[a] := by simp [List.getD, h]
  rw [e]
  unfold wordF
  rw [List.drop_eq_getElem_cons h, List.takeWhile_cons]
  split
  · simp; omega
  · simp
def resF (s : List UInt8) : Bool := s == [118, 97, 114] || s == [97, 114, 114, 97, 121] || s == [111, 110] || s == [115, 116, 97, 114, 116] || s == [109, 101, 115, 115, 97, 103, 101] || s == [116, 105, 99, 107] || s == [105, 110, 112, 117, 116] || s == [105, 102] || s == [101, 108, 115, 101] || s == [119, 104, 105, 108, 101] || s == [115, 101, 110, 100] || s == [111, 117, 116, 112, 117, 116] || s == [115, 101, 108, 102] || s == [112, 114, 111, 99, 115] || s == [102, 114, 111, 109] || s == [118, 97, 108, 117, 101]
def validF (s : List UInt8) : Bool := !(s == [] || decide ((s.length : Int) > 16) || !letterF (s.getD 0 0).toNat) && (((wordF s 0 : Nat) : Int) == (s.length : Int) && !resF s)
structure PgD where
  vars : List VarD
  start : List Sm
  message : List Sm
  tick : List Sm
  input : List Sm
def pgA (p : PgD) : AVal := .agg [.pv (.slice (p.vars.map encVar)), .pv (.slice (p.start.map encSm)), .pv (.slice (p.message.map encSm)), .pv (.slice (p.tick.map encSm)), .pv (.slice (p.input.map encSm))]
def szP (p : PgD) : Nat := szSs p.start + szSs p.message + szSs p.tick + szSs p.input + p.vars.length
def depP (p : PgD) : Int := mx (mx (mx (depSs 0 p.start) (depSs 0 p.message)) (depSs 0 p.tick)) (depSs 0 p.input)
def goodVarF (v : VarD) : Bool := if !validF v.name || decide (v.size < 0) then false else if v.size != 0 && v.init != 0 then false else v.init != -9223372036854775808
def checkF (g : List Sm → Bool) (p : PgD) : Int :=
  if depP p > 16 then 6 else if p.vars.any (fun v => !goodVarF v) then 7 else if !g p.start || !g p.message || !g p.tick || !g p.input then 7 else 0

theorem validF_long (s : List UInt8) (h : 16 < s.length) : validF s = false := by
  have : (s.length : Int) > 16 := by omega
  simp [validF, this]
def arityF (op : Int) : Int := if op < 1 ∨ op > 22 then -1 else if op ≥ 10 then 2 else if op = 3 ∨ op = 8 ∨ op = 9 then 1 else 0
def goodNameF (name : List UInt8) (m : Bool) : Bool := if m then validF name else name == []
def zeroEF (e : Ex) : Bool := e.op == 0 && e.value == 0 && e.name == [] && e.slot == 0 && e.size == 0 && e.args.length == 0
def headEF (op value : Int) (name : List UInt8) (slot size : Int) (n : Nat) : Bool :=
  arityF op == (n : Int) && slot == 0 && size == 0 && !(decide (value < 0) || (value != 0 && op != 1)) && goodNameF name (op == 2 || op == 3)
mutual
def goodEF : Ex → Bool
  | .mk op value name slot size args => headEF op value name slot size args.length && goodEFs args
def goodEFs : List Ex → Bool
  | [] => true
  | e :: r => goodEF e && goodEFs r
end
theorem goodEF_eq (e : Ex) : goodEF e = (headEF e.op e.value e.name e.slot e.size e.args.length && goodEFs e.args) := by cases e; simp [goodEF, Ex.op, Ex.value, Ex.name, Ex.slot, Ex.size, Ex.args]
theorem goodEFs_all : ∀ l : List Ex, goodEFs l = l.all goodEF
  | [] => by simp [goodEFs]
  | e :: r => by simp [goodEFs, goodEFs_all r]
def headSF (kind : Int) (name : List UInt8) (slot size : Int) (place : Ex) (nb ne : Nat) : Bool :=
  decide (kind ≥ 1) && decide (kind ≤ 6) && slot == 0 && size == 0 && goodNameF name (kind == 1 || kind == 2) &&
  (if kind == 2 || kind == 5 then goodEF place else zeroEF place) && !(decide (nb > 0) && kind != 3 && kind != 4) && !(decide (ne > 0) && kind != 3)
mutual
def goodSF : Sm → Bool
  | .mk kind name slot size place value body els => headSF kind name slot size place body.length els.length && (goodEF value && goodSFs body && goodSFs els)
def goodSFs : List Sm → Bool
  | [] => true
  | e :: r => goodSF e && goodSFs r
end
theorem goodSF_eq (s : Sm) : goodSF s = (headSF s.kind s.name s.slot s.size s.place s.body.length s.els.length && (goodEF s.value && goodSFs s.body && goodSFs s.els)) := by cases s; simp [goodSF, Sm.kind, Sm.name, Sm.slot, Sm.size, Sm.place, Sm.value, Sm.body, Sm.els]
theorem goodSFs_all : ∀ l : List Sm, goodSFs l = l.all goodSF
  | [] => by simp [goodSFs]
  | e :: r => by simp [goodSFs, goodSFs_all r]
theorem beq_natCast (a b : Nat) : ((a : Int) == (b : Int)) = (a == b) := Bool.eq_iff_iff.mpr (by simp only [beq_iff_eq]; omega)
theorem beqF {a b : Int} (h : ¬ a = b) : (a == b) = false := by simpa using h
end Go.Abs
namespace Go.Abs
open Go

section
variable (op value : Int) (name : List UInt8) (slot size : Int) (args : List Ex) (place val : Ex) (body els : List Sm)
theorem Ex.op_mk : (Ex.mk op value name slot size args).op = op := rfl
theorem Ex.value_mk : (Ex.mk op value name slot size args).value = value := rfl
theorem Ex.name_mk : (Ex.mk op value name slot size args).name = name := rfl
theorem Ex.slot_mk : (Ex.mk op value name slot size args).slot = slot := rfl
theorem Ex.size_mk : (Ex.mk op value name slot size args).size = size := rfl
theorem Ex.args_mk : (Ex.mk op value name slot size args).args = args := rfl
theorem Sm.kind_mk : (Sm.mk op name slot size place val body els).kind = op := rfl
theorem Sm.name_mk : (Sm.mk op name slot size place val body els).name = name := rfl
theorem Sm.slot_mk : (Sm.mk op name slot size place val body els).slot = slot := rfl
theorem Sm.size_mk : (Sm.mk op name slot size place val body els).size = size := rfl
theorem Sm.place_mk : (Sm.mk op name slot size place val body els).place = place := rfl
theorem Sm.value_mk : (Sm.mk op name slot size place val body els).value = val := rfl
theorem Sm.body_mk : (Sm.mk op name slot size place val body els).body = body := rfl
theorem Sm.els_mk : (Sm.mk op name slot size place val body els).els = els := rfl
end

structure Pl where
  name : List UInt8
  slot : Int
  size : Int
def encPl (p : Pl) : PVal × Bool × List PVal := (.str p.name, true, [.int .i64 p.slot, .int .i64 p.size])
def plFind (n : List UInt8) : List Pl → Option (Int × Int)
  | [] => none
  | p :: r => if n = p.name then some (p.slot, p.size) else plFind n r
def plSet (n : List UInt8) (a b : Int) : List Pl → List Pl
  | [] => [⟨n, a, b⟩]
  | p :: r => if n = p.name then ⟨n, a, b⟩ :: r else p :: plSet n a b r
theorem mfind_enc (n : List UInt8) : ∀ l : List Pl, mfind (.str n) (l.map encPl) = (plFind n l).map fun q => (true, [.int .i64 q.1, .int .i64 q.2])
  | [] => rfl
  | p :: r => by
    simp only [List.map_cons, mfind, plFind]
    by_cases h : n = p.name
    · subst h; simp [keyEq, encPl]
    · have : keyEq (.str n) (encPl p).1 = false := by simp [keyEq, encPl, h]
      rw [this, if_neg h, if_neg (by simp)]
      exact mfind_enc n r
theorem mset_enc (n : List UInt8) (a b : Int) : ∀ l : List Pl, mset (.str n) (true, [.int .i64 a, .int .i64 b]) (l.map encPl) = (plSet n a b l).map encPl
  | [] => rfl
  | p :: r => by
    simp only [List.map_cons, mset, plSet]
    by_cases h : n = p.name
    · subst h; simp [keyEq, encPl]
    · have : keyEq (.str n) (encPl p).1 = false := by simp [keyEq, encPl, h]
      rw [this, if_neg h, if_neg (by simp)]
      simp [mset_enc n a b r]

abbrev Fl := Bool × Bool
def findF (pl : List Pl) (n : List UInt8) (arr : Bool) (f : Fl) : (Int × Int) × Fl :=
  match plFind n pl with
  | none => ((0, 0), (true, f.2))
  | some q => (q, (f.1, f.2 || (arr != decide (q.2 > 0))))
def headQ (pl : List Pl) (op : Int) (n : List UInt8) (a b : Int) (f : Fl) (k1 k2 : Int) : (Int × Int) × Fl :=
  if op = k1 then findF pl n false f else if op = k2 then findF pl n true f else ((a, b), f)
mutual
def rsE (pl : List Pl) : Ex → Fl → Ex × Fl
  | .mk op v n a b args, f =>
    (.mk op v n (headQ pl op n a b f 2 3).1.1 (headQ pl op n a b f 2 3).1.2 (rsEs pl args (headQ pl op n a b f 2 3).2).1, (rsEs pl args (headQ pl op n a b f 2 3).2).2)
def rsEs (pl : List Pl) : List Ex → Fl → List Ex × Fl
  | [], f => ([], f)
  | e :: r, f => ((rsE pl e f).1 :: (rsEs pl r (rsE pl e f).2).1, (rsEs pl r (rsE pl e f).2).2)
end
theorem rsE_eq (pl : List Pl) (e : Ex) (f : Fl) : rsE pl e f = (.mk e.op e.value e.name (headQ pl e.op e.name e.slot e.size f 2 3).1.1 (headQ pl e.op e.name e.slot e.size f 2 3).1.2 (rsEs pl e.args (headQ pl e.op e.name e.slot e.size f 2 3).2).1, (rsEs pl e.args (headQ pl e.op e.name e.slot e.size f 2 3).2).2) := by
  cases e; simp [rsE, Ex.op, Ex.value, Ex.name, Ex.slot, Ex.size, Ex.args]
theorem rsEs_len (pl : List Pl) : ∀ (l : List Ex) (f : Fl), (rsEs pl l f).1.length = l.length
  | [], f => by simp [rsEs]
  | e :: r, f => by simp [rsEs, rsEs_len pl r]
theorem rsEs_snoc (pl : List Pl) : ∀ (l : List Ex) (x : Ex) (f : Fl), rsEs pl (l ++ [x]) f = ((rsEs pl l f).1 ++ [(rsE pl x (rsEs pl l f).2).1], (rsE pl x (rsEs pl l f).2).2)
  | [], x, f => by simp [rsEs]
  | e :: r, x, f => by simp [rsEs, rsEs_snoc pl r]
mutual
def rsS (pl : List Pl) : Sm → Fl → Sm × Fl
  | .mk k n a b p v body els, f =>
    let q := headQ pl k n a b f 1 2
    let p' := rsE pl p q.2
    let v' := rsE pl v p'.2
    let b' := rsSs pl body v'.2
    let e' := rsSs pl els b'.2
    (.mk k n q.1.1 q.1.2 p'.1 v'.1 b'.1 e'.1, e'.2)
def rsSs (pl : List Pl) : List Sm → Fl → List Sm × Fl
  | [], f => ([], f)
  | e :: r, f => ((rsS pl e f).1 :: (rsSs pl r (rsS pl e f).2).1, (rsSs pl r (rsS pl e f).2).2)
end
def rsQ (pl : List Pl) (s : Sm) (f : Fl) := headQ pl s.kind s.name s.slot s.size f 1 2
def rsP (pl : List Pl) (s : Sm) (f : Fl) := rsE pl s.place (rsQ pl s f).2
def rsV (pl : List Pl) (s : Sm) (f : Fl) := rsE pl s.value (rsP pl s f).2
def rsB (pl : List Pl) (s : Sm) (f : Fl) := rsSs pl s.body (rsV pl s f).2
def rsL (pl : List Pl) (s : Sm) (f : Fl) := rsSs pl s.els (rsB pl s f).2
theorem rsS_eq (pl : List Pl) (s : Sm) (f : Fl) : rsS pl s f = (.mk s.kind s.name (rsQ pl s f).1.1 (rsQ pl s f).1.2 (rsP pl s f).1 (rsV pl s f).1 (rsB pl s f).1 (rsL pl s f).1, (rsL pl s f).2) := by
  cases s; simp [rsS, rsL, rsB, rsV, rsP, rsQ, Sm.kind, Sm.name, Sm.slot, Sm.size, Sm.place, Sm.value, Sm.body, Sm.els]
theorem rsSs_len (pl : List Pl) : ∀ (l : List Sm) (f : Fl), (rsSs pl l f).1.length = l.length
  | [], f => by simp [rsSs]
  | e :: r, f => by simp [rsSs, rsSs_len pl r]
theorem rsSs_snoc (pl : List Pl) : ∀ (l : List Sm) (x : Sm) (f : Fl), rsSs pl (l ++ [x]) f = ((rsSs pl l f).1 ++ [(rsS pl x (rsSs pl l f).2).1], (rsS pl x (rsSs pl l f).2).2)
  | [], x, f => by simp [rsSs]
  | e :: r, x, f => by simp [rsSs, rsSs_snoc pl r]
theorem rsEs_take (pl : List Pl) (l : List Ex) (f : Fl) (k : Nat) (h : k < l.length) : rsEs pl (l.take (k + 1)) f = ((rsEs pl (l.take k) f).1 ++ [(rsE pl l[k] (rsEs pl (l.take k) f).2).1], (rsE pl l[k] (rsEs pl (l.take k) f).2).2) := by rw [List.take_succ_eq_append_getElem h, rsEs_snoc]
theorem rsSs_take (pl : List Pl) (l : List Sm) (f : Fl) (k : Nat) (h : k < l.length) : rsSs pl (l.take (k + 1)) f = ((rsSs pl (l.take k) f).1 ++ [(rsS pl l[k] (rsSs pl (l.take k) f).2).1], (rsS pl l[k] (rsSs pl (l.take k) f).2).2) := by rw [List.take_succ_eq_append_getElem h, rsSs_snoc]
theorem roomL (n b : Nat) (h : n * b ≤ 140737488355328) : roomOk n b = true := by simpa [roomOk] using h

def dupP : List Pl → List VarD → Option (List Pl)
  | es, [] => some es
  | es, v :: r => if (plFind v.name es).isSome then none else dupP (plSet v.name 0 0 es) r
def fillP : List Pl → List Int → List VarD → Option (List Pl × List Int)
  | es, xs, [] => some (es, xs)
  | es, xs, v :: r => if mx v.size 1 > 32 - xs.length then none else fillP (plSet v.name xs.length v.size es) (xs ++ [v.init] ++ List.replicate ((mx v.size 1).toNat - 1) 0) r
structure CdD where
  init : List Int
  start : List Sm
  message : List Sm
  tick : List Sm
  input : List Sm
def enc1 (n : Int) : List PVal := [.int .i64 n]
def cdA (c : CdD) : AVal := .agg [.pv (.slice (c.init.map enc1)), .pv (.slice (c.start.map encSm)), .pv (.slice (c.message.map encSm)), .pv (.slice (c.tick.map encSm)), .pv (.slice (c.input.map encSm))]
def cd0 : CdD := ⟨[], [], [], [], []⟩
def rs4 (pl : List Pl) (p : PgD) : (List Sm × List Sm × List Sm × List Sm) × Fl :=
  let a := rsSs pl p.start (false, false)
  let b := rsSs pl p.message a.2
  let c := rsSs pl p.tick b.2
  let d := rsSs pl p.input c.2
  ((a.1, b.1, c.1, d.1), d.2)
def finR (xs : List Int) (r : (List Sm × List Sm × List Sm × List Sm) × Fl) : CdD × Int :=
  if r.2.1 then (cd0, 2) else if r.2.2 then (cd0, 7) else (⟨xs, r.1.1, r.1.2.1, r.1.2.2.1, r.1.2.2.2⟩, 0)
def resolveF (p : PgD) : CdD × Int :=
  if checkF goodSFs p ≠ 0 then (cd0, checkF goodSFs p)
  else if p.vars.length > 16 then (cd0, 4)
  else match dupP [] p.vars with
    | none => (cd0, 2)
    | some es => match fillP es [] p.vars with
      | none => (cd0, 4)
      | some q => finR q.2 (rs4 q.1 p)
end Go.Abs
namespace Go.Abs
open Go
def wordsL : List UInt8 := [32, 118, 97, 114, 32, 97, 114, 114, 97, 121, 32, 111, 110, 32, 115, 116, 97, 114, 116, 32, 109, 101, 115, 115, 97, 103, 101, 32, 116, 105, 99, 107, 32, 105, 110, 112, 117, 116, 32, 105, 102, 32, 101, 108, 115, 101, 32, 119, 104, 105, 108, 101, 32, 115, 101, 110, 100, 32, 111, 117, 116, 112, 117, 116, 32, 115, 101, 108, 102, 32, 112, 114, 111, 99, 115, 32, 102, 114, 111, 109, 32, 118, 97, 108, 117, 101, 32]
theorem wordsL_len : wordsL.length = 87 := rfl
def resL : List (List UInt8) := [[118, 97, 114], [97, 114, 114, 97, 121], [111, 110], [115, 116, 97, 114, 116], [109, 101, 115, 115, 97, 103, 101], [116, 105, 99, 107], [105, 110, 112, 117, 116], [105, 102], [101, 108, 115, 101], [119, 104, 105, 108, 101], [115, 101, 110, 100], [111, 117, 116, 112, 117, 116], [115, 101, 108, 102], [112, 114, 111, 99, 115], [102, 114, 111, 109], [118, 97, 108, 117, 101]]
theorem resF_mem {s : List UInt8} (h : resF s = true) : s ∈ resL := by
  simp only [resF, Bool.or_eq_true, beq_iff_eq] at h
  simp only [resL, List.mem_cons, List.not_mem_nil, or_false]
  grind
def hitW (s : List UInt8) (i : Nat) : Bool := (wordsL.take (i + (s.length + 2))).drop i == 32 :: (s ++ [32])
theorem resL_hits : ∀ w ∈ resL, (List.range 87).any (fun i => decide (i + (w.length + 2) ≤ 87) && hitW w i) = true := by decide +kernel
theorem resW_miss {s : List UInt8} (h : ∀ i, i + (s.length + 2) ≤ 87 → hitW s i = false) : resF s = false := by
  cases hr : resF s with
  | false => rfl
  | true =>
    have := resL_hits s (resF_mem hr)
    rw [List.any_eq_true] at this
    obtain ⟨i, _, hi⟩ := this
    simp only [Bool.and_eq_true, decide_eq_true_eq] at hi
    rw [h i hi.1] at hi
    exact absurd hi.2 (by simp)
theorem words_ok : ∀ i < 87, (wordsL.drop (i + 1)).takeWhile (· != 32) = [] ∨ resF ((wordsL.drop (i + 1)).takeWhile (· != 32)) = true ∨ wordsL.getD i 0 ≠ 32 := by decide +kernel
theorem takeWhile_blank : ∀ (s r : List UInt8), (∀ c ∈ s, c ≠ 32) → (s ++ 32 :: r).takeWhile (· != 32) = s
  | [], r, _ => by simp
  | c :: s, r, h => by
    have h1 : c ≠ 32 := h c (by simp)
    simp [List.takeWhile_cons, h1, takeWhile_blank s r (fun x hx => h x (by simp [hx]))]
theorem resW_hit {s : List UInt8} (h0 : s ≠ []) (hb : ∀ c ∈ s, c ≠ 32) {i : Nat} (hi : i + (s.length + 2) ≤ 87) (hh : hitW s i = true) : resF s = true := by
  simp only [hitW, beq_iff_eq] at hh
  have hd : wordsL.drop i = 32 :: (s ++ 32 :: wordsL.drop (i + (s.length + 2))) := by
    have h1 : wordsL = wordsL.take (i + (s.length + 2)) ++ wordsL.drop (i + (s.length + 2)) := (List.take_append_drop _ _).symm
    have h2 : wordsL.drop i = (wordsL.take (i + (s.length + 2))).drop i ++ wordsL.drop (i + (s.length + 2)) := by
      conv => lhs; rw [h1]
      rw [List.drop_append_of_le_length (by rw [List.length_take, wordsL_len]; omega)]
    rw [h2, hh]; simp
  have hd1 : wordsL.drop (i + 1) = s ++ 32 :: wordsL.drop (i + (s.length + 2)) := by
    have : wordsL.drop (i + 1) = (wordsL.drop i).drop 1 := by rw [List.drop_drop]
    rw [this, hd]; rfl
  have hlt : i < 87 := by omega
  rcases words_ok i hlt with h | h | h
  · rw [hd1, takeWhile_blank s _ hb] at h; exact absurd h h0
  · rw [hd1, takeWhile_blank s _ hb] at h; exact h
  · exfalso; apply h
    have hw : i < wordsL.length := by rw [wordsL_len]; exact hlt
    have : (wordsL.drop i)[0]? = some 32 := by rw [hd]; rfl
    rw [List.getElem?_drop, Nat.add_zero] at this
    simp [List.getD, this]
theorem wordF_all (s : List UInt8) : (((wordF s 0 : Nat) : Int) == (s.length : Int)) = s.all isW := by
  rw [beq_natCast]
  unfold wordF
  simp only [List.drop_zero, Nat.zero_add]
  induction s with
  | nil => rfl
  | cons c r ih =>
    rw [List.takeWhile_cons]
    cases h : isW c
    · simp [h]
    · simp only [if_true, List.length_cons, List.all_cons, h, Bool.true_and]
      rw [← ih]
      simp
end Go.Abs
namespace Go.Abs
open Go
def lookupF (name : List UInt8) : Int → List VarD → Int × Int × Bool
  | _, [] => (0, 0, false)
  | first, v :: r => if v.name == name then (first, mx v.size 0, true)
    else if mx v.size 1 > 2147483648 - first then (0, 0, false) else lookupF name (first + mx v.size 1) r
def lookA (name : List UInt8) (l : List VarD) : AVal := .tup [.pv (.int .i64 (lookupF name 0 l).1), .pv (.int .i64 (lookupF name 0 l).2.1), .pv (.bool (lookupF name 0 l).2.2)]
theorem look8_one (first s : Int) (h0 : 0 ≤ first) (h1 : first ≤ 2147483648) : (first + imin (mx s 1) 2147483649 > 2147483648 ↔ mx s 1 > 2147483648 - first) ∧ (¬ mx s 1 > 2147483648 - first → imin (mx s 1) 2147483649 = mx s 1) ∧ 1 ≤ imin (mx s 1) 2147483649 ∧ imin (mx s 1) 2147483649 ≤ 2147483649 := by
  have := mx_r s 1
  generalize mx s 1 = m at *
  unfold imin
  split <;> omega
def modF (n m : Int) : Int := if n.tmod m < 0 then n.tmod m + m else n.tmod m
theorem modF_lt (n m : Int) (h : 0 < m) : 0 ≤ modF n m ∧ modF n m < m := by
  unfold modF
  have h1 := Int.tmod_lt_of_pos n h
  have h2 : -m < n.tmod m := by
    rcases Int.le_total 0 n with h | h'
    · have := Int.tmod_nonneg m h; omega
    · have h3 := Int.tmod_lt_of_pos (-n) h
      rw [Int.neg_tmod] at h3
      omega
  split <;> omega
def foundF (l : List VarD) (n : List UInt8) : Bool := (lookupF n 0 l).2.2
mutual
def namesE (l : List VarD) : Ex → Bool
  | .mk op _ n _ _ args => !((op == 2 || op == 3) && !foundF l n) && namesEs l args
def namesEs (l : List VarD) : List Ex → Bool
  | [] => true
  | e :: r => namesE l e && namesEs l r
end
theorem namesE_eq (l : List VarD) (e : Ex) : namesE l e = (!((e.op == 2 || e.op == 3) && !foundF l e.name) && namesEs l e.args) := by cases e; simp [namesE, Ex.op, Ex.name, Ex.args]
mutual
def declS (l : List VarD) : Sm → Bool
  | .mk k n _ _ p v b e => !((k == 1 || k == 2) && !foundF l n) && !(!namesE l p || !namesE l v || !declSs l b || !declSs l e)
def declSs (l : List VarD) : List Sm → Bool
  | [] => true
  | s :: r => declS l s && declSs l r
end
theorem declS_eq (l : List VarD) (s : Sm) : declS l s = (!((s.kind == 1 || s.kind == 2) && !foundF l s.name) && !(!namesE l s.place || !namesE l s.value || !declSs l s.body || !declSs l s.els)) := by cases s; simp [declS, Sm.kind, Sm.name, Sm.place, Sm.value, Sm.body, Sm.els]
def head3 (l : List VarD) (op : Int) (n : List UInt8) (a b : Int) (k1 k2 : Int) : (Int × Int) × Bool :=
  if (op == k1 || op == k2) = true then (((lookupF n 0 l).1, (lookupF n 0 l).2.1), (op == k2) == decide ((lookupF n 0 l).2.1 > 0)) else ((a, b), true)
mutual
def r3E (l : List VarD) : Ex → Ex × Bool
  | .mk op v n a b args => (.mk op v n (head3 l op n a b 2 3).1.1 (head3 l op n a b 2 3).1.2 (r3Es l args).1, (head3 l op n a b 2 3).2 && (r3Es l args).2)
def r3Es (l : List VarD) : List Ex → List Ex × Bool
  | [] => ([], true)
  | e :: r => ((r3E l e).1 :: (r3Es l r).1, (r3E l e).2 && (r3Es l r).2)
end
theorem r3E_eq (l : List VarD) (e : Ex) : r3E l e = (.mk e.op e.value e.name (head3 l e.op e.name e.slot e.size 2 3).1.1 (head3 l e.op e.name e.slot e.size 2 3).1.2 (r3Es l e.args).1, (head3 l e.op e.name e.slot e.size 2 3).2 && (r3Es l e.args).2) := by
  cases e; simp [r3E, Ex.op, Ex.value, Ex.name, Ex.slot, Ex.size, Ex.args]
theorem r3Es_len (l : List VarD) : ∀ x : List Ex, (r3Es l x).1.length = x.length
  | [] => by simp [r3Es]
  | e :: r => by simp [r3Es, r3Es_len l r]
theorem r3Es_snoc (l : List VarD) (x : Ex) : ∀ r : List Ex, r3Es l (r ++ [x]) = ((r3Es l r).1 ++ [(r3E l x).1], (r3Es l r).2 && (r3E l x).2)
  | [] => by simp [r3Es]
  | e :: r => by simp [r3Es, r3Es_snoc l x r, Bool.and_assoc]
theorem r3Es_take (l : List VarD) (x : List Ex) (k : Nat) (h : k < x.length) : r3Es l (x.take (k + 1)) = ((r3Es l (x.take k)).1 ++ [(r3E l x[k]).1], (r3Es l (x.take k)).2 && (r3E l x[k]).2) := by
  rw [List.take_succ_eq_append_getElem h, r3Es_snoc]
mutual
def r3S (l : List VarD) : Sm → Sm × Bool
  | .mk k n a b p v body els => (.mk k n (head3 l k n a b 1 2).1.1 (head3 l k n a b 1 2).1.2 (r3E l p).1 (r3E l v).1 (r3Ss l body).1 (r3Ss l els).1,
      (head3 l k n a b 1 2).2 && ((r3E l p).2 && (r3E l v).2 && (r3Ss l body).2 && (r3Ss l els).2))
def r3Ss (l : List VarD) : List Sm → List Sm × Bool
  | [] => ([], true)
  | s :: r => ((r3S l s).1 :: (r3Ss l r).1, (r3S l s).2 && (r3Ss l r).2)
end
theorem r3S_eq (l : List VarD) (s : Sm) : r3S l s = (.mk s.kind s.name (head3 l s.kind s.name s.slot s.size 1 2).1.1 (head3 l s.kind s.name s.slot s.size 1 2).1.2 (r3E l s.place).1 (r3E l s.value).1 (r3Ss l s.body).1 (r3Ss l s.els).1,
      (head3 l s.kind s.name s.slot s.size 1 2).2 && ((r3E l s.place).2 && (r3E l s.value).2 && (r3Ss l s.body).2 && (r3Ss l s.els).2)) := by
  cases s; simp [r3S, Sm.kind, Sm.name, Sm.slot, Sm.size, Sm.place, Sm.value, Sm.body, Sm.els]
theorem r3Ss_len (l : List VarD) : ∀ x : List Sm, (r3Ss l x).1.length = x.length
  | [] => by simp [r3Ss]
  | e :: r => by simp [r3Ss, r3Ss_len l r]
theorem r3Ss_snoc (l : List VarD) (x : Sm) : ∀ r : List Sm, r3Ss l (r ++ [x]) = ((r3Ss l r).1 ++ [(r3S l x).1], (r3Ss l r).2 && (r3S l x).2)
  | [] => by simp [r3Ss]
  | e :: r => by simp [r3Ss, r3Ss_snoc l x r, Bool.and_assoc]
theorem r3Ss_take (l : List VarD) (x : List Sm) (k : Nat) (h : k < x.length) : r3Ss l (x.take (k + 1)) = ((r3Ss l (x.take k)).1 ++ [(r3S l x[k]).1], (r3Ss l (x.take k)).2 && (r3S l x[k]).2) := by
  rw [List.take_succ_eq_append_getElem h, r3Ss_snoc]
end Go.Abs
namespace Go.Abs
open Go
def dup3 : List VarD → Bool
  | [] => false
  | v :: r => r.any (fun x => x.name == v.name) || dup3 r
theorem dup3_of : ∀ (l : List VarD) (i j : Nat) (a b : VarD), i < j → l[i]? = some a → l[j]? = some b → a.name = b.name → dup3 l = true
  | [], i, j, a, b, _, h, _, _ => by simp at h
  | v :: r, 0, 0, a, b, h, _, _, _ => by omega
  | v :: r, 0, j + 1, a, b, _, h1, h2, h => by
    simp at h1 h2
    subst h1
    have : b ∈ r := List.mem_of_getElem? h2
    simp only [dup3, Bool.or_eq_true, List.any_eq_true, beq_iff_eq]
    exact .inl ⟨b, this, h.symm⟩
  | v :: r, i + 1, 0, a, b, h, _, _, _ => by omega
  | v :: r, i + 1, j + 1, a, b, hlt, h1, h2, h => by
    simp at h1 h2
    simp only [dup3, dup3_of r i j a b (by omega) h1 h2 h, Bool.or_true]
theorem dup3_false : ∀ (l : List VarD), (∀ (i j : Nat) (a b : VarD), i < j → l[i]? = some a → l[j]? = some b → a.name ≠ b.name) → dup3 l = false
  | [], _ => rfl
  | v :: r, h => by
    have h2 := dup3_false r (fun i j a b hij ha hb => h (i + 1) (j + 1) a b (by omega) (by simpa using ha) (by simpa using hb))
    simp only [dup3, h2, Bool.or_false]
    cases hc : r.any (fun x => x.name == v.name) with
    | false => rfl
    | true =>
      rw [List.any_eq_true] at hc
      obtain ⟨x, hx, he⟩ := hc
      obtain ⟨k, hk, hke⟩ := List.mem_iff_getElem.1 hx
      exact absurd (show v.name = x.name by simpa using (beq_iff_eq.1 he).symm) (h 0 (k + 1) v x (by omega) (by simp) (by simp [hk, hke]))
def cells3 (v : VarD) : Int := imin (mx v.size 1) 2147483649
theorem cells3_pos (v : VarD) : 1 ≤ cells3 v ∧ cells3 v ≤ 2147483649 := by
  unfold cells3 imin mx imax
  split <;> split <;> omega
def sum3 : Int → List VarD → Option Int
  | n, [] => some n
  | n, v :: r => if n + cells3 v > 32 then none else sum3 (n + cells3 v) r
def one3 (v : VarD) : List Int := v.init :: List.replicate (v.size.toNat - 1) 0
def init3 : List VarD → List Int
  | [] => []
  | v :: r => one3 v ++ init3 r
theorem init3_append : ∀ l r : List VarD, init3 (l ++ r) = init3 l ++ init3 r
  | [], r => by simp [init3]
  | v :: l, r => by simp [init3, init3_append l r]
theorem one3_len (v : VarD) : ((one3 v).length : Int) = mx v.size 1 := by
  unfold one3 mx imax
  simp only [List.length_cons, List.length_replicate]
  split <;> omega
theorem cells3_small (v : VarD) (h : cells3 v ≤ 32) : cells3 v = mx v.size 1 := by
  unfold cells3 imin at *
  split <;> split at h <;> omega
theorem sum3_len : ∀ (l : List VarD) (n m : Int), 0 ≤ n → sum3 n l = some m → n + (init3 l).length = m ∧ m ≤ mx n 32
  | [], n, m, _, h => by simp [sum3] at h; subst h; simp [init3, mx, imax]; split <;> omega
  | v :: r, n, m, h0, h => by
    rw [sum3] at h
    split at h
    · cases h
    · rename_i hle
      have h5 := cells3_pos v
      have h4 := cells3_small v (by omega)
      obtain ⟨h1, h2⟩ := sum3_len r _ m (by omega) h
      have h3 := one3_len v
      simp only [init3, List.length_append]
      have h6 : mx (n + cells3 v) 32 = 32 := by unfold mx imax; split <;> omega
      have h7 : 32 ≤ mx n 32 := by unfold mx imax; split <;> omega
      constructor <;> omega
def resolve3F (p : PgD) : CdD × Int :=
  if checkF goodSFs p ≠ 0 then (cd0, checkF goodSFs p)
  else if p.vars.length > 16 then (cd0, 4)
  else if dup3 p.vars = true then (cd0, 2)
  else if sum3 0 p.vars = none then (cd0, 4)
  else if (!declSs p.vars p.start || !declSs p.vars p.message || !declSs p.vars p.tick || !declSs p.vars p.input) = true then (cd0, 2)
  else if (!(r3Ss p.vars p.start).2 || !(r3Ss p.vars p.message).2 || !(r3Ss p.vars p.tick).2 || !(r3Ss p.vars p.input).2) = true then (cd0, 7)
  else (⟨init3 p.vars, (r3Ss p.vars p.start).1, (r3Ss p.vars p.message).1, (r3Ss p.vars p.tick).1, (r3Ss p.vars p.input).1⟩, 0)
end Go.Abs
namespace Go.Abs
open Go

def plOk (l : List VarD) (pl : List Pl) : Prop := ∀ n, plFind n pl = if (lookupF n 0 l).2.2 then some ((lookupF n 0 l).1, (lookupF n 0 l).2.1) else none
theorem lookupF_miss (n : List UInt8) : ∀ (l : List VarD) (f : Int), (lookupF n f l).2.2 = false → (lookupF n f l).1 = 0 ∧ (lookupF n f l).2.1 = 0
  | [], f, _ => ⟨rfl, rfl⟩
  | v :: r, f, h => by
    rw [lookupF] at h ⊢
    split at h
    · simp at h
    · rename_i h1
      rw [if_neg h1]
      split at h
      · rename_i h2; rw [if_pos h2]; exact ⟨rfl, rfl⟩
      · rename_i h2; rw [if_neg h2]; exact lookupF_miss n r _ h

theorem findF_ok {l : List VarD} {pl : List Pl} (h : plOk l pl) (n : List UInt8) (arr : Bool) (f : Fl) :
    findF pl n arr f = (((lookupF n 0 l).1, (lookupF n 0 l).2.1), (f.1 || !foundF l n, f.2 || (foundF l n && (arr != decide ((lookupF n 0 l).2.1 > 0))))) := by
  unfold findF foundF
  rw [h n]
  cases hf : (lookupF n 0 l).2.2
  · obtain ⟨h1, h2⟩ := lookupF_miss n l 0 hf
    simp [h1, h2]
  · simp
theorem headQ_ok {l : List VarD} {pl : List Pl} (h : plOk l pl) (op : Int) (n : List UInt8) (a b : Int) (f : Fl) (k1 k2 : Int) (hk : k1 ≠ k2) :
    (headQ pl op n a b f k1 k2).1 = (head3 l op n a b k1 k2).1 ∧ (headQ pl op n a b f k1 k2).2.1 = (f.1 || ((op == k1 || op == k2) && !foundF l n)) ∧
    (((op == k1 || op == k2) && !foundF l n) = false → (headQ pl op n a b f k1 k2).2.2 = (f.2 || !(head3 l op n a b k1 k2).2)) := by
  unfold headQ head3
  by_cases h1 : op = k1
  · subst h1
    rw [if_pos rfl, findF_ok h]
    have h2 : (op == k2) = false := by simpa using hk
    simp [h2]
    intro hf; simp [hf]
    try (cases decide (0 < (lookupF n 0 l).2.1) <;> rfl)
  · have h1' : (op == k1) = false := by simpa using h1
    rw [if_neg h1]
    by_cases h2 : op = k2
    · subst h2
      rw [if_pos rfl, findF_ok h]
      simp [h1']
      intro hf; simp [hf]
      try (cases decide (0 < (lookupF n 0 l).2.1) <;> rfl)
    · have h2' : (op == k2) = false := by simpa using h2
      rw [if_neg h2]
      simp [h1', h2']

structure RelR (l : List VarD) (α : Type) (r : α × Fl) (f : Fl) (d : Bool) (q : α × Bool) : Prop where
  val : r.1 = q.1
  nm : r.2.1 = (f.1 || !d)
  sh : d = true → r.2.2 = (f.2 || !q.2)

mutual
theorem rsE_ok {l : List VarD} {pl : List Pl} (h : plOk l pl) : ∀ (e : Ex) (f : Fl), RelR l Ex (rsE pl e f) f (namesE l e) (r3E l e)
  | .mk op v n a b args, f => by
    obtain ⟨h1, h2, h3⟩ := headQ_ok h op n a b f 2 3 (by decide)
    obtain ⟨g1, g2, g3⟩ := rsEs_ok h args (headQ pl op n a b f 2 3).2
    refine ⟨?_, ?_, ?_⟩
    · simp only [rsE, r3E, h1, g1]
    · simp only [rsE, namesE, g2, h2]
      cases f.1 <;> cases ((op == 2 || op == 3) && !foundF l n) <;> cases namesEs l args <;> rfl
    · intro hn
      simp only [namesE, Bool.and_eq_true, Bool.not_eq_true'] at hn
      simp only [rsE, r3E, g3 hn.2, h3 hn.1]
      cases f.2 <;> cases (head3 l op n a b 2 3).2 <;> cases (r3Es l args).2 <;> rfl
theorem rsEs_ok {l : List VarD} {pl : List Pl} (h : plOk l pl) : ∀ (e : List Ex) (f : Fl), RelR l (List Ex) (rsEs pl e f) f (namesEs l e) (r3Es l e)
  | [], f => ⟨by simp [rsEs, r3Es], by simp [rsEs, namesEs], by simp [rsEs, r3Es]⟩
  | e :: r, f => by
    obtain ⟨h1, h2, h3⟩ := rsE_ok h e f
    obtain ⟨g1, g2, g3⟩ := rsEs_ok h r (rsE pl e f).2
    refine ⟨?_, ?_, ?_⟩
    · simp only [rsEs, r3Es, h1, g1]
    · simp only [rsEs, namesEs, g2, h2]
      cases f.1 <;> cases namesE l e <;> cases namesEs l r <;> rfl
    · intro hn
      simp only [namesEs, Bool.and_eq_true] at hn
      simp only [rsEs, r3Es, g3 hn.2, h3 hn.1]
      cases f.2 <;> cases (r3E l e).2 <;> cases (r3Es l r).2 <;> rfl
end
mutual
theorem rsS_ok {l : List VarD} {pl : List Pl} (h : plOk l pl) : ∀ (s : Sm) (f : Fl), RelR l Sm (rsS pl s f) f (declS l s) (r3S l s)
  | .mk k n a b p v body els, f => by
    obtain ⟨h1, h2, h3⟩ := headQ_ok h k n a b f 1 2 (by decide)
    obtain ⟨p1, p2, p3⟩ := rsE_ok h p (headQ pl k n a b f 1 2).2
    obtain ⟨v1, v2, v3⟩ := rsE_ok h v (rsE pl p (headQ pl k n a b f 1 2).2).2
    obtain ⟨b1, b2, b3⟩ := rsSs_ok h body (rsE pl v (rsE pl p (headQ pl k n a b f 1 2).2).2).2
    obtain ⟨e1, e2, e3⟩ := rsSs_ok h els (rsSs pl body (rsE pl v (rsE pl p (headQ pl k n a b f 1 2).2).2).2).2
    refine ⟨?_, ?_, ?_⟩
    · simp only [rsS, r3S, h1, p1, v1, b1, e1]
    · simp only [rsS, declS, e2, b2, v2, p2, h2]
      cases f.1 <;> cases ((k == 1 || k == 2) && !foundF l n) <;> cases namesE l p <;> cases namesE l v <;> cases declSs l body <;> cases declSs l els <;> rfl
    · intro hn
      simp only [declS, Bool.and_eq_true, Bool.not_eq_true', Bool.or_eq_false_iff, Bool.not_eq_false'] at hn
      obtain ⟨hn0, ⟨⟨hnp, hnv⟩, hnb⟩, hne⟩ := hn
      simp only [rsS, r3S, e3 hne, b3 hnb, v3 hnv, p3 hnp, h3 hn0]
      cases f.2 <;> cases (head3 l k n a b 1 2).2 <;> cases (r3E l p).2 <;> cases (r3E l v).2 <;> cases (r3Ss l body).2 <;> cases (r3Ss l els).2 <;> rfl
theorem rsSs_ok {l : List VarD} {pl : List Pl} (h : plOk l pl) : ∀ (s : List Sm) (f : Fl), RelR l (List Sm) (rsSs pl s f) f (declSs l s) (r3Ss l s)
  | [], f => ⟨by simp [rsSs, r3Ss], by simp [rsSs, declSs], by simp [rsSs, r3Ss]⟩
  | e :: r, f => by
    obtain ⟨h1, h2, h3⟩ := rsS_ok h e f
    obtain ⟨g1, g2, g3⟩ := rsSs_ok h r (rsS pl e f).2
    refine ⟨?_, ?_, ?_⟩
    · simp only [rsSs, r3Ss, h1, g1]
    · simp only [rsSs, declSs, g2, h2]
      cases f.1 <;> cases declS l e <;> cases declSs l r <;> rfl
    · intro hn
      simp only [declSs, Bool.and_eq_true] at hn
      simp only [rsSs, r3Ss, g3 hn.2, h3 hn.1]
      cases f.2 <;> cases (r3S l e).2 <;> cases (r3Ss l r).2 <;> rfl
end

theorem rs4_ok {l : List VarD} {pl : List Pl} (h : plOk l pl) (p : PgD) (xs : List Int) : finR xs (rs4 pl p) =
    if (!declSs l p.start || !declSs l p.message || !declSs l p.tick || !declSs l p.input) = true then (cd0, 2)
    else if (!(r3Ss l p.start).2 || !(r3Ss l p.message).2 || !(r3Ss l p.tick).2 || !(r3Ss l p.input).2) = true then (cd0, 7)
    else (⟨xs, (r3Ss l p.start).1, (r3Ss l p.message).1, (r3Ss l p.tick).1, (r3Ss l p.input).1⟩, 0) := by
  obtain ⟨a1, a2, a3⟩ := rsSs_ok h p.start (false, false)
  obtain ⟨b1, b2, b3⟩ := rsSs_ok h p.message (rsSs pl p.start (false, false)).2
  obtain ⟨c1, c2, c3⟩ := rsSs_ok h p.tick (rsSs pl p.message (rsSs pl p.start (false, false)).2).2
  obtain ⟨d1, d2, d3⟩ := rsSs_ok h p.input (rsSs pl p.tick (rsSs pl p.message (rsSs pl p.start (false, false)).2).2).2
  unfold finR rs4
  dsimp only
  have hnm : (rsSs pl p.input (rsSs pl p.tick (rsSs pl p.message (rsSs pl p.start (false, false)).2).2).2).2.1 = (!declSs l p.start || !declSs l p.message || !declSs l p.tick || !declSs l p.input) := by
    rw [d2, c2, b2, a2]; rfl
  rw [hnm]
  split
  · rfl
  · rename_i hn
    simp only [Bool.or_eq_true, Bool.not_eq_true', not_or, Bool.not_eq_false] at hn
    obtain ⟨⟨⟨n1, n2⟩, n3⟩, n4⟩ := hn
    have hsh : (rsSs pl p.input (rsSs pl p.tick (rsSs pl p.message (rsSs pl p.start (false, false)).2).2).2).2.2 = (!(r3Ss l p.start).2 || !(r3Ss l p.message).2 || !(r3Ss l p.tick).2 || !(r3Ss l p.input).2) := by
      rw [d3 n4, c3 n3, b3 n2, a3 n1]; rfl
    rw [hsh, a1, b1, c1, d1]
end Go.Abs
namespace Go.Abs
open Go
theorem plFind_set (n m : List UInt8) (a b : Int) : ∀ l : List Pl, plFind n (plSet m a b l) = if n = m then some (a, b) else plFind n l
  | [] => by simp [plSet, plFind]
  | p :: r => by
    have ih := plFind_set n m a b r
    rw [plSet]
    by_cases h : m = p.name
    · rw [if_pos h]
      by_cases h2 : n = m
      · simp [plFind, h2]
      · have : ¬ n = p.name := fun e => h2 (e.trans h.symm)
        simp [plFind, h2, this]
    · rw [if_neg h]
      by_cases h2 : n = p.name
      · have : ¬ n = m := fun e => h (e.symm.trans h2)
        simp [plFind, h2] at *
        simp [h, Ne.symm] at *
      · simp [plFind, h2, ih]
theorem dupP_none : ∀ (l : List VarD) (es : List Pl), (dupP es l = none ↔ (l.any (fun v => (plFind v.name es).isSome) = true ∨ dup3 l = true))
  | [], es => by simp [dupP, dup3]
  | v :: r, es => by
    rw [dupP]
    by_cases h : (plFind v.name es).isSome = true
    · rw [if_pos h]; simp [h]
    · rw [if_neg h, dupP_none r]
      simp only [List.any_cons, dup3, plFind_set, Bool.or_eq_true]
      constructor
      · rintro (h1 | h1)
        · rw [List.any_eq_true] at h1
          obtain ⟨x, hx, hs⟩ := h1
          by_cases hxv : x.name = v.name
          · right; left; rw [List.any_eq_true]; exact ⟨x, hx, by simpa using hxv⟩
          · rw [if_neg hxv] at hs
            left; right; rw [List.any_eq_true]; exact ⟨x, hx, hs⟩
        · right; right; exact h1
      · rintro ((h1 | h1) | (h1 | h1))
        · exact absurd h1 h
        · rw [List.any_eq_true] at h1
          obtain ⟨x, hx, hs⟩ := h1
          left; rw [List.any_eq_true]; refine ⟨x, hx, ?_⟩
          split
          · rfl
          · exact hs
        · rw [List.any_eq_true] at h1
          obtain ⟨x, hx, hs⟩ := h1
          left; rw [List.any_eq_true]; refine ⟨x, hx, ?_⟩
          rw [if_pos (by simpa using hs)]; rfl
        · right; exact h1
theorem dupP_find (n : List UInt8) : ∀ (l : List VarD) (es es' : List Pl), dupP es l = some es' → (∀ v ∈ l, v.name ≠ n) → plFind n es' = plFind n es
  | [], es, es', h, _ => by simp [dupP] at h; rw [h]
  | v :: r, es, es', h, hn => by
    rw [dupP] at h
    split at h
    · cases h
    · rw [dupP_find n r _ es' h (fun x hx => hn x (by simp [hx])), plFind_set, if_neg (fun e => hn v (by simp) e.symm)]
def lkF (n : List UInt8) : Int → List VarD → Option (Int × Int)
  | _, [] => none
  | f, v :: r => if v.name = n then some (f, v.size) else lkF n (f + mx v.size 1) r
theorem lkF_none (n : List UInt8) : ∀ (l : List VarD) (f : Int), (∀ v ∈ l, v.name ≠ n) → lkF n f l = none
  | [], f, _ => rfl
  | v :: r, f, h => by rw [lkF, if_neg (h v (by simp))]; exact lkF_none n r _ (fun x hx => h x (by simp [hx]))
theorem lkF_some (n : List UInt8) : ∀ (l : List VarD) (f : Int), lkF n f l = none → ∀ v ∈ l, v.name ≠ n
  | [], f, _, v, hv => by simp at hv
  | v :: r, f, h, x, hx => by
    rw [lkF] at h
    split at h
    · cases h
    · rename_i hne
      rcases List.mem_cons.1 hx with rfl | hx
      · exact hne
      · exact lkF_some n r _ h x hx
theorem one3_eq (v : VarD) : [v.init] ++ List.replicate ((mx v.size 1).toNat - 1) 0 = one3 v := by
  unfold one3
  have : (mx v.size 1).toNat - 1 = v.size.toNat - 1 := by unfold mx imax; split <;> omega
  rw [this]; rfl
theorem fill_step (n : Int) (v : VarD) (h0 : 0 ≤ n) : (mx v.size 1 > 32 - n ↔ n + cells3 v > 32) := by
  unfold cells3 imin
  split <;> omega
theorem fillP_sum : ∀ (l : List VarD) (es : List Pl) (xs : List Int), (fillP es xs l = none ↔ sum3 xs.length l = none) ∧ ∀ q, fillP es xs l = some q → q.2 = xs ++ init3 l
  | [], es, xs => by simp [fillP, sum3, init3]
  | v :: r, es, xs => by
    rw [fillP, sum3]
    have hs := fill_step xs.length v (by omega)
    by_cases h : mx v.size 1 > 32 - (xs.length : Int)
    · rw [if_pos h, if_pos (hs.1 h)]; simp
    · have h' : ¬ (xs.length : Int) + cells3 v > 32 := fun e => h (hs.2 e)
      rw [if_neg h, if_neg h']
      have hc := cells3_small v (by omega)
      have h1 := one3_len v
      have ih := fillP_sum r (plSet v.name xs.length v.size es) (xs ++ [v.init] ++ List.replicate ((mx v.size 1).toNat - 1) 0)
      rw [List.append_assoc, one3_eq] at ih ⊢
      have hl : ((xs ++ one3 v).length : Int) = xs.length + cells3 v := by rw [List.length_append, hc, ← h1]; omega
      rw [hl] at ih
      refine ⟨ih.1, fun q hq => ?_⟩
      rw [ih.2 q hq, init3, List.append_assoc]
theorem fillP_find (n : List UInt8) : ∀ (l : List VarD) (es : List Pl) (xs : List Int) (q : List Pl × List Int), dup3 l = false → fillP es xs l = some q → plFind n q.1 = (lkF n xs.length l).or (plFind n es)
  | [], es, xs, q, _, h => by simp [fillP] at h; rw [← h]; simp [lkF]
  | v :: r, es, xs, q, hd, h => by
    rw [fillP] at h
    split at h
    · cases h
    · rename_i hle
      simp only [dup3, Bool.or_eq_false_iff] at hd
      have hl : (((xs ++ [v.init] ++ List.replicate ((mx v.size 1).toNat - 1) 0).length : Nat) : Int) = xs.length + mx v.size 1 := by
        rw [List.append_assoc, one3_eq, List.length_append, ← one3_len v]; omega
      have ih := fillP_find n r _ _ q hd.2 h
      rw [hl, plFind_set] at ih
      rw [ih, lkF]
      by_cases hv : v.name = n
      · subst hv
        have : ∀ x ∈ r, x.name ≠ v.name := fun x hx e => by
          have := hd.1
          rw [List.any_eq_false] at this
          exact this x hx (by simpa using e)
        rw [lkF_none _ r _ this]; simp
      · rw [if_neg hv, if_neg (fun e => hv e.symm)]
theorem lookupF_lk (n : List UInt8) : ∀ (l : List VarD) (f : Int), 0 ≤ f → sum3 f l ≠ none → (∀ v ∈ l, 0 ≤ v.size) → lookupF n f l = match lkF n f l with | some q => (q.1, q.2, true) | none => (0, 0, false)
  | [], f, _, _, _ => rfl
  | v :: r, f, h0, hs, hp => by
    rw [sum3] at hs
    split at hs
    · exact absurd rfl hs
    · rename_i hle
      have hc0 := cells3_pos v
      have hc := cells3_small v (by omega)
      rw [lookupF, lkF]
      by_cases hv : v.name = n
      · have h1 := hp v (by simp)
        have h2 : mx v.size 0 = v.size := by unfold mx imax; split <;> omega
        simp [hv, h2]
      · have : (v.name == n) = false := by simpa using hv
        rw [this, if_neg (by simp), if_neg (by omega), if_neg hv]
        rw [hc] at hs
        exact lookupF_lk n r _ (by omega) hs (fun x hx => hp x (by simp [hx]))
theorem plOk_of {l : List VarD} {es : List Pl} {q : List Pl × List Int} (hd : dup3 l = false) (he : dupP [] l = some es) (hf : fillP es [] l = some q) (hp : ∀ v ∈ l, 0 ≤ v.size) : plOk l q.1 := by
  intro n
  have hs : sum3 0 l ≠ none := fun h => by
    have := (fillP_sum l es []).1.2 (by simpa using h)
    rw [this] at hf; cases hf
  have h1 := fillP_find n l es [] q hd hf
  have h2 := lookupF_lk n l 0 (by omega) hs hp
  rw [h1, h2]
  simp only [List.length_nil]
  rw [show ((0 : Nat) : Int) = 0 from rfl]
  cases hk : lkF n 0 l with
  | some z => simp
  | none =>
    have := dupP_find n l [] es he (lkF_some n l 0 hk)
    simp [this, plFind]
theorem resolve_same (p : PgD) : resolveF p = resolve3F p := by
  unfold resolveF resolve3F
  by_cases h1 : checkF goodSFs p ≠ 0
  · rw [if_pos h1, if_pos h1]
  · rw [if_neg h1, if_neg h1]
    by_cases h2 : p.vars.length > 16
    · rw [if_pos h2, if_pos h2]
    · rw [if_neg h2, if_neg h2]
      have hp : ∀ v ∈ p.vars, 0 ≤ v.size := by
        intro v hv
        have h3 : checkF goodSFs p = 0 := by simpa using h1
        unfold checkF at h3
        split at h3
        · cases h3
        · split at h3
          · cases h3
          · rename_i hany
            have : goodVarF v = true := by
              cases hg : goodVarF v with
              | true => rfl
              | false => exact absurd (List.any_eq_true.2 ⟨v, hv, by simp [hg]⟩) hany
            unfold goodVarF at this
            grind
      have hdn := dupP_none p.vars []
      have h0 : p.vars.any (fun v => (plFind v.name []).isSome) = false := by simp [plFind]
      rw [h0] at hdn
      cases hd : dup3 p.vars with
      | true =>
        have : dupP [] p.vars = none := hdn.2 (.inr hd)
        rw [this]; simp
      | false =>
        cases he : dupP [] p.vars with
        | none => have := hdn.1 he; rw [hd] at this; simp at this
        | some es =>
          have hfs := fillP_sum p.vars es []
          rw [if_neg (by simp)]
          dsimp only
          cases hf : fillP es [] p.vars with
          | none =>
            have := hfs.1.1 hf
            rw [if_pos (by simpa using this)]
          | some q =>
            have hs : ¬ sum3 0 p.vars = none := fun h => by
              have := hfs.1.2 (by simpa using h)
              rw [this] at hf; cases hf
            rw [if_neg hs]
            dsimp only
            rw [rs4_ok (plOk_of hd he hf hp) p q.2, hfs.2 q hf]
            rfl
end Go.Abs
namespace Go.Abs
open Go
def encB (x : UInt8) : List PVal := [.int .u8 (x.toNat : Int)]
def cObj (xs : List UInt8) (a : Nat) : Option AObj := some (.cells [.pv (.slice (xs.map encB)), .pv (.int .i64 a)])
def nxt (xs : List UInt8) (a : Nat) (n : Int) : Int × Nat := if a < xs.length then (((xs.getD a 0).toNat : Int).tmod n, a + 1) else (0, a)
theorem nxt_lt (xs : List UInt8) (a : Nat) (n : Int) (h : 0 < n) : 0 ≤ (nxt xs a n).1 ∧ (nxt xs a n).1 < n := by
  unfold nxt
  split
  · exact ⟨Int.tmod_nonneg _ (by omega), Int.tmod_lt_of_pos _ h⟩
  · exact ⟨Int.le_refl _, h⟩
theorem nxt_le (xs : List UInt8) (a : Nat) (n : Int) (h : a ≤ xs.length) : (nxt xs a n).2 ≤ xs.length := by unfold nxt; split <;> simp <;> omega

def exL (op value : Int) (name : List UInt8) (args : List Ex) : Ex := .mk op value name 0 0 args
def scal (i : Int) : List UInt8 := if i = 0 then [120] else if i = 1 then [121] else [122]
def arrN (i : Int) : List UInt8 := if i = 0 then [97] else [98]
def opN (i : Int) : Int := if i = 0 then 4 else if i = 1 then 5 else 6
def kF (small : Bool) (k m : Int) : Int := if (small && decide (k ≥ m)) = true then k - m else k
def exprStep (xs : List UInt8) (rec : Nat → Ex × Nat) (small : Bool) (a : Nat) : Ex × Nat :=
  if kF small (nxt xs a 12).1 8 < 2 then (exL 1 (nxt xs (nxt xs a 12).2 5).1 [] [], (nxt xs (nxt xs a 12).2 5).2)
  else if kF small (nxt xs a 12).1 8 < 4 then (exL 2 0 (scal (nxt xs (nxt xs a 12).2 3).1) [], (nxt xs (nxt xs a 12).2 3).2)
  else if kF small (nxt xs a 12).1 8 = 4 then (exL 7 0 [] [], (nxt xs a 12).2)
  else if kF small (nxt xs a 12).1 8 = 5 then (exL (opN (nxt xs (nxt xs a 12).2 3).1) 0 [] [], (nxt xs (nxt xs a 12).2 3).2)
  else if kF small (nxt xs a 12).1 8 = 6 ∨ small = true then (exL 1 (1 + (nxt xs (nxt xs a 12).2 200).1) [] [], (nxt xs (nxt xs a 12).2 200).2)
  else if kF small (nxt xs a 12).1 8 = 7 then (exL 3 0 (arrN (nxt xs (nxt xs a 12).2 2).1) [(rec (nxt xs (nxt xs a 12).2 2).2).1], (rec (nxt xs (nxt xs a 12).2 2).2).2)
  else if kF small (nxt xs a 12).1 8 = 8 then (exL (8 + (nxt xs (nxt xs a 12).2 2).1) 0 [] [(rec (nxt xs (nxt xs a 12).2 2).2).1], (rec (nxt xs (nxt xs a 12).2 2).2).2)
  else (exL (10 + (nxt xs (rec (nxt xs a 12).2).2 13).1) 0 [] [(rec (nxt xs a 12).2).1, (rec (nxt xs (rec (nxt xs a 12).2).2 13).2).1], (rec (nxt xs (rec (nxt xs a 12).2).2 13).2).2)
def exprF (xs : List UInt8) : Nat → Nat → Ex × Nat
  | 0, a => exprStep xs (fun a => (exL 0 0 [] [], a)) true a
  | d + 1, a => exprStep xs (exprF xs d) (decide (d + 1 ≤ 1)) a
theorem exprStep_le (xs : List UInt8) (rec : Nat → Ex × Nat) (small : Bool) (a : Nat) (ha : a ≤ xs.length) (hr : ∀ a ≤ xs.length, (rec a).2 ≤ xs.length) : (exprStep xs rec small a).2 ≤ xs.length := by
  have h0 := nxt_le xs a 12 ha
  unfold exprStep
  repeat' split
  all_goals first | exact nxt_le _ _ _ h0 | exact h0 | exact hr _ (nxt_le _ _ _ h0) | exact hr _ (nxt_le _ _ _ (hr _ h0))
theorem exprF_le (xs : List UInt8) : ∀ (d a : Nat), a ≤ xs.length → (exprF xs d a).2 ≤ xs.length
  | 0, a, h => exprStep_le xs _ _ a h (fun a h => h)
  | d + 1, a, h => exprStep_le xs _ _ a h (fun a h => exprF_le xs d a h)

def smL (kind : Int) (name : List UInt8) (place value : Ex) (body els : List Sm) : Sm := .mk kind name 0 0 place value body els
def ex0 : Ex := .mk 0 0 [] 0 0 []
def stmtStep (xs : List UInt8) (rec : Int → Nat → List Sm × Nat) (small : Bool) (a : Nat) : Sm × Nat :=
  let q := nxt xs a 10
  if kF small q.1 7 < 3 then (smL 1 (scal (nxt xs q.2 3).1) ex0 (exprF xs 3 (nxt xs q.2 3).2).1 [] [], (exprF xs 3 (nxt xs q.2 3).2).2)
  else if kF small q.1 7 = 3 then (smL 2 (arrN (nxt xs q.2 2).1) (exprF xs 2 (nxt xs q.2 2).2).1 (exprF xs 2 (exprF xs 2 (nxt xs q.2 2).2).2).1 [] [], (exprF xs 2 (exprF xs 2 (nxt xs q.2 2).2).2).2)
  else if kF small q.1 7 < 6 then (smL 5 [] (exprF xs 2 q.2).1 (exprF xs 2 (exprF xs 2 q.2).2).1 [] [], (exprF xs 2 (exprF xs 2 q.2).2).2)
  else if kF small q.1 7 = 6 then (smL 6 [] ex0 (exprF xs 2 q.2).1 [] [], (exprF xs 2 q.2).2)
  else if kF small q.1 7 < 9 then (smL 3 [] ex0 (exprF xs 2 q.2).1 (rec 2 (exprF xs 2 q.2).2).1 (rec 1 (rec 2 (exprF xs 2 q.2).2).2).1, (rec 1 (rec 2 (exprF xs 2 q.2).2).2).2)
  else (smL 4 [] ex0 (exprF xs 2 q.2).1 (rec 2 (exprF xs 2 q.2).2).1 [], (rec 2 (exprF xs 2 q.2).2).2)
def stmtsLoop (xs : List UInt8) (rec : Int → Nat → List Sm × Nat) (small : Bool) : Nat → Nat → List Sm × Nat
  | 0, a => ([], a)
  | n + 1, a => ((stmtStep xs rec small a).1 :: (stmtsLoop xs rec small n (stmtStep xs rec small a).2).1, (stmtsLoop xs rec small n (stmtStep xs rec small a).2).2)
def stmtsTop (xs : List UInt8) (rec : Int → Nat → List Sm × Nat) (small : Bool) (most : Int) (a : Nat) : List Sm × Nat :=
  stmtsLoop xs rec small (nxt xs a (most + 1)).1.toNat (nxt xs a (most + 1)).2
def stmtsF (xs : List UInt8) : Nat → Int → Nat → List Sm × Nat
  | 0, most, a => stmtsTop xs (fun _ a => ([], a)) true most a
  | d + 1, most, a => stmtsTop xs (stmtsF xs d) (decide (d + 1 ≤ 1)) most a
theorem stmtStep_le (xs : List UInt8) (rec : Int → Nat → List Sm × Nat) (small : Bool) (a : Nat) (ha : a ≤ xs.length) (hr : ∀ m a, a ≤ xs.length → (rec m a).2 ≤ xs.length) : (stmtStep xs rec small a).2 ≤ xs.length := by
  have h0 := nxt_le xs a 10 ha
  unfold stmtStep
  dsimp only
  repeat' split
  all_goals dsimp only
  all_goals first | exact exprF_le _ _ _ (nxt_le _ _ _ h0) | exact exprF_le _ _ _ (exprF_le _ _ _ (nxt_le _ _ _ h0)) | exact exprF_le _ _ _ (exprF_le _ _ _ h0) | exact exprF_le _ _ _ h0 | exact hr _ _ (hr _ _ (exprF_le _ _ _ h0)) | exact hr _ _ (exprF_le _ _ _ h0)
theorem stmtsLoop_le (xs : List UInt8) (rec : Int → Nat → List Sm × Nat) (small : Bool) (hr : ∀ m a, a ≤ xs.length → (rec m a).2 ≤ xs.length) : ∀ (n a : Nat), a ≤ xs.length → (stmtsLoop xs rec small n a).2 ≤ xs.length
  | 0, a, h => h
  | n + 1, a, h => stmtsLoop_le xs rec small hr n _ (stmtStep_le xs rec small a h hr)
theorem stmtsF_le (xs : List UInt8) : ∀ (d : Nat) (m : Int) (a : Nat), a ≤ xs.length → (stmtsF xs d m a).2 ≤ xs.length
  | 0, m, a, h => stmtsLoop_le xs _ _ (fun _ _ h => h) _ _ (nxt_le _ _ _ h)
  | d + 1, m, a, h => stmtsLoop_le xs _ _ (fun m a h => stmtsF_le xs d m a h) _ _ (nxt_le _ _ _ h)
def eB : Nat → Nat
  | 0 => 1
  | d + 1 => 1 + 2 * eB d
theorem exprStep_sz (xs : List UInt8) (rec : Nat → Ex × Nat) (small : Bool) (a B : Nat) (hr : ∀ a, szE (rec a).1 ≤ B) : szE (exprStep xs rec small a).1 ≤ 1 + 2 * B := by
  have h := fun a => hr a
  unfold exprStep
  repeat' split
  all_goals simp only [exL, szE, szEs]
  all_goals try omega
  · have := h (nxt xs (nxt xs a 12).2 2).2; omega
  · have := h (nxt xs (nxt xs a 12).2 2).2; omega
  · have := h (nxt xs a 12).2; have := h (nxt xs (rec (nxt xs a 12).2).2 13).2; omega
theorem exprF_sz (xs : List UInt8) : ∀ (d a : Nat), szE (exprF xs d a).1 ≤ 1 + 2 * eB d
  | 0, a => exprStep_sz xs _ _ a 1 (fun a => by simp [exL, szE, szEs])
  | d + 1, a => exprStep_sz xs _ _ a _ (fun a => by have := exprF_sz xs d a; simp only [eB] at *; omega)
def sB : Nat → Nat
  | 0 => 100
  | d + 1 => 100 + 3 * sB d
theorem stmtStep_sz (xs : List UInt8) (rec : Int → Nat → List Sm × Nat) (small : Bool) (a B : Nat) (h2 : ∀ a, szSs (rec 2 a).1 ≤ 2 * B) (h1 : ∀ a, szSs (rec 1 a).1 ≤ B) : szS (stmtStep xs rec small a).1 ≤ 100 + 3 * B := by
  have e2 := fun a => exprF_sz xs 2 a
  have e3 := fun a => exprF_sz xs 3 a
  simp only [eB] at e2 e3
  unfold stmtStep
  dsimp only
  repeat' split
  all_goals simp only [smL, szS, szSs, ex0, szE, szEs]
  · have := e3 (nxt xs (nxt xs a 10).2 3).2; omega
  · have := e2 (nxt xs (nxt xs a 10).2 2).2; have := e2 (exprF xs 2 (nxt xs (nxt xs a 10).2 2).2).2; omega
  · have := e2 (nxt xs a 10).2; have := e2 (exprF xs 2 (nxt xs a 10).2).2; omega
  · have := e2 (nxt xs a 10).2; omega
  · have := e2 (nxt xs a 10).2; have := h2 (exprF xs 2 (nxt xs a 10).2).2; have := h1 (rec 2 (exprF xs 2 (nxt xs a 10).2).2).2; omega
  · have := e2 (nxt xs a 10).2; have := h2 (exprF xs 2 (nxt xs a 10).2).2; omega
theorem stmtsLoop_sz (xs : List UInt8) (rec : Int → Nat → List Sm × Nat) (small : Bool) (B : Nat) (h : ∀ a, szS (stmtStep xs rec small a).1 ≤ B) : ∀ (n a : Nat), szSs (stmtsLoop xs rec small n a).1 ≤ n * B
  | 0, a => by simp [stmtsLoop, szSs]
  | n + 1, a => by
    have h1 := h a
    have h2 := stmtsLoop_sz xs rec small B h n (stmtStep xs rec small a).2
    simp only [stmtsLoop, szSs]
    rw [Nat.succ_mul]; omega
theorem stmtsTop_sz (xs : List UInt8) (rec : Int → Nat → List Sm × Nat) (small : Bool) (B : Nat) (h : ∀ a, szS (stmtStep xs rec small a).1 ≤ B) (most : Nat) (a : Nat) : szSs (stmtsTop xs rec small most a).1 ≤ most * B := by
  unfold stmtsTop
  have h1 := nxt_lt xs a ((most : Int) + 1) (by omega)
  refine Nat.le_trans (stmtsLoop_sz xs rec small B h _ _) (Nat.mul_le_mul_right _ (by omega))
theorem stmtsF_sz (xs : List UInt8) : ∀ (d : Nat) (most : Nat) (a : Nat), szSs (stmtsF xs d most a).1 ≤ most * sB (d + 1)
  | 0, most, a => stmtsTop_sz xs _ _ _ (fun a => Nat.le_trans (stmtStep_sz xs _ _ a 0 (fun _ => by simp [szSs]) (fun _ => by simp [szSs])) (by simp [sB])) most a
  | d + 1, most, a => stmtsTop_sz xs _ _ _ (fun a => Nat.le_trans (stmtStep_sz xs _ _ a (sB (d + 1)) (fun a => stmtsF_sz xs d 2 a) (fun a => by have := stmtsF_sz xs d 1 a; simpa using this)) (by simp [sB])) most a
end Go.Abs
namespace Go.Abs
open Go

def varsF (u v w : Int) : List VarD := [⟨[120], 0, u - 2⟩, ⟨[97], 1 + v, 0⟩, ⟨[121], 0, 0⟩, ⟨[122], 0, w⟩, ⟨[98], 2, 0⟩]
def programF (xs : List UInt8) (a : Nat) : PgD × Nat :=
  let m1 := nxt xs a 7
  let m2 := nxt xs m1.2 5
  let m3 := nxt xs m2.2 3
  let s1 := stmtsF xs 2 3 m3.2
  let s2 := stmtsF xs 3 4 s1.2
  let s3 := stmtsF xs 2 3 s2.2
  let s4 := stmtsF xs 2 2 s3.2
  (⟨varsF m1.1 m2.1 m3.1, s1.1, s2.1, s3.1, s4.1⟩, s4.2)
theorem programF_le (xs : List UInt8) (a : Nat) (h : a ≤ xs.length) : (programF xs a).2 ≤ xs.length :=
  stmtsF_le _ _ _ _ (stmtsF_le _ _ _ _ (stmtsF_le _ _ _ _ (stmtsF_le _ _ _ _ (nxt_le _ _ _ (nxt_le _ _ _ (nxt_le _ _ _ h))))))
theorem programF_sz (xs : List UInt8) (a : Nat) : szP (programF xs a).1 ≤ 100000 := by
  unfold programF szP
  dsimp only
  have h1 := stmtsF_sz xs 2 3 (nxt xs (nxt xs (nxt xs a 7).2 5).2 3).2
  have h2 := stmtsF_sz xs 3 4 (stmtsF xs 2 3 (nxt xs (nxt xs (nxt xs a 7).2 5).2 3).2).2
  have h3 := stmtsF_sz xs 2 3 (stmtsF xs 3 4 (stmtsF xs 2 3 (nxt xs (nxt xs (nxt xs a 7).2 5).2 3).2).2).2
  have h4 := stmtsF_sz xs 2 2 (stmtsF xs 2 3 (stmtsF xs 3 4 (stmtsF xs 2 3 (nxt xs (nxt xs (nxt xs a 7).2 5).2 3).2).2).2).2
  simp only [sB, Int.cast_ofNat_Int] at h1 h2 h3 h4
  simp only [varsF, List.length_cons, List.length_nil]
  omega
def nmL : List (List UInt8) := [[120], [121], [122], [99, 111, 117, 110, 116], [97, 49], [95, 98], [118, 97, 114], [49, 97], [], [102, 114, 111, 109], [97, 98, 99, 100, 101, 102, 103, 104, 105, 106, 107, 108, 109, 110, 111, 112], [97, 98, 99, 100, 101, 102, 103, 104, 105, 106, 107, 108, 109, 110, 111, 112, 113], [120, 32, 121], [88]]
def nameF (xs : List UInt8) (a : Nat) : List UInt8 × Nat :=
  if (nxt xs a 8).1 = 7 then (nmL.getD (nxt xs (nxt xs a 8).2 14).1.toNat [], (nxt xs (nxt xs a 8).2 14).2) else (nmL.getD (nxt xs (nxt xs a 8).2 6).1.toNat [], (nxt xs (nxt xs a 8).2 6).2)
theorem nameF_le (xs : List UInt8) (a : Nat) (h : a ≤ xs.length) : (nameF xs a).2 ≤ xs.length := by
  unfold nameF
  split <;> exact nxt_le _ _ _ (nxt_le _ _ _ h)

end Go.Abs
namespace Go.Abs
open Go

def ls12 : List UInt8 := [97, 98, 99, 100, 101, 102, 103, 104, 105, 106, 107, 108]
def badL (xs : List UInt8) : Nat → Nat → Nat → List VarD → List VarD × Nat
  | 0, _, a, v => (v, a)
  | f + 1, i, a, v => if (i : Int) < 10 + (nxt xs a 3).1 then badL xs f (i + 1) (nxt xs a 3).2 (v ++ [⟨118 :: (ls12.take (i + 1)).drop i, 0, 0⟩]) else (v, (nxt xs a 3).2)
theorem badL_ok (xs : List UInt8) : ∀ (f i a : Nat) (v : List VarD), a ≤ xs.length → (badL xs f i a v).2 ≤ xs.length ∧ (badL xs f i a v).1.length ≤ v.length + f
  | 0, i, a, v, h => ⟨h, by simp [badL]⟩
  | f + 1, i, a, v, h => by
    rw [badL]
    split
    · have := badL_ok xs f (i + 1) (nxt xs a 3).2 (v ++ [⟨118 :: (ls12.take (i + 1)).drop i, 0, 0⟩]) (nxt_le _ _ _ h)
      refine ⟨this.1, ?_⟩
      have h2 := this.2
      simp only [List.length_append, List.length_cons, List.length_nil] at h2
      omega
    · exact ⟨nxt_le _ _ _ h, by simp⟩
end Go.Abs
namespace Go.Abs
open Go
mutual
theorem r3E_sz (l : List VarD) : ∀ e : Ex, szE (r3E l e).1 = szE e
  | .mk op v n a b args => by simp only [r3E, szE, r3Es_sz l args]
theorem r3Es_sz (l : List VarD) : ∀ e : List Ex, szEs (r3Es l e).1 = szEs e
  | [] => by simp [r3Es]
  | e :: r => by simp only [r3Es, szEs, r3E_sz l e, r3Es_sz l r]
end
mutual
theorem r3S_sz (l : List VarD) : ∀ s : Sm, szS (r3S l s).1 = szS s
  | .mk k n a b p v body els => by simp only [r3S, szS, r3E_sz, r3Ss_sz l body, r3Ss_sz l els]
theorem r3Ss_sz (l : List VarD) : ∀ s : List Sm, szSs (r3Ss l s).1 = szSs s
  | [] => by simp [r3Ss]
  | e :: r => by simp only [r3Ss, szSs, r3S_sz l e, r3Ss_sz l r]
end
structure CdSz (c : CdD) (n : Nat) : Prop where
  h0 : c.init.length ≤ 32
  h1 : szSs c.start ≤ n
  h2 : szSs c.message ≤ n
  h3 : szSs c.tick ≤ n
  h4 : szSs c.input ≤ n
theorem resolve3_sz (p : PgD) : CdSz (resolve3F p).1 (szP p) := by
  have hz : CdSz cd0 (szP p) := ⟨by simp [cd0], by simp [cd0, szSs], by simp [cd0, szSs], by simp [cd0, szSs], by simp [cd0, szSs]⟩
  unfold resolve3F
  split
  · exact hz
  · split
    · exact hz
    · split
      · exact hz
      · split
        · exact hz
        · rename_i hs
          split
          · exact hz
          · split
            · exact hz
            · cases h : sum3 0 p.vars with
              | none => exact absurd h hs
              | some m =>
                have := sum3_len p.vars 0 m (by omega) h
                have h32 : mx 0 32 = 32 := by decide
                rw [h32] at this
                refine ⟨by simp only; omega, ?_, ?_, ?_, ?_⟩ <;> simp only [r3Ss_sz] <;> unfold szP <;> omega
def encPg (p : PgD) : List PVal := [.slice (p.vars.map encVar), .slice (p.start.map encSm), .slice (p.message.map encSm), .slice (p.tick.map encSm), .slice (p.input.map encSm)]
def pgAw : PgD := ⟨[⟨[120], 0, 3⟩, ⟨[97], 2, 0⟩, ⟨[121], 0, 0⟩], [], [], [], []⟩
theorem resolve_aw : resolveF pgAw = (⟨[3, 0, 0, 0], [], [], [], []⟩, 0) := by rfl
theorem lookup_aw : lookupF [121] 0 pgAw.vars = (3, 0, true) := by rfl
end Go.Abs
namespace Go.Abs
open Go Go.ChangeShapes Go.WideShapes Go.ChangeAt Go.RowKit

def memOf (W : World) : Mem := fun b i => W.cell? ⟨b, i, none⟩

structure Held (W W' : World) : Prop where
  os : W'.os = W.os
  output : W'.output = W.output
  size : W.heap.size ≤ W'.heap.size
  same : ∀ b, b < W.heap.size → W'.heap[b]? = W.heap[b]?

theorem law_runs {P : Program} {gl : Nat → Option (List PVal)} {f : FuncId} {W : World} (pvs : List PVal) (vargs : List Value) (hac : AC P gl f (pvs.map .pv) [] (.pv (.bool true)) [])
    (hgl : GOK ⟨fun _ => none, gl, fun _ => 0, 0⟩ (memOf W)) (hlen : vargs.length = pvs.length) (hrd : ∀ i, i < pvs.length → Rd (memOf W) (pvs.getD i .nilptr) (vargs.getD i undef)) :
    Calls P f vargs.toArray W fun e W' => e = .returned (.bool true) ∧ Held W W' := by
  have hR : Rel ⟨W, memOf W, blocksOf ⟨fun _ => 0, fun _ => 0, fun _ => false⟩ []⟩ ⟨pvs.map .pv, []⟩ ⟨fun _ => 0, fun _ => 0, fun _ => false⟩ (memOf W) ⟨vargs.toArray, []⟩ W := by
    refine ⟨by simpa using hlen, rfl, fun i hi => ?_, ?_, ?_, ?_, fun b i u h => h, Mem.le_refl _, fun _ _ _ _ => rfl, Nat.le_refl _, fun _ _ _ => rfl, ?_, rfl, rfl, rfl⟩
    · simp only [List.length_map] at hi
      have h1 := hrd i hi
      have e1 : St.slot ⟨pvs.map .pv, []⟩ i = .pv (pvs.getD i .nilptr) := by simp [St.slot, List.getD, hi]
      have e2 : vargs.toArray.getD i undef = vargs.getD i undef := by simp [Array.getD, List.getD, hlen, hi]
      rw [e1]
      show V _ _ _ _ (vargs.toArray.getD i undef)
      rw [e2]
      exact .pv h1
    · intro id o h; simp [St.obj] at h
    · intro id id' o o' b h; simp [St.obj] at h
    · intro id o b h; simp [St.obj] at h
    · intro id o b h; simp [St.obj] at h
  refine (hac W (memOf W) _ vargs hR hgl).mono fun e W' ⟨v, g', M', he, hR', _⟩ => ?_
  have hs := hR'.slots 0 (by simp)
  have hv : v = .bool true := by
    have h1 : V g' (St.dom ⟨[.pv (.bool true)], []⟩) M' (.pv (.bool true)) v := by simpa [St.slot, Array.getD] using hs
    cases h1 with
    | pv h => cases h; rfl
  have hB : ∀ b, ¬ blocksOf ⟨fun _ => 0, fun _ => 0, fun _ => false⟩ [] b := by rintro b ⟨id, ob, h, _⟩; simp at h
  exact ⟨by rw [he, hv], hR'.os, hR'.output, hR'.size0, fun b hb => hR'.same b hb (hB b)⟩

section
variable {H : Type} {enc : TypeId × Value → H} {P : Program}

theorem Held.sameAt {W W' : World} (h : Held W W') {p : MemPlace} (hp : p.block < W.heap.size) : W.sameAt W' p := by
  cases p with
  | cell b off => show W'.cell? _ = W.cell? _; simp only [World.cell?]; rw [h.same b hp]
  | map b => exact h.same b hp

theorem trodAll_stays (hl : laidOutB P = true) {W W' : World} (hh : Held W W') {sp' : Nat → Bool} : ∀ {ts : List TypeId} {vs : List Value} {ds : List (DataW H)} {ps : List MemPlace}, (∀ t ∈ ts, P.readableRec t = true ∧ t < P.types.size) →
    DataW.TrodAll enc P W 0 (fun _ => true) true ts vs ds ps → (∀ p ∈ ps, p.block < W.heap.size) → (∀ p ∈ ps, sp' p.block = true) → DataW.TrodAll enc P W' 0 sp' true ts vs ds ps
  | [], [], [], _, _, h, _, _ => h
  | [], [], _ :: _, _, _, h, _, _ => h.elim
  | [], _ :: _, _, _, _, h, _, _ => h.elim
  | _ :: _, [], _, _, _, h, _, _ => h.elim
  | _ :: _, _ :: _, [], _, _, h, _, _ => h.elim
  | t :: ts, v :: vs, d :: ds, ps, hr, ⟨p, q, h1, h2, he⟩, hlt, hsp => by
    subst he
    have hr1 := hr t (by simp)
    exact ⟨p, q, WideElems.Trod_stays hl hr1.1 hr1.2 h1 (fun x hx => hh.sameAt (hlt x (by simp [hx]))) (fun x hx => hsp x (by simp [hx])),
      trodAll_stays hl hh (fun t ht => hr t (by simp [ht])) h2 (fun x hx => hlt x (by simp [hx])) (fun x hx => hsp x (by simp [hx])), rfl⟩

theorem Held.keptBut {W W' : World} (h : Held W W') (may : MemPlace → Prop) : W.keptBut W' may := by
  refine ⟨h.os, h.output, fun i hi => ?_⟩
  rw [h.same i hi]
  split
  · rename_i h1 h2; rw [h1] at h2; cases h2; exact ⟨rfl, rfl, rfl, fun _ _ => rfl⟩
  · rename_i h1 h2; rw [h1] at h2; cases h2; exact .inr ⟨rfl, rfl⟩
  · rfl

theorem law_post {f : Func} {s : ChangeSpec} {fresh handsOn again : Bool} {W W' : World} {args : Array Value} {ds gs : List (DataW H)} {before : List MemPlace} {tb : TypeId}
    (hl : laidOutB P = true) (hr : ∀ t ∈ f.params.toList, P.readableRec t = true ∧ t < P.types.size) (hrt : f.resultTypes = #[tb]) (htb : P.underlying tb = some .bool)
    (hvars : s.vars = []) (hfn : ∀ ds : List (DataW H), ds.length = f.params.size → (s.fn H ds).results = [.lit (.bool true)] ∧ (s.fn H ds).args = ds ∧ (s.fn H ds).vars = [])
    (hW : DataW.Whole enc P f.params.toList s.vars false W args.toList ds gs before) (hh : Held W W') :
    s.post enc P f false fresh handsOn again W args (.bool true) W' := by
  have hlt := hW.lt
  have hW' := hW
  obtain ⟨p, q, hA, hV, rfl, hz, hn⟩ := hW
  rw [hvars] at hV
  obtain ⟨rfl, rfl⟩ := trodVars_none hV
  rw [List.append_nil] at hlt hz hn hW'
  have hdl : ds.length = f.params.size := by
    have : ∀ {ts : List TypeId} {vs : List Value} {ds : List (DataW H)} {ps : List MemPlace}, DataW.TrodAll enc P W 0 (fun _ => true) true ts vs ds ps → ds.length = ts.length := by
      intro ts
      induction ts with
      | nil => intro vs ds ps h; obtain ⟨_, rfl, _⟩ := trodAll_nil h; rfl
      | cons t ts ih =>
        intro vs ds ps h
        obtain ⟨_, _, _, _, _, _, _, rfl, _, _, h2⟩ := trodAll_cons h
        simp [ih h2]
    simpa using this hA
  obtain ⟨f1, f2, f3⟩ := hfn (ds ++ []) (by simpa using hdl)
  have hres : ∀ (b : Nat) (sp : Nat → Bool) (hd : Bool), DataW.TrodAll enc P W' b sp hd f.resultTypes.toList ((Value.bool true).resultList f.resultTypes.size) (s.fn H (ds ++ [])).results [] := fun b sp hd => by
    rw [f1, hrt]
    exact trodAll_cons_mk (shut_bool htb _) trodAll_mk0
  have hargs : ∀ sp : Nat → Bool, (∀ x ∈ p, sp x.block = true) → DataW.TrodAll enc P W' 0 sp true f.params.toList args.toList (s.fn H (ds ++ [])).args p := fun sp hsp => by
    rw [f2, List.append_nil]
    exact trodAll_stays hl hh hr hA hlt hsp
  have hvs : ∀ sp : Nat → Bool, DataW.TrodVars enc P W' sp s.vars (s.fn H (ds ++ [])).vars [] := fun sp => by rw [hvars, f3]; rfl
  refine ⟨ds, [], p, [], p, [], hW', hres _ _ _, hargs _ (fun x hx => by simpa using hlt x hx), hvs _, hh.keptBut _, fun _ => ?_⟩
  refine ⟨?_, _, _, ([] ++ p) ++ [], ⟨[] ++ p, [], trodAll_append (hargs _ (fun _ _ => rfl)) (hres _ _ _), hvs _, rfl, ?_, ?_⟩, ?_⟩
  · exact ok_one (by rw [hrt]) rfl (okWide_bool_mk htb _)
  · intro b off hp
    have hp' : MemPlace.cell b off ∈ p := by simpa using hp
    have := hz b off hp'
    rw [World.frozen?, hh.same b (hlt _ hp')]
    exact this
  · intro ha; cases ha
  · intro x hx _
    simpa using hx
end
end Go.Abs
namespace Go.Abs
open Go Go.ChangeShapes Go.WideShapes Go.ChangeAt Go.RowKit Go.Deep

section
variable {H : Type} {enc : TypeId × Value → H} {P : Program} {W : World} {spare : Nat → Bool} {held : Bool}

theorem addr_add (b off k : Nat) : (⟨b, off, none⟩ : Addr).add k = ⟨b, off + k, none⟩ := by
  unfold Addr.add
  split
  · rename_i h; subst h; rfl
  · rfl

theorem spot_none {base : Nat} {t e : TypeId} {a : Addr} {len cap : Nat} (ht : P.underlying t = some (.slice e)) (hv : Value.okWide P W .any base t (.slice (some a) len cap)) : a.spot = none := by
  simp only [Value.okWide, ht, Cell.okWide, Cell.ok] at hv
  exact hv.2.2.2.1

theorem open_vars {base : Nat} {t e : TypeId} {f0 f1 f2 : Field} {v : Value} {d : DataW H} {p : List MemPlace} (ht : P.underlying t = some (.slice e)) (he : P.underlying e = some (.struct #[f0, f1, f2])) (hC : P.cellsOf e = 3)
    (o0 : f0.offset = 0 ∧ P.cellsOf f0.type = 1) (o1 : f1.offset = 1 ∧ P.cellsOf f1.type = 1) (o2 : f2.offset = 2 ∧ P.cellsOf f2.type = 1)
    (h0 : P.underlying f0.type = some .string) (h1 : P.underlying f1.type = some (.int .i64)) (h2 : P.underlying f2.type = some (.int .i64))
    (hval : Value.okWide P W .any base t v) (h : DataW.Trod enc P W 0 spare held t v d p) : ∃ l : List VarD, Rd (memOf W) (.slice (l.map encVar)) v := by
  obtain ⟨a', len', cap', rfl⟩ := okWide_slice ht hval
  obtain ⟨fuel, hf⟩ := h
  rcases open_slice ht hf with ⟨hcs, _⟩ | ⟨a, len, cap, m, n, D, Pl, hcs, _, hlc, _, hm, _, hi⟩
  · simp [Value.cells] at hcs
    obtain ⟨rfl, rfl, rfl⟩ := hcs
    exact ⟨[], .nils⟩
  · simp [Value.cells] at hcs
    obtain ⟨rfl, rfl, rfl⟩ := hcs
    have hsp := spot_none ht hval
    obtain ⟨b, off, sp⟩ := a
    cases hsp
    have hml : len' ≤ m := by rw [hm]; split <;> omega
    have key : ∀ i, ∃ x : VarD, i < len' → memOf W b (off + i * 3 + 0) = some (.string ⟨x.name.toArray⟩) ∧ memOf W b (off + i * 3 + 1) = some (.int .i64 x.size) ∧ memOf W b (off + i * 3 + 2) = some (.int .i64 x.init) := by
      intro i
      by_cases hil : i < len'
      · obtain ⟨cs, hc, ht'⟩ := hi i (by omega)
        rw [hC] at hc
        obtain ⟨_, hcl, hat⟩ := World.cells?_some hc
        obtain ⟨xs, n', _, _, _, hxl, hfd⟩ := DataW.trod_struct he ht'
        match cs, hcl with
        | [c0, c1, c2], _ =>
          have e0 := hfd 0 f0 rfl
          have e1 := hfd 1 f1 rfl
          have e2 := hfd 2 f2 rfl
          rw [o0.1, o0.2] at e0
          rw [o1.1, o1.2] at e1
          rw [o2.1, o2.2] at e2
          have hx : xs.length = 3 := hxl
          match xs, hx with
          | [x0, x1, x2], _ =>
            obtain ⟨s, hs, _, _⟩ := DataW.trod_string h0 e0
            obtain ⟨z1, hz1, _, _⟩ := DataW.trod_int h1 e1
            obtain ⟨z2, hz2, _, _⟩ := DataW.trod_int h2 e2
            simp at hs hz1 hz2
            subst hs hz1 hz2
            have a0 := hat 0 (by omega)
            have a1 := hat 1 (by omega)
            have a2 := hat 2 (by omega)
            rw [addr_add, addr_add] at a0 a1 a2
            refine ⟨⟨s.data.toList, z1, z2⟩, fun _ => ⟨?_, ?_, ?_⟩⟩
            · simpa [memOf] using a0
            · simpa [memOf] using a1
            · simpa [memOf] using a2
      · exact ⟨⟨[], 0, 0⟩, fun h => absurd h hil⟩
    let g : Nat → VarD := fun i => Classical.choose (key i)
    have hg : ∀ i, i < len' → _ := fun i hi => Classical.choose_spec (key i) hi
    refine ⟨(List.range len').map g, ?_⟩
    have hlen : (((List.range len').map g).map encVar).length = len' := by simp
    have := Rd.slice (M := memOf W) (((List.range len').map g).map encVar) 3 b off cap' (fun i j => match j with | 0 => .string ⟨(g i).name.toArray⟩ | 1 => .int .i64 (g i).size | _ => .int .i64 (g i).init)
      (fun x hx => by simp at hx; obtain ⟨i, _, rfl⟩ := hx; rfl) (fun i j hi hj => ?_) (fun i j hi hj => ?_) (by rw [hlen]; exact hlc)
    · rw [hlen] at this; exact this
    · rw [hlen] at hi
      obtain ⟨g0, g1, g2⟩ := hg i hi
      match j, hj with
      | 0, _ => exact g0
      | 1, _ => exact g1
      | 2, _ => exact g2
    · rw [hlen] at hi
      have hc : pcell (((List.range len').map g).map encVar) i j = (encVar (g i)).getD j .nilptr := by simp [pcell, List.getD, hi]
      rw [hc]
      match j, hj with
      | 0, _ => exact .str _
      | 1, _ => exact .int _ _
      | 2, _ => exact .int _ _
end
end Go.Abs
namespace Go.Abs
open Go Go.ChangeShapes Go.WideShapes Go.ChangeAt Go.RowKit Go.Deep
section
variable {H : Type} {enc : TypeId × Value → H} {P : Program} {W : World} {spare : Nat → Bool} {held : Bool}
theorem open_bytes {base : Nat} {t e : TypeId} {v : Value} {d : DataW H} {p : List MemPlace} (ht : P.underlying t = some (.slice e)) (he : P.underlying e = some (.int .u8)) (hC : P.cellsOf e = 1)
    (hval : Value.okWide P W .any base t v) (h : DataW.Trod enc P W 0 spare held t v d p) : ∃ l : List UInt8, Rd (memOf W) (.slice (l.map encB)) v := by
  obtain ⟨a', len', cap', rfl⟩ := okWide_slice ht hval
  obtain ⟨fuel, hf⟩ := h
  rcases Go.ChangeShapes.open_ints ht he hC hf with ⟨hcs, _⟩ | ⟨a, len, cap, zs, hcs, _, hlc, _, hzl, _, hcell, hwf⟩
  · simp [Value.cells] at hcs
    obtain ⟨rfl, rfl, rfl⟩ := hcs
    exact ⟨[], .nils⟩
  · simp [Value.cells] at hcs
    obtain ⟨rfl, rfl, rfl⟩ := hcs
    have hsp := spot_none ht hval
    obtain ⟨b, off, sp⟩ := a
    cases hsp
    have hml : len' ≤ zs.length := by rw [hzl]; split <;> omega
    have hz : ∀ i, i < zs.length → ∃ u : UInt8, zs.getD i 0 = (u.toNat : Int) := fun i hi => by
      have hm : zs.getD i 0 ∈ zs := by simp [List.getD, hi]
      have := hwf _ hm
      have hr : 0 ≤ zs.getD i 0 ∧ zs.getD i 0 ≤ 255 := by simpa [Lit.wf, IntKind.min, IntKind.max, IntKind.bits, IntKind.signed] using this
      refine ⟨UInt8.ofNat (zs.getD i 0).toNat, ?_⟩
      rw [UInt8.toNat_ofNat']
      omega
    let g : Nat → UInt8 := fun i => if h : i < zs.length then Classical.choose (hz i h) else 0
    have hg : ∀ i, i < zs.length → zs.getD i 0 = ((g i).toNat : Int) := fun i hi => by
      have := Classical.choose_spec (hz i hi)
      simp only [g, hi, dif_pos]; exact this
    refine ⟨(List.range len').map g, ?_⟩
    have hlen : (((List.range len').map g).map encB).length = len' := by simp
    have := Rd.slice (M := memOf W) (((List.range len').map g).map encB) 1 b off cap' (fun i _ => .int .u8 (((g i).toNat : Nat) : Int))
      (fun x hx => by simp at hx; obtain ⟨i, _, rfl⟩ := hx; rfl) (fun i j hi hj => ?_) (fun i j hi hj => ?_) (by rw [hlen]; exact hlc)
    · rw [hlen] at this; exact this
    · rw [hlen] at hi
      have hj0 : j = 0 := by omega
      subst hj0
      have hc := hcell i (by omega)
      rw [addr_add] at hc
      rw [hg i (by omega)] at hc
      simpa [memOf] using hc
    · rw [hlen] at hi
      have hj0 : j = 0 := by omega
      subst hj0
      have hc : pcell (((List.range len').map g).map encB) i 0 = .int .u8 (((g i).toNat : Nat) : Int) := by simp [pcell, List.getD, hi, encB]
      rw [hc]
      exact .int _ _
end
end Go.Abs
namespace Go.Abs
open Go
theorem table_cell {H : Type} {enc : TypeId × Value → H} {P : Program} {w : World} {base : Nat} {spare : Nat → Bool} {held : Bool} {fuel : Nat} {t e : TypeId} {cs : List Value} {ps : List MemPlace} {n : Nat} {ds : List (List UInt8)}
    (ht : P.underlying t = some (.array n e)) (he : P.underlying e = some .string) (hC : P.cellsOf e = 1)
    (h : DataW.trod enc P w base spare held fuel t cs = some (.agg (ds.map fun s => .lit (.string s)), ps)) (i : Nat) (hi : i < ds.length) : cs[i]? = some (.string ⟨(ds.getD i []).toArray⟩) := by
  obtain ⟨xs, m, _, hx, _, hn, hel⟩ := DataW.trod_array ht h
  simp only [Prod.mk.injEq, DataW.agg.injEq] at hx
  have hlen : ds.length = xs.length := by have := congrArg List.length hx.1; simpa using this
  have h1 := hel i (by omega)
  rw [hC, List.getElem?_eq_getElem (by omega)] at h1
  obtain ⟨s, e1, e2, _⟩ := DataW.trod_string he h1
  have h2 : (ds.map fun s => (DataW.lit (.string s) : DataW H))[i]? = (xs.map (fun x => x.fst))[i]? := by rw [hx.1]
  rw [List.getElem?_map, List.getElem?_map, List.getElem?_eq_getElem hi, List.getElem?_eq_getElem (by omega : i < xs.length)] at h2
  simp only [Option.map_some, Option.some.injEq] at h2
  rw [e2] at h2
  simp only [DataW.lit.injEq, Lit.string.injEq] at h2
  have h3 : ds.getD i [] = s.data.toList := by simp [List.getD, hi, h2]
  rw [h3]
  have h4 : cs[i]? = some (.string s) := by
    have := congrArg (fun l => l[0]?) e1
    simpa using this
  rw [h4]
end Go.Abs
