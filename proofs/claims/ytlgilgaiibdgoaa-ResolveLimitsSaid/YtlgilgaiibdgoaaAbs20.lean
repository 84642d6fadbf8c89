/- Small facts for the walks. No condition. -/
import Derived.Test.YtlgilgaiibdgoaaAbs19
import Derived.IntWalk
set_option linter.unusedSimpArgs false
set_option linter.unusedVariables false
namespace Go.Abs
open Go

mutual
theorem ren_none (τ : Nat → Nat) : ∀ (v : AVal), inScope (hasObj []) v = true → ren τ v = v
  | .ref id off, h => by simp [inScope, hasObj] at h
  | .row id n, h => by simp [inScope, hasObj] at h
  | .eref id i j sz, h => by simp [inScope, hasObj] at h
  | .map id, h => by simp [inScope, hasObj] at h
  | .agg cs, h => by simp only [ren]; rw [renL_none τ cs (by simpa [inScope] using h)]
  | .tup cs, h => by simp only [ren]; rw [renL_none τ cs (by simpa [inScope] using h)]
  | .pv p, _ => rfl
  | .snil, _ => rfl
  | .junk, _ => rfl
theorem renL_none (τ : Nat → Nat) : ∀ (l : List AVal), inScopeL (hasObj []) l = true → renL τ l = l
  | [], _ => rfl
  | a :: r, h => by
    simp [inScopeL] at h
    simp only [renL]
    rw [ren_none τ a h.1, renL_none τ r h.2]
end

mutual
/-- One value may stand for another: a nil slice for an empty one. -/
def sub : AVal → AVal → Prop
  | .snil, .pv (.slice []) => True
  | .agg cs, .agg ds => subL cs ds
  | a, b => a = b
def subL : List AVal → List AVal → Prop
  | [], [] => True
  | a :: r, b :: s => sub a b ∧ subL r s
  | _, _ => False
end

theorem subL_get : ∀ {l m : List AVal}, subL l m → l.length = m.length ∧ ∀ i, i < l.length → sub (l.getD i .junk) (m.getD i .junk)
  | [], [], _ => ⟨rfl, fun i hi => by simp at hi⟩
  | a :: r, b :: s, h => by
    rw [subL] at h
    obtain ⟨h1, h2⟩ := subL_get h.2
    refine ⟨by simp [h1], fun i hi => ?_⟩
    cases i with
    | zero => simpa [List.getD] using h.1
    | succ i => simpa [List.getD] using h2 i (by simpa using hi)
  | [], _ :: _, h => by simp [subL] at h
  | _ :: _, [], h => by simp [subL] at h

theorem V.sub {g : Gh} {D : Nat → Prop} {M : Mem} {a : AVal} {v : Value} (h : V g D M a v) : ∀ {b : AVal}, Abs.sub a b → V g D M b v := by
  induction h with
  | snil =>
    intro b hb
    unfold Abs.sub at hb
    split at hb
    · exact .pv .nils
    · rename_i h1; cases h1
    · subst hb; exact .snil
  | agg cs vs hl hv ih =>
    intro b hb
    unfold Abs.sub at hb
    split at hb
    · rename_i h1; cases h1
    · rename_i h1
      cases h1
      rename_i ds
      obtain ⟨h2, h3⟩ := subL_get hb
      exact .agg ds vs (by omega) (fun i hi => ih i (by omega) (h3 i (by omega)))
    · subst hb; exact .agg cs vs hl hv
  | pv r =>
    intro b hb
    rename_i p _
    have : b = .pv p := by cases b <;> simp_all [Abs.sub]
    subst this; exact .pv r
  | ref id off hd => intro b hb; have : b = .ref id off := by cases b <;> simp_all [Abs.sub]
                     subst this; exact .ref id off hd
  | row id n hd hn => intro b hb; have : b = .row id n := by cases b <;> simp_all [Abs.sub]
                      subst this; exact .row id n hd hn
  | rown id hd hn => intro b hb; have : b = .row id 0 := by cases b <;> simp_all [Abs.sub]
                     subst this; exact .rown id hd hn
  | eref id i j sz hd => intro b hb; have : b = .eref id i j sz := by cases b <;> simp_all [Abs.sub]
                         subst this; exact .eref id i j sz hd
  | map id hd => intro b hb; have : b = .map id := by cases b <;> simp_all [Abs.sub]
                 subst this; exact .map id hd
  | tup cs vs hl hv ih => intro b hb; have : b = .tup cs := by cases b <;> simp_all [Abs.sub]
                          subst this; exact .tup cs vs hl hv
  | junk v => intro b hb; have : b = .junk := by cases b <;> simp_all [Abs.sub]
              subst this; exact .junk v

/-- A contract at arguments that may stand for its own. -/
theorem AC.sub {P : Program} {gl : Nat → Option (List PVal)} {f : FuncId} {args args' : List AVal} {objs : List (Option AObj)} {res : AVal} {objs' : List (Option AObj)} (h : AC P gl f args' objs res objs') (hs : subL args args') : AC P gl f args objs res objs' := by
  intro w M g vargs hR hG
  obtain ⟨h1, h2⟩ := subL_get hs
  refine h w M g vargs ⟨by rw [hR.size]; exact h1, hR.defers, fun i hi => ?_, hR.objs, hR.apart, hR.offM, hR.sat, hR.M0, hR.Mnew, hR.size0, hR.same, hR.own0, hR.os, hR.tape, hR.output⟩ hG
  have hi' : i < args.length := by rw [h1]; exact hi
  exact (hR.slots i hi').sub (h2 i hi')

/-- The end of a function over values alone. -/
theorem ret0 {env : Env} {rs : List ResultVar} {res : AVal} {e : Exit} {σ : St} {vs : List AVal} (he : e = .ret ∨ e = .normal) (h : ares env σ rs = some vs) (hp : pack vs = res) (hsc : inScope (hasObj []) res = true) : retQ env 0 rs res [] e σ :=
  ⟨he, vs, [], h, ⟨.inr ⟨by rw [ren_none _ _ hsc]; exact hp, hsc⟩, trivial⟩, trivial, fun k hk => by omega, by simp, by simp⟩

theorem getD_map {α : Type} (enc : α → List PVal) (l : List α) (k : Nat) (h : k < l.length) : (l.map enc).getD k [] = enc l[k] := by
  simp [List.getD, h]

theorem wrap64 (n : Int) (h1 : -9223372036854775808 ≤ n) (h2 : n ≤ 9223372036854775807) : IntKind.i64.wrap n = n := IntWalk.i64_in n ⟨h1, h2⟩

theorem SW.condT {P : Program} {env : Env} {pin : Nat} {σ : St} {Q : Exit → St → Prop} {c : Operand} {x y : Code} (hc : aeval env σ c = .pv (.bool true)) (h : SW P env pin x σ Q) : SW P env pin (.cond c x y) σ Q :=
  SW.cond hc (fun _ => h) (fun h => by cases h)
theorem SW.condF {P : Program} {env : Env} {pin : Nat} {σ : St} {Q : Exit → St → Prop} {c : Operand} {x y : Code} (hc : aeval env σ c = .pv (.bool false)) (h : SW P env pin y σ Q) : SW P env pin (.cond c x y) σ Q :=
  SW.cond hc (fun h => by cases h) (fun _ => h)

section
variable {P : Program} {env : Env} {σ : St}

/-- A call over values alone. -/
theorem R0.callP {ops : Array Oper} {K : St → Prop} {d : Option Nat} {f : FuncId} {args : Array Operand} {tys : Array TypeId} {ty : TypeId} {pos : String} {aft : Array Edge} {gd : Option (Nat × Bool)} {rest : List Oper} {cargs : List AVal} {res : AVal}
    (hac : AC P env.gl f cargs [] res []) (hent : ∀ vargs w, (callFunc f vargs).run P w = .ok (.enter f vargs) w)
    (hg : aguard ops σ ⟨d, .call ⟨.value (.func f), args, tys⟩, ty, pos, aft, gd⟩ = some true)
    (hargs : args.toList.map (aeval env σ) = cargs) (hsc : inScopeL (hasObj []) cargs = true) (hres : inScope (hasObj []) res = true)
    (h : R0 P env ops K rest (σ.app d ⟨res, []⟩)) : R0 P env ops K (⟨d, .call ⟨.value (.func f), args, tys⟩, ty, pos, aft, gd⟩ :: rest) σ := by
  refine R0.call hg [] [] hac (CallFits.pure rfl hent (by rw [renL_none _ _ hsc]; exact hargs) hsc) ?_
  rw [ren_none _ _ hres]
  exact h
theorem RD.callP {ops : Array Oper} {K : List (List Nat × List Nat) → St → Prop} {acc : List (List Nat × List Nat)} {d : Option Nat} {f : FuncId} {args : Array Operand} {tys : Array TypeId} {ty : TypeId} {pos : String} {aft : Array Edge} {gd : Option (Nat × Bool)} {rest : List Oper} {cargs : List AVal} {res : AVal}
    (hac : AC P env.gl f cargs [] res []) (hent : ∀ vargs w, (callFunc f vargs).run P w = .ok (.enter f vargs) w)
    (hg : aguard ops σ ⟨d, .call ⟨.value (.func f), args, tys⟩, ty, pos, aft, gd⟩ = some true)
    (hargs : args.toList.map (aeval env σ) = cargs) (hsc : inScopeL (hasObj []) cargs = true) (hres : inScope (hasObj []) res = true)
    (h : RD P env ops K rest (acc ++ [([], [])]) (σ.app d ⟨res, []⟩)) : RD P env ops K (⟨d, .call ⟨.value (.func f), args, tys⟩, ty, pos, aft, gd⟩ :: rest) acc σ := by
  refine RD.call hg [] [] hac (CallFits.pure rfl hent (by rw [renL_none _ _ hsc]; exact hargs) hsc) ?_
  rw [ren_none _ _ hres]
  exact h
end
end Go.Abs
