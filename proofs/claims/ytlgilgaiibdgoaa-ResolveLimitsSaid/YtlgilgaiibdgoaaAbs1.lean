/- Abstract values, their reading in memory, and the relation between an abstract state and a frame with its world. No condition. -/
import Derived.Orders
import Derived.Laws.Cells
set_option linter.unusedSimpArgs false
set_option linter.unusedVariables false
namespace Go.Abs
open Go

abbrev Mem := Nat → Nat → Option Value

inductive PVal where
  | int (k : IntKind) (n : Int)
  | bool (b : Bool)
  | str (s : List UInt8)
  | slice (xs : List (List PVal))
  | ptr (cs : List PVal)
  | nilptr
  | nilmap
  deriving Inhabited

inductive AVal where
  | pv (p : PVal)
  | snil
  | ref (id off : Nat)
  | row (id n : Nat)
  | eref (id i j sz : Nat)
  | map (id : Nat)
  | agg (cs : List AVal)
  | tup (vs : List AVal)
  | junk
  deriving Inhabited

inductive Kd where
  | int (k : IntKind)
  | bool
  | string
  | slice
  | array (n : Nat)
  | struct
  | map
  | other
  deriving Inhabited, DecidableEq

inductive AObj where
  | cells (cs : List AVal)
  | row (sz : Nat) (xs : List (List PVal))
  | map (kd : Kd) (es : List (PVal × Bool × List PVal))
  | dead
  deriving Inhabited

structure St where
  slots : List AVal
  objs : List (Option AObj)

def St.obj (σ : St) (id : Nat) : Option AObj := σ.objs.getD id none
def St.dom (σ : St) (id : Nat) : Prop := σ.obj id ≠ none
def St.slot (σ : St) (i : Nat) : AVal := σ.slots.getD i .junk

def pcell (xs : List (List PVal)) (i j : Nat) : PVal := (xs.getD i []).getD j .nilptr

inductive Rd (M : Mem) : PVal → Value → Prop
  | int (k : IntKind) (n : Int) : Rd M (.int k n) (.int k n)
  | bool (b : Bool) : Rd M (.bool b) (.bool b)
  | str (s : List UInt8) : Rd M (.str s) (.string ⟨s.toArray⟩)
  | nils : Rd M (.slice []) (.slice none 0 0)
  | slice (xs : List (List PVal)) (sz b off cap : Nat) (us : Nat → Nat → Value) :
      (∀ x, x ∈ xs → x.length = sz) →
      (∀ i j, i < xs.length → j < sz → M b (off + i * sz + j) = some (us i j)) →
      (∀ i j, i < xs.length → j < sz → Rd M (pcell xs i j) (us i j)) →
      xs.length ≤ cap →
      Rd M (.slice xs) (.slice (some ⟨b, off, none⟩) xs.length cap)
  | ptr (cs : List PVal) (b off : Nat) (us : Nat → Value) :
      (∀ j, j < cs.length → M b (off + j) = some (us j)) →
      (∀ j, j < cs.length → Rd M (cs.getD j .nilptr) (us j)) →
      Rd M (.ptr cs) (.pointer (some ⟨b, off, none⟩))
  | nilptr : Rd M .nilptr (.pointer none)
  | nilmap : Rd M .nilmap (.map none)

def Mem.le (M M' : Mem) : Prop := ∀ b i u, M b i = some u → M' b i = some u

theorem Rd.mono {M M' : Mem} (h : Mem.le M M') {p : PVal} {v : Value} (r : Rd M p v) : Rd M' p v := by
  induction r with
  | int k n => exact .int k n
  | bool b => exact .bool b
  | str s => exact .str s
  | nils => exact .nils
  | slice xs sz b off cap us h1 h2 _ h4 ih => exact .slice xs sz b off cap us h1 (fun i j hi hj => h _ _ _ (h2 i j hi hj)) ih h4
  | ptr cs b off us h1 _ ih => exact .ptr cs b off us (fun j hj => h _ _ _ (h1 j hj)) ih
  | nilptr => exact .nilptr
  | nilmap => exact .nilmap

structure Gh where
  ρ : Nat → Nat
  κ : Nat → Nat
  ν : Nat → Bool

inductive V (g : Gh) (D : Nat → Prop) (M : Mem) : AVal → Value → Prop
  | pv {p : PVal} {v : Value} : Rd M p v → V g D M (.pv p) v
  | snil : V g D M .snil (.slice none 0 0)
  | ref (id off : Nat) : D id → V g D M (.ref id off) (.pointer (some ⟨g.ρ id, off, none⟩))
  | row (id n : Nat) : D id → g.ν id = false → V g D M (.row id n) (.slice (some ⟨g.ρ id, 0, none⟩) n (g.κ id))
  | rown (id : Nat) : D id → g.ν id = true → V g D M (.row id 0) (.slice none 0 0)
  | eref (id i j sz : Nat) : D id → V g D M (.eref id i j sz) (.pointer (some ⟨g.ρ id, i * sz + j, none⟩))
  | map (id : Nat) : D id → V g D M (.map id) (.map (some (g.ρ id)))
  | agg (cs : List AVal) (vs : List Value) : vs.length = cs.length →
      (∀ i, i < cs.length → V g D M (cs.getD i .junk) (vs.getD i undef)) → V g D M (.agg cs) (.agg vs.toArray)
  | tup (cs : List AVal) (vs : List Value) : vs.length = cs.length →
      (∀ i, i < cs.length → V g D M (cs.getD i .junk) (vs.getD i undef)) → V g D M (.tup cs) (.tuple vs.toArray)
  | junk (v : Value) : V g D M .junk v

def Gh.agree (g g' : Gh) (id : Nat) : Prop := g'.ρ id = g.ρ id ∧ g'.κ id = g.κ id ∧ g'.ν id = g.ν id

theorem V.mono {g g' : Gh} {D D' : Nat → Prop} {M M' : Mem} (hg : ∀ id, D id → g.agree g' id) (hD : ∀ id, D id → D' id) (hM : Mem.le M M')
    {a : AVal} {v : Value} (h : V g D M a v) : V g' D' M' a v := by
  induction h with
  | pv r => exact .pv (r.mono hM)
  | snil => exact .snil
  | ref id off hd => have := hg id hd; rw [← this.1]; exact .ref id off (hD id hd)
  | row id n hd hn => have := hg id hd; rw [← this.1, ← this.2.1]; exact .row id n (hD id hd) (by rw [this.2.2]; exact hn)
  | rown id hd hn => have := hg id hd; exact .rown id (hD id hd) (by rw [this.2.2]; exact hn)
  | eref id i j sz hd => have := hg id hd; rw [← this.1]; exact .eref id i j sz (hD id hd)
  | map id hd => have := hg id hd; rw [← this.1]; exact .map id (hD id hd)
  | agg cs vs hl _ ih => exact .agg cs vs hl ih
  | tup cs vs hl _ ih => exact .tup cs vs hl ih
  | junk v => exact .junk v

/-- A value of one cell, of which the kind is known. -/
def AVal.isCell : AVal → Bool
  | .pv _ | .snil | .ref .. | .row .. | .eref .. | .map _ => true
  | _ => false

theorem V.oneCell {g : Gh} {D : Nat → Prop} {M : Mem} {a : AVal} {v : Value} (h : V g D M a v) (hc : a.isCell = true) : v.oneCell' = true := by
  cases h with
  | pv r => cases r <;> rfl
  | agg => simp [AVal.isCell] at hc
  | tup => simp [AVal.isCell] at hc
  | junk => simp [AVal.isCell] at hc
  | _ => rfl

def owns (g : Gh) (id : Nat) : AObj → Option Nat
  | .cells _ => some (g.ρ id)
  | .row _ _ => if g.ν id then none else some (g.ρ id)
  | .map _ _ => some (g.ρ id)
  | .dead => none

def keyOk (kd : Kd) : PVal → Bool
  | .int k _ => kd == .int k
  | .str _ => kd == .string
  | .bool _ => kd == .bool
  | _ => false

/-- The value of a map's element. -/
def mval (q : Bool × List PVal) : AVal := if q.1 then .agg (q.2.map .pv) else .pv (q.2.getD 0 .nilptr)

def OR (g : Gh) (D : Nat → Prop) (M : Mem) (w : World) (id : Nat) : AObj → Prop
  | .cells cs => ∃ vals T, w.heap[g.ρ id]? = some (.cells vals T (0, 0)) ∧ vals.size = cs.length ∧
      ∀ j, j < cs.length → V g D M (cs.getD j .junk) (vals.getD j undef)
  | .row sz xs => (∀ x, x ∈ xs → x.length = sz) ∧ (g.ν id = true → xs = []) ∧ (g.ν id = false → ∃ vals T, w.heap[g.ρ id]? = some (.cells vals T (0, 0)) ∧
      xs.length ≤ g.κ id ∧ g.κ id * sz ≤ vals.size ∧ ∀ i j, i < xs.length → j < sz → Rd M (pcell xs i j) (vals.getD (i * sz + j) undef))
  | .map kd es => ∃ ents clock, w.heap[g.ρ id]? = some (.map ents clock) ∧ ents.size = es.length ∧
      ∀ (i : Nat) (e : PVal × Bool × List PVal), es[i]? = some e → ∃ en : MapEntry, ents[i]? = some en ∧ keyOk kd e.1 = true ∧ Rd M e.1 en.key ∧ V g D M (mval e.2) en.val
  | .dead => True

structure Ent where
  w0 : World
  M0 : Mem
  B0 : Nat → Prop

structure Rel (E : Ent) (σ : St) (g : Gh) (M : Mem) (a : Act) (w : World) : Prop where
  size : a.tmps.size = σ.slots.length
  defers : a.defers = []
  slots : ∀ i, i < σ.slots.length → V g σ.dom M (σ.slot i) (a.tmps.getD i undef)
  objs : ∀ id o, σ.obj id = some o → OR g σ.dom M w id o
  apart : ∀ id id' o o' b, σ.obj id = some o → σ.obj id' = some o' → owns g id o = some b → owns g id' o' = some b → id = id'
  offM : ∀ id o b, σ.obj id = some o → owns g id o = some b → ∀ i, M b i = none
  sat : ∀ b i u, M b i = some u → w.cell? ⟨b, i, none⟩ = some u
  M0 : Mem.le E.M0 M
  Mnew : ∀ b i, b < E.w0.heap.size → ¬ E.B0 b → M b i = E.M0 b i
  size0 : E.w0.heap.size ≤ w.heap.size
  same : ∀ b, b < E.w0.heap.size → ¬ E.B0 b → w.heap[b]? = E.w0.heap[b]?
  own0 : ∀ id o b, σ.obj id = some o → owns g id o = some b → E.B0 b ∨ E.w0.heap.size ≤ b
  os : w.os = E.w0.os
  tape : w.tape = E.w0.tape
  output : w.output = E.w0.output

theorem Rel.slot {E : Ent} {σ : St} {g : Gh} {M : Mem} {a : Act} {w : World} (h : Rel E σ g M a w) (i : Nat) :
    V g σ.dom M (σ.slot i) (a.tmps.getD i undef) := by
  by_cases hi : i < σ.slots.length
  · exact h.slots i hi
  · have : σ.slot i = .junk := by simp [St.slot, List.getElem?_eq_none (Nat.le_of_not_lt hi)]
    rw [this]; exact .junk _

end Go.Abs
