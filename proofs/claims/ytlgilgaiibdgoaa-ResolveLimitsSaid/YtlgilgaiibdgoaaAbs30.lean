/- From a contract to a row's step: a law of plain arguments that makes only what is its own. -/
import Derived.Test.YtlgilgaiibdgoaaAbs22
import Derived.ChangeSame
import Derived.ChangeStays
import Derived.WideKeyArgs
import Derived.Deep.Slices
import Derived.ProofKit
import Derived.WalkKit
import Derived.OpenShut
import Derived.ChangeMaps5
set_option linter.unusedSimpArgs false
set_option linter.unusedVariables false
namespace Go.Abs
open Go Go.ChangeShapes Go.WideShapes Go.ChangeAt Go.RowKit

def memOf (W : World) : Mem := fun b i => W.cell? ⟨b, i, none⟩

/-- The world has kept what it had. -/
structure Held (W W' : World) : Prop where
  os : W'.os = W.os
  output : W'.output = W.output
  size : W.heap.size ≤ W'.heap.size
  same : ∀ b, b < W.heap.size → W'.heap[b]? = W.heap[b]?

theorem law_runs {P : Program} {gl : Nat → Option (List PVal)} {f : FuncId} {W : World} (pvs : List PVal) (vargs : List Value) (hac : AC P gl f (pvs.map .pv) [] (.pv (.bool true)) [])
    (hgl : GOK ⟨fun _ => none, gl, fun _ => 0, 0⟩ (memOf W)) (hlen : vargs.length = pvs.length) (hrd : ∀ i, i < pvs.length → Rd (memOf W) (pvs.getD i .nilptr) (vargs.getD i undef)) :
    Calls P f vargs.toArray W fun e W' => e = .returned (.bool true) ∧ Held W W' := by
  have hR : Rel ⟨W, memOf W, blocksOf ⟨fun _ => 0, fun _ => 0, fun _ => false⟩ []⟩ ⟨pvs.map .pv, []⟩ ⟨fun _ => 0, fun _ => 0, fun _ => false⟩ (memOf W) ⟨vargs.toArray, []⟩ W := by
    refine ⟨by simpa using hlen, rfl, fun i hi => ?_, ?_, ?_, ?_, fun b i u h => h, Mem.le_refl _, fun _ _ _ _ => rfl, Nat.le_refl _, fun _ _ _ => rfl, ?_, rfl, rfl, rfl⟩
    · simp only [List.length_map] at hi
      have h1 := hrd i hi
      have e1 : St.slot ⟨pvs.map .pv, []⟩ i = .pv (pvs.getD i .nilptr) := by simp [St.slot, List.getD, hi]
      have e2 : vargs.toArray.getD i undef = vargs.getD i undef := by simp [Array.getD, List.getD, hlen, hi]
      rw [e1]
      show V _ _ _ _ (vargs.toArray.getD i undef)
      rw [e2]
      exact .pv h1
    · intro id o h; simp [St.obj] at h
    · intro id id' o o' b h; simp [St.obj] at h
    · intro id o b h; simp [St.obj] at h
    · intro id o b h; simp [St.obj] at h
  refine (hac W (memOf W) _ vargs hR hgl).mono fun e W' ⟨v, g', M', he, hR', _⟩ => ?_
  have hs := hR'.slots 0 (by simp)
  have hv : v = .bool true := by
    have h1 : V g' (St.dom ⟨[.pv (.bool true)], []⟩) M' (.pv (.bool true)) v := by simpa [St.slot, Array.getD] using hs
    cases h1 with
    | pv h => cases h; rfl
  have hB : ∀ b, ¬ blocksOf ⟨fun _ => 0, fun _ => 0, fun _ => false⟩ [] b := by rintro b ⟨id, ob, h, _⟩; simp at h
  exact ⟨by rw [he, hv], hR'.os, hR'.output, hR'.size0, fun b hb => hR'.same b hb (hB b)⟩

section
variable {H : Type} {enc : TypeId × Value → H} {P : Program}

theorem Held.sameAt {W W' : World} (h : Held W W') {p : MemPlace} (hp : p.block < W.heap.size) : W.sameAt W' p := by
  cases p with
  | cell b off => show W'.cell? _ = W.cell? _; simp only [World.cell?]; rw [h.same b hp]
  | map b => exact h.same b hp

theorem trodAll_stays (hl : laidOutB P = true) {W W' : World} (hh : Held W W') {sp' : Nat → Bool} : ∀ {ts : List TypeId} {vs : List Value} {ds : List (DataW H)} {ps : List MemPlace}, (∀ t ∈ ts, P.readableRec t = true ∧ t < P.types.size) →
    DataW.TrodAll enc P W 0 (fun _ => true) true ts vs ds ps → (∀ p ∈ ps, p.block < W.heap.size) → (∀ p ∈ ps, sp' p.block = true) → DataW.TrodAll enc P W' 0 sp' true ts vs ds ps
  | [], [], [], _, _, h, _, _ => h
  | [], [], _ :: _, _, _, h, _, _ => h.elim
  | [], _ :: _, _, _, _, h, _, _ => h.elim
  | _ :: _, [], _, _, _, h, _, _ => h.elim
  | _ :: _, _ :: _, [], _, _, h, _, _ => h.elim
  | t :: ts, v :: vs, d :: ds, ps, hr, ⟨p, q, h1, h2, he⟩, hlt, hsp => by
    subst he
    have hr1 := hr t (by simp)
    exact ⟨p, q, WideElems.Trod_stays hl hr1.1 hr1.2 h1 (fun x hx => hh.sameAt (hlt x (by simp [hx]))) (fun x hx => hsp x (by simp [hx])),
      trodAll_stays hl hh (fun t ht => hr t (by simp [ht])) h2 (fun x hx => hlt x (by simp [hx])) (fun x hx => hsp x (by simp [hx])), rfl⟩

theorem Held.keptBut {W W' : World} (h : Held W W') (may : MemPlace → Prop) : W.keptBut W' may := by
  refine ⟨h.os, h.output, fun i hi => ?_⟩
  rw [h.same i hi]
  split
  · rename_i h1 h2; rw [h1] at h2; cases h2; exact ⟨rfl, rfl, rfl, fun _ _ => rfl⟩
  · rename_i h1 h2; rw [h1] at h2; cases h2; exact .inr ⟨rfl, rfl⟩
  · rfl

/-- The row's conclusion: the law returned true and the arguments read as before. -/
theorem law_post {f : Func} {s : ChangeSpec} {fresh handsOn again : Bool} {W W' : World} {args : Array Value} {ds gs : List (DataW H)} {before : List MemPlace} {tb : TypeId}
    (hl : laidOutB P = true) (hr : ∀ t ∈ f.params.toList, P.readableRec t = true ∧ t < P.types.size) (hrt : f.resultTypes = #[tb]) (htb : P.underlying tb = some .bool)
    (hvars : s.vars = []) (hfn : ∀ ds : List (DataW H), ds.length = f.params.size → (s.fn H ds).results = [.lit (.bool true)] ∧ (s.fn H ds).args = ds ∧ (s.fn H ds).vars = [])
    (hW : DataW.Whole enc P f.params.toList s.vars false W args.toList ds gs before) (hh : Held W W') :
    s.post enc P f false fresh handsOn again W args (.bool true) W' := by
  have hlt := hW.lt
  have hW' := hW
  obtain ⟨p, q, hA, hV, rfl, hz, hn⟩ := hW
  rw [hvars] at hV
  obtain ⟨rfl, rfl⟩ := trodVars_none hV
  rw [List.append_nil] at hlt hz hn hW'
  have hdl : ds.length = f.params.size := by
    have : ∀ {ts : List TypeId} {vs : List Value} {ds : List (DataW H)} {ps : List MemPlace}, DataW.TrodAll enc P W 0 (fun _ => true) true ts vs ds ps → ds.length = ts.length := by
      intro ts
      induction ts with
      | nil => intro vs ds ps h; obtain ⟨_, rfl, _⟩ := trodAll_nil h; rfl
      | cons t ts ih =>
        intro vs ds ps h
        obtain ⟨_, _, _, _, _, _, _, rfl, _, _, h2⟩ := trodAll_cons h
        simp [ih h2]
    simpa using this hA
  obtain ⟨f1, f2, f3⟩ := hfn (ds ++ []) (by simpa using hdl)
  have hres : ∀ (b : Nat) (sp : Nat → Bool) (hd : Bool), DataW.TrodAll enc P W' b sp hd f.resultTypes.toList ((Value.bool true).resultList f.resultTypes.size) (s.fn H (ds ++ [])).results [] := fun b sp hd => by
    rw [f1, hrt]
    exact trodAll_cons_mk (shut_bool htb _) trodAll_mk0
  have hargs : ∀ sp : Nat → Bool, (∀ x ∈ p, sp x.block = true) → DataW.TrodAll enc P W' 0 sp true f.params.toList args.toList (s.fn H (ds ++ [])).args p := fun sp hsp => by
    rw [f2, List.append_nil]
    exact trodAll_stays hl hh hr hA hlt hsp
  have hvs : ∀ sp : Nat → Bool, DataW.TrodVars enc P W' sp s.vars (s.fn H (ds ++ [])).vars [] := fun sp => by rw [hvars, f3]; rfl
  refine ⟨ds, [], p, [], p, [], hW', hres _ _ _, hargs _ (fun x hx => by simpa using hlt x hx), hvs _, hh.keptBut _, fun _ => ?_⟩
  refine ⟨?_, _, _, ([] ++ p) ++ [], ⟨[] ++ p, [], trodAll_append (hargs _ (fun _ _ => rfl)) (hres _ _ _), hvs _, rfl, ?_, ?_⟩, ?_⟩
  · exact ok_one (by rw [hrt]) rfl (okWide_bool_mk htb _)
  · intro b off hp
    have hp' : MemPlace.cell b off ∈ p := by simpa using hp
    have := hz b off hp'
    rw [World.frozen?, hh.same b (hlt _ hp')]
    exact this
  · intro ha; cases ha
  · intro x hx _
    simpa using hx
end
end Go.Abs
