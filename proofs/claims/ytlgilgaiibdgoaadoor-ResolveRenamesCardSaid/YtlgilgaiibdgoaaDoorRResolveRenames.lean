/- ResolveRenames returns true for every input, and the input reads as it did: the tied card, proved as given, with no condition. -/
import Derived.Test.YtlgilgaiibdgoaaDoorRows
import Derived.Test.YtlgilgaiibdgoaaDoorCards
import Derived.Test.YtlgilgaiibdgoaaDoorTie
import Derived.WalkKit
import Derived.ProofKit
import Derived.LaidMore
import Derived.OpenShut
import Derived.SevenTiedAt
import Derived.Test.YtlgilgaiibdgoaaDoorG4
import Derived.Test.YtlgilgaiibdgoaaDoorLib3
set_option linter.unusedSimpArgs false
set_option linter.unusedVariables false
set_option linter.defProp false
namespace Go.Proofs.YtlgilgaiibdgoaaDoor
open Go Go.Abs Go.ChangeShapes Go.WideShapes Go.ChangeAt Go.WideMaps Go.WideElems Go.RowKit
namespace RResolveRenames
theorem own : ownKnob Tryd.prog.godebug = none := by kernel_rfl
theorem laid : laidOutB Tryd.prog = true := by kernel_rfl
theorem g0 : Tryd.prog.globalNamed "rollbacknet/rollbacknetmake.scalars" = some 0 := by kernel_rfl
theorem g1 : Tryd.prog.globalNamed "rollbacknet/rollbacknetmake.arrays" = some 1 := by kernel_rfl
theorem t0 : (Tryd.prog.globals[0]?).map (·.type) = some 77 := by kernel_rfl
theorem t1 : (Tryd.prog.globals[1]?).map (·.type) = some 78 := by kernel_rfl

theorem door_met (os : Os) (args : Array Value) : laidMetH Tryd.prog Rows.resolveRenamesRow.laid ((World.doorLaid Tryd.prog 400 os).forCall (fun _ _ => 0) ⟨#[], args, []⟩).memory :=
  laidMetH_of_parts3 (fuel := 8) (laidMet_of_run' 8 (by kernel_rfl) (by kernel_rfl)) (by kernel_rfl) (by kernel_rfl)

theorem gok {W : World} (h : laidMetH Tryd.prog Rows.resolveRenamesRow.laid W) : GOK ⟨fun _ => none, gl, fun _ => 0, 0⟩ (memOf W) := by
  rw [MakeChecks.laidMetH_plain _ _ _ (by kernel_rfl)] at h
  obtain ⟨ps, ⟨a0, u0, cs0, f0, p0, q0, hg0, ht0, hv0, hd0, ⟨a1, u1, cs1, f1, p1, q1, hg1, ht1, hv1, hd1, _, _⟩, _⟩, _, _⟩ := h
  obtain rfl := Option.some.inj (g0.symm.trans hg0)
  obtain rfl := Option.some.inj (g1.symm.trans hg1)
  obtain rfl := Option.some.inj (t0.symm.trans ht0)
  obtain rfl := Option.some.inj (t1.symm.trans ht1)
  have c0 : ∀ i, i < 3 → memOf W 0 i = some (.string ⟨(([[120], [121], [122]] : List (List UInt8)).getD i []).toArray⟩) := fun i hi => by
    have h1 := table_cell (ds := [[120], [121], [122]]) Tryd.underlying77 Tryd.underlying9 (by kernel_rfl) hd0 i hi
    have h2 := World.var?_cell hg0 hv0 i
    rw [Array.getElem?_toList] at h1
    rw [h1] at h2
    exact h2
  have c1 : ∀ i, i < 2 → memOf W 1 i = some (.string ⟨(([[97], [98]] : List (List UInt8)).getD i []).toArray⟩) := fun i hi => by
    have h1 := table_cell (ds := [[97], [98]]) Tryd.underlying78 Tryd.underlying9 (by kernel_rfl) hd1 i hi
    have h2 := World.var?_cell hg1 hv1 i
    rw [Array.getElem?_toList] at h1
    rw [h1] at h2
    exact h2
  intro b cs hb j hj
  match b, hb with
  | 0, hb =>
    cases hb
    match j, hj with
    | 0, _ => exact ⟨_, c0 0 (by omega), .str _⟩
    | 1, _ => exact ⟨_, c0 1 (by omega), .str _⟩
    | 2, _ => exact ⟨_, c0 2 (by omega), .str _⟩
  | 1, hb =>
    cases hb
    match j, hj with
    | 0, _ => exact ⟨_, c1 0 (by omega), .str _⟩
    | 1, _ => exact ⟨_, c1 1 (by omega), .str _⟩
  | b + 2, hb => cases hb

theorem contract (H : Type) (enc : TypeId × Value → H) (W : World) (base : Nat) (args : Array Value) (ds gs : List (DataW H)) (before : List MemPlace) (hL : laidMetH Tryd.prog Rows.resolveRenamesRow.laid W)
    (hval : ∀ (j : Nat) t v, Tryd.f5.params[j]? = some t → args[j]? = some v → Value.okWide Tryd.prog W .any base t v)
    (hW : DataW.Whole enc Tryd.prog Tryd.f5.params.toList Rows.resolveRenamesSpec.vars false W args.toList ds gs before) :
    Calls Tryd.prog 5 args W fun e W' => ∃ v, e = .returned v ∧ Rows.resolveRenamesSpec.post enc Tryd.prog Tryd.f5 false true false false W args v W' := by
  have hW' := hW
  obtain ⟨p, q, hA0, hV, rfl, hfz, hnd⟩ := hW
  have hA : DataW.TrodAll enc Tryd.prog W 0 (fun _ => true) true Tryd.f5.params.toList args.toList ds p := hA0
  rw [Tryd.params5] at hA hval
  obtain ⟨v0, vs0, d0, ds0, p0, q0, hargs, rfl, rfl, h0, r0⟩ := trodAll_cons hA
  obtain ⟨rfl, rfl, rfl⟩ := trodAll_nil r0
  obtain rfl : args = #[v0] := by cases args; simp_all
  obtain ⟨xs0, hl0⟩ := open_bytes Tryd.underlying22 Tryd.underlying5 (by kernel_rfl) (hval 0 22 v0 rfl rfl) h0
  refine (law_runs [.slice (xs0.map encB)] [v0] (renames_ac xs0) (gok hL) rfl ?_).mono fun e W' ⟨he, hh⟩ => ⟨_, he, law_post laid (by
      intro t ht
      rw [Tryd.params5] at ht
      simp at ht
      rcases ht with rfl
      exact ⟨by kernel_rfl, of_decide_eq_true (by kernel_rfl)⟩) (tb := 4) (by kernel_rfl) Tryd.underlying4 rfl ?_ hW' hh⟩
  · intro i hi
    match i, hi with
    | 0, _ => exact hl0
  · intro ds hds
    have : ds.length = 1 := hds
    match ds, this with
    | [a0], _ => exact ⟨rfl, rfl, rfl⟩

set_option maxRecDepth 100000 in
theorem lifted (os : Os) (started : os.Started) (H : Type) (enc : TypeId × Value → H) :
    ReturnsInHanded {} Tryd.checked os 5 .any (fun w args => (Rows.resolveRenamesSpec.pre enc Tryd.prog Tryd.f5 [] false w args ∧ laidMetH Tryd.prog Rows.resolveRenamesRow.laid w) ∧ sizedMet enc Tryd.prog Tryd.f5 (OpenSpec.ofChange Rows.resolveRenamesSpec) false w args)
      (Rows.resolveRenamesSpec.post enc Tryd.prog Tryd.f5 false true false false) := by
  refine returnsInHanded_of_change_and (C := Tryd.checked) (X := fun w _ => laidMetH Tryd.prog Rows.resolveRenamesRow.laid w) (fun _ _ _ hh h => h.of_heap hh) own started (by kernel_rfl) Tryd.func5
    (ChangeSpec.witness_shaped (enc := enc) (C := Tryd.checked) (os := os) (X := fun w _ => laidMetH Tryd.prog Rows.resolveRenamesRow.laid w) false (World.doorLaid Tryd.prog 400 os) #[.slice none 0 0] 8 rfl (World.shaped_of_RefB (by kernel_rfl) (by kernel_rfl)) (by kernel_rfl) (by kernel_rfl) (by kernel_rfl) (door_met os _)) ?_
  intro W base args ds gs before hval hW _ _ hL _
  exact contract H enc W base args ds gs before hL hval hW

theorem row_holds : Rows.ResolveRenamesSaid :=
  OpenClaim.holds_of_wide 5 Tryd.f5 rfl rfl rfl rfl rfl rfl rfl ⟨rfl, rfl, rfl, rfl, rfl⟩ rfl rfl rfl rfl rfl (by kernel_rfl) Tryd.func5 (by kernel_rfl)
    (of_decide_eq_true (by kernel_rfl)) (by unfold Func.isWrapper; first | (rw [if_pos (by decide +kernel)]; kernel_rfl) | (rw [if_neg (by decide +kernel)]; exact ⟨rfl, rfl⟩))
    (fun os started H enc _ => lifted os started H enc)

theorem proved : Rows.ResolveRenamesCardSaid :=
  Claim7.holds_tied_plain_at .later [] [.data, .data] true (true, "87da42fcfd54b75ab3135c69ab746707f0875cf1d0b7003cbe3f6a1b883e8766") false
    row_holds (fun _ h => by cases h) (by kernel_rfl) (fun _ h => by cases h) resolveRenames_row_tie rfl ⟨rfl, rfl⟩ (by kernel_rfl) rfl
    (fun f fn hf hfn => by
      obtain rfl : f = 5 := Option.some.inj ((show Tryd.prog.funcNamed "rollbacknet/rollbacknetlaw03.ResolveRenames" = some 5 by kernel_rfl).symm.trans hf) |>.symm
      obtain rfl : fn = Tryd.f5 := (Option.some.inj (Tryd.func5.symm.trans hfn)).symm
      exact ⟨by kernel_rfl, fun j t ht => by
        rw [Tryd.params5] at ht
        have hm : t ∈ [22] := by simpa using Array.mem_of_getElem? ht
        have hall : ([22].all fun u => !Tryd.prog.wantsStandIn u) = true := by kernel_rfl
        exact (show Tryd.prog.wantsStandIn t = false by simpa using List.all_eq_true.1 hall t hm)⟩)
    (by kernel_rfl)
end RResolveRenames
end Go.Proofs.YtlgilgaiibdgoaaDoor
