/- SyntaxParses returns true for every input, and the input reads as it did: the tied card, proved as given, with no condition. -/
import Derived.Test.YtopbicbgolcmpaaGreatDoorRows
import Derived.Test.YtopbicbgolcmpaaGreatDoorCards
import Derived.Test.YtopbicbgolcmpaaGreatDoorTie
import Derived.WalkKit
import Derived.ProofKit
import Derived.LaidMore
import Derived.OpenShut
import Derived.SevenTiedAt
import Derived.SizedLaws
import Derived.Test.YtopbicbgolcmpaaGreatDoorS3
import Derived.Test.YtopbicbgolcmpaaGreatDoorLib3
set_option linter.unusedSimpArgs false
set_option linter.unusedVariables false
set_option linter.defProp false
namespace Go.Proofs.YtopbicbgolcmpaaGreatDoor
open Go Go.Abs Go.ChangeShapes Go.WideShapes Go.ChangeAt Go.WideMaps Go.WideElems Go.RowKit
namespace RSyntaxParses
theorem own : ownKnob Tryz.prog.godebug = none := by kernel_rfl
theorem laid : laidOutB Tryz.prog = true := by kernel_rfl
theorem gT : Tryz.prog.globalNamed "internal/strconv.uint64pow10" = some 3 := by kernel_rfl
theorem gE : Tryz.prog.globalNamed "strconv.ErrRange" = some 5 := by kernel_rfl
theorem tT : (Tryz.prog.globals[3]?).map (·.type) = some 150 := by kernel_rfl
theorem tE : (Tryz.prog.globals[5]?).map (·.type) = some 126 := by kernel_rfl
theorem door_met (os : Os) (args : Array Value) : laidMetH Tryz.prog Rows.syntaxParsesRow.laid ((World.doorLaid Tryz.prog 400 os).forCall (fun _ _ => 0) ⟨#[], args, []⟩).memory :=
  laidMetH_of_parts3 (fuel := 8) (laidMet_of_run' 8 (by kernel_rfl) (by kernel_rfl)) (by kernel_rfl) (by kernel_rfl)
def tab : List Int := [1, 10, 100, 1000, 10000, 100000, 1000000, 10000000, 100000000, 1000000000, 10000000000, 100000000000, 1000000000000, 10000000000000, 100000000000000, 1000000000000000, 10000000000000000, 100000000000000000, 1000000000000000000, 10000000000000000000]
theorem gok {W : World} (h : laidMetH Tryz.prog Rows.syntaxParsesRow.laid W) : GOK ⟨fun _ => none, gl, fun _ => 0, 0⟩ (memOf W) := by
  rw [MakeChecks.laidMetH_plain _ _ _ (by kernel_rfl)] at h
  obtain ⟨ps, ⟨a0, u0, cs0, f0, p0, q0, hg0, ht0, hv0, hd0, ⟨a1, u1, cs1, f1, p1, q1, hg1, ht1, hv1, hd1, ⟨a2, u2, cs2, f2, p2, q2, hg2, ht2, hv2, hd2, ⟨a3, u3, cs3, f3, p3, q3, hg3, ht3, hv3, hd3, ⟨a4, u4, cs4, f4, p4, q4, hg4, ht4, hv4, hd4, _, _⟩, _⟩, _⟩, _⟩, _⟩, _, _⟩ := h
  obtain rfl := Option.some.inj (gT.symm.trans hg2)
  obtain rfl := Option.some.inj (gE.symm.trans hg3)
  obtain rfl := Option.some.inj (tT.symm.trans ht2)
  obtain rfl := Option.some.inj (tE.symm.trans ht3)
  have c1 : ∀ i, i < 20 → memOf W 3 i = some (.int .u64 (tab.getD i 0)) := fun i hi => by
    have h1 := table_int (ds := tab) Tryz.underlying150 Tryz.underlying135 (by kernel_rfl) hd2 i hi
    have h2 := World.var?_cell hg2 hv2 i
    rw [Array.getElem?_toList] at h1
    rw [h1] at h2
    exact h2
  obtain ⟨eu, ev, h3⟩ := iface_cell Tryz.underlying126 hd3
  have c3 : memOf W 5 0 = some (.iface eu ev) := by
    have h2 := World.var?_cell hg3 hv3 0
    rw [Array.getElem?_toList] at h3
    rw [h3] at h2
    exact h2
  intro b cs hb j hj
  match b, hb with
  | 3, hb =>
    cases hb
    have hj2 : j < tab.length := hj
    refine ⟨_, c1 j hj, ?_⟩
    show Rd _ ((tab.map fun z => PVal.int .u64 z).getD j .nilptr) _
    rw [show (tab.map fun z => PVal.int .u64 z).getD j .nilptr = .int .u64 (tab.getD j 0) by simp [List.getD, hj2]]
    exact .int _ _
  | 5, hb =>
    cases hb
    match j, hj with
    | 0, _ => exact ⟨_, c3, .erri _ _⟩
  | 0, hb => cases hb
  | 1, hb => cases hb
  | 2, hb => cases hb
  | 4, hb => cases hb
  | b + 6, hb => cases hb
theorem gex {W : World} (h : laidMetH Tryz.prog Rows.syntaxParsesRow.laid W) : ∀ b cs, gl b = some cs → cs ≠ [] → ∃ vals T l, W.heap[b]? = some (.cells vals T l) ∧ vals.size = cs.length := by
  rw [MakeChecks.laidMetH_plain _ _ _ (by kernel_rfl)] at h
  obtain ⟨ps, ⟨a0, u0, cs0, f0, p0, q0, hg0, ht0, hv0, hd0, ⟨a1, u1, cs1, f1, p1, q1, hg1, ht1, hv1, hd1, ⟨a2, u2, cs2, f2, p2, q2, hg2, ht2, hv2, hd2, ⟨a3, u3, cs3, f3, p3, q3, hg3, ht3, hv3, hd3, ⟨a4, u4, cs4, f4, p4, q4, hg4, ht4, hv4, hd4, _, _⟩, _⟩, _⟩, _⟩, _⟩, _, _⟩ := h
  obtain rfl := Option.some.inj (gT.symm.trans hg2)
  obtain rfl := Option.some.inj (gE.symm.trans hg3)
  obtain rfl := Option.some.inj (tT.symm.trans ht2)
  obtain rfl := Option.some.inj (tE.symm.trans ht3)
  obtain ⟨T1, l1, e1⟩ := var_block hg2 hv2
  obtain ⟨T2, l2, e2⟩ := var_block hg3 hv3
  have s1 := table_size Tryz.underlying150 (m := 20) (by kernel_rfl) hd2
  have s2 := iface_size Tryz.underlying126 hd3
  intro b cs hb _
  match b, hb with
  | 3, hb => cases hb; exact ⟨_, T1, l1, e1, s1⟩
  | 5, hb => cases hb; exact ⟨_, T2, l2, e2, s2⟩
  | 0, hb => cases hb
  | 1, hb => cases hb
  | 2, hb => cases hb
  | 4, hb => cases hb
  | b + 6, hb => cases hb
set_option maxRecDepth 100000 in
theorem contract (H : Type) (enc : TypeId × Value → H) (W : World) (base : Nat) (args : Array Value) (ds gs : List (DataW H)) (before : List MemPlace) (hL : laidMetH Tryz.prog Rows.syntaxParsesRow.laid W)
    (hsz : (DataW.weightsEach Tryz.prog (Tryz.f3.params.toList ++ Rows.syntaxParsesSpec.plain.varTypes Tryz.prog) (ds ++ gs)).all (· ≤ reachBytes) = true)
    (hval : ∀ (j : Nat) t v, Tryz.f3.params[j]? = some t → args[j]? = some v → Value.okWide Tryz.prog W .any base t v)
    (hW : DataW.Whole enc Tryz.prog Tryz.f3.params.toList Rows.syntaxParsesSpec.vars false W args.toList ds gs before) :
    Calls Tryz.prog 3 args W fun e W' => ∃ v, e = .returned v ∧ Rows.syntaxParsesSpec.post enc Tryz.prog Tryz.f3 false true false false W args v W' := by
  have hW' := hW
  obtain ⟨p, q, hA0, hV, rfl, hfz, hnd⟩ := hW
  have hA : DataW.TrodAll enc Tryz.prog W 0 (fun _ => true) true Tryz.f3.params.toList args.toList ds p := hA0
  rw [Tryz.params3] at hA hval
  obtain ⟨v0, vs0, d0, ds0, p0, q0, hargs, rfl, rfl, h0, r0⟩ := trodAll_cons hA
  obtain ⟨rfl, rfl, rfl⟩ := trodAll_nil r0
  obtain rfl : args = #[v0] := by cases args; simp_all
  obtain ⟨s0, rfl, rfl, _, hs0⟩ := Go.ChangeMaps.open_string Tryz.underlying9 (hval 0 9 v0 rfl rfl) h0
  have hr0 : s0.data.toList.length ≤ 140737488351232 := by
    have := sized_string hsz (j := 0) (t := 9) rfl rfl
    simpa [reachBytes] using this
  refine (law_runs [.str s0.data.toList] [.string s0] (parses_law s0.data.toList) (gok hL) (gex hL) rfl ?_).mono fun e W' ⟨he, hh⟩ => ⟨_, he, law_post laid (by
      intro t ht
      rw [Tryz.params3] at ht
      simp at ht
      rcases ht with rfl <;> exact ⟨by kernel_rfl, of_decide_eq_true (by kernel_rfl)⟩) (tb := 4) (by kernel_rfl) Tryz.underlying4 rfl ?_ hW' hh⟩
  · intro i hi
    match i, hi with
    | 0, _ => exact .str _
  · intro ds hds
    have : ds.length = 1 := hds
    match ds, this with
    | [a0], _ => exact ⟨rfl, rfl, rfl⟩
set_option maxRecDepth 100000 in
theorem lifted (os : Os) (started : os.Started) (H : Type) (enc : TypeId × Value → H) :
    ReturnsInHanded {} Tryz.checked os 3 .any (fun w args => (Rows.syntaxParsesSpec.pre enc Tryz.prog Tryz.f3 [] false w args ∧ laidMetH Tryz.prog Rows.syntaxParsesRow.laid w) ∧ sizedMet enc Tryz.prog Tryz.f3 (OpenSpec.ofChange Rows.syntaxParsesSpec) false w args)
      (Rows.syntaxParsesSpec.post enc Tryz.prog Tryz.f3 false true false false) := by
  refine returnsInHanded_of_change_and (C := Tryz.checked) (X := fun w _ => laidMetH Tryz.prog Rows.syntaxParsesRow.laid w) (fun _ _ _ hh h => h.of_heap hh) own started (by kernel_rfl) Tryz.func3
    (ChangeSpec.witness_shaped (enc := enc) (C := Tryz.checked) (os := os) (X := fun w _ => laidMetH Tryz.prog Rows.syntaxParsesRow.laid w) false (World.doorLaid Tryz.prog 400 os) #[.string ⟨#[]⟩] 8 rfl (World.shaped_of_RefB (by kernel_rfl) (by kernel_rfl)) (by kernel_rfl) (by kernel_rfl) (by kernel_rfl) (door_met os _)) ?_
  intro W base args ds gs before hval hW _ hsz hL _
  exact contract H enc W base args ds gs before hL hsz hval hW
theorem row_holds : Rows.SyntaxParsesSaid :=
  OpenClaim.holds_of_wide 3 Tryz.f3 rfl rfl rfl rfl rfl rfl rfl ⟨rfl, rfl, rfl, rfl, rfl⟩ rfl rfl rfl rfl rfl (by kernel_rfl) Tryz.func3 (by kernel_rfl)
    (of_decide_eq_true (by kernel_rfl)) (by unfold Func.isWrapper; first | (rw [if_pos (by decide +kernel)]; kernel_rfl) | (rw [if_neg (by decide +kernel)]; exact ⟨rfl, rfl⟩))
    (fun os started H enc _ => lifted os started H enc)
theorem proved : Rows.SyntaxParsesCardSaid :=
  Claim7.holds_tied_plain_at .later [] [.data, .data, .data, .sentinel, .sentinel] true (true, "f815796a806db4922f3695d53be111d7b35ab9d9a5835037962b4383fdbfdb0c") true
    row_holds (fun _ h => by cases h) (by kernel_rfl) (fun _ h => by cases h) syntaxParses_row_tie rfl ⟨rfl, rfl⟩ (by kernel_rfl) rfl
    (fun f fn hf hfn => by
      obtain rfl : f = 3 := Option.some.inj ((show Tryz.prog.funcNamed "rollbacknet/rollbacknetlaw02.SyntaxParses" = some 3 by kernel_rfl).symm.trans hf) |>.symm
      obtain rfl : fn = Tryz.f3 := (Option.some.inj (Tryz.func3.symm.trans hfn)).symm
      exact ⟨by kernel_rfl, fun j t ht => by
        rw [Tryz.params3] at ht
        have hm : t ∈ [9] := by simpa using Array.mem_of_getElem? ht
        have hall : ([9].all fun u => !Tryz.prog.wantsStandIn u) = true := by kernel_rfl
        exact (show Tryz.prog.wantsStandIn t = false by simpa using List.all_eq_true.1 hall t hm)⟩)
    (by kernel_rfl)
end RSyntaxParses
end Go.Proofs.YtopbicbgolcmpaaGreatDoor
