/- SyntaxSpoilt returns true for every input, and the input reads as it did: the tied card, proved as given, with no condition. -/
import Derived.Test.YtopbicbgolcmpaaGreatDoorRows
import Derived.Test.YtopbicbgolcmpaaGreatDoorCards
import Derived.Test.YtopbicbgolcmpaaGreatDoorTie
import Derived.WalkKit
import Derived.ProofKit
import Derived.LaidMore
import Derived.OpenShut
import Derived.SevenTiedAt
import Derived.SizedLaws
import Derived.Test.YtopbicbgolcmpaaGreatDoorX1
import Derived.Test.YtopbicbgolcmpaaGreatDoorLib4
set_option linter.unusedSimpArgs false
set_option linter.unusedVariables false
set_option linter.defProp false
namespace Go.Proofs.YtopbicbgolcmpaaGreatDoor
open Go Go.Abs Go.ChangeShapes Go.WideShapes Go.ChangeAt Go.WideMaps Go.WideElems Go.RowKit
namespace RSyntaxSpoilt
theorem own : ownKnob Tryz.prog.godebug = none := by kernel_rfl
theorem laid : laidOutB Tryz.prog = true := by kernel_rfl
theorem gN2 : Tryz.prog.globalNamed "internal/strconv.uint64pow10" = some 3 := by kernel_rfl
theorem gN3 : Tryz.prog.globalNamed "strconv.ErrRange" = some 5 := by kernel_rfl
theorem gN5 : Tryz.prog.globalNamed "rollbacknet/rollbacknetmake.scalars" = some 0 := by kernel_rfl
theorem gN6 : Tryz.prog.globalNamed "rollbacknet/rollbacknetmake.arrays" = some 1 := by kernel_rfl
theorem tN2 : (Tryz.prog.globals[3]?).map (·.type) = some 150 := by kernel_rfl
theorem tN3 : (Tryz.prog.globals[5]?).map (·.type) = some 126 := by kernel_rfl
theorem tN5 : (Tryz.prog.globals[0]?).map (·.type) = some 98 := by kernel_rfl
theorem tN6 : (Tryz.prog.globals[1]?).map (·.type) = some 99 := by kernel_rfl
theorem door_met (os : Os) (args : Array Value) : laidMetH Tryz.prog Rows.syntaxSpoiltRow.laid ((World.doorLaid Tryz.prog 400 os).forCall (fun _ _ => 0) ⟨#[], args, []⟩).memory :=
  laidMetH_of_parts3 (fuel := 8) (laidMet_of_run' 8 (by kernel_rfl) (by kernel_rfl)) (by kernel_rfl) (by kernel_rfl)
def tab2 : List Int := [1, 10, 100, 1000, 10000, 100000, 1000000, 10000000, 100000000, 1000000000, 10000000000, 100000000000, 1000000000000, 10000000000000, 100000000000000, 1000000000000000, 10000000000000000, 100000000000000000, 1000000000000000000, 10000000000000000000]
def tab5 : List (List UInt8) := [[120], [121], [122]]
def tab6 : List (List UInt8) := [[97], [98]]
theorem gok {W : World} (h : laidMetH Tryz.prog Rows.syntaxSpoiltRow.laid W) : GOK ⟨fun _ => none, gl, fun _ => 0, 0⟩ (memOf W) := by
  rw [MakeChecks.laidMetH_plain _ _ _ (by kernel_rfl)] at h
  obtain ⟨ps, ⟨a0, u0, cs0, f0, p0, q0, hg0, ht0, hv0, hd0, ⟨a1, u1, cs1, f1, p1, q1, hg1, ht1, hv1, hd1, ⟨a2, u2, cs2, f2, p2, q2, hg2, ht2, hv2, hd2, ⟨a3, u3, cs3, f3, p3, q3, hg3, ht3, hv3, hd3, ⟨a4, u4, cs4, f4, p4, q4, hg4, ht4, hv4, hd4, ⟨a5, u5, cs5, f5, p5, q5, hg5, ht5, hv5, hd5, ⟨a6, u6, cs6, f6, p6, q6, hg6, ht6, hv6, hd6, _, _⟩, _⟩, _⟩, _⟩, _⟩, _⟩, _⟩, _, _⟩ := h
  obtain rfl := Option.some.inj (gN2.symm.trans hg2)
  obtain rfl := Option.some.inj (tN2.symm.trans ht2)
  obtain rfl := Option.some.inj (gN3.symm.trans hg3)
  obtain rfl := Option.some.inj (tN3.symm.trans ht3)
  obtain rfl := Option.some.inj (gN5.symm.trans hg5)
  obtain rfl := Option.some.inj (tN5.symm.trans ht5)
  obtain rfl := Option.some.inj (gN6.symm.trans hg6)
  obtain rfl := Option.some.inj (tN6.symm.trans ht6)
  have c2 : ∀ i, i < 20 → memOf W 3 i = some (.int .u64 (tab2.getD i 0)) := fun i hi => by
    have h1 := table_int (ds := tab2) Tryz.underlying150 Tryz.underlying135 (by kernel_rfl) hd2 i hi
    have h2 := World.var?_cell hg2 hv2 i
    rw [Array.getElem?_toList] at h1
    rw [h1] at h2
    exact h2
  obtain ⟨eu3, ev3, h33⟩ := iface_cell Tryz.underlying126 hd3
  have c3 : memOf W 5 0 = some (.iface eu3 ev3) := by
    have h2 := World.var?_cell hg3 hv3 0
    rw [Array.getElem?_toList] at h33
    rw [h33] at h2
    exact h2
  have c5 : ∀ i, i < 3 → memOf W 0 i = some (.string ⟨(tab5.getD i []).toArray⟩) := fun i hi => by
    have h1 := table_cell (ds := tab5) Tryz.underlying98 Tryz.underlying9 (by kernel_rfl) hd5 i hi
    have h2 := World.var?_cell hg5 hv5 i
    rw [Array.getElem?_toList] at h1
    rw [h1] at h2
    exact h2
  have c6 : ∀ i, i < 2 → memOf W 1 i = some (.string ⟨(tab6.getD i []).toArray⟩) := fun i hi => by
    have h1 := table_cell (ds := tab6) Tryz.underlying99 Tryz.underlying9 (by kernel_rfl) hd6 i hi
    have h2 := World.var?_cell hg6 hv6 i
    rw [Array.getElem?_toList] at h1
    rw [h1] at h2
    exact h2
  intro b cs hb j hj
  match b, hb with
  | 3, hb =>
    cases hb
    have hj2 : j < tab2.length := hj
    refine ⟨_, c2 j hj, ?_⟩
    show Rd _ ((tab2.map fun z => PVal.int .u64 z).getD j .nilptr) _
    rw [show (tab2.map fun z => PVal.int .u64 z).getD j .nilptr = .int .u64 (tab2.getD j 0) by simp [List.getD, hj2]]
    exact .int _ _
  | 5, hb =>
    cases hb
    match j, hj with
    | 0, _ => exact ⟨_, c3, .erri _ _⟩
  | 0, hb =>
    cases hb
    have hj2 : j < tab5.length := hj
    refine ⟨_, c5 j hj, ?_⟩
    show Rd _ ((tab5.map fun z => PVal.str z).getD j .nilptr) _
    rw [show (tab5.map fun z => PVal.str z).getD j .nilptr = .str (tab5.getD j []) by simp [List.getD, hj2]]
    exact .str _
  | 1, hb =>
    cases hb
    have hj2 : j < tab6.length := hj
    refine ⟨_, c6 j hj, ?_⟩
    show Rd _ ((tab6.map fun z => PVal.str z).getD j .nilptr) _
    rw [show (tab6.map fun z => PVal.str z).getD j .nilptr = .str (tab6.getD j []) by simp [List.getD, hj2]]
    exact .str _
  | 2, hb => cases hb
  | 4, hb => cases hb
  | b + 6, hb => cases hb
theorem gex {W : World} (h : laidMetH Tryz.prog Rows.syntaxSpoiltRow.laid W) : ∀ b cs, gl b = some cs → cs ≠ [] → ∃ vals T l, W.heap[b]? = some (.cells vals T l) ∧ vals.size = cs.length := by
  rw [MakeChecks.laidMetH_plain _ _ _ (by kernel_rfl)] at h
  obtain ⟨ps, ⟨a0, u0, cs0, f0, p0, q0, hg0, ht0, hv0, hd0, ⟨a1, u1, cs1, f1, p1, q1, hg1, ht1, hv1, hd1, ⟨a2, u2, cs2, f2, p2, q2, hg2, ht2, hv2, hd2, ⟨a3, u3, cs3, f3, p3, q3, hg3, ht3, hv3, hd3, ⟨a4, u4, cs4, f4, p4, q4, hg4, ht4, hv4, hd4, ⟨a5, u5, cs5, f5, p5, q5, hg5, ht5, hv5, hd5, ⟨a6, u6, cs6, f6, p6, q6, hg6, ht6, hv6, hd6, _, _⟩, _⟩, _⟩, _⟩, _⟩, _⟩, _⟩, _, _⟩ := h
  obtain rfl := Option.some.inj (gN2.symm.trans hg2)
  obtain rfl := Option.some.inj (tN2.symm.trans ht2)
  obtain rfl := Option.some.inj (gN3.symm.trans hg3)
  obtain rfl := Option.some.inj (tN3.symm.trans ht3)
  obtain rfl := Option.some.inj (gN5.symm.trans hg5)
  obtain rfl := Option.some.inj (tN5.symm.trans ht5)
  obtain rfl := Option.some.inj (gN6.symm.trans hg6)
  obtain rfl := Option.some.inj (tN6.symm.trans ht6)
  obtain ⟨T2, l2, e2⟩ := var_block hg2 hv2
  have s2 := table_size Tryz.underlying150 (m := 20) (by kernel_rfl) hd2
  obtain ⟨T3, l3, e3⟩ := var_block hg3 hv3
  have s3 := iface_size Tryz.underlying126 hd3
  obtain ⟨T5, l5, e5⟩ := var_block hg5 hv5
  have s5 := table_size Tryz.underlying98 (m := 3) (by kernel_rfl) hd5
  obtain ⟨T6, l6, e6⟩ := var_block hg6 hv6
  have s6 := table_size Tryz.underlying99 (m := 2) (by kernel_rfl) hd6
  intro b cs hb _
  match b, hb with
  | 3, hb => cases hb; exact ⟨_, T2, l2, e2, s2⟩
  | 5, hb => cases hb; exact ⟨_, T3, l3, e3, s3⟩
  | 0, hb => cases hb; exact ⟨_, T5, l5, e5, s5⟩
  | 1, hb => cases hb; exact ⟨_, T6, l6, e6, s6⟩
  | 2, hb => cases hb
  | 4, hb => cases hb
  | b + 6, hb => cases hb
set_option maxRecDepth 100000 in
theorem contract (H : Type) (enc : TypeId × Value → H) (W : World) (base : Nat) (args : Array Value) (ds gs : List (DataW H)) (before : List MemPlace) (hL : laidMetH Tryz.prog Rows.syntaxSpoiltRow.laid W)
    (hsz : (DataW.weightsEach Tryz.prog (Tryz.f4.params.toList ++ Rows.syntaxSpoiltSpec.plain.varTypes Tryz.prog) (ds ++ gs)).all (· ≤ reachBytes) = true)
    (hval : ∀ (j : Nat) t v, Tryz.f4.params[j]? = some t → args[j]? = some v → Value.okWide Tryz.prog W .any base t v)
    (hW : DataW.Whole enc Tryz.prog Tryz.f4.params.toList Rows.syntaxSpoiltSpec.vars false W args.toList ds gs before) :
    Calls Tryz.prog 4 args W fun e W' => ∃ v, e = .returned v ∧ Rows.syntaxSpoiltSpec.post enc Tryz.prog Tryz.f4 false true false false W args v W' := by
  have hW' := hW
  obtain ⟨p, q, hA0, hV, rfl, hfz, hnd⟩ := hW
  have hA : DataW.TrodAll enc Tryz.prog W 0 (fun _ => true) true Tryz.f4.params.toList args.toList ds p := hA0
  rw [Tryz.params4] at hA hval
  obtain ⟨v0, vs0, d0, ds0, p0, q0, hargs, rfl, rfl, h0, r0⟩ := trodAll_cons hA
  obtain ⟨v1, vs1, d1, ds1, p1, q1, rfl, rfl, rfl, h1, r1⟩ := trodAll_cons r0
  obtain ⟨rfl, rfl, rfl⟩ := trodAll_nil r1
  obtain rfl : args = #[v0, v1] := by cases args; simp_all
  obtain ⟨xs0, hl0⟩ := open_bytes Tryz.underlying32 Tryz.underlying5 (by kernel_rfl) (hval 0 32 v0 rfl rfl) h0
  obtain ⟨xs1, hl1⟩ := open_bytes Tryz.underlying32 Tryz.underlying5 (by kernel_rfl) (hval 1 32 v1 rfl rfl) h1
  refine (law_runs [.slice (xs0.map encB), .slice (xs1.map encB)] [v0, v1] (spoilt_law xs0 xs1) (gok hL) (gex hL) rfl ?_).mono fun e W' ⟨he, hh⟩ => ⟨_, he, law_post laid (by
      intro t ht
      rw [Tryz.params4] at ht
      simp at ht
      rcases ht with rfl | rfl <;> exact ⟨by kernel_rfl, of_decide_eq_true (by kernel_rfl)⟩) (tb := 4) (by kernel_rfl) Tryz.underlying4 rfl ?_ hW' hh⟩
  · intro i hi
    match i, hi with
    | 0, _ => exact hl0
    | 1, _ => exact hl1
  · intro ds hds
    have : ds.length = 2 := hds
    match ds, this with
    | [a0, a1], _ => exact ⟨rfl, rfl, rfl⟩
set_option maxRecDepth 100000 in
theorem lifted (os : Os) (started : os.Started) (H : Type) (enc : TypeId × Value → H) :
    ReturnsInHanded {} Tryz.checked os 4 .any (fun w args => (Rows.syntaxSpoiltSpec.pre enc Tryz.prog Tryz.f4 [] false w args ∧ laidMetH Tryz.prog Rows.syntaxSpoiltRow.laid w) ∧ sizedMet enc Tryz.prog Tryz.f4 (OpenSpec.ofChange Rows.syntaxSpoiltSpec) false w args)
      (Rows.syntaxSpoiltSpec.post enc Tryz.prog Tryz.f4 false true false false) := by
  refine returnsInHanded_of_change_and (C := Tryz.checked) (X := fun w _ => laidMetH Tryz.prog Rows.syntaxSpoiltRow.laid w) (fun _ _ _ hh h => h.of_heap hh) own started (by kernel_rfl) Tryz.func4
    (ChangeSpec.witness_shaped (enc := enc) (C := Tryz.checked) (os := os) (X := fun w _ => laidMetH Tryz.prog Rows.syntaxSpoiltRow.laid w) false (World.doorLaid Tryz.prog 400 os) #[.slice none 0 0, .slice none 0 0] 8 rfl (World.shaped_of_RefB (by kernel_rfl) (by kernel_rfl)) (by kernel_rfl) (by kernel_rfl) (by kernel_rfl) (door_met os _)) ?_
  intro W base args ds gs before hval hW _ hsz hL _
  exact contract H enc W base args ds gs before hL hsz hval hW
theorem row_holds : Rows.SyntaxSpoiltSaid :=
  OpenClaim.holds_of_wide 4 Tryz.f4 rfl rfl rfl rfl rfl rfl rfl ⟨rfl, rfl, rfl, rfl, rfl⟩ rfl rfl rfl rfl rfl (by kernel_rfl) Tryz.func4 (by kernel_rfl)
    (of_decide_eq_true (by kernel_rfl)) (by unfold Func.isWrapper; first | (rw [if_pos (by decide +kernel)]; kernel_rfl) | (rw [if_neg (by decide +kernel)]; exact ⟨rfl, rfl⟩))
    (fun os started H enc _ => lifted os started H enc)
theorem proved : Rows.SyntaxSpoiltCardSaid :=
  Claim7.holds_tied_plain_at .later [] [.data, .data, .data, .sentinel, .sentinel, .data, .data] true (true, "f815796a806db4922f3695d53be111d7b35ab9d9a5835037962b4383fdbfdb0c") true
    row_holds (fun _ h => by cases h) (by kernel_rfl) (fun _ h => by cases h) syntaxSpoilt_row_tie rfl ⟨rfl, rfl⟩ (by kernel_rfl) rfl
    (fun f fn hf hfn => by
      obtain rfl : f = 4 := Option.some.inj ((show Tryz.prog.funcNamed "rollbacknet/rollbacknetlaw02.SyntaxSpoilt" = some 4 by kernel_rfl).symm.trans hf) |>.symm
      obtain rfl : fn = Tryz.f4 := (Option.some.inj (Tryz.func4.symm.trans hfn)).symm
      exact ⟨by kernel_rfl, fun j t ht => by
        rw [Tryz.params4] at ht
        have hm : t ∈ [32, 32] := by simpa using Array.mem_of_getElem? ht
        have hall : ([32, 32].all fun u => !Tryz.prog.wantsStandIn u) = true := by kernel_rfl
        exact (show Tryz.prog.wantsStandIn t = false by simpa using List.all_eq_true.1 hall t hm)⟩)
    (by kernel_rfl)
end RSyntaxSpoilt
end Go.Proofs.YtopbicbgolcmpaaGreatDoor
